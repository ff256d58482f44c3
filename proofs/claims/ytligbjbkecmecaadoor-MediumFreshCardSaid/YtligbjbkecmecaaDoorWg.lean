/- The operations that make something new: variables, slices, literals. -/
import Derived.Test.YtligbjbkecmecaaDoorWf
namespace Go.Proofs.YtligbjbkecmecaaDoor
set_option linter.unusedVariables false
set_option linter.unusedSimpArgs false
open Go.RowKit
variable {P : Program} {T : Nat → Option TI}

/-- A value that a variable of this type may hold. -/
def chunkOk (i : TI) (y : SV) : Bool :=
  (match cellsA y with | some xs => Nat.beq xs.length i.size | none => false) && (match y, i.shape with | .agg _, some _ => true | .agg _, none => false | _, none => true | _, _ => false)

theorem chunk_den {w : World} {Y : Nat → Prop} {ρ : Env} {i : TI} {y : SV} {v : Value} (h1 : i.kind.aggB = false → i.size = 1) (h : chunkOk i y = true) (hd : Den w Y ρ y v) :
    v.cells.size = i.size ∧ (∀ u ∈ v.cells.toList, u.oneCell' = true) ∧ valAt i.shape v.cells.toList 0 = v := by
  unfold chunkOk at h
  simp only [Bool.and_eq_true] at h
  obtain ⟨h2, h3⟩ := h
  cases hc : cellsA y with
  | none => rw [hc] at h2; cases h2
  | some xs =>
    rw [hc] at h2
    have hx := Nat.eq_of_beq_eq_true h2
    obtain ⟨c1, c2⟩ := cellsA_den hc hd
    have hs : v.cells.size = i.size := by rw [← hx, c1.1, Array.length_toList]
    refine ⟨hs, c2, ?_⟩
    have hw := TI.wid_size h1
    cases hsh : i.shape with
    | none =>
      rw [hsh] at h3 hw
      have hat : atomB y = true := by
        cases y with
        | agg l => cases h3
        | _ => simp only [cellsA] at hc; split at hc <;> first | assumption | cases hc
      have := one_cells (hd.one hat)
      rw [this]
      rfl
    | some n =>
      rw [hsh] at h3 hw
      cases y with
      | agg l =>
        obtain ⟨cs, rfl, _⟩ := Den.agg_iff.1 hd
        simp only [Value.cells, List.size_toArray] at hs ⊢
        rw [valAt_some_full (by simp only [wid] at hw; omega)]
      | _ => cases h3

theorem noref_norm {d t : Nat} {x : SV} (h : noref d x = true) : noref d (normNil T t x) = true := by
  unfold normNil
  split
  · repeat' split
    all_goals rfl
  · exact h

/-- Operands of a literal, viewed. -/
noncomputable def litV (T : Nat → Option TI) (μ : Nat → Blk) (el : Nat) (j : TI) (e : Operand → SV) : Nat → List (Nat × Operand) → Option (List SV)
  | _, [] => some []
  | k, (i, x) :: ps => if Nat.beq i k then (match view T μ el (e x) with
    | some y => if chunkOk j y then (match litV T μ el j e (k + 1) ps with | some l => some (y :: l) | none => none) else none
    | none => none) else none
def litIds (e : Operand → SV) : List (Nat × Operand) → List Nat
  | [] => []
  | (_, x) :: ps => rids (e x) ++ litIds e ps

/-- The operations that make something, at the slot d. -/
def mval (T : Nat → Option TI) (d : Nat) (op : Op) (e : Operand → SV) (μ : Nat → Blk) (κ : SV → List (Nat × Blk) → Prop) : Prop :=
  match op with
  | .box t x => (match T t with | some i => if chunkOk i (normNil T t (e x)) then κ (.ptr d 0) [(d, .chunk t (normNil T t (e x)))] else False | none => False)
  | .alloc t => (match T t with | some i => if chunkOk i i.zero then κ (.ptr d 0) [(d, .chunk t i.zero)] else False | none => False)
  | .makeSlice t n c => (match T t with
    | some i => (match i.kind with
      | .slice el => (match T el, e n, e c with
        | some j, .int _ n, .int _ c => if chunkOk j j.zero && !(Nat.beq j.size 0) then
            Rq (fun _ => 0 ≤ n ∧ n ≤ c ∧ c ≤ 9223372036854775807 ∧ (j.bytes : Int) * c ≤ 140737488355328) (fun _ => κ (.row d) [(d, .row j.shape el (O.rp n j.zero))]) else False
        | _, _, _ => False)
      | _ => False)
    | none => False)
  | .buildSlice t n ps => (match T t with
    | some i => (match i.kind with
      | .slice el => (match T el with
        | some j => if Nat.beq ps.toList.length n && Nat.ble (n * j.size) 16777216 && !(Nat.beq j.size 0) then (match litV T μ el j e 0 ps.toList with | some l => κ (.row d) (frzU μ (litIds e ps.toList) ++ [(d, .row j.shape el l)]) | none => False) else False
        | none => False)
      | _ => False)
    | none => False)
  | .makeFunc (.func f) first caps => if first.toList.isEmpty then (if allPlain (caps.toList.map e) then κ (.clo f (caps.toList.map e)) [] else κ (.fcl f (caps.toList.map e)) []) else False
  | _ => False

theorem new_chunk (sz : Sizes T) {d t : Nat} {i : TI} (ht : T t = some i) {y : SV} (hc : chunkOk i y = true) (hz : noref d y = true) {N : Nat → Prop} {w0 w : World} {X : Nat → Prop} {mem : Mem} {ρ : Env} (m : MRep T N w0 w X mem ρ)
    (hno : getM mem d = .no) (hnr : memNoref d mem = true) {v : Value} (hv : Den w (Forb X mem ρ) ρ y v) :
    let w' := w.alloc (.cells v.cells t)
    ∃ ρ', MRep T N w0 w' X (setM (.chunk t y) mem d) ρ' ∧ Den w' (Forb X (setM (.chunk t y) mem d) ρ') ρ' (.ptr d 0) (.pointer (some ⟨w.heap.size, 0, none⟩)) ∧
      Turn w (Forb X mem ρ) ρ w' (Forb X (setM (.chunk t y) mem d) ρ') ρ' (some d) := by
  intro w'
  obtain ⟨c1, c2, c3⟩ := chunk_den (sz.one t i ht) hc hv
  have hbel : Below w.heap.size w w' := (Below.refl _ _).alloc (Nat.le_refl _) _
  obtain ⟨m', t'⟩ := m.create (w' := w') hno hnr (B := .chunk t y) (v := .pointer (some ⟨w.heap.size, 0, none⟩)) (fun b hb => by simp only [vblock] at hb; injection hb with hb; subst hb; exact ⟨Nat.le_refl _, by show _ < (w.heap.push _).size; simp⟩) hbel
    (fun ht' => ⟨i, w.heap.size, v.cells, t, ht, rfl, m.szN _ (Nat.le_refl _), heap_alloc_new w _, c1, c2, by
      rw [c3]
      exact ht'.den (fun r hr => by injection hr with hr; subst hr; exact hz) hv⟩)
  refine ⟨_, m', .ptr _ d 0 w.heap.size (fun q hq => ?_), t'⟩
  simp only [upd, if_true] at hq
  injection hq with hq
  exact hq.symm

/-- A new row, in a new block. -/
theorem new_row {d e : Nat} {sh : Option Nat} {l : List SV} {N : Nat → Prop} {w0 w : World} {X : Nat → Prop} {mem : Mem} {ρ : Env} (m : MRep T N w0 w X mem ρ) (hno : getM mem d = .no) (hnr : memNoref d mem = true)
    (R : Array Value) (cap : Nat) (hlc : l.length ≤ cap) (hcm : cap ≤ maxLen) (hR : R.size = cap * wid sh) (h1 : ∀ u ∈ R.toList, u.oneCell' = true) (hl : ∀ (i : Nat) (h : i < l.length), Den w (Forb X mem ρ) noEnv l[i] (valAt sh R.toList i)) :
    let w' := w.alloc (.cells R e)
    ∃ ρ', MRep T N w0 w' X (setM (.row sh e l) mem d) ρ' ∧ Den w' (Forb X (setM (.row sh e l) mem d) ρ') ρ' (.row d) (.slice (some ⟨w.heap.size, 0, none⟩) l.length cap) ∧
      Turn w (Forb X mem ρ) ρ w' (Forb X (setM (.row sh e l) mem d) ρ') ρ' (some d) := by
  intro w'
  have hbel : Below w.heap.size w w' := (Below.refl _ _).alloc (Nat.le_refl _) _
  obtain ⟨m', t'⟩ := m.create (w' := w') hno hnr (B := .row sh e l) (v := .slice (some ⟨w.heap.size, 0, none⟩) l.length cap) (fun b hb => by
      simp only [vblock] at hb
      split at hb
      · cases hb
      · injection hb with hb; subst hb; exact ⟨Nat.le_refl _, by show _ < (w.heap.push _).size; simp⟩) hbel
    (fun ht' => ⟨_, rfl, by
      by_cases h0 : cap = 0
      · subst h0
        have hl0 : l.length = 0 := by omega
        exact .inl ⟨_, by rw [hl0], List.eq_nil_of_length_eq_zero hl0⟩
      · refine .inr ⟨w.heap.size, 0, cap, R, rfl, m.szN _ (Nat.le_refl _), heap_alloc_new w _, hlc, hcm, by omega, by omega, h1, fun i hi => ?_⟩
        rw [List.drop_zero]
        exact (hl i hi).mono ht'.size ht'.keep⟩)
  refine ⟨_, m', .row _ d _ _ _ (fun q hq => ?_), t'⟩
  simp only [upd, if_true] at hq
  injection hq with hq
  exact hq.symm

theorem litV_some {μ : Nat → Blk} {el : Nat} {j : TI} {e : Operand → SV} : ∀ (ps : List (Nat × Operand)) (k : Nat) (l : List SV), litV T μ el j e k ps = some l →
    l.length = ps.length ∧ ps = ((ps.map (·.2)).zipIdx k).map (fun p => (p.2, p.1)) ∧ ∀ (q : Nat) (p : Nat × Operand), ps[q]? = some p → ∃ y, l[q]? = some y ∧ view T μ el (e p.2) = some y ∧ chunkOk j y = true
  | [], k, l, h => by
    simp only [litV] at h
    injection h with h; subst h
    simp
  | (i, x) :: ps, k, l, h => by
    simp only [litV] at h
    split at h
    case isFalse => cases h
    rename_i hk
    have hk := Nat.eq_of_beq_eq_true hk
    subst hk
    cases hv : view T μ el (e x) with
    | none => rw [hv] at h; cases h
    | some y =>
      rw [hv] at h
      simp only at h
      split at h
      case isFalse => cases h
      rename_i hc
      cases hl' : litV T μ el j e (i + 1) ps with
      | none => rw [hl'] at h; cases h
      | some l' =>
        rw [hl'] at h
        injection h with h; subst h
        obtain ⟨i1, i2, i3⟩ := litV_some ps (i + 1) l' hl'
        refine ⟨by simp [i1], by simp only [List.map_cons, List.zipIdx_cons]; rw [← i2], fun q p hp => ?_⟩
        cases q with
        | zero => simp at hp; subst hp; exact ⟨y, rfl, hv, hc⟩
        | succ q => simpa using i3 q p (by simpa using hp)
theorem litIds_mem {e : Operand → SV} : ∀ {ps : List (Nat × Operand)} {p : Nat × Operand}, p ∈ ps → ∀ r ∈ rids (e p.2), r ∈ litIds e ps
  | [], p, h, _, _ => by simp at h
  | (i, x) :: ps, p, h, r, hr => by
    simp only [litIds, List.mem_append]
    rcases List.mem_cons.1 h with rfl | h
    · exact .inl hr
    · exact .inr (litIds_mem h r hr)

/-- Parts laid one behind the other. -/
theorem fill_seq (size : Nat) : ∀ (vs : List Value) (k : Nat) (A : Array Value), (∀ v ∈ vs, v.cells.size = size) → (k + vs.length) * size ≤ A.size → (∀ u ∈ A.toList, u.oneCell' = true) → (∀ v ∈ vs, ∀ u ∈ v.cells.toList, u.oneCell' = true) →
    ∃ R : Array Value, Instr.fill (fun i => some (i * size, size)) A ((vs.zipIdx k).map fun p => (p.2, p.1)) = some R ∧ R.size = A.size ∧ (∀ j : Nat, j < k * size → R[j]? = A[j]?) ∧
      (∀ (i : Nat) (v : Value), vs[i]? = some v → ∀ j : Nat, j < size → R[(k + i) * size + j]? = v.cells[j]?) ∧ ∀ u ∈ R.toList, u.oneCell' = true
  | [], k, A, _, _, hA1, _ => ⟨A, by simp [Instr.fill], rfl, fun _ _ => rfl, fun i v h => by simp at h, hA1⟩
  | v :: vs, k, A, hv, hA, hA1, hv1 => by
    have h1 := hv v (by simp)
    have e0 : (k + 1) * size ≤ (k + (v :: vs).length) * size := Nat.mul_le_mul_right _ (by simp only [List.length_cons]; omega)
    have e1 : (k + 1) * size = k * size + size := Nat.succ_mul _ _
    have hl : k * size + 0 + v.cells.toList.length ≤ A.size := by rw [Array.length_toList, h1]; omega
    obtain ⟨g1, g2⟩ := fold_set v.cells.toList 0 (k * size) A hl
    have e : v.cells.zipIdx.foldl (fun (cs : Array Value) (p : Value × Nat) => cs.setIfInBounds (k * size + p.2) p.1) A = (v.cells.toList.zipIdx 0).foldl (fun (cs : Array Value) (p : Value × Nat) => cs.setIfInBounds (k * size + p.2) p.1) A := by
      rw [← Array.foldl_toList, Array.toList_zipIdx]
    obtain ⟨R, r1, r2, r3, r4, r5⟩ := fill_seq size vs (k + 1) (v.cells.zipIdx.foldl (fun (cs : Array Value) (p : Value × Nat) => cs.setIfInBounds (k * size + p.2) p.1) A) (fun u hu => hv u (by simp [hu])) (by
      rw [e, g1]
      have : (k + 1 + vs.length) * size = (k + (v :: vs).length) * size := by congr 1; simp; omega
      omega) (by
      rw [e]
      intro u hu
      obtain ⟨i, hi⟩ := List.mem_iff_getElem?.1 hu
      have hi' : ((v.cells.toList.zipIdx 0).foldl (fun (cs : Array Value) (p : Value × Nat) => cs.setIfInBounds (k * size + p.2) p.1) A)[i]? = some u := by simpa using hi
      rw [g2 i] at hi'
      split at hi'
      · exact hv1 v (by simp) u (List.mem_of_getElem? hi')
      · exact hA1 u (by rw [← Array.getElem?_toList] at hi'; exact List.mem_of_getElem? hi')) (fun u hu => hv1 u (by simp [hu]))
    refine ⟨R, ?_, by rw [r2, e, g1], fun j hj => ?_, fun i u hu j hj => ?_, r5⟩
    · simp only [List.zipIdx_cons, List.map_cons, Instr.fill]
      rw [if_neg (by simp [h1]; omega)]
      exact r1
    · rw [r3 j (by omega), e, g2 j, if_neg (by omega)]
    · cases i with
      | zero =>
        simp at hu
        subst hu
        rw [Nat.add_zero, r3 _ (by omega), e, g2, if_pos (by rw [Array.length_toList, h1]; omega)]
        simp
      | succ i =>
        have := r4 i u (by simpa using hu) j hj
        rw [← this, show k + (i + 1) = k + 1 + i by omega]

theorem made_one {z : Value} (hz : (z.cells.all (·.oneCell')) = true) (hs : 0 < z.cells.size) (n : Nat) : ∀ u ∈ ((Array.range n).map (z.cells[· % z.cells.size]!)).toList, u.oneCell' = true := by
  intro u hu
  simp only [Array.toList_map, Array.toList_range, List.mem_map] at hu
  obtain ⟨j, _, rfl⟩ := hu
  have hlt : j % z.cells.size < z.cells.size := Nat.mod_lt _ hs
  rw [getElem!_pos z.cells _ hlt]
  exact (Array.all_eq_true_iff_forall_mem.1 hz) _ (Array.getElem_mem hlt)

theorem valAt_made {z : Value} {sh : Option Nat} {n i : Nat} (hs : z.cells.size = wid sh) (hv : valAt sh z.cells.toList 0 = z) (hi : i < n) (m : Nat) (hm : n * wid sh ≤ m) :
    valAt sh ((Array.range m).map (z.cells[· % z.cells.size]!)).toList i = z := by
  have hle : i * wid sh + wid sh ≤ n * wid sh := by rw [← Nat.succ_mul]; exact Nat.mul_le_mul_right _ hi
  rw [valAt_seg _ _ _ (by simp; omega)]
  have : ((((Array.range m).map (z.cells[· % z.cells.size]!)).toList.drop (i * wid sh)).take (wid sh)) = z.cells.toList := by
    apply List.ext_getElem?
    intro k
    rw [List.getElem?_take, List.getElem?_drop]
    by_cases hk : k < wid sh
    · rw [if_pos hk]
      have e1 : (i * wid sh + k) % z.cells.size = k := by rw [hs, Nat.mul_comm, Nat.mul_add_mod, Nat.mod_eq_of_lt hk]
      simp only [Array.toList_map, Array.toList_range, List.getElem?_map]
      rw [List.getElem?_range (by omega)]
      simp only [Option.map_some, e1]
      rw [getElem!_pos z.cells k (by omega), Array.getElem?_toList, Array.getElem?_eq_getElem (by omega)]
    · rw [if_neg hk, List.getElem?_eq_none (by rw [Array.length_toList]; omega)]
  rw [this]
  exact hv

theorem mval_ok (tys : Types P T) (sz : Sizes T) (hz0 : ∀ t i, T t = some i → ∀ d, noref d i.zero = true) {o : Oper} {d : Nat} {e : Operand → SV} {μ : Nat → Blk} {κ : SV → List (Nat × Blk) → Prop} (h : mval T d o.op e μ κ) :
    ∃ x U, κ x U ∧ (∀ q b, (q, b) ∈ U → q = d ∨ (μ q).own = true) ∧ Eff P T o e μ x U (some d) := by
  generalize ho : o.op = op at h
  cases op
  case box t x =>
    simp only [mval] at h
    split at h <;> try exact h.elim
    rename_i i ht
    split at h <;> try exact h.elim
    rename_i hc
    refine ⟨_, _, h, (fun q b hq => by simp at hq; exact .inl hq.1), .of_run fun mem hμ hcr a N w0 w X ρ m hden => ?_⟩
    obtain ⟨hno, hnr, hn⟩ := hcr d rfl
    have hx := normNil_den (T := T) (t := t) (hden x (by simp [ho, Op.operands]))
    obtain ⟨ρ', m', d', t'⟩ := new_chunk sz ht hc (noref_norm (hn x (by simp [ho, Op.operands]))) m hno hnr hx
    refine ⟨_, _, _, ρ', ?_, .inl rfl, m', d', t'⟩
    simp only [execOp, ho, Instr.box, newVar, newRow, Sem.run_bind, run_newObj, Result.andThen_ok, Sem.run_pure]
    rfl
  case alloc t =>
    simp only [mval] at h
    split at h <;> try exact h.elim
    rename_i i ht
    split at h <;> try exact h.elim
    rename_i hc
    refine ⟨_, _, h, (fun q b hq => by simp at hq; exact .inl hq.1), .of_run fun mem hμ hcr a N w0 w X ρ m hden => ?_⟩
    obtain ⟨hno, hnr, hn⟩ := hcr d rfl
    obtain ⟨z, hz, h2, _⟩ := (tys.ok t i ht).zero_run
    have hx : Den w (Forb X mem ρ) ρ i.zero z := by rw [h2]; exact ofValue_den _ _ _ _
    obtain ⟨ρ', m', d', t'⟩ := new_chunk sz ht hc (hz0 t i ht d) m hno hnr hx
    refine ⟨_, _, _, ρ', ?_, .inl rfl, m', d', t'⟩
    simp only [execOp, ho, Instr.alloc, hz, newVar, newRow, Sem.run_bind, run_newObj, Result.andThen_ok, Sem.run_pure]
    rfl
  case makeSlice t n c =>
    simp only [mval] at h
    split at h <;> try exact h.elim
    rename_i i ht
    split at h <;> try exact h.elim
    rename_i el hk
    split at h <;> try exact h.elim
    rename_i j kn nv kc cv hj hn hc
    split at h <;> try exact h.elim
    rename_i hck
    simp only [Bool.and_eq_true, Bool.not_eq_true'] at hck
    obtain ⟨⟨g1, g2, g3, g4⟩, h⟩ := h
    rw [O.hrp] at h
    refine ⟨_, _, h, (fun q b hq => by simp at hq; exact .inl hq.1), .of_run fun mem hμ hcr a N w0 w X ρ m hden => ?_⟩
    obtain ⟨hno, hnr, _⟩ := hcr d rfl
    have d1 := hden n (by simp [ho, Op.operands])
    have d2 := hden c (by simp [ho, Op.operands])
    rw [hn, Den.int_iff] at d1
    rw [hc, Den.int_iff] at d2
    have tj := tys.ok el j hj
    have ti := tys.ok t i ht
    obtain ⟨ji, j1, j2, j3⟩ := tj.inf
    obtain ⟨z, z1, z2, z3, z4, z5⟩ := tj.zero
    have hz : ji.zero = some z := by rw [j1] at z1; simpa using z1
    have hw := TI.wid_size (sz.one _ _ hj)
    have hp : 0 < wid j.shape := by
      rcases Nat.eq_zero_or_pos (wid j.shape) with h0 | h0
      · rw [hw, h0] at hck; simp at hck
      · exact h0
    have hdz : ∀ Y ρ, Den w Y ρ j.zero z := fun Y ρ => by rw [z2]; exact ofValue_den _ _ _ _
    obtain ⟨c1, c2, c3⟩ := chunk_den (sz.one el j hj) hck.1 (hdz (Forb X mem ρ) noEnv)
    have hrun := run_make (P := P) w t el ji z (ti.und_slice hk) j1 hz kn kc nv cv g1 g2 (by rw [j3]; omega) g3
    rw [j2] at hrun
    have hsz : (madeCells z.cells (cv.toNat * j.size)).size = cv.toNat * wid j.shape := by rw [size_madeCells, hw]
    obtain ⟨ρ', m', d', t'⟩ := new_row (e := el) (sh := j.shape) (l := List.replicate nv.toNat j.zero) m hno hnr (madeCells z.cells (cv.toNat * j.size)) cv.toNat (by simp; omega) (by simp only [maxLen]; omega) hsz
      (made_one z4 (by omega) _) (fun i hi => by
        rw [List.getElem_replicate, show madeCells z.cells (cv.toNat * j.size) = (Array.range (cv.toNat * j.size)).map (z.cells[· % z.cells.size]!) from rfl]
        rw [valAt_made (n := nv.toNat) (by omega) c3 (by simpa using hi) _ (by rw [hw]; exact Nat.mul_le_mul_right _ (by omega))]
        exact hdz _ _)
    refine ⟨_, _, _, ρ', ?_, .inl rfl, m', d', t'⟩
    simp only [execOp, ho, d1, d2, Sem.run_bind, hrun, Result.andThen_ok, Sem.run_pure]
    simp
  case buildSlice t n ps =>
    simp only [mval] at h
    split at h <;> try exact h.elim
    rename_i i ht
    split at h <;> try exact h.elim
    rename_i el hk
    split at h <;> try exact h.elim
    rename_i j he
    split at h <;> try exact h.elim
    rename_i hc
    simp only [Bool.and_eq_true, Bool.not_eq_true'] at hc
    obtain ⟨⟨c1, c2⟩, c3⟩ := hc
    have c1 : ps.toList.length = n := Nat.eq_of_beq_eq_true c1
    have c2 : n * j.size ≤ 16777216 := Nat.le_of_ble_eq_true c2
    have c3 : j.size ≠ 0 := by intro h0; rw [h0] at c3; simp at c3
    split at h <;> try exact h.elim
    rename_i l hl
    obtain ⟨l1, l2, l3⟩ := litV_some ps.toList 0 l hl
    have tok := tys.ok t i ht
    have tj := tys.ok el j he
    have hw := TI.wid_size (sz.one _ _ he)
    refine ⟨_, _, h, (fun q b hq => ?_), .of_run fun mem hμ hcr a N w0 w X ρ m hd => ?_⟩
    · rcases List.mem_append.1 hq with hq | hq
      · obtain ⟨_, sh, e', k, hm, _⟩ := frzU_mem hq
        exact .inr (by rw [hm]; rfl)
      · simp at hq; exact .inl hq.1
    obtain ⟨hno, hnr, hnop⟩ := hcr d rfl
    have hmem : ∀ p ∈ ps.toList, p.2 ∈ o.op.operands := by
      intro p hp
      rw [ho]
      simp only [Op.operands]
      exact List.mem_toArray.2 (List.mem_map.2 ⟨p, hp, rfl⟩)
    have fz := freeze_ids hμ m (litIds e ps.toList)
    have hop : ∀ (q : Nat) (p : Nat × Operand), ps.toList[q]? = some p → ∃ y, l[q]? = some y ∧ chunkOk j y = true ∧ Den w (Forb X (appU (frzU μ (litIds e ps.toList)) mem) ρ) noEnv y (a.eval p.2) := by
      intro q p hp
      obtain ⟨y, y1, y2, y3⟩ := l3 q p hp
      exact ⟨y, y1, y3, fz.view (litIds_mem (List.mem_of_getElem? hp)) y2 (hd p.2 (hmem p (List.mem_of_getElem? hp)))⟩
    obtain ⟨z, hz, _, hzs, hz1, _⟩ := tj.zero_run
    have hvs : ∀ v ∈ ps.toList.map (fun p => a.eval p.2), v.cells.size = j.size ∧ ∀ u ∈ v.cells.toList, u.oneCell' = true := by
      intro v hv
      obtain ⟨p, hp, rfl⟩ := List.mem_map.1 hv
      obtain ⟨q, hq⟩ := List.mem_iff_getElem?.1 hp
      obtain ⟨y, y1, y2, y3⟩ := hop q p hq
      obtain ⟨k1, k2, _⟩ := chunk_den (sz.one el j he) y2 y3
      exact ⟨k1, k2⟩
    have hsz0 : ((Array.range (n * j.size)).map (z.cells[· % z.cells.size]!)).size = n * j.size := by simp
    obtain ⟨R, r1, r2, _, r4, r5⟩ := fill_seq j.size (ps.toList.map fun p => a.eval p.2) 0 ((Array.range (n * j.size)).map (z.cells[· % z.cells.size]!)) (fun v hv => (hvs v hv).1) (by rw [hsz0, List.length_map, c1, Nat.zero_add]; exact Nat.le_refl _)
      (made_one hz1 (by omega) _) (fun v hv => (hvs v hv).2)
    have hparts : (ps.map fun (x : Nat × Operand) => (x.1, a.eval x.2)).toList = ((ps.toList.map fun p => a.eval p.2).zipIdx 0).map (fun p => (p.2, p.1)) := by
      rw [Array.toList_map]
      conv => lhs; rw [l2]
      simp only [List.map_map, List.zipIdx_map]
      rfl
    have hlen : l.length = n := by rw [l1, c1]
    have hdU : ∀ b, (d, b) ∉ frzU μ (litIds e ps.toList) := by
      intro b hb
      obtain ⟨_, sh, e', k, hm, _⟩ := frzU_mem hb
      rcases hμ d with g | g
      · rw [g] at hm; cases hm
      · rw [g, hno] at hm; cases hm
    have hno' : getM (appU (frzU μ (litIds e ps.toList)) mem) d = .no := by
      rw [appU_ne (fun q b hq e => hdU b (by rw [e]; exact hq))]
      exact hno
    have hnr' : memNoref d (appU (frzU μ (litIds e ps.toList)) mem) = true := appU_noref hnr (fun q b hq => by
      obtain ⟨_, sh, e', k, _, rfl⟩ := frzU_mem hq
      rfl)
    obtain ⟨ρ', m', d', t'⟩ := new_row (e := el) (sh := j.shape) (l := l) fz.m hno' hnr' R n (by omega) (by simp only [maxLen]; have : n ≤ n * j.size := Nat.le_mul_of_pos_right _ (by omega); omega) (by rw [r2, hsz0, hw]) r5 (fun q hq => by
      have hq' : q < ps.toList.length := by omega
      obtain ⟨y, y1, y2, y3⟩ := hop q _ (List.getElem?_eq_getElem hq')
      rw [List.getElem?_eq_getElem hq] at y1
      injection y1 with y1
      rw [y1]
      obtain ⟨k1, k2, k3⟩ := chunk_den (sz.one el j he) y2 y3
      have hget := r4 q (a.eval (ps.toList[q]).2) (by rw [List.getElem?_map, List.getElem?_eq_getElem hq']; rfl)
      have hle : q * wid j.shape + wid j.shape ≤ R.toList.length := by
        rw [Array.length_toList, r2, hsz0, hw, ← Nat.succ_mul]
        exact Nat.mul_le_mul_right _ (by omega)
      rw [valAt_seg _ _ _ hle]
      have : (R.toList.drop (q * wid j.shape)).take (wid j.shape) = (a.eval (ps.toList[q]).2).cells.toList := by
        apply List.ext_getElem?
        intro k
        rw [List.getElem?_take, List.getElem?_drop]
        by_cases hk' : k < wid j.shape
        · rw [if_pos hk', Array.getElem?_toList, Array.getElem?_toList]
          have := hget k (by omega)
          rw [Nat.zero_add] at this
          rw [← hw]
          exact this
        · rw [if_neg hk', List.getElem?_eq_none (by rw [Array.length_toList]; omega)]
      rw [this, k3]
      exact y3)
    rw [hlen] at d'
    refine ⟨_, _, _, ρ', ?_, .inl rfl, by rw [appU_append]; exact m', by rw [appU_append]; exact d', by rw [appU_append]; exact fz.t.trans t'⟩
    rw [← hparts] at r1
    have hn0 : ¬ n * j.size > 2 ^ 24 := by omega
    simp only [execOp, ho, Instr.buildSlice, Sem.run_bind, run_underlying (tok.und_slice hk), Result.andThen_ok, tj.sizeOf, if_neg hn0]
    by_cases h0 : n * j.size = 0
    · have e3 : ∀ (f g : Nat → Value), (Array.range (n * j.size)).map f = (Array.range (n * j.size)).map g := fun f g => by rw [h0]; simp
      rw [e3 _ ((#[] : Array Value)[· % (#[] : Array Value).size]!)] at r1
      simp only [if_pos h0, Sem.run_bind, Sem.run_pure, Result.andThen_ok, r1, newRow, run_newObj]
      rfl
    · simp only [if_neg h0, Sem.run_bind, Sem.run_pure, Result.andThen_ok, hz, r1, newRow, run_newObj]
      rfl
  case makeFunc fn first caps =>
    cases fn <;> simp only [mval] at h <;> try exact h.elim
    rename_i f
    split at h <;> try exact h.elim
    rename_i hfirst
    have hf0 : first = #[] := by
      cases first with | mk l => cases l with
        | nil => rfl
        | cons => simp at hfirst
    subst hf0
    have hd : ∀ {a : Act} {w : World} {Y : Nat → Prop} {ρ : Env}, (∀ y ∈ o.op.operands, Den w Y ρ (e y) (a.eval y)) → DenL w Y ρ (caps.toList.map e) (caps.toList.map a.eval) := by
      intro a w Y ρ hden
      refine ⟨by simp, fun i x v hx hv => ?_⟩
      simp only [List.getElem?_map, Option.map_eq_some_iff] at hx hv
      obtain ⟨y, hy, rfl⟩ := hx
      obtain ⟨y', hy', rfl⟩ := hv
      rw [hy] at hy'
      injection hy' with hy'
      subst hy'
      exact hden y (by rw [ho]; simp only [Op.operands, Array.empty_append]; exact Array.mem_toList_iff.1 (List.mem_of_getElem? hy))
    have e1 : ∀ a : Act, caps.map a.eval = ⟨caps.toList.map a.eval⟩ := fun a => by apply Array.ext'; simp
    have fin : ∀ {x : SV}, (∀ (a : Act) (w : World) (Y : Nat → Prop) (ρ : Env), DenL w Y ρ (caps.toList.map e) (caps.toList.map a.eval) → Den w Y ρ x (.func (.func f) #[] ⟨caps.toList.map a.eval⟩)) → Eff P T o e μ x [] (some d) := fun hx =>
      .of_run fun mem hμ hcr a N w0 w X ρ m hden => by
        refine ⟨.value (.func (.func f) #[] ⟨caps.toList.map a.eval⟩), .func (.func f) #[] ⟨caps.toList.map a.eval⟩, w, ρ, ?_, .inl rfl, m, hx a _ _ _ (hd hden), Turn.refl _ _ _ _⟩
        simp only [execOp, ho, Instr.makeFunc, Sem.run_bind, Sem.run_pure, Result.andThen_ok, Array.map_empty, e1]
    split at h
    · rename_i hp
      exact ⟨_, _, h, (fun q b hq => by simp at hq), fin fun a w Y ρ hc => .clo _ f _ _ hc.1 fun i h1 h2 => (hc.2 i _ _ (List.getElem?_eq_getElem h1) (List.getElem?_eq_getElem h2)).env fun r => .inr (.inr (plain_noref (allPlain_get hp i h1) r))⟩
    · exact ⟨_, _, h, (fun q b hq => by simp at hq), fin fun a w Y ρ hc => .fcl _ f _ _ hc.1 fun i h1 h2 => hc.2 i _ _ (List.getElem?_eq_getElem h1) (List.getElem?_eq_getElem h2)⟩
  all_goals exact h.elim
end Go.Proofs.YtligbjbkecmecaaDoor
