/- The operations that make something new: variables, slices, literals. -/
import Derived.Test.YtapcbkcnokoljaaWf
namespace Go.Proofs.Ytapcbkcnokoljaa
set_option linter.unusedVariables false
set_option linter.unusedSimpArgs false
open Go.RowKit
variable {P : Program} {T : Nat → Option TI}

/-- A value that a variable of this type may hold. -/
def chunkOk (i : TI) (y : SV) : Bool :=
  (match cellsA y with | some xs => Nat.beq xs.length i.size | none => false) && (match y, i.shape with | .agg _, some _ => true | .agg _, none => false | _, none => true | _, _ => false)

theorem chunk_den {w : World} {Y : Nat → Prop} {ρ : Env} {i : TI} {y : SV} {v : Value} (h1 : i.kind.aggB = false → i.size = 1) (h : chunkOk i y = true) (hd : Den w Y ρ y v) :
    v.cells.size = i.size ∧ (∀ u ∈ v.cells.toList, u.oneCell' = true) ∧ valAt i.shape v.cells.toList 0 = v := by
  unfold chunkOk at h
  simp only [Bool.and_eq_true] at h
  obtain ⟨h2, h3⟩ := h
  cases hc : cellsA y with
  | none => rw [hc] at h2; cases h2
  | some xs =>
    rw [hc] at h2
    have hx := Nat.eq_of_beq_eq_true h2
    obtain ⟨c1, c2⟩ := cellsA_den hc hd
    have hs : v.cells.size = i.size := by rw [← hx, c1.1, Array.length_toList]
    refine ⟨hs, c2, ?_⟩
    have hw := TI.wid_size h1
    cases hsh : i.shape with
    | none =>
      rw [hsh] at h3 hw
      have hat : atomB y = true := by
        cases y with
        | agg l => cases h3
        | _ => simp only [cellsA] at hc; split at hc <;> first | assumption | cases hc
      have := one_cells (hd.one hat)
      rw [this]
      rfl
    | some n =>
      rw [hsh] at h3 hw
      cases y with
      | agg l =>
        obtain ⟨cs, rfl, _⟩ := Den.agg_iff.1 hd
        simp only [Value.cells, List.size_toArray] at hs ⊢
        rw [valAt_some_full (by simp only [wid] at hw; omega)]
      | _ => cases h3

theorem noref_norm {d t : Nat} {x : SV} (h : noref d x = true) : noref d (normNil T t x) = true := by
  unfold normNil
  split
  · repeat' split
    all_goals rfl
  · exact h

/-- Operands of a literal, viewed. -/
noncomputable def litV (T : Nat → Option TI) (μ : Nat → Blk) (el : Nat) (j : TI) (e : Operand → SV) : Nat → List (Nat × Operand) → Option (List SV)
  | _, [] => some []
  | k, (i, x) :: ps => if Nat.beq i k then (match view T μ el (e x) with
    | some y => if chunkOk j y then (match litV T μ el j e (k + 1) ps with | some l => some (y :: l) | none => none) else none
    | none => none) else none
def litIds (e : Operand → SV) : List (Nat × Operand) → List Nat
  | [] => []
  | (_, x) :: ps => rids (e x) ++ litIds e ps

/-- What a closure captures: data, or a variable, which nobody writes any more. -/
def capV (T : Nat → Option TI) (μ : Nat → Blk) : SV → Option (SV × List (Nat × Blk))
  | .ptr r o => (match μ r with
    | .chunk t x => if dataB x then (match T t with | some i => some (.eptr i.shape x o, [(r, .no)]) | none => none) else none
    | _ => none)
  | x => if plainB x then some (x, []) else none
def capsV (T : Nat → Option TI) (μ : Nat → Blk) : List SV → Option (List SV × List (Nat × Blk))
  | [] => some ([], [])
  | x :: l => (match capV T μ x, capsV T μ l with
    | some (y, U), some (ys, V) => some (y :: ys, U ++ V)
    | _, _ => none)
/-- The operations that make something, at the slot d. -/
def mval (T : Nat → Option TI) (d : Nat) (op : Op) (e : Operand → SV) (μ : Nat → Blk) (κ : SV → List (Nat × Blk) → Prop) : Prop :=
  match op with
  | .box t x => (match T t with | some i => if chunkOk i (normNil T t (e x)) then κ (.ptr d 0) [(d, .chunk t (normNil T t (e x)))] else False | none => False)
  | .alloc t => (match T t with | some i => if chunkOk i i.zero then κ (.ptr d 0) [(d, .chunk t i.zero)] else False | none => False)
  | .makeSlice t n c => (match T t with
    | some i => (match i.kind with
      | .slice el => (match T el, e n, e c with
        | some j, .int _ n, .int _ c => if chunkOk j j.zero && !(Nat.beq j.size 0) then
            Rq (fun _ => 0 ≤ n ∧ n ≤ c ∧ c ≤ 9223372036854775807 ∧ (j.bytes : Int) * c ≤ 140737488355328) (fun _ => κ (.row d) [(d, .row j.shape el (O.rp n j.zero))]) else False
        | _, _, _ => False)
      | _ => False)
    | none => False)
  | .buildSlice t n ps => (match T t with
    | some i => (match i.kind with
      | .slice el => (match T el with
        | some j => if Nat.beq ps.toList.length n && Nat.ble (n * j.size) 16777216 && !(Nat.beq j.size 0) then (match litV T μ el j e 0 ps.toList with | some l => κ (.row d) (frzU μ (litIds e ps.toList) ++ [(d, .row j.shape el l)]) | none => False) else False
        | none => False)
      | _ => False)
    | none => False)
  | .makeFunc (.func f) first caps => if first.toList.isEmpty then (match capsV T μ (caps.toList.map e) with | some (cs, U) => κ (.clo f cs) U | none => False) else False
  | _ => False

theorem new_chunk (sz : Sizes T) {d t : Nat} {i : TI} (ht : T t = some i) {y : SV} (hc : chunkOk i y = true) (hz : noref d y = true) {N : Nat → Prop} {w0 w : World} {X : Nat → Prop} {mem : Mem} {ρ : Env} (m : MRep T N w0 w X mem ρ)
    (hno : getM mem d = .no) (hnr : memNoref d mem = true) {v : Value} (hv : Den w (Forb X mem ρ) ρ y v) :
    let w' := w.alloc (.cells v.cells t)
    ∃ ρ', MRep T N w0 w' X (setM (.chunk t y) mem d) ρ' ∧ Den w' (Forb X (setM (.chunk t y) mem d) ρ') ρ' (.ptr d 0) (.pointer (some ⟨w.heap.size, 0, none⟩)) ∧
      Turn w (Forb X mem ρ) ρ w' (Forb X (setM (.chunk t y) mem d) ρ') ρ' (some d) := by
  intro w'
  obtain ⟨c1, c2, c3⟩ := chunk_den (sz.one t i ht) hc hv
  have hbel : Below w.heap.size w w' := (Below.refl _ _).alloc (Nat.le_refl _) _
  obtain ⟨m', t'⟩ := m.create (w' := w') hno hnr (B := .chunk t y) (v := .pointer (some ⟨w.heap.size, 0, none⟩)) (fun b hb => by simp only [vblock] at hb; injection hb with hb; subst hb; exact ⟨Nat.le_refl _, by show _ < (w.heap.push _).size; simp⟩) hbel
    (fun ht' => ⟨i, w.heap.size, v.cells, t, ht, rfl, m.szN _ (Nat.le_refl _), heap_alloc_new w _, c1, c2, by
      rw [c3]
      exact ht'.den (fun r hr => by injection hr with hr; subst hr; exact hz) hv⟩)
  refine ⟨_, m', .ptr _ d 0 w.heap.size (fun q hq => ?_), t'⟩
  simp only [upd, if_true] at hq
  injection hq with hq
  exact hq.symm

/-- A new row, in a new block. -/
theorem new_row {d e : Nat} {sh : Option Nat} {l : List SV} {N : Nat → Prop} {w0 w : World} {X : Nat → Prop} {mem : Mem} {ρ : Env} (m : MRep T N w0 w X mem ρ) (hno : getM mem d = .no) (hnr : memNoref d mem = true)
    (R : Array Value) (cap : Nat) (hlc : l.length ≤ cap) (hcm : cap ≤ maxLen) (hR : R.size = cap * wid sh) (h1 : ∀ u ∈ R.toList, u.oneCell' = true) (hl : ∀ (i : Nat) (h : i < l.length), Den w (Forb X mem ρ) noEnv l[i] (valAt sh R.toList i)) :
    let w' := w.alloc (.cells R e)
    ∃ ρ', MRep T N w0 w' X (setM (.row sh e l) mem d) ρ' ∧ Den w' (Forb X (setM (.row sh e l) mem d) ρ') ρ' (.row d) (.slice (some ⟨w.heap.size, 0, none⟩) l.length cap) ∧
      Turn w (Forb X mem ρ) ρ w' (Forb X (setM (.row sh e l) mem d) ρ') ρ' (some d) := by
  intro w'
  have hbel : Below w.heap.size w w' := (Below.refl _ _).alloc (Nat.le_refl _) _
  obtain ⟨m', t'⟩ := m.create (w' := w') hno hnr (B := .row sh e l) (v := .slice (some ⟨w.heap.size, 0, none⟩) l.length cap) (fun b hb => by
      simp only [vblock] at hb
      split at hb
      · cases hb
      · injection hb with hb; subst hb; exact ⟨Nat.le_refl _, by show _ < (w.heap.push _).size; simp⟩) hbel
    (fun ht' => ⟨_, rfl, by
      by_cases h0 : cap = 0
      · subst h0
        have hl0 : l.length = 0 := by omega
        exact .inl ⟨_, by rw [hl0], List.eq_nil_of_length_eq_zero hl0⟩
      · refine .inr ⟨w.heap.size, 0, cap, R, rfl, m.szN _ (Nat.le_refl _), heap_alloc_new w _, hlc, hcm, by omega, by omega, h1, fun i hi => ?_⟩
        rw [List.drop_zero]
        exact (hl i hi).mono ht'.size ht'.keep⟩)
  refine ⟨_, m', .row _ d _ _ _ (fun q hq => ?_), t'⟩
  simp only [upd, if_true] at hq
  injection hq with hq
  exact hq.symm

theorem litV_some {μ : Nat → Blk} {el : Nat} {j : TI} {e : Operand → SV} : ∀ (ps : List (Nat × Operand)) (k : Nat) (l : List SV), litV T μ el j e k ps = some l →
    l.length = ps.length ∧ ps = ((ps.map (·.2)).zipIdx k).map (fun p => (p.2, p.1)) ∧ ∀ (q : Nat) (p : Nat × Operand), ps[q]? = some p → ∃ y, l[q]? = some y ∧ view T μ el (e p.2) = some y ∧ chunkOk j y = true
  | [], k, l, h => by
    simp only [litV] at h
    injection h with h; subst h
    simp
  | (i, x) :: ps, k, l, h => by
    simp only [litV] at h
    split at h
    case isFalse => cases h
    rename_i hk
    have hk := Nat.eq_of_beq_eq_true hk
    subst hk
    cases hv : view T μ el (e x) with
    | none => rw [hv] at h; cases h
    | some y =>
      rw [hv] at h
      simp only at h
      split at h
      case isFalse => cases h
      rename_i hc
      cases hl' : litV T μ el j e (i + 1) ps with
      | none => rw [hl'] at h; cases h
      | some l' =>
        rw [hl'] at h
        injection h with h; subst h
        obtain ⟨i1, i2, i3⟩ := litV_some ps (i + 1) l' hl'
        refine ⟨by simp [i1], by simp only [List.map_cons, List.zipIdx_cons]; rw [← i2], fun q p hp => ?_⟩
        cases q with
        | zero => simp at hp; subst hp; exact ⟨y, rfl, hv, hc⟩
        | succ q => simpa using i3 q p (by simpa using hp)
theorem litIds_mem {e : Operand → SV} : ∀ {ps : List (Nat × Operand)} {p : Nat × Operand}, p ∈ ps → ∀ r ∈ rids (e p.2), r ∈ litIds e ps
  | [], p, h, _, _ => by simp at h
  | (i, x) :: ps, p, h, r, hr => by
    simp only [litIds, List.mem_append]
    rcases List.mem_cons.1 h with rfl | h
    · exact .inl hr
    · exact .inr (litIds_mem h r hr)

/-- Parts laid one behind the other. -/
theorem fill_seq (size : Nat) : ∀ (vs : List Value) (k : Nat) (A : Array Value), (∀ v ∈ vs, v.cells.size = size) → (k + vs.length) * size ≤ A.size → (∀ u ∈ A.toList, u.oneCell' = true) → (∀ v ∈ vs, ∀ u ∈ v.cells.toList, u.oneCell' = true) →
    ∃ R : Array Value, Instr.fill (fun i => some (i * size, size)) A ((vs.zipIdx k).map fun p => (p.2, p.1)) = some R ∧ R.size = A.size ∧ (∀ j : Nat, j < k * size → R[j]? = A[j]?) ∧
      (∀ (i : Nat) (v : Value), vs[i]? = some v → ∀ j : Nat, j < size → R[(k + i) * size + j]? = v.cells[j]?) ∧ ∀ u ∈ R.toList, u.oneCell' = true
  | [], k, A, _, _, hA1, _ => ⟨A, by simp [Instr.fill], rfl, fun _ _ => rfl, fun i v h => by simp at h, hA1⟩
  | v :: vs, k, A, hv, hA, hA1, hv1 => by
    have h1 := hv v (by simp)
    have e0 : (k + 1) * size ≤ (k + (v :: vs).length) * size := Nat.mul_le_mul_right _ (by simp only [List.length_cons]; omega)
    have e1 : (k + 1) * size = k * size + size := Nat.succ_mul _ _
    have hl : k * size + 0 + v.cells.toList.length ≤ A.size := by rw [Array.length_toList, h1]; omega
    obtain ⟨g1, g2⟩ := fold_set v.cells.toList 0 (k * size) A hl
    have e : v.cells.zipIdx.foldl (fun (cs : Array Value) (p : Value × Nat) => cs.setIfInBounds (k * size + p.2) p.1) A = (v.cells.toList.zipIdx 0).foldl (fun (cs : Array Value) (p : Value × Nat) => cs.setIfInBounds (k * size + p.2) p.1) A := by
      rw [← Array.foldl_toList, Array.toList_zipIdx]
    obtain ⟨R, r1, r2, r3, r4, r5⟩ := fill_seq size vs (k + 1) (v.cells.zipIdx.foldl (fun (cs : Array Value) (p : Value × Nat) => cs.setIfInBounds (k * size + p.2) p.1) A) (fun u hu => hv u (by simp [hu])) (by
      rw [e, g1]
      have : (k + 1 + vs.length) * size = (k + (v :: vs).length) * size := by congr 1; simp; omega
      omega) (by
      rw [e]
      intro u hu
      obtain ⟨i, hi⟩ := List.mem_iff_getElem?.1 hu
      have hi' : ((v.cells.toList.zipIdx 0).foldl (fun (cs : Array Value) (p : Value × Nat) => cs.setIfInBounds (k * size + p.2) p.1) A)[i]? = some u := by simpa using hi
      rw [g2 i] at hi'
      split at hi'
      · exact hv1 v (by simp) u (List.mem_of_getElem? hi')
      · exact hA1 u (by rw [← Array.getElem?_toList] at hi'; exact List.mem_of_getElem? hi')) (fun u hu => hv1 u (by simp [hu]))
    refine ⟨R, ?_, by rw [r2, e, g1], fun j hj => ?_, fun i u hu j hj => ?_, r5⟩
    · simp only [List.zipIdx_cons, List.map_cons, Instr.fill]
      rw [if_neg (by simp [h1]; omega)]
      exact r1
    · rw [r3 j (by omega), e, g2 j, if_neg (by omega)]
    · cases i with
      | zero =>
        simp at hu
        subst hu
        rw [Nat.add_zero, r3 _ (by omega), e, g2, if_pos (by rw [Array.length_toList, h1]; omega)]
        simp
      | succ i =>
        have := r4 i u (by simpa using hu) j hj
        rw [← this, show k + (i + 1) = k + 1 + i by omega]

theorem made_one {z : Value} (hz : (z.cells.all (·.oneCell')) = true) (hs : 0 < z.cells.size) (n : Nat) : ∀ u ∈ ((Array.range n).map (z.cells[· % z.cells.size]!)).toList, u.oneCell' = true := by
  intro u hu
  simp only [Array.toList_map, Array.toList_range, List.mem_map] at hu
  obtain ⟨j, _, rfl⟩ := hu
  have hlt : j % z.cells.size < z.cells.size := Nat.mod_lt _ hs
  rw [getElem!_pos z.cells _ hlt]
  exact (Array.all_eq_true_iff_forall_mem.1 hz) _ (Array.getElem_mem hlt)

theorem valAt_made {z : Value} {sh : Option Nat} {n i : Nat} (hs : z.cells.size = wid sh) (hv : valAt sh z.cells.toList 0 = z) (hi : i < n) (m : Nat) (hm : n * wid sh ≤ m) :
    valAt sh ((Array.range m).map (z.cells[· % z.cells.size]!)).toList i = z := by
  have hle : i * wid sh + wid sh ≤ n * wid sh := by rw [← Nat.succ_mul]; exact Nat.mul_le_mul_right _ hi
  rw [valAt_seg _ _ _ (by simp; omega)]
  have : ((((Array.range m).map (z.cells[· % z.cells.size]!)).toList.drop (i * wid sh)).take (wid sh)) = z.cells.toList := by
    apply List.ext_getElem?
    intro k
    rw [List.getElem?_take, List.getElem?_drop]
    by_cases hk : k < wid sh
    · rw [if_pos hk]
      have e1 : (i * wid sh + k) % z.cells.size = k := by rw [hs, Nat.mul_comm, Nat.mul_add_mod, Nat.mod_eq_of_lt hk]
      simp only [Array.toList_map, Array.toList_range, List.getElem?_map]
      rw [List.getElem?_range (by omega)]
      simp only [Option.map_some, e1]
      rw [getElem!_pos z.cells k (by omega), Array.getElem?_toList, Array.getElem?_eq_getElem (by omega)]
    · rw [if_neg hk, List.getElem?_eq_none (by rw [Array.length_toList]; omega)]
  rw [this]
  exact hv

theorem capsV_mem {μ : Nat → Blk} : ∀ {l : List SV} {cs : List SV} {U : List (Nat × Blk)}, capsV T μ l = some (cs, U) → ∀ {q : Nat} {b : Blk}, (q, b) ∈ U → b = .no ∧ ∃ t x, μ q = .chunk t x ∧ dataB x = true
  | [], cs, U, h, q, b, hq => by simp only [capsV] at h; injection h with h; injection h with _ h; subst h; simp at hq
  | x :: l, cs, U, h, q, b, hq => by
    simp only [capsV] at h
    split at h
    · rename_i y U1 ys V h1 h2
      injection h with h; injection h with _ h; subst h
      rcases List.mem_append.1 hq with hq | hq
      · unfold capV at h1
        split at h1
        · split at h1
          · rename_i t x hm
            split at h1
            · rename_i hdat
              split at h1
              · injection h1 with h1; injection h1 with _ h1; subst h1
                simp at hq
                obtain ⟨rfl, rfl⟩ := hq
                exact ⟨rfl, t, x, hm, hdat⟩
              · cases h1
            · cases h1
          · cases h1
        · split at h1
          · injection h1 with h1; injection h1 with _ h1; subst h1; simp at hq
          · cases h1
      · exact capsV_mem h2 hq
    · cases h
/-- The things U are given up. -/
noncomputable def deadE (U : List (Nat × Blk)) (ρ : Env) : Env := fun r => @ite _ (∃ b, (r, b) ∈ U) (Classical.propDecidable _) none (ρ r)
theorem deadE_in {U : List (Nat × Blk)} {ρ : Env} {r : Nat} (h : ∃ b, (r, b) ∈ U) : deadE U ρ r = none := if_pos h
theorem deadE_out {U : List (Nat × Blk)} {ρ : Env} {r : Nat} (h : ¬ ∃ b, (r, b) ∈ U) : deadE U ρ r = ρ r := if_neg h
theorem kill_ids {μ : Nat → Blk} {N : Nat → Prop} {w0 w : World} {X : Nat → Prop} {mem : Mem} {ρ : Env} (m : MRep T N w0 w X mem ρ) (U : List (Nat × Blk)) (hU : ∀ q b, (q, b) ∈ U → b = .no) :
    MRep T N w0 w X (appU U mem) (deadE U ρ) ∧ Turn w (Forb X mem ρ) ρ w (Forb X (appU U mem) (deadE U ρ)) (deadE U ρ) none := by
  have hno : ∀ (V : List (Nat × Blk)) (mm : Mem) (r : Nat), (∀ q b, (q, b) ∈ V → b = .no) → ((∃ b, (r, b) ∈ V) ∨ getM mm r = .no) → getM (appU V mm) r = .no := by
    intro V
    induction V with
    | nil => intro mm r _ h; rcases h with ⟨b, h⟩ | h; simp at h; exact h
    | cons p V ih =>
      obtain ⟨q, b⟩ := p
      intro mm r hV h
      have hb := hV q b (by simp)
      subst hb
      simp only [appU]
      refine ih _ r (fun q b hq => hV q b (by simp [hq])) ?_
      by_cases hqr : r = q
      · subst hqr; right; rw [getM_setM]; simp
      · rcases h with ⟨b, h⟩ | h
        · rcases List.mem_cons.1 h with h | h
          · injection h with h1 _; exact absurd h1 hqr
          · exact .inl ⟨b, h⟩
        · right; rw [getM_setM, if_neg hqr]; exact h
  have hdead : ∀ r, (∃ b, (r, b) ∈ U) → getM (appU U mem) r = .no := fun r h => hno U mem r hU (.inl h)
  refine m.step (fun r => ∃ b, (r, b) ∈ U) none (.refl N w) (fun r hr => ⟨appU_ne fun q b hq h => hr ⟨b, by rw [h]; exact hq⟩, deadE_out hr⟩) (fun r hr => .inl (deadE_in hr)) (fun r h => by cases h) (fun b _ => .inl rfl)
    (fun r v b hr h => by rw [hdead r hr] at h; simp [Blk.own] at h) (fun r r' v v' b hr _ h => by rw [hdead r hr] at h; simp [Blk.own] at h) (fun _ r hr => ?_)
  rw [hdead r hr, deadE_in hr]
  rfl
theorem caps_ok {μ : Nat → Blk} {N : Nat → Prop} {w0 w : World} {X : Nat → Prop} {mem : Mem} {ρ : Env} (hμ : Sees μ mem) (m : MRep T N w0 w X mem ρ) {l cs : List SV} {U : List (Nat × Blk)} (h : capsV T μ l = some (cs, U)) {us : List Value} (hd : DenL w (Forb X mem ρ) ρ l us) (tys : Types P T) (sz : Sizes T) :
    MRep T N w0 w X (appU U mem) (deadE U ρ) ∧ Turn w (Forb X mem ρ) ρ w (Forb X (appU U mem) (deadE U ρ)) (deadE U ρ) none ∧
      DenL w (Forb X (appU U mem) (deadE U ρ)) noEnv cs us := by
  obtain ⟨m', t'⟩ := kill_ids (μ := μ) m U (fun q b hq => (capsV_mem h hq).1)
  refine ⟨m', t', ?_⟩
  have hsub : ∀ q b, (q, b) ∈ U → (q, b) ∈ U := fun _ _ h => h
  clear m'
  generalize hV : U = V at hsub
  rw [hV] at t'
  have hVm : ∀ q b, (q, b) ∈ V → ∃ t x, μ q = .chunk t x := fun q b hq => by rw [← hV] at hq; obtain ⟨_, t, x, h, _⟩ := capsV_mem h hq; exact ⟨t, x, h⟩
  have hVno : ∀ q b, (q, b) ∈ V → b = .no := fun q b hq => by rw [← hV] at hq; exact (capsV_mem h hq).1
  rw [← hV] at hsub
  subst hV
  -- what is owned behind it
  have hown : ∀ (r b : Nat) (v : Value), (∃ c, (r, c) ∈ U) → (getM mem r).own = true → ρ r = some v → vblock v = some b → ¬ Forb X (appU U mem) (deadE U ρ) b := by
    intro r b v hr ho hv hb hf
    have hN := m.owned_lt ⟨r, v, ho, hv, hb⟩
    rcases hf with hf | ⟨r', v', g1, g2, g3⟩
    · exact (m.low b hf).2 hN.1
    · by_cases hn : ∃ b, (r', b) ∈ U
      · rw [deadE_in hn] at g2; cases g2
      · rw [deadE_out hn] at g2
        rw [appU_ne (fun q c hq he => hn ⟨c, by rw [he]; exact hq⟩)] at g1
        have := m.inj r' r v' v b g1 ho g2 hv g3 hb
        subst this
        exact hn hr
  have key : ∀ (l cs : List SV) (V : List (Nat × Blk)) (us : List Value), capsV T μ l = some (cs, V) → (∀ q b, (q, b) ∈ V → (q, b) ∈ U) → DenL w (Forb X mem ρ) ρ l us → DenL w (Forb X (appU U mem) (deadE U ρ)) noEnv cs us := by
    intro l
    induction l with
    | nil =>
      intro cs V us h _ hd
      simp only [capsV] at h
      injection h with h; injection h with h1 _; subst h1
      exact ⟨hd.1, fun i x u h => by simp at h⟩
    | cons x l ih =>
      intro cs V us h hsub hd
      simp only [capsV] at h
      split at h
      · rename_i y U1 ys V1 h1 h2
        injection h with h; injection h with h3 h4; subst h3; subst h4
        cases us with
        | nil => have := hd.1; simp at this
        | cons u us =>
          have hd0 := hd.2 0 x u rfl rfl
          have ih := ih ys V1 us h2 (fun q b hq => hsub q b (List.mem_append_right _ hq)) ⟨by have := hd.1; simpa using this, fun i x u hx hu => hd.2 (i + 1) x u hx hu⟩
          have hy : Den w (Forb X (appU U mem) (deadE U ρ)) noEnv y u := by
            unfold capV at h1
            split at h1
            · rename_i r o
              split at h1
              · rename_i t x hm
                split at h1
                · rename_i hdat
                  split at h1
                  · rename_i i ht
                    injection h1 with h1; injection h1 with h5 h6; subst h5; subst h6
                    have hmr : getM mem r = .chunk t x := by
                      rcases hμ r with g | g
                      · rw [hm] at g; cases g
                      · rw [← g, hm]
                    have hb := m.blk r
                    rw [hmr] at hb
                    obtain ⟨i', b, us', ty, e1, e2, e3, e4, e5, e6, e7⟩ := hb
                    rw [ht] at e1; injection e1 with e1; subst e1
                    have hin : ∃ c, (r, c) ∈ U := ⟨.no, hsub r .no (by simp)⟩
                    have hnf := hown r b _ hin (by rw [hmr]; rfl) e2 rfl
                    cases hd0 with
                    | ptr _ _ _ b' hb' =>
                      have := hb' _ e2
                      simp only [Value.pointer.injEq, Option.some.injEq, Addr.mk.injEq, and_true] at this
                      subst this
                      have hw1 := TI.wid_size (sz.one t i ht)
                      have := Den.eptr (w := w) (X := Forb X (appU U mem) (deadE U ρ)) noEnv i.shape x o b 0 us'.toList (heap_lt e4) hnf (fun j u hj => by rw [Nat.zero_add, cell_of_row w b j us' ty (0, 0) e4]; simpa using hj) (by rw [Array.length_toList, e5, hw1])
                        ((t'.den (fun _ h => by cases h) e7).to_no)
                      simpa using this
                  · cases h1
                · cases h1
              · cases h1
            · split at h1
              · rename_i hp
                injection h1 with h1; injection h1 with h5 h6; subst h5
                exact (t'.den (fun _ h => by cases h) hd0).to_no
              · cases h1
          refine ⟨by simp [ih.1], fun i x' u' hx' hu' => ?_⟩
          cases i with
          | zero => simp at hx' hu'; subst hx'; subst hu'; exact hy
          | succ i => exact ih.2 i x' u' (by simpa using hx') (by simpa using hu')
      · cases h
  exact key l cs U us h (fun _ _ h => h) hd

theorem mval_ok (tys : Types P T) (sz : Sizes T) (hz0 : ∀ t i, T t = some i → ∀ d, noref d i.zero = true) {o : Oper} {d : Nat} {e : Operand → SV} {μ : Nat → Blk} {κ : SV → List (Nat × Blk) → Prop} (h : mval T d o.op e μ κ) :
    ∃ x U, κ x U ∧ (∀ q b, (q, b) ∈ U → q = d ∨ (μ q).own = true) ∧ Eff P T o e μ x U (some d) := by
  generalize ho : o.op = op at h
  cases op
  case box t x =>
    simp only [mval] at h
    split at h <;> try exact h.elim
    rename_i i ht
    split at h <;> try exact h.elim
    rename_i hc
    refine ⟨_, _, h, (fun q b hq => by simp at hq; exact .inl hq.1), .of_run fun mem hμ hcr a N w0 w X ρ m hden => ?_⟩
    obtain ⟨hno, hnr, hn⟩ := hcr d rfl
    have hx := normNil_den (T := T) (t := t) (hden x (by simp [ho, Op.operands]))
    obtain ⟨ρ', m', d', t'⟩ := new_chunk sz ht hc (noref_norm (hn x (by simp [ho, Op.operands]))) m hno hnr hx
    refine ⟨_, _, _, ρ', ?_, .inl rfl, m', d', t'⟩
    simp only [execOp, ho, Instr.box, newVar, newRow, Sem.run_bind, run_newObj, Result.andThen_ok, Sem.run_pure]
    rfl
  case alloc t =>
    simp only [mval] at h
    split at h <;> try exact h.elim
    rename_i i ht
    split at h <;> try exact h.elim
    rename_i hc
    refine ⟨_, _, h, (fun q b hq => by simp at hq; exact .inl hq.1), .of_run fun mem hμ hcr a N w0 w X ρ m hden => ?_⟩
    obtain ⟨hno, hnr, hn⟩ := hcr d rfl
    obtain ⟨z, hz, h2, _⟩ := (tys.ok t i ht).zero_run
    have hx : Den w (Forb X mem ρ) ρ i.zero z := by rw [h2]; exact ofValue_den _ _ _ _
    obtain ⟨ρ', m', d', t'⟩ := new_chunk sz ht hc (hz0 t i ht d) m hno hnr hx
    refine ⟨_, _, _, ρ', ?_, .inl rfl, m', d', t'⟩
    simp only [execOp, ho, Instr.alloc, hz, newVar, newRow, Sem.run_bind, run_newObj, Result.andThen_ok, Sem.run_pure]
    rfl
  case makeSlice t n c =>
    simp only [mval] at h
    split at h <;> try exact h.elim
    rename_i i ht
    split at h <;> try exact h.elim
    rename_i el hk
    split at h <;> try exact h.elim
    rename_i j kn nv kc cv hj hn hc
    split at h <;> try exact h.elim
    rename_i hck
    simp only [Bool.and_eq_true, Bool.not_eq_true'] at hck
    obtain ⟨⟨g1, g2, g3, g4⟩, h⟩ := h
    rw [O.hrp] at h
    refine ⟨_, _, h, (fun q b hq => by simp at hq; exact .inl hq.1), .of_run fun mem hμ hcr a N w0 w X ρ m hden => ?_⟩
    obtain ⟨hno, hnr, _⟩ := hcr d rfl
    have d1 := hden n (by simp [ho, Op.operands])
    have d2 := hden c (by simp [ho, Op.operands])
    rw [hn, Den.int_iff] at d1
    rw [hc, Den.int_iff] at d2
    have tj := tys.ok el j hj
    have ti := tys.ok t i ht
    obtain ⟨ji, j1, j2, j3⟩ := tj.inf
    obtain ⟨z, z1, z2, z3, z4, z5⟩ := tj.zero
    have hz : ji.zero = some z := by rw [j1] at z1; simpa using z1
    have hw := TI.wid_size (sz.one _ _ hj)
    have hp : 0 < wid j.shape := by
      rcases Nat.eq_zero_or_pos (wid j.shape) with h0 | h0
      · rw [hw, h0] at hck; simp at hck
      · exact h0
    have hdz : ∀ Y ρ, Den w Y ρ j.zero z := fun Y ρ => by rw [z2]; exact ofValue_den _ _ _ _
    obtain ⟨c1, c2, c3⟩ := chunk_den (sz.one el j hj) hck.1 (hdz (Forb X mem ρ) noEnv)
    have hrun := run_make (P := P) w t el ji z (ti.und_slice hk) j1 hz kn kc nv cv g1 g2 (by rw [j3]; omega) g3
    rw [j2] at hrun
    have hsz : (madeCells z.cells (cv.toNat * j.size)).size = cv.toNat * wid j.shape := by rw [size_madeCells, hw]
    obtain ⟨ρ', m', d', t'⟩ := new_row (e := el) (sh := j.shape) (l := List.replicate nv.toNat j.zero) m hno hnr (madeCells z.cells (cv.toNat * j.size)) cv.toNat (by simp; omega) (by simp only [maxLen]; omega) hsz
      (made_one z4 (by omega) _) (fun i hi => by
        rw [List.getElem_replicate, show madeCells z.cells (cv.toNat * j.size) = (Array.range (cv.toNat * j.size)).map (z.cells[· % z.cells.size]!) from rfl]
        rw [valAt_made (n := nv.toNat) (by omega) c3 (by simpa using hi) _ (by rw [hw]; exact Nat.mul_le_mul_right _ (by omega))]
        exact hdz _ _)
    refine ⟨_, _, _, ρ', ?_, .inl rfl, m', d', t'⟩
    simp only [execOp, ho, d1, d2, Sem.run_bind, hrun, Result.andThen_ok, Sem.run_pure]
    simp
  case buildSlice t n ps =>
    simp only [mval] at h
    split at h <;> try exact h.elim
    rename_i i ht
    split at h <;> try exact h.elim
    rename_i el hk
    split at h <;> try exact h.elim
    rename_i j he
    split at h <;> try exact h.elim
    rename_i hc
    simp only [Bool.and_eq_true, Bool.not_eq_true'] at hc
    obtain ⟨⟨c1, c2⟩, c3⟩ := hc
    have c1 : ps.toList.length = n := Nat.eq_of_beq_eq_true c1
    have c2 : n * j.size ≤ 16777216 := Nat.le_of_ble_eq_true c2
    have c3 : j.size ≠ 0 := by intro h0; rw [h0] at c3; simp at c3
    split at h <;> try exact h.elim
    rename_i l hl
    obtain ⟨l1, l2, l3⟩ := litV_some ps.toList 0 l hl
    have tok := tys.ok t i ht
    have tj := tys.ok el j he
    have hw := TI.wid_size (sz.one _ _ he)
    refine ⟨_, _, h, (fun q b hq => ?_), .of_run fun mem hμ hcr a N w0 w X ρ m hd => ?_⟩
    · rcases List.mem_append.1 hq with hq | hq
      · obtain ⟨_, sh, e', k, hm, _⟩ := frzU_mem hq
        exact .inr (by rw [hm]; rfl)
      · simp at hq; exact .inl hq.1
    obtain ⟨hno, hnr, hnop⟩ := hcr d rfl
    have hmem : ∀ p ∈ ps.toList, p.2 ∈ o.op.operands := by
      intro p hp
      rw [ho]
      simp only [Op.operands]
      exact List.mem_toArray.2 (List.mem_map.2 ⟨p, hp, rfl⟩)
    have fz := freeze_ids hμ m (litIds e ps.toList)
    have hop : ∀ (q : Nat) (p : Nat × Operand), ps.toList[q]? = some p → ∃ y, l[q]? = some y ∧ chunkOk j y = true ∧ Den w (Forb X (appU (frzU μ (litIds e ps.toList)) mem) ρ) noEnv y (a.eval p.2) := by
      intro q p hp
      obtain ⟨y, y1, y2, y3⟩ := l3 q p hp
      exact ⟨y, y1, y3, fz.view (litIds_mem (List.mem_of_getElem? hp)) y2 (hd p.2 (hmem p (List.mem_of_getElem? hp)))⟩
    obtain ⟨z, hz, _, hzs, hz1, _⟩ := tj.zero_run
    have hvs : ∀ v ∈ ps.toList.map (fun p => a.eval p.2), v.cells.size = j.size ∧ ∀ u ∈ v.cells.toList, u.oneCell' = true := by
      intro v hv
      obtain ⟨p, hp, rfl⟩ := List.mem_map.1 hv
      obtain ⟨q, hq⟩ := List.mem_iff_getElem?.1 hp
      obtain ⟨y, y1, y2, y3⟩ := hop q p hq
      obtain ⟨k1, k2, _⟩ := chunk_den (sz.one el j he) y2 y3
      exact ⟨k1, k2⟩
    have hsz0 : ((Array.range (n * j.size)).map (z.cells[· % z.cells.size]!)).size = n * j.size := by simp
    obtain ⟨R, r1, r2, _, r4, r5⟩ := fill_seq j.size (ps.toList.map fun p => a.eval p.2) 0 ((Array.range (n * j.size)).map (z.cells[· % z.cells.size]!)) (fun v hv => (hvs v hv).1) (by rw [hsz0, List.length_map, c1, Nat.zero_add]; exact Nat.le_refl _)
      (made_one hz1 (by omega) _) (fun v hv => (hvs v hv).2)
    have hparts : (ps.map fun (x : Nat × Operand) => (x.1, a.eval x.2)).toList = ((ps.toList.map fun p => a.eval p.2).zipIdx 0).map (fun p => (p.2, p.1)) := by
      rw [Array.toList_map]
      conv => lhs; rw [l2]
      simp only [List.map_map, List.zipIdx_map]
      rfl
    have hlen : l.length = n := by rw [l1, c1]
    have hdU : ∀ b, (d, b) ∉ frzU μ (litIds e ps.toList) := by
      intro b hb
      obtain ⟨_, sh, e', k, hm, _⟩ := frzU_mem hb
      rcases hμ d with g | g
      · rw [g] at hm; cases hm
      · rw [g, hno] at hm; cases hm
    have hno' : getM (appU (frzU μ (litIds e ps.toList)) mem) d = .no := by
      rw [appU_ne (fun q b hq e => hdU b (by rw [e]; exact hq))]
      exact hno
    have hnr' : memNoref d (appU (frzU μ (litIds e ps.toList)) mem) = true := appU_noref hnr (fun q b hq => by
      obtain ⟨_, sh, e', k, _, rfl⟩ := frzU_mem hq
      rfl)
    obtain ⟨ρ', m', d', t'⟩ := new_row (e := el) (sh := j.shape) (l := l) fz.m hno' hnr' R n (by omega) (by simp only [maxLen]; have : n ≤ n * j.size := Nat.le_mul_of_pos_right _ (by omega); omega) (by rw [r2, hsz0, hw]) r5 (fun q hq => by
      have hq' : q < ps.toList.length := by omega
      obtain ⟨y, y1, y2, y3⟩ := hop q _ (List.getElem?_eq_getElem hq')
      rw [List.getElem?_eq_getElem hq] at y1
      injection y1 with y1
      rw [y1]
      obtain ⟨k1, k2, k3⟩ := chunk_den (sz.one el j he) y2 y3
      have hget := r4 q (a.eval (ps.toList[q]).2) (by rw [List.getElem?_map, List.getElem?_eq_getElem hq']; rfl)
      have hle : q * wid j.shape + wid j.shape ≤ R.toList.length := by
        rw [Array.length_toList, r2, hsz0, hw, ← Nat.succ_mul]
        exact Nat.mul_le_mul_right _ (by omega)
      rw [valAt_seg _ _ _ hle]
      have : (R.toList.drop (q * wid j.shape)).take (wid j.shape) = (a.eval (ps.toList[q]).2).cells.toList := by
        apply List.ext_getElem?
        intro k
        rw [List.getElem?_take, List.getElem?_drop]
        by_cases hk' : k < wid j.shape
        · rw [if_pos hk', Array.getElem?_toList, Array.getElem?_toList]
          have := hget k (by omega)
          rw [Nat.zero_add] at this
          rw [← hw]
          exact this
        · rw [if_neg hk', List.getElem?_eq_none (by rw [Array.length_toList]; omega)]
      rw [this, k3]
      exact y3)
    rw [hlen] at d'
    refine ⟨_, _, _, ρ', ?_, .inl rfl, by rw [appU_append]; exact m', by rw [appU_append]; exact d', by rw [appU_append]; exact fz.t.trans t'⟩
    rw [← hparts] at r1
    have hn0 : ¬ n * j.size > 2 ^ 24 := by omega
    simp only [execOp, ho, Instr.buildSlice, Sem.run_bind, run_underlying (tok.und_slice hk), Result.andThen_ok, tj.sizeOf, if_neg hn0]
    by_cases h0 : n * j.size = 0
    · have e3 : ∀ (f g : Nat → Value), (Array.range (n * j.size)).map f = (Array.range (n * j.size)).map g := fun f g => by rw [h0]; simp
      rw [e3 _ ((#[] : Array Value)[· % (#[] : Array Value).size]!)] at r1
      simp only [if_pos h0, Sem.run_bind, Sem.run_pure, Result.andThen_ok, r1, newRow, run_newObj]
      rfl
    · simp only [if_neg h0, Sem.run_bind, Sem.run_pure, Result.andThen_ok, hz, r1, newRow, run_newObj]
      rfl
  case makeFunc fn first caps =>
    cases fn <;> simp only [mval] at h <;> try exact h.elim
    rename_i f
    split at h <;> try exact h.elim
    rename_i hfirst
    split at h <;> try exact h.elim
    rename_i cs U hcaps
    refine ⟨_, _, h, fun q b hq => .inr (by obtain ⟨_, t, x, hm, _⟩ := capsV_mem hcaps hq; rw [hm]; rfl), .of_run fun mem hμ hcr a N w0 w X ρ m hden => ?_⟩
    have hf0 : first = #[] := by
      cases first with | mk l => cases l with
        | nil => rfl
        | cons => simp at hfirst
    subst hf0
    have hd : DenL w (Forb X mem ρ) ρ (caps.toList.map e) (caps.toList.map a.eval) := by
      refine ⟨by simp, fun i x v hx hv => ?_⟩
      simp only [List.getElem?_map, Option.map_eq_some_iff] at hx hv
      obtain ⟨y, hy, rfl⟩ := hx
      obtain ⟨y', hy', rfl⟩ := hv
      rw [hy] at hy'
      injection hy' with hy'
      subst hy'
      exact hden y (by rw [ho]; simp only [Op.operands, Array.empty_append]; exact Array.mem_toList_iff.1 (List.mem_of_getElem? hy))
    obtain ⟨m', t', hc⟩ := caps_ok hμ m hcaps hd tys sz
    have e1 : caps.map a.eval = ⟨caps.toList.map a.eval⟩ := by apply Array.ext'; simp
    refine ⟨.value (.func (.func f) #[] ⟨caps.toList.map a.eval⟩), .func (.func f) #[] ⟨caps.toList.map a.eval⟩, w, _, ?_, .inl rfl, m', ?_, ⟨fun r => (t'.env r).imp id (.imp id fun h => by cases h), t'.size, t'.keep⟩⟩
    · simp only [execOp, ho, Instr.makeFunc, Sem.run_bind, Sem.run_pure, Result.andThen_ok, Array.map_empty, e1]
    · exact .clo _ f cs _ hc.1 fun i h1 h2 => hc.2 i _ _ (List.getElem?_eq_getElem h1) (List.getElem?_eq_getElem h2)
  all_goals exact h.elim
end Go.Proofs.Ytapcbkcnokoljaa
