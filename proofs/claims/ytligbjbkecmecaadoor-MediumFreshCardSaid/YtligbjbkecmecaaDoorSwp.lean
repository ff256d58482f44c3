/- Code: the evaluator of a whole body, its law, and how a contract is proved by it. -/
import Derived.Test.YtligbjbkecmecaaDoorRg
import Derived.Scope
namespace Go.Proofs.YtligbjbkecmecaaDoor
set_option linter.unusedVariables false
set_option linter.unusedSimpArgs false
open Go.RowKit
variable {P : Program} {T : Nat → Option TI} {G : Nat → CT → Prop}

/-- A loop that goes at most n rounds, round by round. -/
def unrollQ (F : St → Ks → Prop) : Nat → St → Ks → Prop
  | 0, _, _ => False
  | n + 1, s, K => F s ⟨fun s' => unrollQ F n s' K, K.r, K.e⟩
structure LoopQ (T : Nat → Option TI) (F : St → Ks → Prop) (s : St) (K : Ks) : Prop where
  h : (∃ n, unrollQ F n s K) ∨ ∃ (A : Type) (I : A → Prop) (μ : A → Nat) (f : A → St) (R : A → St → St → Prop), (∀ i s s', R i s s' → Sub T s s') ∧ (∃ i, I i ∧ R i s (f i)) ∧ ∀ i, I i → F (f i) ⟨fun s' => ∃ j, I j ∧ μ j < μ i ∧ R j s' (f j), K.r, K.e⟩

/-- A variable made at the temporary 0 (its id cannot be 0). -/
def zOp (ops : List Oper) : Option Oper := match ops with
  | [o] => (match o.dst, o.guard, o.op with
    | some 0, none, .alloc _ => some o
    | _, _, _ => none)
  | _ => none
noncomputable def zst (T : Nat → Option TI) (o : Oper) (s : St) (k : St → Prop) : Prop :=
  mval T (newId s.mem) o.op s.ev (fun _ => .no) (fun x U => if isNo (getM s.mem (newId s.mem)) && noref.norefs (newId s.mem) s.slots && memNoref (newId s.mem) s.mem then k (nxt o s x U) else False)
theorem newId_ge : ∀ m : Mem, 1000 ≤ newId m
  | [] => Nat.le_refl _
  | (k, b) :: m => by
    have := newId_ge m
    simp only [newId, nblt]
    split <;> omega
theorem zst_sound (tab : Tab P T) {id : Nat} {ops : Array Oper} {o : Oper} (ho : zOp ops.toList = some o) {N : Nat → Prop} {w0 : World} {X : Nat → Prop} {z : Anc} {s : St} {k : St → Prop} {Q : Exit → Act → World → Prop} {a : Act} {w : World} {ρ : Env}
    (h : zst T o s k) (hr : Rep T N w0 X z s a w ρ) (hQ : ∀ s a w ρ, k s → Rep T N w0 X z s a w ρ → Q .normal a w) (hfx : ∀ o ∈ ops.toList, ∀ q, o.dst = some q → z.fx q = none) (ro : Option Nat) (nn : Nat) : (Code.region id ops false).wpIn (FR ro) nn P Q a w := by
  have hops : ops.toList = [o] ∧ o.guard = none := by
    unfold zOp at ho
    split at ho
    · rename_i o' he
      split at ho
      · rename_i h1 h2 h3
        injection ho with ho
        subst ho
        exact ⟨he, h2⟩
      · cases ho
    · cases ho
  refine wpIn_region_list ?_
  rw [hops.1]
  unfold wpListIn
  have hg : gd ops o s = some true := by unfold gd; rw [hops.2]
  rw [wanted_gd hr hg, if_pos rfl]
  obtain ⟨x, U, hx, hU, he⟩ := mval_ok (P := P) tab.tys tab.sz tab.z h
  split at hx
  case isFalse => exact hx.elim
  rename_i hc
  simp only [Bool.and_eq_true] at hc
  have f2 : getM s.mem (newId s.mem) = .no := by
    have := hc.1.1
    cases hm : getM s.mem (newId s.mem) <;> simp_all [isNo]
  have n0 := newId_ge s.mem
  refine he.h s.mem (fun q => .inl rfl) (fun d hd => ?_) a N w0 w X ρ hr.m (fun y hy => hr.ev y) _ Q (fun u w' ρ' m' hx' t => ?_) ro nn
  · injection hd with hd
    subst hd
    exact ⟨f2, hc.2, fun y hy => noref_ev hc.1.2 y⟩
  · unfold wpListIn
    refine hQ _ _ _ _ hx (hr.put m' hx' t (fun q hq k => ?_) (fun h0 => ?_) (hfx o (by rw [hops.1]; simp)))
    · injection hq with hq
      subst hq
      exact norefs_getN hc.1.2 k
    · injection h0 with h0
      omega

/-! ### Literals of slices as variables that lie in the call's own memory -/
def atomsE (e : Operand → SV) : Nat → List (Nat × Operand) → Option (List SV)
  | _, [] => some []
  | k, (i, x) :: ps => if Nat.beq i k && atomB (e x) then (match atomsE e (k + 1) ps with | some l => some (e x :: l) | none => none) else none
theorem atomsE_some {e : Operand → SV} : ∀ (ps : List (Nat × Operand)) (k : Nat) (l : List SV), atomsE e k ps = some l →
    l.length = ps.length ∧ ps = ((ps.map (·.2)).zipIdx k).map (fun p => (p.2, p.1)) ∧ ∀ (q : Nat) (p : Nat × Operand), ps[q]? = some p → l[q]? = some (e p.2) ∧ atomB (e p.2) = true
  | [], k, l, h => by
    simp only [atomsE] at h
    injection h with h; subst h
    exact ⟨rfl, rfl, fun q p h => by simp at h⟩
  | (i, x) :: ps, k, l, h => by
    simp only [atomsE] at h
    split at h <;> try (cases h; done)
    rename_i hc
    simp only [Bool.and_eq_true] at hc
    have hi : i = k := Nat.eq_of_beq_eq_true hc.1
    subst hi
    cases h1 : atomsE e (i + 1) ps with
    | none => rw [h1] at h; cases h
    | some l' =>
      rw [h1] at h
      injection h with h; subst h
      obtain ⟨a1, a2, a3⟩ := atomsE_some ps (i + 1) l' h1
      refine ⟨by simp [a1], ?_, fun q p hq => ?_⟩
      · simp only [List.map_cons, List.zipIdx_cons, List.cons.injEq, true_and]
        exact a2
      · cases q with
        | zero => simp at hq; subst hq; exact ⟨rfl, hc.2⟩
        | succ q => exact a3 q p (by simpa using hq)
theorem lit_chunk (tys : Types P T) (sz : Sizes T) {o : Oper} {t n tt : Nat} {ps : Array (Nat × Operand)} (ho : o.op = .buildSlice t n ps) {i j it : TI} {el : Nat} (ht : T t = some i) (hk : i.kind = .slice el) (he : T el = some j) (hj : none = j.shape) (hit : T tt = some it) (h1 : it.size = n) (h2 : it.shape = some n)
    (hn : n ≤ 1000) (c1 : ps.toList.length = n) {e : Operand → SV} {μ : Nat → Blk} {l : List SV} {d : Nat} (hl : atomsE e 0 ps.toList = some l) : Eff P T o e μ (.rsl d none 0 n (some n)) [(d, .chunk tt (.agg l))] (some d) := by
  obtain ⟨l1, l2, l3⟩ := atomsE_some ps.toList 0 l hl
  have tok := tys.ok t i ht
  have tj := tys.ok el j he
  have hjs : j.size = 1 := by rw [TI.wid_size (sz.one _ _ he), ← hj]; rfl
  refine .of_run fun mem hμ hcr a N w0 w X ρ m hd => ?_
  obtain ⟨hno, hnr, hnop⟩ := hcr d rfl
  have hmem : ∀ p ∈ ps.toList, p.2 ∈ o.op.operands := by
    intro p hp
    rw [ho]
    simp only [Op.operands]
    exact List.mem_toArray.2 (List.mem_map.2 ⟨p, hp, rfl⟩)
  obtain ⟨z, hz, _, hzs, hz1, _⟩ := tj.zero_run
  have hone : ∀ p ∈ ps.toList, (a.eval p.2).oneCell' = true := by
    intro p hp
    obtain ⟨q, hq⟩ := List.mem_iff_getElem?.1 hp
    exact (hd p.2 (hmem p hp)).one (l3 q p hq).2
  have hvs : ∀ v ∈ ps.toList.map (fun p => a.eval p.2), v.cells.size = j.size ∧ ∀ u ∈ v.cells.toList, u.oneCell' = true := by
    intro v hv
    obtain ⟨p, hp, rfl⟩ := List.mem_map.1 hv
    rw [one_cells (hone p hp), hjs]
    exact ⟨rfl, fun u hu => by simp at hu; subst hu; exact hone p hp⟩
  have hsz0 : ((Array.range (n * j.size)).map (z.cells[· % z.cells.size]!)).size = n * j.size := by simp
  obtain ⟨R, r1, r2, _, r4, r5⟩ := fill_seq j.size (ps.toList.map fun p => a.eval p.2) 0 ((Array.range (n * j.size)).map (z.cells[· % z.cells.size]!)) (fun v hv => (hvs v hv).1) (by rw [hsz0, List.length_map, c1, Nat.zero_add]; exact Nat.le_refl _)
    (made_one hz1 (by omega) _) (fun v hv => (hvs v hv).2)
  have hparts : (ps.map fun (x : Nat × Operand) => (x.1, a.eval x.2)).toList = ((ps.toList.map fun p => a.eval p.2).zipIdx 0).map (fun p => (p.2, p.1)) := by
    rw [Array.toList_map]
    conv => lhs; rw [l2]
    simp only [List.map_map, List.zipIdx_map]
    rfl
  have hlen : l.length = n := by rw [l1, c1]
  have hRs : R.size = n := by rw [r2, hsz0, hjs, Nat.mul_one]
  have hcell : ∀ (q : Nat) (p : Nat × Operand), ps.toList[q]? = some p → R[q]? = some (a.eval p.2) := by
    intro q p hp
    have hg := r4 q (a.eval p.2) (by rw [List.getElem?_map, hp]; rfl) 0 (by omega)
    rw [hjs, one_cells (hone p (List.mem_of_getElem? hp))] at hg
    simpa using hg
  have hbel : Below w.heap.size w (w.alloc (.cells R el)) := (Below.refl _ _).alloc (Nat.le_refl _) _
  obtain ⟨m', t'⟩ := m.create (w' := w.alloc (.cells R el)) hno hnr (B := .chunk tt (.agg l)) (v := .pointer (some ⟨w.heap.size, 0, none⟩)) (fun b hb => by simp only [vblock] at hb; injection hb with hb; subst hb; exact ⟨Nat.le_refl _, by show _ < (w.heap.push _).size; simp⟩) hbel
    (fun ht' => ⟨it, w.heap.size, R, el, hit, rfl, m.szN _ (Nat.le_refl _), heap_alloc_new w _, by rw [hRs, h1], r5, by
      rw [h2, valAt_some_full (by rw [Array.length_toList]; omega)]
      refine Den.agg_iff.2 ⟨R.toList, rfl, by rw [hlen, Array.length_toList, hRs], fun q x u hx hu => ?_⟩
      have hq : q < ps.toList.length := by
        obtain ⟨hq, _⟩ := List.getElem?_eq_some_iff.1 hx
        omega
      obtain ⟨g1, g2⟩ := l3 q _ (List.getElem?_eq_getElem hq)
      rw [hx] at g1
      injection g1 with g1
      subst g1
      have g3 := hcell q _ (List.getElem?_eq_getElem hq)
      rw [Array.getElem?_toList, g3] at hu
      injection hu with hu
      subst hu
      exact ht'.den (fun r hr => by injection hr with hr; subst hr; exact hnop _ (hmem _ (List.getElem_mem hq))) (hd _ (hmem _ (List.getElem_mem hq)))⟩)
  refine ⟨.value (.slice (some ⟨w.heap.size, 0, none⟩) n n), .slice (some ⟨w.heap.size, 0, none⟩) n n, _, _, ?_, .inl rfl, m', ?_, t'⟩
  rotate_left
  · refine Den.rsl _ d none 0 n (some n) (some ⟨w.heap.size, 0, none⟩) n (Nat.le_refl _) fun q hq => .inr ⟨w.heap.size, ?_, rfl, .inr rfl, fun m hm => by injection hm⟩
    simp only [upd, if_true] at hq
    injection hq with hq
    exact hq.symm
  · rw [← hparts] at r1
    have hn0 : ¬ n * j.size > 2 ^ 24 := by rw [hjs]; omega
    simp only [execOp, ho, Instr.buildSlice, Sem.run_bind, run_underlying (tok.und_slice hk), Result.andThen_ok, tj.sizeOf, if_neg hn0]
    by_cases h0 : n * j.size = 0
    · have e3 : ∀ (f g : Nat → Value), (Array.range (n * j.size)).map f = (Array.range (n * j.size)).map g := fun f g => by rw [h0]; simp
      rw [e3 _ ((#[] : Array Value)[· % (#[] : Array Value).size]!)] at r1
      simp only [if_pos h0, Sem.run_bind, Sem.run_pure, Result.andThen_ok, r1, newRow, run_newObj]
      rfl
    · simp only [if_neg h0, Sem.run_bind, Sem.run_pure, Result.andThen_ok, hz, r1, newRow, run_newObj]
      rfl
noncomputable def litB (T : Nat → Option TI) (tt : Nat) : List Oper → St → (St → Prop) → Prop
  | [], s, k => k s
  | o :: os, s, k => match o.guard, o.dst, o.op with
    | none, some _, .assign x => litB T tt os (nxt o s (s.ev x) []) k
    | none, some d, .buildSlice t n ps => (match T t with
      | some i => (match i.kind with
        | .slice el => (match T el, T tt, atomsE s.ev 0 ps.toList with
          | some j, some it, some l => if (shEq none j.shape && (Nat.beq it.size n && shEq it.shape (some n))) && ((Nat.ble n 1000 && Nat.beq ps.toList.length n) && (!(Nat.beq d 0) && (isNo (getM s.mem d) && (noref.norefs d s.slots && memNoref d s.mem)))) then litB T tt os (nxt o s (.rsl d none 0 n (some n)) [(d, .chunk tt (.agg l))]) k else False
          | _, _, _ => False)
        | _ => False)
      | none => False)
    | _, _, _ => False
/-- A region that makes a literal of slices, and nothing else. -/
def litA (T : Nat → Option TI) : List Oper → Bool
  | [] => true
  | o :: os => (match o.guard, o.op with
    | none, .assign _ => true
    | none, .buildSlice _ _ _ => true
    | _, _ => false) && litA T os
def litS (T : Nat → Option TI) : List Oper → Bool
  | [] => false
  | o :: os => (match o.op with
    | .buildSlice t _ _ => (match T t with
      | some i => (match i.kind with
        | .slice el => (match T el with
          | some j => (match j.kind with | .slice _ => true | _ => false)
          | none => false)
        | _ => false)
      | none => false)
    | _ => false) || litS T os
structure LitQ (k : Nat → Prop) : Prop where
  h : ∃ tt, k tt
theorem litq {k : Nat → Prop} (tt : Nat) (h : k tt) : LitQ k := ⟨⟨tt, h⟩⟩
theorem litB_sound (tab : Tab P T) {tt : Nat} {all : Array Oper} {N : Nat → Prop} {w0 : World} {X : Nat → Prop} {z : Anc} {k : St → Prop} {Q : Exit → Act → World → Prop} (hQ : ∀ s a w ρ, k s → Rep T N w0 X z s a w ρ → Q .normal a w) (ro : Option Nat) (nn : Nat) :
    ∀ (l : List Oper) (s : St) (a : Act) (w : World) (ρ : Env), litB T tt l s k → Rep T N w0 X z s a w ρ → (∀ o ∈ l, ∀ q, o.dst = some q → z.fx q = none) → wpListIn (FR ro) nn P all Q l a w
  | [], s, a, w, ρ, h, hr, _ => hQ s a w ρ h hr
  | o :: l, s, a, w, ρ, h, hr, hfx => by
    have hg : o.guard = none → gd all o s = some true := fun h => by unfold gd; rw [h]
    unfold litB at h
    split at h <;> try exact h.elim
    · rename_i d x hgd hdst hop
      unfold wpListIn
      rw [wanted_gd hr (hg hgd), if_pos rfl]
      have he : Eff P T o s.ev (fun _ => .no) (s.ev x) [] none := .of_run fun mem hμ hcr a N w0 w X ρ m hd => ⟨.value (a.eval x), a.eval x, w, ρ, by simp [execOp, hop], .inl rfl, m, hd x (by rw [hop]; simp [Op.operands]), Turn.refl _ _ _ _⟩
      refine he.h s.mem (fun q => .inl rfl) (fun d hd => by cases hd) a N w0 w X ρ hr.m (fun y hy => hr.ev y) _ Q (fun u w' ρ' m' hx' t => ?_) ro nn
      exact litB_sound tab hQ ro nn l _ _ _ _ h (hr.put m' hx' t (fun q hq => by cases hq) (fun h0 => by cases h0) (hfx o (by simp))) fun p hp => hfx p (by simp [hp])
    · rename_i d t n ps hgd hdst hop
      split at h <;> try exact h.elim
      rename_i i ht
      split at h <;> try exact h.elim
      rename_i el hk
      split at h <;> try exact h.elim
      rename_i j it as' hel hit hat
      split at h <;> try exact h.elim
      rename_i hc
      simp only [Bool.and_eq_true, Bool.not_eq_true'] at hc
      obtain ⟨⟨c1, c2, c3⟩, ⟨c4, c5⟩, c6, c7, c8, c9⟩ := hc
      have f2 : getM s.mem d = .no := by cases hm : getM s.mem d <;> simp_all [isNo]
      have f6 : d ≠ 0 := by intro h0; subst h0; simp at c6
      unfold wpListIn
      rw [wanted_gd hr (hg hgd), if_pos rfl]
      have he := lit_chunk (P := P) tab.tys tab.sz hop ht hk hel (shEq_eq c1) hit (Nat.eq_of_beq_eq_true c2) (shEq_eq c3) (Nat.le_of_ble_eq_true c4) (Nat.eq_of_beq_eq_true c5) (μ := fun _ => .no) (d := d) hat
      refine he.h s.mem (fun q => .inl rfl) (fun d' hd => ?_) a N w0 w X ρ hr.m (fun y hy => hr.ev y) _ Q (fun u w' ρ' m' hx' t => ?_) ro nn
      · injection hd with hd
        subst hd
        exact ⟨f2, c9, fun y hy => noref_ev c8 y⟩
      · exact litB_sound tab hQ ro nn l _ _ _ _ h (hr.put m' hx' t (fun q hq k => by injection hq with hq; subst hq; exact norefs_getN c8 k) (fun h0 => by injection h0 with h0; exact f6 h0) (hfx o (by simp))) fun p hp => hfx p (by simp [hp])

/-! ### A region whose calls may look at matrices of the call's own -/
def isMat (o : Oper) (s : St) : Bool :=
  match o.guard, o.op with
  | none, .call c => (match c.callee, c.args.toList with
    | .value _, x :: _ => (match s.ev x with | .rsl q none 0 _ _ => isChk (getM s.mem q) | _ => false)
    | _, _ => false)
  | _, _ => false
noncomputable def matOp (T : Nat → Option TI) (G : Nat → CT → Prop) (o : Oper) (s : St) (κ : St → Prop) : Prop :=
  match o.op with
  | .call c => (match calleeOf s.ev c.callee with
    | some (f, caps) => altK T G f c.argTypes.toList (c.args.toList.map s.ev) caps (getM s.mem) (fun x U _ => κ (nxt o s x U))
    | none => False)
  | _ => False
noncomputable def opsW (T : Nat → Option TI) (G : Nat → CT → Prop) (all : Array Oper) : List Oper → St → (St → Prop) → Prop
  | [], s, k => k s
  | o :: l, s, k => if isMat o s then matOp T G o s (fun s => opsW T G all l s k) else opG T G [] all o s (fun _ s => opsW T G all l s k)
theorem opsW_sound (tab : Tab P T) (hG : ∀ f c, G f c → ACall P T f c) {all : Array Oper} {N : Nat → Prop} {w0 : World} {X : Nat → Prop} {z : Anc} {k : St → Prop} {Q : Exit → Act → World → Prop}
    (ro : Option Nat) (nn : Nat) (hQ : ∀ s a w ρ, k s → Rep T N w0 X z s a w ρ → Q .normal a w) : ∀ (l : List Oper) (s : St) (a : Act) (w : World) (ρ : Env), opsW T G all l s k → Rep T N w0 X z s a w ρ → (∀ o ∈ l, ∀ q, o.dst = some q → z.fx q = none) → wpListIn (FR ro) nn P all Q l a w
  | [], s, a, w, ρ, h, hr, _ => hQ s a w ρ h hr
  | o :: l, s, a, w, ρ, h, hr, hfx => by
    unfold opsW at h
    split at h
    · rename_i hm
      have hgd : o.guard = none := by
        unfold isMat at hm
        split at hm
        · rename_i h1 _; exact h1
        · cases hm
      have hg : gd all o s = some true := by unfold gd; rw [hgd]
      unfold matOp at h
      split at h <;> try exact h.elim
      rename_i c hop
      obtain ⟨cal, args, ats⟩ := c
      split at h <;> try exact h.elim
      rename_i f caps hcal
      obtain ⟨x, U, cr, hk, _, hcr, he⟩ := altK_ok hG hop (d := none) hcal h
      have hcr : cr = none := by
        cases hc : cr with
        | none => rfl
        | some k => have := hcr k hc; cases this
      subst hcr
      unfold wpListIn
      rw [wanted_gd hr hg, if_pos rfl]
      refine he.h s.mem (sees_all _) (fun d hd => by cases hd) a N w0 w X ρ hr.m (fun y hy => hr.ev y) _ Q (fun u w' ρ' m' hx' t => ?_) ro nn
      exact opsW_sound tab hG ro nn hQ l _ _ _ _ hk (hr.put m' hx' t (fun q hq => by cases hq) (fun h0 => by cases h0) (hfx o (by simp))) fun p hp => hfx p (by simp [hp])
    · obtain ⟨x, U, cr, f, h1, _, _, h2⟩ := opG_res tab hG h
      have := h1.sound hr (K := wpListIn (FR ro) nn P all Q l) (Q := Q) (fun a' w' ρ' hr' => opsW_sound tab hG ro nn hQ l _ a' w' ρ' h2 hr' (fun p hp => hfx p (by simp [hp]))) (hfx o (by simp)) ro nn
      unfold Step1 at this
      unfold wpListIn
      exact this
noncomputable def regW (T : Nat → Option TI) (G : Nat → CT → Prop) (ops : Array Oper) (d : Bool) (s : St) (k : St → Prop) : Prop :=
  if d then drawG T G ops (prepO T ops.toList s) k else (match zOp ops.toList with
    | some o => zst T o s k
    | none => opsW T G ops ops.toList (prepO T ops.toList s) k)
noncomputable def swp (T : Nat → Option TI) (G : Nat → CT → Prop) : Code → St → Ks → Prop
  | .skip, s, K => K.n s
  | .ret, s, K => K.r s
  | .region _ ops d, s, K => if hasMk ops.toList then Chp (fun _ => regW T G ops d (prepA T ops.toList s) K.n) (fun _ => regW T G ops d (prepB T ops.toList s) K.n) else if !d && (litS T ops.toList && litA T ops.toList) then Chp (fun _ => regW T G ops d s K.n) (fun _ => LitQ (fun tt => litB T tt ops.toList s K.n)) else regW T G ops d s K.n
  | .seq a b, s, K => swp T G a s ⟨fun s => swp T G b s K, K.r, K.e⟩
  | .cond c a b, s, K => (match s.ev c with
    | .bool t => br t (fun _ => swp T G a s K) (fun _ => swp T G b s K)
    | _ => False)
  | .block id c, s, K => swp T G c s ⟨K.n, K.r, fun i s => if Nat.beq i id then K.n s else K.e i s⟩
  | .exit id, s, K => K.e id s
  | .label _, s, K => K.n s
  | .scope c, s, K => swp T G c s K
  | .loop c, s, K => LoopQ T (fun s K => swp T G c s K) s K
  | .rangeFunc f ps a b, s, K => (match s.ev f with
    | .clo f caps => RangeQ T G (fun s K => swp T G a s K) (fun s K => swp T G b s K) (ps.toList ++ (assignedC a ++ assignedC b)) ps.toList f caps s K
    | _ => False)
  | _, _, _ => False

/-- No loop over a function stands in it. -/
def noRange : Code → Bool
  | .seq a b => noRange a && noRange b
  | .cond _ a b => noRange a && noRange b
  | .block _ c => noRange c
  | .scope c => noRange c
  | .loop c => noRange c
  | .rangeFunc _ _ _ _ => false
  | _ => true
def codeOk : Code → Bool
  | .region _ ops true => regOk ops
  | .seq a b => codeOk a && codeOk b
  | .cond _ a b => codeOk a && codeOk b
  | .block _ c => codeOk c
  | .scope c => codeOk c
  | .loop c => codeOk c
  | .rangeFunc _ _ a b => codeOk a && codeOk b && noRange a && noRange b
  | _ => true

theorem wp_loop_ix {F : Fence} {n : Nat} {c : Code} {A : Type} {Q : Exit → Act → World → Prop} (I : A → Act → World → Prop) (μ : A → Nat)
    (round : ∀ i a w, I i a w → c.wpIn F n P (Exit.then (fun a' w' => ∃ j, I j a' w' ∧ μ j < μ i) Q) a w) : ∀ i a w, I i a w → (Code.loop c).wpIn F n P Q a w := by
  intro i a w hI b k cs hro hb hr
  have key : ∀ n i a w, μ i = n → I i a w → ∃ e a' w', Q e a' w' ∧ ArrivesIn (Machine.fenced P F) P (lone (b.atR a (.code c :: .inLoop c :: k)) cs w) b k cs e a' w' := by
    intro m
    induction m using Nat.strongRecOn with
    | _ m ih =>
      intro i a w hn hI
      obtain ⟨e, a₁, w₁, hq, harr⟩ := round i a w hI b (.inLoop c :: k) cs hro hb hr
      cases e with
      | normal =>
        obtain ⟨j, hI₁, hlt⟩ := hq
        obtain ⟨e₂, a₂, w₂, hq₂, harr₂⟩ := ih (μ j) (hn ▸ hlt) j a₁ w₁ rfl hI₁
        exact ⟨e₂, a₂, w₂, hq₂, .of_steps (StepsIn.trans harr (.one (fenced_calm hb hr rfl) stepR_inLoop)) harr₂⟩
      | exit id => exact ⟨_, a₁, w₁, hq, .pass (x := .inLoop c) rfl (fun _ _ => .inl (by simp)) harr⟩
      | goto l => exact ⟨_, a₁, w₁, hq, .pass (x := .inLoop c) rfl (fun _ _ => .inl (by simp)) harr⟩
      | ret => exact ⟨_, a₁, w₁, hq, .pass (x := .inLoop c) rfl (fun _ _ => .inl (by simp)) harr⟩
      | panic ch => exact ⟨_, a₁, w₁, hq, .pass (x := .inLoop c) rfl (fun _ _ => .inl (by simp)) harr⟩
      | outgrown => exact ⟨_, a₁, w₁, hq, .pass (x := .inLoop c) rfl (fun _ _ => .inl (by simp)) harr⟩
  obtain ⟨e, a', w', hq, harr⟩ := key _ i a w rfl hI
  exact ⟨e, a', w', hq, .of_steps (.one (fenced_calm hb hr rfl) stepR_loop) harr⟩

theorem stepR_scope {b : Frame} {a : Act} {k : List Item} {cs : List Frame} {w : World} {c : Code} : step P (lone (b.atR a (.code (.scope c) :: k)) cs w) = .next (lone (b.atR a (.code c :: .inScope c :: k)) cs w) :=
  step_lone_go (by simp [stepG, stepG.exec, Frame.atR])
theorem stepR_inScope {b : Frame} {a : Act} {k : List Item} {cs : List Frame} {w : World} {c : Code} : step P (lone (b.atR a (.inScope c :: k)) cs w) = .next (lone (b.atR a k) cs w) :=
  step_lone_go (by simp [stepG, stepG.exec, Frame.atR])
theorem wpIn_scope_straight {F : Fence} {n : Nat} {Q : Exit → Act → World → Prop} {a : Act} {w : World} {c : Code} (h : c.wpIn F n P (Exit.noGoto Q) a w) : (Code.scope c).wpIn F n P Q a w := by
  intro b k cs hro hb hr
  have h0 : (lone (b.atR a (.code (.scope c) :: k)) cs w).fenced P F := fenced_calm hb hr rfl
  obtain ⟨e, a₁, w₁, hq, harr⟩ := h b (.inScope c :: k) cs hro hb hr
  cases e with
  | normal => exact ⟨.normal, a₁, w₁, hq, .head h0 stepR_scope (StepsIn.trans harr (.one (fenced_calm hb hr rfl) stepR_inScope))⟩
  | exit id =>
    have hx : exitTo id (.inScope c :: k) = exitTo id k := by simp [exitTo]
    exact ⟨.exit id, a₁, w₁, hq, fun k' hk => .head h0 stepR_scope (harr.1 k' (by rw [hx]; exact hk)),
      fun hr' hk => let ⟨k₁, h1, h2⟩ := harr.2 hr' (by rw [hx]; exact hk); ⟨k₁, h1, .head h0 stepR_scope h2⟩⟩
  | goto l => exact hq.elim
  | ret => exact ⟨_, a₁, w₁, hq, .of_steps (.one h0 stepR_scope) harr⟩
  | panic ch => exact ⟨_, a₁, w₁, hq, .of_steps (.one h0 stepR_scope) harr⟩
  | outgrown => exact ⟨_, a₁, w₁, hq, .of_steps (.one h0 stepR_scope) harr⟩

theorem swp_sound (tab : Tab P T) (hG : ∀ f c, G f c → ACall P T f c) (hmix : P.follows .mixedOrders = true) : ∀ (c : Code) (N : Nat → Prop) (w0 : World) (X : Nat → Prop) (z : Anc) (s : St) (K : Ks) (Q : Exit → Act → World → Prop) (a : Act) (w : World) (ρ : Env),
    codeOk c = true → swp T G c s K → Rep T N w0 X z s a w ρ → (∀ s a w ρ, K.n s → Rep T N w0 X z s a w ρ → Q .normal a w) → (∀ s a w ρ, K.r s → Rep T N w0 X z s a w ρ → Q .ret a w) →
    (∀ i s a w ρ, K.e i s → Rep T N w0 X z s a w ρ → Q (.exit i) a w) → (∀ q ∈ assignedC c, z.fx q = none) → ∀ (ro : Option Nat) (nn : Nat), ((ro = none ∧ z.nd = false) ∨ noRange c = true) → c.wpIn (FR ro) nn P Q a w := by
  intro c
  induction c with
  | skip => intro N w0 X z s K Q a w ρ _ h hr hn _ _ _ ro nn _; exact wpIn_skip (hn s a w ρ h hr)
  | ret => intro N w0 X z s K Q a w ρ _ h hr _ hret _ _ ro nn _; exact wpIn_ret (hret s a w ρ h hr)
  | region id ops draw =>
    intro N w0 X z s K Q a w ρ hok h hr hn _ _ hfx ro nn _
    have hfx' : ∀ o ∈ ops.toList, ∀ q, o.dst = some q → z.fx q = none := fun o ho q hq => hfx q (dstsL_mem ho hq)
    have go : ∀ {s : St} {ρ : Env}, regW T G ops draw s K.n → Rep T N w0 X z s a w ρ → (Code.region id ops draw).wpIn (FR ro) nn P Q a w := by
      intro s ρ h hr
      obtain ⟨ρ1, hr1⟩ := (prepO_sub (T := T) ops.toList s).h _ _ _ _ _ _ _ hr
      unfold regW at h
      cases draw
      · simp only [Bool.false_eq_true, if_false] at h
        split at h
        · rename_i o ho; exact zst_sound tab ho h hr hn hfx' ro nn
        · exact wpIn_region_list (opsW_sound tab hG ro nn hn _ _ _ _ _ h hr1 hfx')
      · simp only [if_true] at h
        exact reg_draw tab hG hmix hok h hr1 hn hfx' ro nn
    simp only [swp] at h
    split at h
    · rcases h.h with h | h
      · obtain ⟨ρ2, hr2⟩ := (prepA_sub (T := T) ops.toList s).h _ _ _ _ _ _ _ hr
        exact go h hr2
      · obtain ⟨ρ2, hr2⟩ := (prepB_sub (T := T) ops.toList s).h _ _ _ _ _ _ _ hr
        exact go h hr2
    · split at h
      · rename_i hcl
        simp only [Bool.and_eq_true, Bool.not_eq_true'] at hcl
        rcases h.h with h | h
        · exact go h hr
        · obtain ⟨tt, h⟩ := h.h
          rw [hcl.1]
          exact wpIn_region_list (litB_sound tab hn ro nn _ _ _ _ _ h hr hfx')
      · exact go h hr
  | seq x y ihx ihy =>
    intro N w0 X z s K Q a w ρ hok h hr hn hret he hfx ro nn hro
    simp only [codeOk, Bool.and_eq_true] at hok
    have h1 : (ro = none ∧ z.nd = false) ∨ noRange x = true := hro.imp id fun h => by simp only [noRange, Bool.and_eq_true] at h; exact h.1
    have h2 : (ro = none ∧ z.nd = false) ∨ noRange y = true := hro.imp id fun h => by simp only [noRange, Bool.and_eq_true] at h; exact h.2
    exact wpIn_seq (ihx N w0 X z s _ (Exit.then (y.wpIn (FR ro) nn P Q) Q) a w ρ hok.1 h hr (fun s a w ρ h hr => ihy N w0 X z s K Q a w ρ hok.2 h hr hn hret he (fun q hq => hfx q (by simp [assignedC, hq])) ro nn h2) hret he (fun q hq => hfx q (by simp [assignedC, hq])) ro nn h1)
  | cond c x y ihx ihy =>
    intro N w0 X z s K Q a w ρ hok h hr hn hret he hfx ro nn hro
    simp only [codeOk, Bool.and_eq_true] at hok
    have h1 : (ro = none ∧ z.nd = false) ∨ noRange x = true := hro.imp id fun h => by simp only [noRange, Bool.and_eq_true] at h; exact h.1
    have h2 : (ro = none ∧ z.nd = false) ∨ noRange y = true := hro.imp id fun h => by simp only [noRange, Bool.and_eq_true] at h; exact h.2
    simp only [swp] at h
    have hev := hr.ev c
    split at h
    · rename_i t ht
      rw [ht, Den.bool_iff] at hev
      cases t
      · exact wpIn_cond hev (ihy N w0 X z s K Q a w ρ hok.2 h hr hn hret he (fun q hq => hfx q (by simp [assignedC, hq])) ro nn h2)
      · exact wpIn_cond hev (ihx N w0 X z s K Q a w ρ hok.1 h hr hn hret he (fun q hq => hfx q (by simp [assignedC, hq])) ro nn h1)
    · exact h.elim
  | block id c ih =>
    intro N w0 X z s K Q a w ρ hok h hr hn hret he hfx ro nn hro
    refine wpIn_block (ih N w0 X z s _ (Exit.inBlock id Q) a w ρ hok h hr hn hret (fun i s a w ρ h hr => ?_) hfx ro nn hro)
    simp only [Exit.inBlock]
    by_cases hi : i = id
    · subst hi
      rw [if_pos rfl]
      simp at h
      exact hn s a w ρ h hr
    · rw [if_neg hi]
      have hb : Nat.beq i id = false := by
        cases hb : Nat.beq i id
        · rfl
        · exact absurd (Nat.eq_of_beq_eq_true hb) hi
      have h' : (if Nat.beq i id = true then K.n s else K.e i s) := h
      rw [hb] at h'
      exact he i s a w ρ h' hr
  | exit id => intro N w0 X z s K Q a w ρ _ h hr _ _ he _ ro nn _; exact wpIn_exit (he id s a w ρ h hr)
  | loop c ih =>
    intro N w0 X z s K Q a w ρ hok h hr hn hret he hfx ro nn hro
    rcases h.h with ⟨n, hu⟩ | ⟨A, I, μ, f, R, hR, ⟨i, hI, hs⟩, hround⟩
    · refine wp_loop_ix (fun (i : Nat) a w => ∃ s ρ, unrollQ (fun s K => swp T G c s K) i s K ∧ Rep T N w0 X z s a w ρ) id (fun i a w ⟨s, ρ, hu, hr⟩ => ?_) n a w ⟨s, ρ, hu, hr⟩
      cases i with
      | zero => exact hu.elim
      | succ m => exact ih N w0 X z s _ (Exit.then (fun a' w' => ∃ j, (∃ s ρ, unrollQ (fun s K => swp T G c s K) j s K ∧ Rep T N w0 X z s a' w' ρ) ∧ id j < id (m + 1)) Q) a w ρ hok hu hr (fun s a w ρ h hr => ⟨m, ⟨s, ρ, h, hr⟩, Nat.lt_succ_self m⟩) hret he hfx ro nn hro
    obtain ⟨ρ', hr'⟩ := (hR _ _ _ hs).h _ _ _ _ _ _ _ hr
    refine wp_loop_ix (fun i a w => I i ∧ ∃ ρ, Rep T N w0 X z (f i) a w ρ) μ (fun i a w ⟨hI, ρ, hr⟩ => ?_) i a w ⟨hI, ρ', hr'⟩
    refine ih N w0 X z (f i) _ (Exit.then (fun a' w' => ∃ j, (I j ∧ ∃ ρ, Rep T N w0 X z (f j) a' w' ρ) ∧ μ j < μ i) Q) a w ρ hok (hround i hI) hr (fun s a w ρ h hr => ?_) hret he hfx ro nn hro
    obtain ⟨j, hj, hlt, hsub⟩ := h
    obtain ⟨ρ'', hr''⟩ := (hR _ _ _ hsub).h _ _ _ _ _ _ _ hr
    exact ⟨j, ⟨hj, ρ'', hr''⟩, hlt⟩
  | rangeFunc f ps x y ihx ihy =>
    intro N w0 X z s K Q a w ρ hok h hr hn hret he hfx ro nn hro
    obtain ⟨rfl, hznd⟩ := hro.resolve_right (by simp [noRange])
    simp only [codeOk, Bool.and_eq_true] at hok
    simp only [swp] at h
    split at h
    · rename_i gf caps hev
      exact range_sound hG hr hev h (fun N w0 z s K Q a w ρ h hr hn hret he hfx l nn => ihx N w0 X z s K Q a w ρ hok.1.1.1 h hr hn hret he hfx (some l) nn (.inr hok.1.2))
        (fun N w0 z s K Q a w ρ h hr hn hret he hfx l nn => ihy N w0 X z s K Q a w ρ hok.1.1.2 h hr hn hret he hfx (some l) nn (.inr hok.2)) hn hret he nn hznd
    · exact h.elim
  | scope c ih =>
    intro N w0 X z s K Q a w ρ hok h hr hn hret he hfx ro nn hro
    exact wpIn_scope_straight (ih N w0 X z s K (Exit.noGoto Q) a w ρ hok h hr hn hret he hfx ro nn hro)
  | label l => intro N w0 X z s K Q a w ρ _ h hr hn _ _ _ ro nn _; exact wpIn_label (hn s a w ρ h hr)
  | goto l => intro N w0 X z s K Q a w ρ _ h; exact h.elim
  | refuse y => intro N w0 X z s K Q a w ρ _ h; exact h.elim

/-! ### Results -/
def resOne (T : Nat → Option TI) (s : St) : ResultVar → Option SV
  | .tmp k => some (getN .any s.slots k)
  | .cell k ty => (match getN .any s.slots k with
    | .ptr r o => (match getM s.mem r with
      | .chunk t' y => if Nat.beq o 0 && Nat.beq t' ty then some y else none
      | _ => none)
    | _ => none)
def resL (T : Nat → Option TI) (s : St) : List ResultVar → Option (List SV)
  | v :: vs => (match resOne T s v, resL T s vs with
    | some x, some xs => some (x :: xs)
    | _, _ => none)
  | [] => some []
/-- The parts of a result that is wanted. -/
def expE : SV → List SV
  | .tup l => l
  | x => [x]
/-- The thing that stands where the new thing is wanted. -/
def pickE : SV → SV → Option Nat
  | .row 1, .row q => some q
  | .ptr 1 _, .ptr q _ => some q
  | .agg es, .agg xs => pickEs es xs
  | .lsx _ es, .lsx _ xs => pickEs es xs
  | _, _ => none
where pickEs : List SV → List SV → Option Nat
  | e :: es, x :: xs => (match pickE e x with | some q => some q | none => pickEs es xs)
  | _, _ => none
def orId (a b : Option Nat) : Option Nat := match a with | some q => some q | none => b
def likeB (b c : Blk) : Bool := match b, c with
  | .row sh e _, .row sh' e' _ => shEq sh sh' && Nat.beq e e'
  | .chunk t _, .chunk t' _ => Nat.beq t t'
  | _, _ => false
def firstId (b : Blk) (m : Mem) : List Nat → Option Nat
  | [] => none
  | q :: l => if Nat.beq q 0 then firstId b m l else if likeB b (getM m q) then some q else firstId b m l
/-- A part of a result, where nw: the thing 1 is new. -/
noncomputable def fin1 (nw : Bool) (m : Mem) : SV → Option SV
  | .row r => if nw && Nat.beq r 1 then some (.row 1) else viewC (getM m) (.row r)
  | .rsl r sh a n c => if nw && Nat.beq r 1 then none else viewC (getM m) (.rsl r sh a n c)
  | .ptr r o => if nw && Nat.beq r 1 && Nat.beq o 0 then some (.ptr 1 0) else none
  | x => viewC (getM m) x
noncomputable def fin1s (nw : Bool) (m : Mem) : List SV → Option (List SV)
  | [] => some []
  | x :: l => (match fin1 nw m x, fin1s nw m l with
    | some y, some ys => some (y :: ys)
    | _, _ => none)
noncomputable def finX1 (nw : Bool) (m : Mem) : SV → Option SV
  | .agg l => (match fin1s nw m l with | some l => some (.agg l) | none => none)
  | x => fin1 nw m x
noncomputable def finXs (nw : Bool) (m : Mem) : List SV → Option (List SV)
  | [] => some []
  | x :: l => (match finX1 nw m x, finXs nw m l with
    | some y, some ys => some (y :: ys)
    | _, _ => none)
/-- A nil is taken for an empty list, unless a nil is wanted. -/
def normE (T : Nat → Option TI) (t : Nat) (e y : SV) : SV := match e with
  | .nil => y
  | _ => normNil T t y
theorem normE_den {w : World} {X : Nat → Prop} {ρ : Env} {t : Nat} {e x : SV} {v : Value} (h : Den w X ρ x v) : Den w X ρ (normE T t e x) v := by
  unfold normE
  split
  · exact h
  · exact normNil_den h
noncomputable def finV (T : Nat → Option TI) (nw : Bool) (m : Mem) (t : Nat) (e : SV) : SV → Option SV
  | .agg l => (match fin1s nw m l with | some l => some (.agg l) | none => none)
  | .lsx sh l => (match finXs nw m l with | some l => some (.lsx sh l) | none => none)
  | x => (match fin1 nw m x with | some y => some (normE T t e y) | none => none)
def hdE : List SV → SV
  | [] => .any
  | x :: _ => x
def tlE : List SV → List SV
  | [] => []
  | _ :: l => l
noncomputable def finL (T : Nat → Option TI) (nw : Bool) (m : Mem) : List Nat → List SV → List SV → Option (List SV)
  | t :: ts, es, x :: xs => (match finV T nw m t (hdE es) x, finL T nw m ts (tlE es) xs with
    | some y, some ys => some (y :: ys)
    | _, _ => none)
  | [], _, [] => some []
  | _, _, _ => none
def packR : List SV → SV
  | [x] => x
  | l => .tup l
/-- A body is at its end: the result, what is new, what was lent. -/
structure Fin (x r : SV) (b n : Blk) (l l' : Blk) : Prop where
  r : x = r
  n : b = n
  l : l = l'
def finS (s : St) : Option Nat → St
  | some q => if Nat.beq q 0 then s else swS 1 q s
  | none => s
/-- The state with what is new at 1. -/
def endS (T : Nat → Option TI) (vs : List ResultVar) (r : SV) (b : Blk) (s : St) : St :=
  if isNew b then (match resL T s vs with | some xs => finS s (orId (pickE.pickEs (expE r) xs) (firstId b s.mem (idsV.idsVs xs))) | none => s) else s
def lentE (l : Option (Nat × SV)) (m : Mem) : Blk := match l with | some _ => getM m 0 | none => .no
def retQ' (T : Nat → Option TI) (ts : List Nat) (vs : List ResultVar) (c : CT) (nw : Bool) (s : St) : Prop :=
  match resL T s vs with
  | some xs => (match finL T nw s.mem ts (expE c.r) xs with
    | some ys => Fin (packR ys) c.r (if nw then getM s.mem 1 else .no) c.new (lentE c.lent s.mem) (lentB' c.lent c.lent')
    | none => False)
  | none => False
/-- At the return the content of the lent variable is viewed. -/
noncomputable def lendS (T : Nat → Option TI) (l : Option (Nat × SV)) (s : St) : St := match l with | some _ => frzC T 0 s | none => s
theorem lendS_sub (l : Option (Nat × SV)) (s : St) : Sub T s (lendS T l s) := by
  unfold lendS
  split
  · exact frzC_sub 0 s
  · exact .refl s
/-- A row whose elements name ids is given up: nobody writes it any more. -/
def lsx1 (k : Nat) (s : St) : St := match getN .any s.slots k with
  | .row r => (match getM s.mem r with
    | .rown sh e l => ⟨setN (.lsx sh l) s.slots k, setM .no s.mem r⟩
    | _ => s)
  | _ => s
theorem lsx1_sub (k : Nat) (s : St) : Sub T s (lsx1 k s) := ⟨fun N w0 X z a w ρ hr => by
  unfold lsx1
  split
  case h_2 => exact ⟨ρ, hr⟩
  rename_i r hk
  split
  case h_2 => exact ⟨ρ, hr⟩
  rename_i sh e l hm
  have hg : ∀ q, getM (setM .no s.mem r) q = if q = r then .no else getM s.mem q := fun q => getM_setM _ _ _ _
  obtain ⟨m', env, hf⟩ := hr.m.drop (mem' := setM .no s.mem r) (fun q => by rw [hg]; split; exact .inl rfl; exact .inr rfl)
  generalize hρ : (fun q => match getM (setM .no s.mem r) q with | .no => none | _ => ρ q : Env) = ρ' at m' env hf
  have hr0 : ρ' r = none := by rw [← hρ]; simp only [hg, if_true]
  have hb := hr.m.blk r
  rw [hm] at hb
  obtain ⟨b, off, cap, cur, h1, h2, h3, h4, h5, h6, h7, h8, h9⟩ := hb
  have hnb : ¬ Forb X (setM .no s.mem r) ρ' b := by
    rintro (h | ⟨q, v, g1, g2, g3⟩)
    · exact (hr.m.low b h).2 h2
    · rw [hg] at g1
      by_cases hq : q = r
      · rw [if_pos hq] at g1; cases g1
      · rw [if_neg hq] at g1
        rcases env q with e1 | e1
        · rw [e1] at g2; cases g2
        · exact hq (hr.m.inj q r v _ b g1 (by rw [hm]; rfl) (by rw [← e1]; exact g2) h1 g3 (by simp only [vblock]; rw [if_neg (by omega)]))
  have lift : ∀ {x : SV} {v : Value}, Den w (Forb X s.mem ρ) ρ x v → Den w (Forb X (setM .no s.mem r) ρ') ρ' x v := fun h => (h.mono (Nat.le_refl _) fun c _ hn => ⟨fun h => hn (hf c h), rfl⟩).env fun q => (env q).imp id .inl
  have hkv : a.tmps.getD k undef = .slice (some ⟨b, off, none⟩) l.length cap := by
    have hd := hr.slot k
    rw [hk] at hd
    generalize a.tmps.getD k undef = v at hd
    cases hd with
    | row _ _ _ _ _ hh => exact (hh _ h1).symm
  have hklt : k < s.slots.length := by
    rcases Nat.lt_or_ge k s.slots.length with h | h
    · exact h
    · exfalso
      rw [getN_eq, List.getElem?_eq_none h] at hk
      cases hk
  have hcl : cur.toList.length = cur.size := Array.length_toList
  have hle : l.length * wid sh ≤ cap * wid sh := Nat.mul_le_mul_right _ h4
  have hden : Den w (Forb X (setM .no s.mem r) ρ') ρ' (.lsx sh l) (.slice (some ⟨b, off, none⟩) l.length cap) := by
    refine .lsx _ sh l b off cap ((cur.toList.drop off).take (l.length * wid sh)) (heap_lt h3) hnb h4 (fun j u hu => ?_) (by rw [List.length_take, List.length_drop]; omega) (fun u hu => h8 u (List.mem_of_mem_drop (List.mem_of_mem_take hu))) fun i hi => ?_
    · rw [List.getElem?_take] at hu
      split at hu
      · rw [List.getElem?_drop] at hu
        exact (cell_of_row w b (off + j) cur e (0, 0) h3).trans (by simpa using hu)
      · cases hu
    · rw [valAt_take _ _ l.length i hi (by rw [List.length_drop]; omega)]
      exact lift (h9 i hi)
  refine ⟨ρ', ⟨m', hr.defers.sub hf, by rw [hr.size]; simp [setN_length], fun t => ?_, fun v hz hn => ?_, hr.fix, hr.len, hr.nod⟩⟩
  · show Den w (Forb X (setM .no s.mem r) ρ') ρ' (getN .any (setN (.lsx sh l) s.slots k) t) _
    rw [getN_setN _ _ _ _ _ hklt]
    split
    · rename_i ht
      rw [ht, hkv]
      exact hden
    · exact lift (hr.slot t)
  · have hn : getM (setM .no s.mem r) 0 ≠ .no := hn
    rw [hg] at hn
    by_cases h0 : (0 : Nat) = r
    · rw [if_pos h0] at hn; exact absurd rfl hn
    · rw [if_neg h0] at hn
      have := hr.anch v hz hn
      rw [← hρ]
      simp only [hg, if_neg h0]
      cases hq : getM s.mem 0 with
      | no => exact absurd hq hn
      | _ => exact this⟩
def lsxS : List SV → List ResultVar → St → St
  | .lsx _ _ :: es, .tmp k :: vs, s => lsxS es vs (lsx1 k s)
  | _ :: es, _ :: vs, s => lsxS es vs s
  | _, _, s => s
theorem lsxS_sub : ∀ (es : List SV) (vs : List ResultVar) (s : St), Sub T s (lsxS es vs s)
  | [], _, s => by unfold lsxS; exact .refl s
  | e :: es, [], s => by cases e <;> exact .refl s
  | e :: es, .tmp k :: vs, s => by
    cases e with
    | lsx sh l => exact (lsx1_sub k s).trans (lsxS_sub es vs _)
    | _ => exact lsxS_sub es vs s
  | e :: es, .cell k t :: vs, s => by
    cases e <;> exact lsxS_sub es vs s
def retQ (T : Nat → Option TI) (ts : List Nat) (vs : List ResultVar) (s : St) (c : CT) : Prop := retQ' T ts vs c (isNew c.new) (lendS T c.lent (endS T vs c.r c.new (lsxS (expE c.r) vs s)))

def resSem (a : Act) (v : ResultVar) : Sem Value := match v with
  | .tmp t => pure (a.tmps.getD t undef)
  | .cell k ty => do loadVar ty (← asAddr (a.tmps.getD k undef))


theorem resOne_ok (tab : Tab P T) {N : Nat → Prop} {w0 : World} {X : Nat → Prop} {z : Anc} {s : St} {a : Act} {w : World} {ρ : Env} (h : Rep T N w0 X z s a w ρ) {v : ResultVar} {x : SV} (hx : resOne T s v = some x) :
    ∃ u, (resSem a v).run P w = .ok u w ∧ Den w (Forb X s.mem ρ) ρ x u := by
  cases v with
  | tmp k => simp only [resOne] at hx; injection hx with hx; subst hx; exact ⟨_, rfl, h.slot k⟩
  | cell k ty =>
    simp only [resOne] at hx
    cases hs : getN SV.any s.slots k with
    | ptr r o =>
      simp only [hs] at hx
      cases hm : getM s.mem r with
      | chunk t' y =>
        simp only [hm] at hx
        split at hx
        · rename_i hc
          simp only [Bool.and_eq_true] at hc
          have h0 : o = 0 := Nat.eq_of_beq_eq_true hc.1
          have h1 : t' = ty := Nat.eq_of_beq_eq_true hc.2
          subst h0; subst h1
          injection hx with hx; subst hx
          have hb := h.m.blk r
          rw [hm] at hb
          obtain ⟨i', b, us, tt, e1, e2, e3, e4, e5, e6, e7⟩ := hb
          have hd := h.slot k
          rw [hs] at hd
          simp only [resSem]
          generalize a.tmps.getD k undef = q at hd
          cases hd with
          | ptr _ _ _ b' hb' =>
            have := hb' _ e2
            simp only [Value.pointer.injEq, Option.some.injEq, Addr.mk.injEq, and_true] at this
            subst this
            refine ⟨_, ?_, e7⟩
            have := run_load_at (P := P) (tab.tys.ok t' i' e1) (tab.sz.one t' i' e1) w b 0 us.toList (by rw [Array.length_toList, e5]; exact Nat.le_refl _) (fun j u hu => by rw [Nat.zero_add, cell_of_row w b j us tt (0, 0) e4]; simpa using hu)
            simpa [Instr.loadAt, Instr.sureAddr, asAddr] using this
        · cases hx
      | _ => simp only [hm] at hx; cases hx
    | _ => simp only [hs] at hx; cases hx

theorem resL_ok (tab : Tab P T) {N : Nat → Prop} {w0 : World} {X : Nat → Prop} {z : Anc} {s : St} {a : Act} {w : World} {ρ : Env} (h : Rep T N w0 X z s a w ρ) : ∀ (vs : List ResultVar) (xs : List SV), resL T s vs = some xs →
    ∃ us : List Value, (vs.mapM (resSem a)).run P w = Result.ok us w ∧ DenL w (Forb X s.mem ρ) ρ xs us
  | [], xs, hx => by
    simp only [resL] at hx
    injection hx with hx; subst hx
    exact ⟨[], rfl, rfl, fun i x u h => by simp at h⟩
  | v :: vs, xs, hx => by
    simp only [resL] at hx
    cases h1 : resOne T s v with
    | none => rw [h1] at hx; cases hx
    | some x =>
      cases h2 : resL T s vs with
      | none => rw [h1, h2] at hx; cases hx
      | some ys =>
        rw [h1, h2] at hx
        injection hx with hx; subst hx
        obtain ⟨u, r1, d1⟩ := resOne_ok tab h h1
        obtain ⟨us, r2, d2⟩ := resL_ok tab h vs ys h2
        refine ⟨u :: us, ?_, by simp [d2.1], fun i x' u' hx' hu' => ?_⟩
        · rw [List.mapM_cons, Sem.run_bind, r1, Result.andThen_ok, Sem.run_bind, r2, Result.andThen_ok]
          rfl
        · cases i with
          | zero => simp at hx' hu'; subst hx'; subst hu'; exact d1
          | succ i => exact d2.2 i x' u' (by simpa using hx') (by simpa using hu')

theorem endS_sub (vs : List ResultVar) (r : SV) (b : Blk) (s : St) : Sub T s (endS T vs r b s) := by
  unfold endS
  split
  · split
    · unfold finS
      split
      · split
        · exact .refl s
        · rename_i h; exact swS_sub 1 _ s (by simp) (fun h0 => h (by simp [h0]))
      · exact .refl s
    · exact .refl s
  · exact .refl s

def idsF (nw : Bool) : List Nat → List Nat
  | [] => []
  | q :: l => if nw && Nat.beq q 1 then idsF nw l else q :: idsF nw l
theorem idsF_mem {nw : Bool} : ∀ {l : List Nat} {q : Nat}, q ∈ idsF nw l ↔ q ∈ l ∧ ¬ (nw = true ∧ q = 1)
  | [], q => by simp [idsF]
  | k :: l, q => by
    simp only [idsF]
    split
    · rename_i h
      simp only [Bool.and_eq_true, nbeq] at h
      rw [idsF_mem]
      constructor
      · rintro ⟨h1, h2⟩; exact ⟨by simp [h1], h2⟩
      · rintro ⟨h1, h2⟩
        rcases List.mem_cons.1 h1 with rfl | h1
        · exact absurd h h2
        · exact ⟨h1, h2⟩
    · rename_i h
      simp only [Bool.and_eq_true, nbeq] at h
      rw [List.mem_cons, idsF_mem, List.mem_cons]
      constructor
      · rintro (rfl | ⟨h1, h2⟩)
        · exact ⟨.inl rfl, h⟩
        · exact ⟨.inr h1, h2⟩
      · rintro ⟨rfl | h1, h2⟩
        · exact .inl rfl
        · exact .inr ⟨h1, h2⟩

theorem ret_ok (tab : Tab P T) {N : Nat → Prop} {w0 : World} {X : Nat → Prop} {z : Anc} {s : St} {a : Act} {w : World} {ρ : Env} (h : Rep T N w0 X z s a w ρ) {fn : Func} {c : CT} {nw : Bool} (hnw : nw = isNew c.new) (hq : retQ' T fn.resultTypes.toList fn.results.toList c nw s) :
    ∃ v ρ', (results fn a.tmps).run P w = .ok v w ∧ MRep T N w0 w X (outM c) ρ' ∧ Den w (Forb X (outM c) ρ') ρ' c.r v ∧ (∀ u, z.z = some u → c.lent.isSome = true → ρ' 0 = some u) ∧ (c.lent = none → ρ' 0 = none) := by
  unfold retQ' at hq
  cases hx : resL T s fn.results.toList with
  | none => rw [hx] at hq; exact hq.elim
  | some xs =>
    rw [hx] at hq
    simp only at hq
    cases hy : finL T nw s.mem fn.resultTypes.toList (expE c.r) xs with
    | none => rw [hy] at hq; exact hq.elim
    | some ys =>
      rw [hy] at hq
      simp only at hq
      obtain ⟨q1, q2, q3⟩ := hq
      obtain ⟨us, hr, hd⟩ := resL_ok tab h _ _ hx
      have fz := freeze_ids (T := T) (sees_all s.mem) h.m (idsF nw (rids.ridsL xs))
      have hout : ∀ r, getM (outM c) r = .no ∨ getM (outM c) r = getM (appU (frzU (getM s.mem) (idsF nw (rids.ridsL xs))) s.mem) r := by
        intro r
        rw [getM_out]
        have keep : ∀ r, (∀ sh e k, getM s.mem r ≠ .row sh e k) ∨ r ∉ idsF nw (rids.ridsL xs) → getM (appU (frzU (getM s.mem) (idsF nw (rids.ridsL xs))) s.mem) r = getM s.mem r := by
          intro r hr
          rcases fz.old r with g | ⟨g1, sh, e, k, g2, _⟩
          · exact g
          · rcases hr with hr | hr
            · exact absurd g2 (hr _ _ _)
            · exact absurd g1 hr
        by_cases h0 : r = 0
        · subst h0
          rw [if_pos rfl]
          cases hl : c.lent with
          | none => exact .inl rfl
          | some p =>
            obtain ⟨t, x⟩ := p
            right
            rw [hl] at q3
            simp only [lentE, lentB'] at q3 ⊢
            rw [keep 0 (.inl fun sh e k hk => by rw [hk] at q3; cases q3)]
            exact q3.symm
        · rw [if_neg h0]
          by_cases h1 : r = 1
          · subst h1
            rw [if_pos rfl]
            cases hn : nw with
            | false =>
              rw [hn] at q2
              simp only [Bool.false_eq_true, if_false] at q2
              exact .inl q2.symm
            | true =>
              rw [hn] at q2 keep
              simp only [if_true] at q2
              right
              rw [← hn] at keep ⊢
              rw [keep 1 (.inr fun hm => (idsF_mem.1 hm).2 ⟨hn, rfl⟩)]
              exact q2.symm
          · rw [if_neg h1]; exact .inl rfl
      obtain ⟨m', env, hf⟩ := fz.m.drop hout
      generalize hρ : (fun r => match getM (outM c) r with | .no => none | _ => ρ r : Env) = ρ' at m' env hf
      have lift : ∀ {ρ0 : Env} {x : SV} {v : Value}, Den w (Forb X s.mem ρ) ρ0 x v → Den w (Forb X (outM c) ρ') ρ0 x v := fun hd => (hd.mono fz.t.size fz.t.keep).mono (Nat.le_refl _) fun b _ hb => ⟨fun hb' => hb (hf b hb'), rfl⟩
      have view1 : ∀ {x y : SV} {v : Value}, (∀ r ∈ rids x, r ∈ idsF nw (rids.ridsL xs)) → viewC (getM s.mem) x = some y → Den w (Forb X s.mem ρ) ρ x v → Den w (Forb X (outM c) ρ') ρ' y v := by
        intro x y v hr hv hd
        obtain ⟨a1, a2⟩ := viewC_same (μ' := getM (appU (frzU (getM s.mem) (idsF nw (rids.ridsL xs))) s.mem)) (fun r hr' => fz.at' r (hr r hr')) hv
        have := viewC_den (sees_all _) fz.m (Z := Forb X (outM c) ρ') (fun b _ hb hb' => hb (hf b hb')) (fun hl => by rw [a2] at hl; cases hl) a1 (fz.t.den (fun _ h => by cases h) hd)
        exact this.env fun r => .inr (.inr (by
          have hp : plainB y = true := by
            have := view_data (T := T) (μ := getM s.mem) (t := 0) (x := .agg [x]) (y := .agg [y]) (by simp [view, viewCs, hv])
            simpa [dataB, allPlain] using this
          exact plain_noref hp r))
      have part : ∀ {x y : SV} {v : Value}, (∀ r ∈ rids x, r ∈ rids.ridsL xs) → fin1 nw s.mem x = some y → Den w (Forb X s.mem ρ) ρ x v → Den w (Forb X (outM c) ρ') ρ' y v := by
        intro x y v hr hv hd
        cases x with
        | row r =>
          simp only [fin1] at hv
          split at hv
          · rename_i hc
            simp only [Bool.and_eq_true, nbeq] at hc
            injection hv with hv; subst hv
            obtain ⟨_, rfl⟩ := hc
            exact (lift hd).env fun r => (env r).imp id .inl
          · rename_i hc
            simp only [Bool.and_eq_true, nbeq] at hc
            exact view1 (fun k hk => idsF_mem.2 ⟨hr k hk, by simp [rids] at hk; subst hk; exact hc⟩) hv hd
        | rsl r sh a n c =>
          simp only [fin1] at hv
          split at hv
          · cases hv
          · rename_i hc
            simp only [Bool.and_eq_true, nbeq] at hc
            exact view1 (fun k hk => idsF_mem.2 ⟨hr k hk, by simp [rids] at hk; subst hk; exact hc⟩) hv hd
        | ptr r o =>
          simp only [fin1] at hv
          split at hv
          · rename_i hc
            simp only [Bool.and_eq_true, nbeq] at hc
            injection hv with hv; subst hv
            obtain ⟨⟨_, rfl⟩, rfl⟩ := hc
            exact (lift hd).env fun r => (env r).imp id .inl
          · cases hv
        | agg l => simp [fin1, viewC, plainB] at hv
        | tup l => simp [fin1, viewC, plainB] at hv
        | lsx sh l => simp [fin1, viewC, plainB] at hv
        | _ => exact view1 (fun k hk => by simp [rids] at hk) (by simpa only [fin1] using hv) hd
      have parts : ∀ {l l' : List SV} {vs : List Value}, (∀ r ∈ rids.ridsL l, r ∈ rids.ridsL xs) → fin1s nw s.mem l = some l' → DenL w (Forb X s.mem ρ) ρ l vs → DenL w (Forb X (outM c) ρ') ρ' l' vs := by
        intro l
        induction l with
        | nil => intro l' vs _ hv hd; simp only [fin1s] at hv; injection hv with hv; subst hv; exact ⟨hd.1, fun i x u h => by simp at h⟩
        | cons x l ih =>
          intro l' vs hr hv hd
          simp only [fin1s] at hv
          cases h1 : fin1 nw s.mem x with
          | none => rw [h1] at hv; cases hv
          | some y =>
            cases h2 : fin1s nw s.mem l with
            | none => rw [h1, h2] at hv; cases hv
            | some ys' =>
              rw [h1, h2] at hv
              injection hv with hv; subst hv
              cases vs with
              | nil => have := hd.1; simp at this
              | cons v vs =>
                have ih := ih (fun r hr' => hr r (by simp [rids.ridsL, hr'])) h2 ⟨by have := hd.1; simpa using this, fun i x u hx hu => hd.2 (i + 1) x u hx hu⟩
                refine ⟨by simp [ih.1], fun i x' u hx' hu' => ?_⟩
                cases i with
                | zero => simp at hx' hu'; subst hx'; subst hu'; exact part (fun r hr' => hr r (by simp [rids.ridsL, hr'])) h1 (hd.2 0 _ _ rfl rfl)
                | succ i => exact ih.2 i x' u (by simpa using hx') (by simpa using hu')
      have elt : ∀ {x y : SV} {v : Value}, (∀ r ∈ rids x, r ∈ rids.ridsL xs) → finX1 nw s.mem x = some y → Den w (Forb X s.mem ρ) ρ x v → Den w (Forb X (outM c) ρ') ρ' y v := by
        intro x y v hr hv hd
        cases x with
        | agg l =>
          simp only [finX1] at hv
          cases h1 : fin1s nw s.mem l with
          | none => rw [h1] at hv; cases hv
          | some l' =>
            rw [h1] at hv
            injection hv with hv; subst hv
            obtain ⟨cs, rfl, hd2⟩ := Den.agg_iff.1 hd
            exact Den.agg_iff.2 ⟨cs, rfl, parts hr h1 hd2⟩
        | _ => exact part hr (by simpa only [finX1] using hv) hd
      have elts : ∀ {l l' : List SV}, (∀ r ∈ rids.ridsL l, r ∈ rids.ridsL xs) → finXs nw s.mem l = some l' → l'.length = l.length ∧ ∀ (i : Nat) (x y : SV), l[i]? = some x → l'[i]? = some y → finX1 nw s.mem x = some y ∧ ∀ r ∈ rids x, r ∈ rids.ridsL xs := by
        intro l
        induction l with
        | nil => intro l' _ hv; simp only [finXs] at hv; injection hv with hv; subst hv; exact ⟨rfl, fun i x y h => by simp at h⟩
        | cons x l ih =>
          intro l' hr hv
          simp only [finXs] at hv
          cases h1 : finX1 nw s.mem x with
          | none => rw [h1] at hv; cases hv
          | some y =>
            cases h2 : finXs nw s.mem l with
            | none => rw [h1, h2] at hv; cases hv
            | some ys' =>
              rw [h1, h2] at hv
              injection hv with hv; subst hv
              obtain ⟨g1, g2⟩ := ih (fun r hr' => hr r (by simp [rids.ridsL, hr'])) h2
              refine ⟨by simp [g1], fun i x' y' hx hy => ?_⟩
              cases i with
              | zero => simp at hx hy; subst hx; subst hy; exact ⟨h1, fun r hr' => hr r (by simp [rids.ridsL, hr'])⟩
              | succ i => exact g2 i x' y' (by simpa using hx) (by simpa using hy)
      have whole : ∀ {t : Nat} {e x y : SV} {v : Value}, (∀ r ∈ rids x, r ∈ rids.ridsL xs) → finV T nw s.mem t e x = some y → Den w (Forb X s.mem ρ) ρ x v → Den w (Forb X (outM c) ρ') ρ' y v := by
        intro t e x y v hr hv hd
        cases x with
        | agg l =>
          simp only [finV] at hv
          cases h1 : fin1s nw s.mem l with
          | none => rw [h1] at hv; cases hv
          | some l' =>
            rw [h1] at hv
            injection hv with hv; subst hv
            obtain ⟨cs, rfl, hd2⟩ := Den.agg_iff.1 hd
            exact Den.agg_iff.2 ⟨cs, rfl, parts hr h1 hd2⟩
        | lsx sh l =>
          simp only [finV] at hv
          cases h1 : finXs nw s.mem l with
          | none => rw [h1] at hv; cases hv
          | some l' =>
            rw [h1] at hv
            injection hv with hv; subst hv
            obtain ⟨g1, g2⟩ := elts (fun r hr' => hr r hr') h1
            have hd0 : Den w (Forb X (outM c) ρ') ρ (.lsx sh l) v := lift hd
            cases hd with
            | lsx _ _ _ b off cap us k1 k2 k3 k4 k5 k6 k7 =>
              cases hd0 with
              | lsx _ _ _ _ _ _ us2 j1 j2 j3 j4 j5 j6 j7 =>
                rw [← g1]
                exact .lsx _ sh l' b off cap us k1 j2 (by rw [g1]; exact k3) k4 (by rw [g1]; exact k5) k6 fun i hi => by
                  have hi' : i < l.length := by omega
                  obtain ⟨e1, e2⟩ := g2 i _ _ (List.getElem?_eq_getElem hi') (List.getElem?_eq_getElem hi)
                  exact elt e2 e1 (k7 i hi')
        | _ =>
          simp only [finV] at hv
          split at hv
          · rename_i y' h1
            injection hv with hv; subst hv
            exact normE_den (part hr h1 hd)
          · cases hv
      have all : ∀ {ts : List Nat} {es l l' : List SV} {vs : List Value}, (∀ r ∈ rids.ridsL l, r ∈ rids.ridsL xs) → finL T nw s.mem ts es l = some l' → DenL w (Forb X s.mem ρ) ρ l vs → DenL w (Forb X (outM c) ρ') ρ' l' vs := by
        intro ts
        induction ts with
        | nil =>
          intro es l l' vs _ hv hd
          cases l with
          | nil => simp only [finL] at hv; injection hv with hv; subst hv; exact ⟨hd.1, fun i x u h => by simp at h⟩
          | cons => simp [finL] at hv
        | cons t ts ih =>
          intro es l l' vs hr hv hd
          cases l with
          | nil => simp [finL] at hv
          | cons x l =>
            simp only [finL] at hv
            cases h1 : finV T nw s.mem t (hdE es) x with
            | none => rw [h1] at hv; cases hv
            | some y =>
              cases h2 : finL T nw s.mem ts (tlE es) l with
              | none => rw [h1, h2] at hv; cases hv
              | some ys' =>
                rw [h1, h2] at hv
                injection hv with hv; subst hv
                cases vs with
                | nil => have := hd.1; simp at this
                | cons v vs =>
                  have ih := ih (fun r hr' => hr r (by simp [rids.ridsL, hr'])) h2 ⟨by have := hd.1; simpa using this, fun i x u hx hu => hd.2 (i + 1) x u hx hu⟩
                  refine ⟨by simp [ih.1], fun i x' u hx' hu' => ?_⟩
                  cases i with
                  | zero => simp at hx' hu'; subst hx'; subst hu'; exact whole (fun r hr' => hr r (by simp [rids.ridsL, hr'])) h1 (hd.2 0 _ _ rfl rfl)
                  | succ i => exact ih.2 i x' u (by simpa using hx') (by simpa using hu')
      have hdy := all (fun r hr => hr) hy hd
      have hm : (fn.results.mapM (resSem a)).run P w = .ok us.toArray w := by
        rw [Array.mapM_eq_mapM_toList, Sem.run_map, hr]
        rfl
      have hres : (results fn a.tmps).run P w = .ok (if h : us.toArray.size = 1 then us.toArray[0] else .tuple us.toArray) w := by
        unfold results
        rw [Sem.run_bind]
        refine (congrArg (fun r => Result.andThen r _) hm).trans ?_
        rfl
      refine ⟨_, ρ', hres, m', ?_, fun u hz hl => ?_, fun hl => ?_⟩
      · rw [← q1]
        by_cases h1 : us.length = 1
        · obtain ⟨u, rfl⟩ := List.length_eq_one_iff.1 h1
          have hxl : ys.length = 1 := by rw [hdy.1]; rfl
          obtain ⟨x, rfl⟩ := List.length_eq_one_iff.1 hxl
          simp only [packR]
          have := hdy.2 0 x u rfl rfl
          simpa using this
        · have hp : packR ys = .tup ys := by
            have : ys.length ≠ 1 := by rw [hdy.1]; exact h1
            match ys, this with
            | [], _ => rfl
            | [x], h => exact absurd rfl h
            | x :: y :: l, _ => rfl
          rw [hp, dif_neg (by simpa using h1)]
          exact Den.tup_iff.2 ⟨us, rfl, hdy⟩
      · cases hl' : c.lent with
        | none => rw [hl'] at hl; cases hl
        | some p =>
          obtain ⟨t, x⟩ := p
          rw [hl'] at q3
          simp only [lentE, lentB'] at q3
          have h0 : ρ 0 = some u := h.anch u hz (by rw [q3]; simp)
          rw [← hρ]
          simp only [getM_out, if_true, hl', lentB']
          exact h0
      · rw [← hρ]
        simp only [getM_out, if_true, hl, lentB']

/-! ### A contract -/
def start (n : Nat) (c : CT) : St := ⟨c.args ++ List.replicate (n - c.args.length) .any, inM c⟩

theorem contract (tab : Tab P T) (hG : ∀ f c, G f c → ACall P T f c) (hmix : P.follows .mixedOrders = true) {f : FuncId} {fn : Func} {c : Code} {ct : CT} (hf : P.funcs[f]? = some fn) (hb : fn.body = some c)
    (hn : (fn.name == "runtime.NumGoroutine") = false) (hok : codeOk c = true) (hni : isSeq ct = false) (hnl : isLR ct = false) (hng : isG ct = false)
    (h : swp T G c (start fn.ntmps ct) ⟨fun s => retQ T fn.resultTypes.toList fn.results.toList s ct, fun s => retQ T fn.resultTypes.toList fn.results.toList s ct, fun _ _ => False⟩) : ACall P T f ct := by
  refine ⟨⟨fn, hf, by rw [hb]; rfl, hn⟩, (fun hs => by rw [hni] at hs; cases hs), (fun sh e l az k hc => by rw [hc] at hnl; cases hnl), (fun az L r b hc => by rw [hc] at hng; cases hng), fun _ _ _ N w X ρ vs m hd => ?_⟩
  refine (callsIn_wide (n := 1)).1 (callsIn_of_wp_marks hf hb trivial ?_)
  have hrep : Rep T N w X ⟨ρ 0, fun _ => none, none, false⟩ (start fn.ntmps ct) { tmps := ⟨vs⟩ ++ Array.replicate (fn.ntmps - (⟨vs⟩ : Array Value).size) undef, defers := [] } w ρ := by
    refine ⟨m, .nil _ _ _, ?_, fun t => ?_, fun v hv _ => hv, (fun _ _ h => by cases h), (fun _ h => by cases h), (fun h => by cases h)⟩
    · simp only [start, Array.size_append, List.size_toArray, Array.size_replicate, List.length_append, List.length_replicate, hd.1]
    · simp only [start]
      rw [getN_eq]
      by_cases ht : t < ct.args.length
      · have ht' : t < vs.length := by rw [← hd.1]; exact ht
        rw [List.getElem?_append_left ht, List.getElem?_eq_getElem ht]
        have : ((⟨vs⟩ : Array Value) ++ Array.replicate (fn.ntmps - (⟨vs⟩ : Array Value).size) undef).getD t undef = vs[t] := by
          simp [Array.getElem?_append, ht']
        rw [this]
        exact hd.2 t _ _ (List.getElem?_eq_getElem ht) (List.getElem?_eq_getElem ht')
      · rw [List.getElem?_append_right (by omega), List.getElem?_replicate]
        split <;> exact .any _ _
  have fin0 : ∀ (s : St) (a : Act) (w' : World) (ρ1 : Env), retQ T fn.resultTypes.toList fn.results.toList s ct → Rep T N w X ⟨ρ 0, fun _ => none, none, false⟩ s a w' ρ1 →
      ∃ v, (results fn a.tmps).run P w' = .ok v w' ∧ ∃ v' ρ', Ending.returned v = .returned v' ∧ MRep T N w w' X (outM ct) ρ' ∧ ρ' 0 = ρ 0 ∧ Den w' (Forb X (outM ct) ρ') ρ' ct.r v' := by
    intro s a w' ρ1 hq hr
    obtain ⟨ρ2, hr2⟩ := (((lsxS_sub (T := T) (expE ct.r) fn.results.toList s).trans (endS_sub (T := T) fn.results.toList ct.r ct.new _)).trans (lendS_sub ct.lent _)).h _ _ _ _ _ _ _ hr
    obtain ⟨v, ρ', h1, h2, h3, h4, h5⟩ := ret_ok tab hr2 rfl hq
    refine ⟨v, h1, v, ρ', rfl, h2, ?_, h3⟩
    have hm0 := m.some0 0
    rw [getM_in, if_pos rfl] at hm0
    cases hl : ct.lent with
    | none =>
      rw [h5 hl, hm0.1 (by rw [hl]; rfl)]
    | some p =>
      cases h0 : ρ 0 with
      | none => have := hm0.2 h0; rw [hl] at this; cases this
      | some u => exact h4 u h0 (by rw [hl]; rfl)
  have fin1 : ∀ (Ds : List Nat) (s : St) (a : Act) (w' : World) (ρ1 : Env), retQ T fn.resultTypes.toList fn.results.toList s ct → Rep T N w X ⟨ρ 0, fun _ => none, none, false⟩ s a w' ρ1 → a.defers = Ds.map (fun D => { target := .collected D, args := #[] }) → Ds.Nodup →
      (∀ D ∈ Ds, N D ∧ ¬ Forb X s.mem ρ1 D ∧ w'.heap[D]? = some (.deferred (some []))) →
      LeavesInM Fence.wide 1 P fn a.tmps (fun e w' => ∃ v' ρ', e = .returned v' ∧ MRep T N w w' X (outM ct) ρ' ∧ ρ' 0 = ρ 0 ∧ Den w' (Forb X (outM ct) ρ') ρ' ct.r v') a.defers .returning w' := by
    intro Ds
    induction Ds with
    | nil =>
      intro s a w' ρ1 hq hr hd _ _
      rw [hd]
      exact fin0 s a w' ρ1 hq hr
    | cons D Ds ih =>
      intro s a w' ρ1 hq hr hd hnd hk
      rw [hd]
      obtain ⟨k1, k2, k3⟩ := hk D (by simp)
      have hne : ∀ q ∈ Ds, q ≠ D := by rintro q hq rfl; exact (List.nodup_cons.1 hnd).1 hq
      have hk2 : ∀ q ∈ Ds, N q ∧ ¬ Forb X s.mem ρ1 q ∧ (w'.putObj D (.deferred none)).heap[q]? = some (.deferred (some [])) := fun q hq => by
        obtain ⟨g1, g2, g3⟩ := hk q (by simp [hq])
        exact ⟨g1, g2, (World.putObj_heap_other (hne q hq)).trans g3⟩
      have hr2 := hr.putObj k3 rfl k1 k2 (.deferred none) (ds := Ds.map (fun D => { target := .collected D, args := #[] })) ⟨Ds, rfl, (List.nodup_cons.1 hnd).2, hk2⟩ (fun h => by cases h)
      exact ⟨by simp, .inl ⟨D, _, rfl, run_takeDeferred k3, ih s _ _ ρ1 hq hr2 rfl (List.nodup_cons.1 hnd).2 hk2⟩⟩
  have fin : ∀ (s : St) (a : Act) (w' : World) (ρ1 : Env), retQ T fn.resultTypes.toList fn.results.toList s ct → Rep T N w X ⟨ρ 0, fun _ => none, none, false⟩ s a w' ρ1 →
      LeavesInM Fence.wide 1 P fn a.tmps (fun e w' => ∃ v' ρ', e = .returned v' ∧ MRep T N w w' X (outM ct) ρ' ∧ ρ' 0 = ρ 0 ∧ Den w' (Forb X (outM ct) ρ') ρ' ct.r v') a.defers .returning w' := by
    intro s a w' ρ1 hq hr
    obtain ⟨Ds, h1, h2, h3⟩ := hr.defers.h
    exact fin1 Ds s a w' ρ1 hq hr h1 h2 h3
  exact swp_sound tab hG hmix c N w X _ _ _ _ _ w ρ hok h hrep (fun s a w' ρ1 hq hr => fin s a w' ρ1 hq hr) (fun s a w' ρ1 hq hr => fin s a w' ρ1 hq hr) (fun i s a w' ρ hq => hq.elim) (fun _ _ => rfl) none 1 (.inl ⟨rfl, rfl⟩)

/-! ### A contract of a function that is lent a row -/
def startL (n : Nat) (sh : Option Nat) (e : Nat) (l az : List SV) : St := ⟨.row 0 :: az ++ List.replicate (n - (az.length + 1)) .any, [(0, .row sh e l)]⟩
structure FinL (sh : Option Nat) (e n : Nat) (l' k : List SV) : Prop where
  n : n = k.length
  l : l'.take k.length = k
def retL (T : Nat → Option TI) (vs : List ResultVar) (sh : Option Nat) (e : Nat) (k : List SV) (s : St) : Prop :=
  match resL T s vs with
  | some [.rsl 0 sh' 0 n none] => (match getM s.mem 0 with
    | .row sh'' e' l' => if shEq sh' sh && shEq sh'' sh && Nat.beq e' e then FinL sh e n l' k else False
    | _ => False)
  | _ => False
theorem contractL (tab : Tab P T) (hG : ∀ f c, G f c → ACall P T f c) (hmix : P.follows .mixedOrders = true) {f : FuncId} {fn : Func} {c : Code} {sh : Option Nat} {e : Nat} {l az k : List SV} (hf : P.funcs[f]? = some fn) (hb : fn.body = some c)
    (hn : (fn.name == "runtime.NumGoroutine") = false) (hok : codeOk c = true)
    (h : swp T G c (startL fn.ntmps sh e l az) ⟨fun s => retL T fn.results.toList sh e k s, fun s => retL T fn.results.toList sh e k s, fun _ _ => False⟩) : ACall P T f (lrC sh e l az k) := by
  refine ⟨⟨fn, hf, by rw [hb]; rfl, hn⟩, (fun hs => by cases hs), (fun sh1 e1 l1 as1 k1 hc => ?_), (fun az L r b hc => by have := congrArg CT.lent hc; simp only [gC, lrC, Option.some.injEq, Prod.mk.injEq] at this; cases this.2), fun _ hs => by cases hs⟩
  have hc1 := congrArg CT.args hc
  have hc2 := congrArg CT.lent hc
  have hc3 := congrArg CT.lent' hc
  simp only [lrC] at hc1 hc2 hc3
  injection hc1 with _ hc1
  injection hc2 with hc2
  injection hc2 with hc2 hc4
  injection hc4 with hc4 hc5
  injection hc3 with _ hc3
  subst hc1; subst hc2; subst hc3; subst hc4; subst hc5
  intro N w X ρ vs m hd
  refine (callsIn_wide (n := 1)).1 (callsIn_of_wp_marks hf hb trivial ?_)
  have hrep : Rep T N w X ⟨ρ 0, fun _ => none, none, false⟩ (startL fn.ntmps sh e l az) { tmps := ⟨vs⟩ ++ Array.replicate (fn.ntmps - (⟨vs⟩ : Array Value).size) undef, defers := [] } w ρ := by
    refine ⟨m, .nil _ _ _, ?_, fun t => ?_, fun v hv _ => hv, (fun _ _ h => by cases h), (fun _ h => by cases h), (fun h => by cases h)⟩
    · simp only [startL, Array.size_append, List.size_toArray, Array.size_replicate, List.length_append, List.length_replicate, ← hd.1, List.length_cons]
    · simp only [startL]
      rw [getN_eq]
      by_cases ht : t < (SV.row 0 :: az).length
      · have ht' : t < vs.length := by rw [← hd.1]; exact ht
        rw [List.getElem?_append_left ht, List.getElem?_eq_getElem ht]
        have : ((⟨vs⟩ : Array Value) ++ Array.replicate (fn.ntmps - (⟨vs⟩ : Array Value).size) undef).getD t undef = vs[t] := by
          simp [Array.getElem?_append, ht']
        rw [this]
        exact hd.2 t _ _ (List.getElem?_eq_getElem ht) (List.getElem?_eq_getElem ht')
      · rw [List.getElem?_append_right (by omega), List.getElem?_replicate]
        split <;> exact .any _ _
  have fin0 : ∀ (s : St) (a : Act) (w' : World) (ρ1 : Env), retL T fn.results.toList sh e k s → Rep T N w X ⟨ρ 0, fun _ => none, none, false⟩ s a w' ρ1 →
      ∃ v, (results fn a.tmps).run P w' = .ok v w' ∧ ∃ v' l' ρ', Ending.returned v = .returned v' ∧ MRep T N w w' X [(0, .row sh e l')] ρ' ∧ ρ' 0 = ρ 0 ∧ l'.take k.length = k ∧ Den w' (Forb X [(0, .row sh e l')] ρ') ρ' (.rsl 0 sh 0 k.length none) v' := by
    intro s a w' ρ1 hq hr
    unfold retL at hq
    split at hq <;> try exact hq.elim
    rename_i sh' n hx
    split at hq <;> try exact hq.elim
    rename_i sh'' e' l' hmem
    split at hq <;> try exact hq.elim
    rename_i hck
    simp only [Bool.and_eq_true] at hck
    have h1 := shEq_eq hck.1.1
    have h2 := shEq_eq hck.1.2
    have h3 := Nat.eq_of_beq_eq_true hck.2
    subst h1; subst h2; subst h3
    obtain ⟨q1, q2⟩ := hq
    subst q1
    obtain ⟨us, hr', hd'⟩ := resL_ok tab hr _ _ hx
    have hul : us.length = 1 := by rw [← hd'.1]; rfl
    obtain ⟨u, rfl⟩ := List.length_eq_one_iff.1 hul
    have hm : (fn.results.mapM (resSem a)).run P w' = .ok #[u] w' := by
      rw [Array.mapM_eq_mapM_toList, Sem.run_map, hr']
      rfl
    have hres : (results fn a.tmps).run P w' = .ok u w' := by
      unfold results
      rw [Sem.run_bind]
      refine (congrArg (fun r => Result.andThen r _) hm).trans ?_
      rfl
    obtain ⟨m', env, hf'⟩ := hr.m.drop (mem' := [(0, .row sh'' e' l')]) (fun r => by
      simp only [getM]
      split
      · rename_i h0
        have h0 := Nat.eq_of_beq_eq_true h0
        subst h0
        exact .inr hmem.symm
      · exact .inl rfl)
    refine ⟨u, hres, u, l', _, rfl, m', ?_, q2, ?_⟩
    · have h0 := hr.m.some0 0
      cases hρ : ρ 0 with
      | none =>
        have := (m.some0 0).2 hρ
        cases this
      | some v0 =>
        have := hr.anch v0 hρ (by rw [hmem]; simp)
        rw [← this]
        rfl
    · exact ((hd'.2 0 _ _ rfl rfl).mono (Nat.le_refl _) fun b _ hb => ⟨fun hb' => hb (hf' b hb'), rfl⟩).env fun r => (env r).imp id .inl
  have fin1 : ∀ (Ds : List Nat) (s : St) (a : Act) (w' : World) (ρ1 : Env), retL T fn.results.toList sh e k s → Rep T N w X ⟨ρ 0, fun _ => none, none, false⟩ s a w' ρ1 → a.defers = Ds.map (fun D => { target := .collected D, args := #[] }) → Ds.Nodup →
      (∀ D ∈ Ds, N D ∧ ¬ Forb X s.mem ρ1 D ∧ w'.heap[D]? = some (.deferred (some []))) →
      LeavesInM Fence.wide 1 P fn a.tmps (fun en w' => ∃ v' l' ρ', en = .returned v' ∧ MRep T N w w' X [(0, .row sh e l')] ρ' ∧ ρ' 0 = ρ 0 ∧ l'.take k.length = k ∧ Den w' (Forb X [(0, .row sh e l')] ρ') ρ' (.rsl 0 sh 0 k.length none) v') a.defers .returning w' := by
    intro Ds
    induction Ds with
    | nil =>
      intro s a w' ρ1 hq hr hd _ _
      rw [hd]
      exact fin0 s a w' ρ1 hq hr
    | cons D Ds ih =>
      intro s a w' ρ1 hq hr hd hnd hk
      rw [hd]
      obtain ⟨k1, k2, k3⟩ := hk D (by simp)
      have hne : ∀ q ∈ Ds, q ≠ D := by rintro q hq rfl; exact (List.nodup_cons.1 hnd).1 hq
      have hk2 : ∀ q ∈ Ds, N q ∧ ¬ Forb X s.mem ρ1 q ∧ (w'.putObj D (.deferred none)).heap[q]? = some (.deferred (some [])) := fun q hq => by
        obtain ⟨g1, g2, g3⟩ := hk q (by simp [hq])
        exact ⟨g1, g2, (World.putObj_heap_other (hne q hq)).trans g3⟩
      have hr2 := hr.putObj k3 rfl k1 k2 (.deferred none) (ds := Ds.map (fun D => { target := .collected D, args := #[] })) ⟨Ds, rfl, (List.nodup_cons.1 hnd).2, hk2⟩ (fun h => by cases h)
      exact ⟨by simp, .inl ⟨D, _, rfl, run_takeDeferred k3, ih s _ _ ρ1 hq hr2 rfl (List.nodup_cons.1 hnd).2 hk2⟩⟩
  have fin : ∀ (s : St) (a : Act) (w' : World) (ρ1 : Env), retL T fn.results.toList sh e k s → Rep T N w X ⟨ρ 0, fun _ => none, none, false⟩ s a w' ρ1 →
      LeavesInM Fence.wide 1 P fn a.tmps (fun en w' => ∃ v' l' ρ', en = .returned v' ∧ MRep T N w w' X [(0, .row sh e l')] ρ' ∧ ρ' 0 = ρ 0 ∧ l'.take k.length = k ∧ Den w' (Forb X [(0, .row sh e l')] ρ') ρ' (.rsl 0 sh 0 k.length none) v') a.defers .returning w' := by
    intro s a w' ρ1 hq hr
    obtain ⟨Ds, h1, h2, h3⟩ := hr.defers.h
    exact fin1 Ds s a w' ρ1 hq hr h1 h2 h3
  exact swp_sound tab hG hmix c N w X _ _ _ _ _ w ρ hok h hrep (fun s a w' ρ1 hq hr => fin s a w' ρ1 hq hr) (fun s a w' ρ1 hq hr => fin s a w' ρ1 hq hr) (fun i s a w' ρ hq => hq.elim) (fun _ _ => rfl) none 1 (.inl ⟨rfl, rfl⟩)

/-! ### A contract of a closure that is lent variables -/
def startG (n : Nat) (az : List SV) (L : List Ln) : St := ⟨az ++ List.replicate (n - az.length) .any, inL L⟩
def isPtrAt (k : Nat) : SV → Bool
  | .ptr q o => Nat.beq q k && Nat.beq o 0
  | _ => false
/-- What is lent is an argument that is not assigned, or has the id 0. -/
def lentAt (l : List SV) (k : Nat) : Bool := Nat.ble 900 k && isPtrAt k (getN .any l (k - 900))
def posOk (az : List SV) (asg : List Nat) : List Ln → Bool
  | [] => true
  | p :: l => (Nat.beq p.1 0 || (!(memB (p.1 - 900) asg) && lentAt az p.1)) && posOk az asg l
def slotsOk (sl : List SV) : List Ln → Bool
  | [] => true
  | p :: l => (Nat.beq p.1 0 || lentAt sl p.1) && slotsOk sl l
theorem lentAt_iff {l : List SV} {k : Nat} (h : lentAt l k = true) : 900 ≤ k ∧ getN .any l (k - 900) = .ptr k 0 := by
  simp only [lentAt, Bool.and_eq_true] at h
  refine ⟨Nat.le_of_ble_eq_true h.1, ?_⟩
  have h2 := h.2
  unfold isPtrAt at h2
  split at h2
  · rename_i a b he
    simp only [Bool.and_eq_true] at h2
    rw [he, nbeq.1 h2.1, nbeq.1 h2.2]
  · cases h2
theorem posOk_mem {az : List SV} {asg : List Nat} : ∀ {L : List Ln}, posOk az asg L = true → ∀ p ∈ L, p.1 = 0 ∨ (900 ≤ p.1 ∧ p.1 - 900 ∉ asg ∧ getN .any az (p.1 - 900) = .ptr p.1 0)
  | p :: l, h, q, hq => by
    simp only [posOk, Bool.and_eq_true, Bool.or_eq_true, Bool.not_eq_true'] at h
    rcases List.mem_cons.1 hq with rfl | hq
    · rcases h.1 with h | ⟨h1, h2⟩
      · exact .inl (nbeq.1 h)
      · right
        obtain ⟨g1, g2⟩ := lentAt_iff h2
        exact ⟨g1, (fun hm => by rw [memB_iff.2 hm] at h1; cases h1), g2⟩
    · exact posOk_mem h.2 q hq
theorem slotsOk_mem {sl : List SV} : ∀ {L : List Ln}, slotsOk sl L = true → ∀ p ∈ L, p.1 = 0 ∨ getN .any sl (p.1 - 900) = .ptr p.1 0
  | p :: l, h, q, hq => by
    simp only [slotsOk, Bool.and_eq_true, Bool.or_eq_true] at h
    rcases List.mem_cons.1 hq with rfl | hq
    · rcases h.1 with h | h2
      · exact .inl (nbeq.1 h)
      · exact .inr (lentAt_iff h2).2
    · exact slotsOk_mem h.2 q hq
noncomputable def outV (T : Nat → Option TI) (nw : Bool) (m : Mem) (k t : Nat) : Option SV :=
  match getM m k with
  | .chunk t' x => if Nat.beq t' t then finV T nw m t .any x else none
  | _ => none
noncomputable def outVs (T : Nat → Option TI) (nw : Bool) (m : Mem) : List Ln → Option (List SV)
  | [] => some []
  | p :: l => (match outV T nw m p.1 p.2.1, outVs T nw m l with
    | some y, some ys => some (y :: ys)
    | _, _ => none)
def outIds (m : Mem) : List Ln → List Nat
  | [] => []
  | p :: l => (match getM m p.1 with | .chunk _ x => rids x ++ outIds m l | _ => outIds m l)
/-- The ids in what is lent. -/
def lentIds (m : Mem) : List Ln → List Nat
  | [] => []
  | p :: l => (match getM m p.1 with | .chunk _ x => idsV x ++ lentIds m l | _ => lentIds m l)
def isLn (q : Nat) : List Ln → Bool
  | [] => false
  | p :: l => Nat.beq p.1 q || isLn q l
def dropLn (L : List Ln) : List Nat → List Nat
  | [] => []
  | q :: l => if isLn q L then dropLn L l else q :: dropLn L l
/-- The state with what is new at 1. -/
def endG (T : Nat → Option TI) (vs : List ResultVar) (b : Blk) (L : List Ln) (s : St) : St :=
  if isNew b then (match resL T s vs with | some xs => finS s (firstId b s.mem (dropLn L (lentIds s.mem L ++ idsV.idsVs xs))) | none => s) else s
theorem endG_sub (vs : List ResultVar) (b : Blk) (L : List Ln) (s : St) : Sub T s (endG T vs b L s) := by
  unfold endG
  split
  · split
    · unfold finS
      split
      · split
        · exact .refl s
        · rename_i h; exact swS_sub 1 _ s (by simp) (fun h0 => h (by simp [h0]))
      · exact .refl s
    · exact .refl s
  · exact .refl s
structure FinG (x r : SV) (ys zs : List SV) (b n : Blk) : Prop where
  r : x = r
  l : ys = zs
  n : b = n
noncomputable def retG' (T : Nat → Option TI) (ts : List Nat) (vs : List ResultVar) (L : List Ln) (r : SV) (b : Blk) (s : St) : Prop :=
  match resL T s vs with
  | some xs => (match finL T (isNew b) s.mem ts (expE r) xs, outVs T (isNew b) s.mem L with
    | some ys, some zs => if slotsOk s.slots L then FinG (packR ys) r zs (L.map fun p => p.2.2.2) (if isNew b then getM s.mem 1 else .no) b else False
    | _, _ => False)
  | none => False
noncomputable def retG (T : Nat → Option TI) (ts : List Nat) (vs : List ResultVar) (L : List Ln) (r : SV) (b : Blk) (s : St) : Prop := retG' T ts vs L r b (endG T vs b L s)
theorem outVs_mem {nw : Bool} {m : Mem} : ∀ {L : List Ln} {zs : List SV}, outVs T nw m L = some zs → zs = L.map (fun p => p.2.2.2) → ∀ p ∈ L, ∃ x, getM m p.1 = .chunk p.2.1 x ∧ finV T nw m p.2.1 .any x = some p.2.2.2 ∧ ∀ q ∈ rids x, q ∈ outIds m L
  | [], zs, _, _, p, hp => by simp at hp
  | q :: L, zs, h, he, p, hp => by
    simp only [outVs] at h
    split at h
    · rename_i y ys h1 h2
      injection h with h; subst h
      simp only [List.map_cons, List.cons.injEq] at he
      unfold outV at h1
      split at h1
      · rename_i t' x hm
        split at h1
        · rename_i ht
          have ht := nbeq.1 ht
          subst ht
          rcases List.mem_cons.1 hp with rfl | hp
          · exact ⟨x, hm, by rw [h1, he.1], fun k hk => by simp only [outIds, hm]; exact List.mem_append_left _ hk⟩
          · obtain ⟨x', g1, g2, g3⟩ := outVs_mem h2 he.2 p hp
            exact ⟨x', g1, g2, fun k hk => by simp only [outIds, hm]; exact List.mem_append_right _ (g3 k hk)⟩
        · cases h1
      · cases h1
    · cases h
theorem retG_ok (tab : Tab P T) {N : Nat → Prop} {w0 : World} {X : Nat → Prop} {z : Anc} {s : St} {a : Act} {w : World} {ρ : Env} (h : Rep T N w0 X z s a w ρ) {fn : Func} {L : List Ln} {r : SV} {b : Blk} (h1L : ∀ p ∈ L, p.1 ≠ 1) (hlr : (∀ sh l, b ≠ .frz sh l)) (hq : retG' T fn.resultTypes.toList fn.results.toList L r b s) :
    ∃ v ρ', (results fn a.tmps).run P w = .ok v w ∧ MRep T N w0 w X (outL b L) ρ' ∧ Den w (Forb X (outL b L) ρ') ρ' r v ∧ (∀ p ∈ L, ρ' p.1 = ρ p.1 ∧ getM s.mem p.1 ≠ .no) ∧ slotsOk s.slots L = true := by
  unfold retG' at hq
  split at hq <;> try exact hq.elim
  rename_i xs hx
  split at hq <;> try exact hq.elim
  rename_i ys zs hy hz
  split at hq <;> try exact hq.elim
  rename_i hsl
  obtain ⟨q1, q2, q3⟩ := hq
  obtain ⟨us, hr, hd⟩ := resL_ok tab h _ _ hx
  have hout := outVs_mem hz q2
  generalize hnw : isNew b = nw at hy hz hout q3
  have fz := freeze_ids (T := T) (sees_all s.mem) h.m (idsF nw (rids.ridsL xs ++ outIds s.mem L))
  have frc : ∀ q, (∀ sh e k, getM s.mem q ≠ .row sh e k) ∨ q ∉ idsF nw (rids.ridsL xs ++ outIds s.mem L) → getM (appU (frzU (getM s.mem) (idsF nw (rids.ridsL xs ++ outIds s.mem L))) s.mem) q = getM s.mem q := by
    intro q hr
    rcases fz.old q with g | ⟨g1, sh, e, k, g2, _⟩
    · exact g
    · rcases hr with hr | hr
      · exact absurd g2 (hr _ _ _)
      · exact absurd g1 hr
  generalize hM : appU (frzU (getM s.mem) (idsF nw (rids.ridsL xs ++ outIds s.mem L))) s.mem = mem1 at fz frc
  let ρ' : Env := fun k => match getM (outL b L) k with | .no => none | _ => ρ k
  have hch : ∀ p ∈ L, ∃ x, getM mem1 p.1 = .chunk p.2.1 x ∧ finV T nw s.mem p.2.1 .any x = some p.2.2.2 ∧ ∀ q ∈ rids x, q ∈ rids.ridsL xs ++ outIds s.mem L := by
    intro p hp
    obtain ⟨x, g1, g2, g3⟩ := hout p hp
    exact ⟨x, by rw [frc p.1 (.inl fun sh e k hk => by rw [g1] at hk; cases hk)]; exact g1, g2, fun q hq => List.mem_append_right _ (g3 q hq)⟩
  have h1m : b ≠ .no → getM mem1 1 = b ∧ nw = true := by
    intro hb
    have hn : nw = true := by
      rw [← hnw]
      cases b <;> first | rfl | exact absurd rfl hb | exact absurd rfl (hlr _ _)
    rw [hn] at q3
    simp only [if_true] at q3
    exact ⟨by rw [frc 1 (.inr fun hm => (idsF_mem.1 hm).2 ⟨hn, rfl⟩)]; exact q3, hn⟩
  have hρ : ∀ p ∈ L, ρ' p.1 = ρ p.1 := fun p hp => by
    rcases getM_outL0 b L p.1 with ⟨q, hq, h1, h2⟩ | ⟨h1, _⟩
    · simp only [ρ', h2]
    · exact absurd rfl (h1 p hp)
  have hcase : ∀ k, (∃ p ∈ L, p.1 = k ∧ getM (outL b L) k = .chunk p.2.1 p.2.2.2) ∨ (k = 1 ∧ b ≠ .no ∧ getM (outL b L) k = b ∧ ρ' k = ρ k) ∨ (getM (outL b L) k = .no ∧ ρ' k = none) := by
    intro k
    rcases getM_outL0 b L k with h1 | ⟨h1, h2⟩
    · exact .inl h1
    · by_cases hk : k = 1
      · by_cases hb : b = .no
        · right; right
          have : getM (outL b L) k = .no := by rw [h2, hb]; split <;> rfl
          exact ⟨this, by simp only [ρ', this]⟩
        · right; left
          have h3 : getM (outL b L) k = b := by rw [h2, if_pos hk]
          refine ⟨hk, hb, h3, ?_⟩
          show (match getM (outL b L) k with | .no => none | _ => ρ k) = ρ k
          rw [h3]
          cases b <;> first | rfl | exact absurd rfl hb
      · right; right
        have : getM (outL b L) k = .no := by rw [h2, if_neg hk]
        exact ⟨this, by simp only [ρ', this]⟩
  have env : ∀ k, ρ' k = none ∨ ρ' k = ρ k := by
    intro k
    simp only [ρ']
    split
    · exact .inl rfl
    · exact .inr rfl
  have ownk : ∀ k v, (getM (outL b L) k).own = true → ρ' k = some v → (getM mem1 k).own = true ∧ ρ k = some v := by
    intro k v g1 e1
    rcases hcase k with ⟨p, hp, h1, h2⟩ | ⟨h1, hb, h2, h3⟩ | ⟨h1, _⟩
    · subst h1
      obtain ⟨x, g, _⟩ := hch p hp
      exact ⟨by rw [g]; rfl, by rw [← hρ p hp]; exact e1⟩
    · rw [h2] at g1
      rw [h3] at e1
      subst h1
      exact ⟨by rw [(h1m hb).1]; exact g1, e1⟩
    · rw [h1] at g1; simp [Blk.own] at g1
  have hF : ∀ c, Forb X (outL b L) ρ' c → Forb X mem1 ρ c := by
    rintro c (hb | ⟨k, v, k1, k2, k3⟩)
    · exact .inl hb
    · obtain ⟨a1, a2⟩ := ownk k v k1 k2
      exact .inr ⟨k, v, a1, a2, k3⟩
  have lift : ∀ {ρ0 : Env} {x : SV} {v : Value}, Den w (Forb X mem1 ρ) ρ0 x v → Den w (Forb X (outL b L) ρ') ρ0 x v := fun hd => hd.mono (Nat.le_refl _) fun b _ hb => ⟨fun hb' => hb (hF b hb'), rfl⟩
  have lift0 : ∀ {ρ0 : Env} {x : SV} {v : Value}, Den w (Forb X s.mem ρ) ρ0 x v → Den w (Forb X (outL b L) ρ') ρ0 x v := fun hd => lift (hd.mono fz.t.size fz.t.keep)
  -- the parts of a value
  have view1 : ∀ {x y : SV} {v : Value}, (∀ k ∈ rids x, k ∈ idsF nw (rids.ridsL xs ++ outIds s.mem L)) → viewC (getM s.mem) x = some y → Den w (Forb X mem1 ρ) ρ x v → Den w (Forb X (outL b L) ρ') ρ' y v := by
    intro x y v hr hv hd
    obtain ⟨a1, a2⟩ := viewC_same (μ' := getM mem1) (fun k hk => fz.at' k (hr k hk)) hv
    have := viewC_den (sees_all _) fz.m (Z := Forb X (outL b L) ρ') (fun b _ hb hb' => hb (hF b hb')) (fun hl => by rw [a2] at hl; cases hl) a1 hd
    exact this.env fun r => .inr (.inr (by
      have hp : plainB y = true := by
        have := view_data (T := T) (μ := getM s.mem) (t := 0) (x := .agg [x]) (y := .agg [y]) (by simp [view, viewCs, hv])
        simpa [dataB, allPlain] using this
      exact plain_noref hp r))
  have part : ∀ {x y : SV} {v : Value}, (∀ k ∈ rids x, k ∈ rids.ridsL xs ++ outIds s.mem L) → fin1 nw s.mem x = some y → Den w (Forb X mem1 ρ) ρ x v → Den w (Forb X (outL b L) ρ') ρ' y v := by
    intro x y v hr hv hd
    cases x with
    | row q =>
      simp only [fin1] at hv
      split at hv
      · rename_i hc
        simp only [Bool.and_eq_true, nbeq] at hc
        injection hv with hv; subst hv
        obtain ⟨_, rfl⟩ := hc
        exact (lift hd).env fun r => (env r).imp id .inl
      · rename_i hc
        simp only [Bool.and_eq_true, nbeq] at hc
        exact view1 (fun k hk => idsF_mem.2 ⟨hr k hk, by simp [rids] at hk; subst hk; exact hc⟩) hv hd
    | rsl q sh a n c =>
      simp only [fin1] at hv
      split at hv
      · cases hv
      · rename_i hc
        simp only [Bool.and_eq_true, nbeq] at hc
        exact view1 (fun k hk => idsF_mem.2 ⟨hr k hk, by simp [rids] at hk; subst hk; exact hc⟩) hv hd
    | ptr q o =>
      simp only [fin1] at hv
      split at hv
      · rename_i hc
        simp only [Bool.and_eq_true, nbeq] at hc
        injection hv with hv; subst hv
        obtain ⟨⟨_, rfl⟩, rfl⟩ := hc
        exact (lift hd).env fun r => (env r).imp id .inl
      · cases hv
    | agg l => simp [fin1, viewC, plainB] at hv
    | tup l => simp [fin1, viewC, plainB] at hv
    | lsx sh l => simp [fin1, viewC, plainB] at hv
    | _ => exact view1 (fun k hk => by simp [rids] at hk) (by simpa only [fin1] using hv) hd
  have parts : ∀ {l l' : List SV} {vs : List Value}, (∀ k ∈ rids.ridsL l, k ∈ rids.ridsL xs ++ outIds s.mem L) → fin1s nw s.mem l = some l' → DenL w (Forb X mem1 ρ) ρ l vs → DenL w (Forb X (outL b L) ρ') ρ' l' vs := by
    intro l
    induction l with
    | nil => intro l' vs _ hv hd; simp only [fin1s] at hv; injection hv with hv; subst hv; exact ⟨hd.1, fun i x u h => by simp at h⟩
    | cons x l ih =>
      intro l' vs hr hv hd
      simp only [fin1s] at hv
      cases h1 : fin1 nw s.mem x with
      | none => rw [h1] at hv; cases hv
      | some y =>
        cases h2 : fin1s nw s.mem l with
        | none => rw [h1, h2] at hv; cases hv
        | some ys' =>
          rw [h1, h2] at hv
          injection hv with hv; subst hv
          cases vs with
          | nil => have := hd.1; simp at this
          | cons v vs =>
            have ih := ih (fun k hk => hr k (by simp [rids.ridsL, hk])) h2 ⟨by have := hd.1; simpa using this, fun i x u hx hu => hd.2 (i + 1) x u hx hu⟩
            refine ⟨by simp [ih.1], fun i x' u hx' hu' => ?_⟩
            cases i with
            | zero => simp at hx' hu'; subst hx'; subst hu'; exact part (fun k hk => hr k (by simp [rids.ridsL, hk])) h1 (hd.2 0 _ _ rfl rfl)
            | succ i => exact ih.2 i x' u (by simpa using hx') (by simpa using hu')
  have elt : ∀ {x y : SV} {v : Value}, (∀ r ∈ rids x, r ∈ rids.ridsL xs ++ outIds s.mem L) → finX1 nw s.mem x = some y → Den w (Forb X mem1 ρ) ρ x v → Den w (Forb X (outL b L) ρ') ρ' y v := by
    intro x y v hr hv hd
    cases x with
    | agg l =>
      simp only [finX1] at hv
      cases h1 : fin1s nw s.mem l with
      | none => rw [h1] at hv; cases hv
      | some l' =>
        rw [h1] at hv
        injection hv with hv; subst hv
        obtain ⟨cs, rfl, hd2⟩ := Den.agg_iff.1 hd
        exact Den.agg_iff.2 ⟨cs, rfl, parts hr h1 hd2⟩
    | _ => exact part hr (by simpa only [finX1] using hv) hd
  have elts : ∀ {l l' : List SV}, (∀ r ∈ rids.ridsL l, r ∈ rids.ridsL xs ++ outIds s.mem L) → finXs nw s.mem l = some l' → l'.length = l.length ∧ ∀ (i : Nat) (x y : SV), l[i]? = some x → l'[i]? = some y → finX1 nw s.mem x = some y ∧ ∀ r ∈ rids x, r ∈ rids.ridsL xs ++ outIds s.mem L := by
    intro l
    induction l with
    | nil => intro l' _ hv; simp only [finXs] at hv; injection hv with hv; subst hv; exact ⟨rfl, fun i x y h => by simp at h⟩
    | cons x l ih =>
      intro l' hr hv
      simp only [finXs] at hv
      cases h1 : finX1 nw s.mem x with
      | none => rw [h1] at hv; cases hv
      | some y =>
        cases h2 : finXs nw s.mem l with
        | none => rw [h1, h2] at hv; cases hv
        | some ys' =>
          rw [h1, h2] at hv
          injection hv with hv; subst hv
          obtain ⟨g1, g2⟩ := ih (fun r hr' => hr r (by simp [rids.ridsL, hr'])) h2
          refine ⟨by simp [g1], fun i x' y' hx hy => ?_⟩
          cases i with
          | zero => simp at hx hy; subst hx; subst hy; exact ⟨h1, fun r hr' => hr r (by simp [rids.ridsL, hr'])⟩
          | succ i => exact g2 i x' y' (by simpa using hx) (by simpa using hy)
  have whole : ∀ {t : Nat} {e x y : SV} {v : Value}, (∀ k ∈ rids x, k ∈ rids.ridsL xs ++ outIds s.mem L) → finV T nw s.mem t e x = some y → Den w (Forb X mem1 ρ) ρ x v → Den w (Forb X (outL b L) ρ') ρ' y v := by
    intro t e x y v hr hv hd
    cases x with
    | agg l =>
      simp only [finV] at hv
      cases h1 : fin1s nw s.mem l with
      | none => rw [h1] at hv; cases hv
      | some l' =>
        rw [h1] at hv
        injection hv with hv; subst hv
        obtain ⟨cs, rfl, hd2⟩ := Den.agg_iff.1 hd
        exact Den.agg_iff.2 ⟨cs, rfl, parts hr h1 hd2⟩
    | lsx sh l =>
      simp only [finV] at hv
      cases h1 : finXs nw s.mem l with
      | none => rw [h1] at hv; cases hv
      | some l' =>
        rw [h1] at hv
        injection hv with hv; subst hv
        obtain ⟨g1, g2⟩ := elts (fun r hr' => hr r hr') h1
        have hd0 : Den w (Forb X (outL b L) ρ') ρ (.lsx sh l) v := lift hd
        cases hd with
        | lsx _ _ _ b off cap us k1 k2 k3 k4 k5 k6 k7 =>
          cases hd0 with
          | lsx _ _ _ _ _ _ us2 j1 j2 j3 j4 j5 j6 j7 =>
            rw [← g1]
            exact .lsx _ sh l' b off cap us k1 j2 (by rw [g1]; exact k3) k4 (by rw [g1]; exact k5) k6 fun i hi => by
              have hi' : i < l.length := by omega
              obtain ⟨e1, e2⟩ := g2 i _ _ (List.getElem?_eq_getElem hi') (List.getElem?_eq_getElem hi)
              exact elt e2 e1 (k7 i hi')
    | _ =>
      simp only [finV] at hv
      split at hv
      · rename_i y' h1
        injection hv with hv; subst hv
        exact normE_den (part hr h1 hd)
      · cases hv
  have m' : MRep T N w0 w X (outL b L) ρ' := by
    refine ⟨fz.m.low, fz.m.below, fz.m.szN, fun k => ?_, fun k k' v v' c g1 g2 e1 e2 e3 e4 => ?_, gl_mono fz.m.gl (Nat.le_refl _) fun b _ hb => ⟨fun hb' => hb (hF b hb'), rfl⟩⟩
    · rcases hcase k with ⟨p, hp, h1, h2⟩ | ⟨h1, hb, h2, h3⟩ | ⟨h1, h2⟩
      · subst h1
        rw [h2, hρ p hp]
        obtain ⟨x, g1, g2, g3⟩ := hch p hp
        have hb := fz.m.blk p.1
        rw [g1] at hb
        obtain ⟨i, b, us', ty, k1, k2, k3, k4, k5, k6, k7⟩ := hb
        exact ⟨i, b, us', ty, k1, k2, k3, k4, k5, k6, whole g3 g2 k7⟩
      · rw [h2, h3]
        subst h1
        have hb1 := fz.m.blk 1
        rw [(h1m hb).1] at hb1
        cases b with
        | no => exact absurd rfl hb
        | frz sh l => exact absurd rfl (hlr _ _)
        | chunk t x =>
          obtain ⟨i, c, us', ty, k1, k2, k3, k4, k5, k6, k7⟩ := hb1
          exact ⟨i, c, us', ty, k1, k2, k3, k4, k5, k6, (lift k7).env fun r => (env r).imp id .inl⟩
        | row sh e l =>
          obtain ⟨v, k1, k2⟩ := hb1
          refine ⟨v, k1, k2.imp id ?_⟩
          rintro ⟨c, off, cap, cur, j1, j2, j3, j4, j5, j6, j7, j8, j9⟩
          exact ⟨c, off, cap, cur, j1, j2, j3, j4, j5, j6, j7, j8, fun i h => lift (j9 i h)⟩
        | rowx e l i x =>
          obtain ⟨c, off, cap, cur, j1, j2, j3, j4, j5, j6, j7, j8, j9, j10, j11⟩ := hb1
          exact ⟨c, off, cap, cur, j1, j2, j3, j4, j5, j6, j7, j8, j9, fun j h hj => lift (j10 j h hj), (lift j11).env fun r => (env r).imp id .inl⟩
        | rown sh e l =>
          obtain ⟨c, off, cap, cur, j1, j2, j3, j4, j5, j6, j7, j8, j9⟩ := hb1
          exact ⟨c, off, cap, cur, j1, j2, j3, j4, j5, j6, j7, j8, fun i h => (lift (j9 i h)).env fun r => (env r).imp id .inl⟩
        | iter s p => exact hb1
        | gen _ _ _ => exact hb1
      · rw [h1]; exact h2
    · obtain ⟨a1, a2⟩ := ownk k v g1 e1
      obtain ⟨b1, b2⟩ := ownk k' v' g2 e2
      exact fz.m.inj k k' v v' c a1 b1 a2 b2 e3 e4
  have hd1 : DenL w (Forb X mem1 ρ) ρ xs us := ⟨hd.1, fun i x u hx hu => fz.t.den (fun _ h => by cases h) (hd.2 i x u hx hu)⟩
  have all : ∀ {ts : List Nat} {es l l' : List SV} {vs : List Value}, (∀ r ∈ rids.ridsL l, r ∈ rids.ridsL xs) → finL T nw s.mem ts es l = some l' → DenL w (Forb X mem1 ρ) ρ l vs → DenL w (Forb X (outL b L) ρ') ρ' l' vs := by
    intro ts
    induction ts with
    | nil =>
      intro es l l' vs _ hv hd
      cases l with
      | nil => simp only [finL] at hv; injection hv with hv; subst hv; exact ⟨hd.1, fun i x u h => by simp at h⟩
      | cons => simp [finL] at hv
    | cons t ts ih =>
      intro es l l' vs hr hv hd
      cases l with
      | nil => simp [finL] at hv
      | cons x l =>
        simp only [finL] at hv
        cases h1 : finV T nw s.mem t (hdE es) x with
        | none => rw [h1] at hv; cases hv
        | some y =>
          cases h2 : finL T nw s.mem ts (tlE es) l with
          | none => rw [h1, h2] at hv; cases hv
          | some ys' =>
            rw [h1, h2] at hv
            injection hv with hv; subst hv
            cases vs with
            | nil => have := hd.1; simp at this
            | cons v vs =>
              have ih := ih (fun r hr' => hr r (by simp [rids.ridsL, hr'])) h2 ⟨by have := hd.1; simpa using this, fun i x u hx hu => hd.2 (i + 1) x u hx hu⟩
              refine ⟨by simp [ih.1], fun i x' u hx' hu' => ?_⟩
              cases i with
              | zero => simp at hx' hu'; subst hx'; subst hu'; exact whole (fun r hr' => List.mem_append_left _ (hr r (by simp [rids.ridsL, hr']))) h1 (hd.2 0 _ _ rfl rfl)
              | succ i => exact ih.2 i x' u (by simpa using hx') (by simpa using hu')
  have hdy := all (fun r hr => hr) hy hd1
  have hm : (fn.results.mapM (resSem a)).run P w = .ok us.toArray w := by
    rw [Array.mapM_eq_mapM_toList, Sem.run_map, hr]
    rfl
  have hres : (results fn a.tmps).run P w = .ok (if h : us.toArray.size = 1 then us.toArray[0] else .tuple us.toArray) w := by
    unfold results
    rw [Sem.run_bind]
    refine (congrArg (fun r => Result.andThen r _) hm).trans ?_
    rfl
  refine ⟨_, ρ', hres, m', ?_, fun p hp => ⟨hρ p hp, ?_⟩, hsl⟩
  · rw [← q1]
    by_cases h1 : us.length = 1
    · obtain ⟨u, rfl⟩ := List.length_eq_one_iff.1 h1
      have hxl : ys.length = 1 := by rw [hdy.1]; rfl
      obtain ⟨x, rfl⟩ := List.length_eq_one_iff.1 hxl
      simp only [packR]
      have := hdy.2 0 x u rfl rfl
      simpa using this
    · have hp : packR ys = .tup ys := by
        have : ys.length ≠ 1 := by rw [hdy.1]; exact h1
        match ys, this with
        | [], _ => rfl
        | [x], h => exact absurd rfl h
        | x :: y :: l, _ => rfl
      rw [hp, dif_neg (by simpa using h1)]
      exact Den.tup_iff.2 ⟨us, rfl, hdy⟩
  · obtain ⟨x, g1, _⟩ := hout p hp
    rw [g1]
    simp

theorem contractG (tab : Tab P T) (hG : ∀ f c, G f c → ACall P T f c) (hmix : P.follows .mixedOrders = true) {f : FuncId} {fn : Func} {c : Code} {az : List SV} {L : List Ln} {r : SV} {nb : Blk} (hf : P.funcs[f]? = some fn) (hb : fn.body = some c)
    (hn : (fn.name == "runtime.NumGoroutine") = false) (hok : codeOk c = true) (hpos : posOk az (assignedC c) L = true)
    (h : swp T G c (startG fn.ntmps az L) ⟨fun s => retG T fn.resultTypes.toList fn.results.toList L r nb s, fun s => retG T fn.resultTypes.toList fn.results.toList L r nb s, fun _ _ => False⟩) (hsq : isSeq (gC az L r nb) = false) (hlr : isLR (gC az L r nb) = false) : ACall P T f (gC az L r nb) := by
  refine ⟨⟨fn, hf, by rw [hb]; rfl, hn⟩, (fun hs => absurd hs (by rw [hsq]; simp)), (fun sh e l az k hc => ?_), (fun az' L' r' nb' hc _ _ hnd => ?_), (fun _ _ hs => by cases hs)⟩
  · have := congrArg CT.lent hc
    simp only [gC, lrC, Option.some.injEq, Prod.mk.injEq] at this
    cases this.2
  obtain ⟨rfl, rfl, rfl, rfl⟩ := gC_inj hc
  have h1L : ∀ p ∈ L, p.1 ≠ 1 := fun p hp => by rcases posOk_mem hpos p hp with e | ⟨e, _⟩ <;> omega
  have hnf : ∀ sh l, nb ≠ .frz sh l := fun sh l e => by rw [e] at hlr; cases hlr
  intro N w X ρ vs m hd
  refine (callsIn_wide (n := 1)).1 (callsIn_of_wp_marks hf hb trivial ?_)
  let fx : Nat → Option Value := fun q => if q ∈ assignedC c then none else if q < vs.length then some (vs.getD q undef) else none
  have hz : ∀ q v, fx q = some v → vs.getD q undef = v ∧ q < vs.length := fun q v hq => by
    simp only [fx] at hq
    split at hq
    · cases hq
    · split at hq
      · rename_i h; injection hq with hq; exact ⟨hq, h⟩
      · cases hq
  have hget : ∀ t, t < vs.length → ((⟨vs⟩ : Array Value) ++ Array.replicate (fn.ntmps - (⟨vs⟩ : Array Value).size) undef).getD t undef = vs.getD t undef := by
    intro t ht
    simp [Array.getElem?_append, ht]
  have hrep : Rep T N w X ⟨ρ 0, fx, none, false⟩ (startG fn.ntmps az L) { tmps := ⟨vs⟩ ++ Array.replicate (fn.ntmps - (⟨vs⟩ : Array Value).size) undef, defers := [] } w ρ := by
    refine ⟨m, .nil _ _ _, ?_, fun t => ?_, fun v hv _ => hv, (fun t v hv => ?_), (fun _ h => by cases h), (fun h => by cases h)⟩
    · simp only [startG, Array.size_append, List.size_toArray, Array.size_replicate, List.length_append, List.length_replicate, hd.1]
    · simp only [startG]
      rw [getN_eq]
      by_cases ht : t < az.length
      · have ht' : t < vs.length := by rw [← hd.1]; exact ht
        rw [List.getElem?_append_left ht, List.getElem?_eq_getElem ht, hget t ht']
        have : vs.getD t undef = vs[t] := by simp [List.getD, ht']
        rw [this]
        exact hd.2 t _ _ (List.getElem?_eq_getElem ht) (List.getElem?_eq_getElem ht')
      · rw [List.getElem?_append_right (by omega), List.getElem?_replicate]
        split <;> exact .any _ _
    · obtain ⟨h1, h2⟩ := hz t v hv
      rw [hget t h2]
      exact h1
  have fin0 : ∀ (s : St) (a : Act) (w' : World) (ρ1 : Env), retG T fn.resultTypes.toList fn.results.toList L r nb s → Rep T N w X ⟨ρ 0, fx, none, false⟩ s a w' ρ1 →
      ∃ v, (results fn a.tmps).run P w' = .ok v w' ∧ ∃ v' ρ', Ending.returned v = .returned v' ∧ MRep T N w w' X (outL nb L) ρ' ∧ (∀ p ∈ L, ρ' p.1 = ρ p.1) ∧ Den w' (Forb X (outL nb L) ρ') ρ' r v' := by
    intro s a w' ρ1 hq hr
    obtain ⟨ρ2, hr2⟩ := (endG_sub (T := T) fn.results.toList nb L s).h _ _ _ _ _ _ _ hr
    clear hr
    clear ρ1
    have hr := hr2
    clear hr2
    obtain ⟨ρ1, rfl⟩ : ∃ q, q = ρ2 := ⟨_, rfl⟩
    obtain ⟨v, ρ', h1, h2, h3, h4, h5⟩ := retG_ok tab hr h1L hnf hq
    generalize endG T fn.results.toList nb L s = s at hr h4 h5
    refine ⟨v, h1, v, ρ', rfl, h2, fun p hp => ?_, h3⟩
    obtain ⟨k1, k2⟩ := h4 p hp
    rw [k1]
    have hsome : ∃ u, ρ p.1 = some u := by
      cases hu : ρ p.1 with
      | some u => exact ⟨u, rfl⟩
      | none =>
        exfalso
        have := (m.some0 p.1).2 hu
        have hin : ∀ (L' : List Ln), p ∈ L' → getM (inL L') p.1 ≠ .no := by
          intro L'
          induction L' with
          | nil => intro h; simp at h
          | cons q L' ih =>
            intro h hno
            simp only [inL, List.map_cons, getM, nbeq] at hno
            by_cases e : q.1 = p.1
            · rw [if_pos e] at hno; cases hno
            · rw [if_neg e] at hno
              rcases List.mem_cons.1 h with rfl | h
              · exact e rfl
              · exact ih h hno
        exact hin L hp this
    obtain ⟨u, hu⟩ := hsome
    have hsome1 : ∃ u1, ρ1 p.1 = some u1 := by
      cases hu1 : ρ1 p.1 with
      | some u => exact ⟨u, rfl⟩
      | none => exact absurd ((hr.m.some0 p.1).2 hu1) k2
    obtain ⟨u1, hu1⟩ := hsome1
    rcases posOk_mem hpos p hp with e | ⟨e1, e2⟩
    · rw [hu]
      rw [e] at hu k2 ⊢
      exact hr.anch u hu k2
    · by_cases e0 : p.1 = 0
      · rw [hu]
        rw [e0] at hu k2 ⊢
        exact hr.anch u hu k2
      obtain ⟨e2, e3⟩ := e2
      generalize hpos : p.1 - 900 = pos at e2 e3
      have hlt : pos < az.length := by
        by_cases hl : pos < az.length
        · exact hl
        · rw [getN_eq, List.getElem?_eq_none (by omega)] at e3
          cases e3
      have hlt' : pos < vs.length := by rw [← hd.1]; exact hlt
      have hsl := (slotsOk_mem h5 p hp).resolve_left e0
      rw [hpos] at hsl
      have d1 := hr.slot pos
      rw [hsl, hr.fix pos (vs.getD pos undef) (by simp only [fx]; rw [if_neg e2, if_pos hlt'])] at d1
      have d0 := hd.2 pos (.ptr p.1 0) (vs.getD pos undef) (by rw [getN_eq] at e3; rw [List.getElem?_eq_getElem hlt] at e3 ⊢; simpa using e3) (by simp [List.getD, hlt'])
      generalize hv0 : vs.getD pos undef = v0 at d0 d1
      cases d0 with
      | ptr _ _ _ b hb =>
        have e3 := hb u hu
        cases d1 with
        | ptr _ _ _ _ hb1 =>
          have e4 := hb1 u1 hu1
          rw [hu, hu1, e3, e4]
  have fin1 : ∀ (Ds : List Nat) (s : St) (a : Act) (w' : World) (ρ1 : Env), retG T fn.resultTypes.toList fn.results.toList L r nb s → Rep T N w X ⟨ρ 0, fx, none, false⟩ s a w' ρ1 → a.defers = Ds.map (fun D => { target := .collected D, args := #[] }) → Ds.Nodup →
      (∀ D ∈ Ds, N D ∧ ¬ Forb X s.mem ρ1 D ∧ w'.heap[D]? = some (.deferred (some []))) →
      LeavesInM Fence.wide 1 P fn a.tmps (fun e w' => ∃ v' ρ', e = .returned v' ∧ MRep T N w w' X (outL nb L) ρ' ∧ (∀ p ∈ L, ρ' p.1 = ρ p.1) ∧ Den w' (Forb X (outL nb L) ρ') ρ' r v') a.defers .returning w' := by
    intro Ds
    induction Ds with
    | nil =>
      intro s a w' ρ1 hq hr hd _ _
      rw [hd]
      exact fin0 s a w' ρ1 hq hr
    | cons D Ds ih =>
      intro s a w' ρ1 hq hr hd hnd hk
      rw [hd]
      obtain ⟨k1, k2, k3⟩ := hk D (by simp)
      have hne : ∀ q ∈ Ds, q ≠ D := by rintro q hq rfl; exact (List.nodup_cons.1 hnd).1 hq
      have hk2 : ∀ q ∈ Ds, N q ∧ ¬ Forb X s.mem ρ1 q ∧ (w'.putObj D (.deferred none)).heap[q]? = some (.deferred (some [])) := fun q hq => by
        obtain ⟨g1, g2, g3⟩ := hk q (by simp [hq])
        exact ⟨g1, g2, (World.putObj_heap_other (hne q hq)).trans g3⟩
      have hr2 := hr.putObj k3 rfl k1 k2 (.deferred none) (ds := Ds.map (fun D => { target := .collected D, args := #[] })) ⟨Ds, rfl, (List.nodup_cons.1 hnd).2, hk2⟩ (fun h => by cases h)
      exact ⟨by simp, .inl ⟨D, _, rfl, run_takeDeferred k3, ih s _ _ ρ1 hq hr2 rfl (List.nodup_cons.1 hnd).2 hk2⟩⟩
  have fin : ∀ (s : St) (a : Act) (w' : World) (ρ1 : Env), retG T fn.resultTypes.toList fn.results.toList L r nb s → Rep T N w X ⟨ρ 0, fx, none, false⟩ s a w' ρ1 →
      LeavesInM Fence.wide 1 P fn a.tmps (fun e w' => ∃ v' ρ', e = .returned v' ∧ MRep T N w w' X (outL nb L) ρ' ∧ (∀ p ∈ L, ρ' p.1 = ρ p.1) ∧ Den w' (Forb X (outL nb L) ρ') ρ' r v') a.defers .returning w' := by
    intro s a w' ρ1 hq hr
    obtain ⟨Ds, h1, h2, h3⟩ := hr.defers.h
    exact fin1 Ds s a w' ρ1 hq hr h1 h2 h3
  exact swp_sound tab hG hmix c N w X _ _ _ _ _ w ρ hok h hrep (fun s a w' ρ1 hq hr => fin s a w' ρ1 hq hr) (fun s a w' ρ1 hq hr => fin s a w' ρ1 hq hr) (fun i s a w' ρ hq => hq.elim) (fun q hq => by simp only [fx]; rw [if_pos hq]) none 1 (.inl ⟨rfl, rfl⟩)

/-! ### Loops: what a round may write is forgotten, then said anew -/
def putNs : List (Nat × SV) → List SV → List SV
  | [], l => l
  | (d, x) :: ds, l => putNs ds (setN x l d)
/-- The memory less the ids that a round may make. -/
def killM (D : List Nat) : Mem → Mem
  | [] => []
  | (k, b) :: m => (match b with
    | .no => killM D m
    | b => if memB k D then killM D m else (k, b) :: killM D m)
def putMs : List (Nat × Blk) → Mem → Mem
  | [], m => m
  | (d, x) :: ds, m => putMs ds (setM x m d)
def loopSt (c : Code) (s : St) (u : List (Nat × SV)) (v : List (Nat × Blk)) : St :=
  ⟨putNs u (killN (assignedC c) s.slots), putMs v (killM (assignedC c) s.mem)⟩
/-- Nil cells taken for empty lists where lists are wanted. -/
def nilL : List SV → List SV → List SV
  | .lst sh _ :: ys, .nil :: xs => .lst sh [] :: nilL ys xs
  | _ :: ys, x :: xs => x :: nilL ys xs
  | _, xs => xs
def nilH : List SV → List SV → Bool
  | .lst _ _ :: _, .nil :: _ => true
  | _ :: ys, _ :: xs => nilH ys xs
  | _, _ => false
def fitN (k : Nat) (b : Blk) (s : St) : St :=
  match b, getM s.mem k with
  | .chunk _ (.agg ys), .chunk t (.agg xs) => if nilH ys xs then ⟨s.slots, setM (.chunk t (.agg (nilL ys xs))) s.mem k⟩ else s
  | _, _ => s
theorem nilL_den {w : World} {Y : Nat → Prop} {ρ : Env} : ∀ (ys xs : List SV) (us : List Value), DenL w Y ρ xs us → DenL w Y ρ (nilL ys xs) us
  | [], xs, us, h => by unfold nilL; exact h
  | y :: ys, [], us, h => by cases y <;> exact h
  | y :: ys, x :: xs, [], h => by have := h.1; simp at this
  | y :: ys, x :: xs, u :: us, h => by
    have ih := nilL_den ys xs us ⟨by have := h.1; simpa using this, fun i x u hx hu => h.2 (i + 1) x u hx hu⟩
    have cons : ∀ x', Den w Y ρ x' u → DenL w Y ρ (x' :: nilL ys xs) (u :: us) := fun x' hx' => ⟨by simp [ih.1], fun i z v hz hv => by
      cases i with
      | zero => simp at hz hv; subst hz; subst hv; exact hx'
      | succ i => exact ih.2 i z v (by simpa using hz) (by simpa using hv)⟩
    have h0 := h.2 0 x u rfl rfl
    have keep : DenL w Y ρ (x :: nilL ys xs) (u :: us) := cons x h0
    cases y with
    | lst sh l =>
      cases x with
      | nil =>
        refine cons _ ?_
        generalize u = v at h0
        cases h0
        exact .lst0 _ _ _ _
      | _ => exact keep
    | _ => exact keep
theorem MRep.weakC {N : Nat → Prop} {w0 w : World} {X : Nat → Prop} {mem : Mem} {ρ : Env} (m : MRep T N w0 w X mem ρ) {k t : Nat} {xs xs' : List SV} (hk : getM mem k = .chunk t (.agg xs)) (hw : ∀ (us : List Value), DenL w (Forb X mem ρ) ρ xs us → DenL w (Forb X mem ρ) ρ xs' us) :
    MRep T N w0 w X (setM (.chunk t (.agg xs')) mem k) ρ ∧ Forb X (setM (.chunk t (.agg xs')) mem k) ρ = Forb X mem ρ := by
  have ho : ∀ r, (getM (setM (.chunk t (.agg xs')) mem k) r).own = (getM mem r).own := fun r => by
    rw [getM_setM]
    by_cases h : r = k
    · subst h; rw [if_pos rfl, hk]; rfl
    · rw [if_neg h]
  have hF : Forb X (setM (.chunk t (.agg xs')) mem k) ρ = Forb X mem ρ := by
    funext b
    simp only [Forb, owned, ho]
  refine ⟨⟨m.low, m.below, m.szN, fun r => ?_, fun r r' v v' b g1 g2 => ?_, ?_⟩, hF⟩
  · rw [hF, getM_setM]
    by_cases h : r = k
    · subst h
      rw [if_pos rfl]
      have hb := m.blk r
      rw [hk] at hb
      obtain ⟨i, b, us, ty, h1, h2, h3, h4, h5, h6, h7⟩ := hb
      refine ⟨i, b, us, ty, h1, h2, h3, h4, h5, h6, ?_⟩
      obtain ⟨cs, hv, hc⟩ := Den.agg_iff.1 h7
      exact Den.agg_iff.2 ⟨cs, hv, hw _ hc⟩
    · rw [if_neg h]; exact m.blk r
  · rw [ho] at g1 g2
    exact m.inj r r' v v' b g1 g2
  · rw [hF]; exact m.gl
theorem fitN_sub (k : Nat) (b : Blk) (s : St) : Sub T s (fitN k b s) := ⟨fun N w0 X z a w ρ hr => by
  unfold fitN
  split
  case h_2 => exact ⟨ρ, hr⟩
  rename_i ys t xs hk
  split
  case isFalse => exact ⟨ρ, hr⟩
  obtain ⟨m', hF⟩ := hr.m.weakC hk (xs' := nilL ys xs) (fun us => nilL_den ys xs us)
  refine ⟨ρ, ⟨m', by rw [hF]; exact hr.defers, hr.size, fun t => by rw [hF]; exact hr.slot t, anch_turn hr.m m' hr.anch (.inr rfl), hr.fix, hr.len, hr.nod⟩⟩⟩
/-- A slot that is nil, taken for an empty list. -/
def nilT (t : Nat) (sh : Option Nat) (s : St) : St :=
  match getN .any s.slots t with
  | .nil => if Nat.blt t s.slots.length then ⟨setN (.lst sh []) s.slots t, s.mem⟩ else s
  | _ => s
theorem nilT_sub (t : Nat) (sh : Option Nat) (s : St) : Sub T s (nilT t sh s) := ⟨fun N w0 X z a w ρ hr => by
  unfold nilT
  split
  case h_2 => exact ⟨ρ, hr⟩
  rename_i ht
  split
  case isFalse => exact ⟨ρ, hr⟩
  rename_i hc
  simp only [Nat.blt_eq] at hc
  refine ⟨ρ, ⟨hr.m, hr.defers, by rw [hr.size]; simp [setN_length], fun k => ?_, hr.anch, hr.fix, hr.len, hr.nod⟩⟩
  simp only
  rw [getN_setN _ _ _ _ _ hc]
  by_cases hk : k = t
  · subst hk
    rw [if_pos rfl]
    have := hr.slot k
    rw [ht] at this
    generalize a.tmps.getD k undef = v at this
    cases this
    exact .lst0 _ _ _ _
  · rw [if_neg hk]
    exact hr.slot k⟩
/-- Ids exchanged so that the values are as they are wanted. -/
noncomputable def fit1 (v : List (Nat × Blk)) (t : Nat) (y : SV) (s : St) : St :=
  match y, getN .any s.slots t with
  | .row q, .row p => if Nat.beq p q || Nat.beq p 0 || Nat.beq q 0 then s else swS p q s
  | .ptr q _, .ptr p _ => if Nat.beq p q || Nat.beq p 0 || Nat.beq q 0 then s else swS p q s
  | .row q, .nil => (match getM v q with | .row sh e _ => adopt t q sh e s | _ => s)
  | .rsl q _ _ _ _, .row p => asRsl t (if Nat.beq p q || Nat.beq p 0 || Nat.beq q 0 then s else swS p q s)
  | .rsl q _ _ _ _, .rsl p _ _ _ _ => if Nat.beq p q || Nat.beq p 0 || Nat.beq q 0 then s else swS p q s
  | .lst sh _, .nil => nilT t sh s
  | _, _ => s
noncomputable def fitU (v : List (Nat × Blk)) : List (Nat × SV) → St → St
  | [], s => s
  | (t, y) :: u, s => fitU v u (fit1 v t y s)
def sw1 (y x : SV) (s : St) : St :=
  match y, x with
  | .row q, .row p => if Nat.beq p q || Nat.beq p 0 || Nat.beq q 0 then s else swS p q s
  | _, _ => s
def fit2 : List SV → List SV → St → St
  | y :: ys, x :: xs, s => fit2 ys xs (sw1 y x s)
  | [], _, s => s
  | _ :: _, [], s => s
noncomputable def fitB (k : Nat) (b : Blk) (s : St) : St :=
  match b, getM s.mem k with
  | .chunk _ (.agg ys), .chunk _ (.agg xs) => fit2 ys xs s
  | .row _ _ _, .rowx _ _ _ _ => unXs k s
  | .rowx _ _ _ y, .rowx _ _ _ x => sw1 y x s
  | _, _ => s
noncomputable def fitM : List (Nat × Blk) → St → St
  | [], s => s
  | (k, b) :: v, s => fitM v (fitN k b (fitB k b s))
noncomputable def fitS (u : List (Nat × SV)) (v : List (Nat × Blk)) (s : St) : St := fitM v (fitU v u s)
theorem swS_sub' (p q : Nat) (s : St) : Sub T s (if Nat.beq p q || Nat.beq p 0 || Nat.beq q 0 then s else swS p q s) := by
  split
  · exact .refl s
  · rename_i h
    simp only [Bool.or_eq_true, nbeq, not_or] at h
    exact swS_sub p q s h.1.2 h.2
theorem fit1_sub (v : List (Nat × Blk)) (t : Nat) (y : SV) (s : St) : Sub T s (fit1 v t y s) := by
  unfold fit1
  split
  · exact swS_sub' _ _ s
  · exact swS_sub' _ _ s
  · split
    · exact adopt_sub _ _ _ _ s
    · exact .refl s
  · exact (swS_sub' _ _ s).trans (asRsl_sub _ _)
  · exact swS_sub' _ _ s
  · exact nilT_sub _ _ s
  · exact .refl s
theorem fitU_sub (v : List (Nat × Blk)) : ∀ (u : List (Nat × SV)) (s : St), Sub T s (fitU v u s)
  | [], s => .refl s
  | (t, y) :: u, s => (fit1_sub v t y s).trans (fitU_sub v u _)
theorem sw1_sub (y x : SV) (s : St) : Sub T s (sw1 y x s) := by
  unfold sw1
  split
  · exact swS_sub' _ _ s
  · exact .refl s
theorem fit2_sub : ∀ (ys xs : List SV) (s : St), Sub T s (fit2 ys xs s)
  | [], xs, s => by simp only [fit2]; exact .refl s
  | y :: ys, [], s => by simp only [fit2]; exact .refl s
  | y :: ys, x :: xs, s => by
    simp only [fit2]
    exact (sw1_sub y x s).trans (fit2_sub ys xs _)
theorem fitB_sub (k : Nat) (b : Blk) (s : St) : Sub T s (fitB k b s) := by
  unfold fitB
  split
  · exact fit2_sub _ _ s
  · exact unXs_sub k s
  · exact sw1_sub _ _ s
  · exact .refl s
theorem fitM_sub : ∀ (v : List (Nat × Blk)) (s : St), Sub T s (fitM v s)
  | [], s => .refl s
  | (k, b) :: v, s => ((fitB_sub k b s).trans (fitN_sub k b _)).trans (fitM_sub v _)
theorem fitS_sub (u : List (Nat × SV)) (v : List (Nat × Blk)) (s : St) : Sub T s (fitS u v s) := (fitU_sub v u s).trans (fitM_sub v _)

theorem loopQ {c : Code} {s : St} {K : Ks} {A : Type} (I : A → Prop) (μ : A → Nat) (u : A → List (Nat × SV)) (v : A → List (Nat × Blk)) (i0 : A) (h0 : I i0)
    (hs : WeakSt (fitS (u i0) (v i0) s) (loopSt c (fitS (u i0) (v i0) s) (u i0) (v i0)))
    (hr : ∀ i, I i → swp T G c (loopSt c (fitS (u i0) (v i0) s) (u i) (v i)) ⟨fun s' => ∃ j, I j ∧ μ j < μ i ∧ WeakSt (fitS (u j) (v j) s') (loopSt c (fitS (u i0) (v i0) s) (u j) (v j)), K.r, K.e⟩) : LoopQ T (fun s K => swp T G c s K) s K := by
  exact ⟨.inr ⟨A, I, μ, fun i => loopSt c (fitS (u i0) (v i0) s) (u i) (v i), fun i s s' => WeakSt (fitS (u i) (v i) s) s', fun i s s' h => (fitS_sub (u i) (v i) s).trans (weak_sub h), ⟨i0, h0, hs⟩, hr⟩⟩
theorem unrollq {F : St → Ks → Prop} {s : St} {K : Ks} (n : Nat) (h : unrollQ F n s K) : LoopQ T F s K := ⟨.inl ⟨n, h⟩⟩
def rangeSt (asg : List Nat) (s : St) (u : List (Nat × SV)) (v : List (Nat × Blk)) : St := ⟨putNs u (killN asg s.slots), putMs v (killM asg s.mem)⟩
theorem rangeQ {FA FB : St → Ks → Prop} {asg ps : List Nat} {f : Nat} {caps : List SV} {s : St} {K : Ks} (xs : List (List SV)) (hg : G f (seqC caps xs)) (hx : ∀ x ∈ xs, x.length = ps.length ∧ datas x = true) {A : Type} (I : A → Prop) (pos : A → Nat) (u : A → List (Nat × SV)) (v : A → List (Nat × Blk)) (i0 : A) (h0 : I i0 ∧ pos i0 = 0)
    (hs : WeakSt (fitS (u i0) (v i0) (kill asg s)) (rangeSt asg (fitS (u i0) (v i0) (kill asg s)) (u i0) (v i0)))
    (hr : ∀ i x, I i → xs[pos i]? = some x → FA ⟨putZ ps x (rangeSt asg (fitS (u i0) (v i0) (kill asg s)) (u i) (v i)).slots, (rangeSt asg (fitS (u i0) (v i0) (kill asg s)) (u i) (v i)).mem⟩
      ⟨fun s1 => FB s1 ⟨fun s' => ∃ j, I j ∧ pos j = pos i + 1 ∧ WeakSt (fitS (u j) (v j) (kill asg s')) (rangeSt asg (fitS (u i0) (v i0) (kill asg s)) (u j) (v j)), fun s' => K.r (kill asg s'), fun id s' => K.e id (kill asg s')⟩, fun _ => False, fun _ _ => False⟩)
    (hd : ∀ i, I i → pos i = xs.length → K.n (rangeSt asg (fitS (u i0) (v i0) (kill asg s)) (u i) (v i))) : RangeQ T G FA FB asg ps f caps s K :=
  ⟨⟨xs, hg, hx, A, I, pos, fun i => rangeSt asg (fitS (u i0) (v i0) (kill asg s)) (u i) (v i), fun i s s' => WeakSt (fitS (u i) (v i) s) s', fun i s s' h => (fitS_sub (u i) (v i) s).trans (weak_sub h), ⟨i0, h0.1, h0.2, hs⟩, hr, hd⟩⟩
end Go.Proofs.YtligbjbkecmecaaDoor
