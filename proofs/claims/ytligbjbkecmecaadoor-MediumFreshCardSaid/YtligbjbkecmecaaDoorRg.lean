/- Loops over functions ('for .. := range seq'): what is kept between two rounds; the law. -/
import Derived.Test.YtligbjbkecmecaaDoorRen
namespace Go.Proofs.YtligbjbkecmecaaDoor
set_option linter.unusedVariables false
set_option linter.unusedSimpArgs false
open Go.RowKit
variable {P : Program} {T : Nat → Option TI} {G : Nat → CT → Prop}

structure Ks where
  n : St → Prop
  r : St → Prop
  e : Nat → St → Prop

/-- The temporaries that a code writes. -/
def dstsL : List Oper → List Nat
  | [] => []
  | o :: l => (match o.dst with | some d => d :: dstsL l | none => dstsL l)
theorem dstsL_mem {q : Nat} {l : List Oper} {o : Oper} (h : o ∈ l) (hq : o.dst = some q) : q ∈ dstsL l := by
  induction l with
  | nil => cases h
  | cons p l ih =>
    simp only [dstsL]
    rcases List.mem_cons.1 h with h | h
    · rw [← h, hq]; simp
    · have := ih h
      split
      · exact List.mem_cons_of_mem _ this
      · exact this
def assignedC : Code → List Nat
  | .region _ ops _ => dstsL ops.toList
  | .seq a b => assignedC a ++ assignedC b
  | .cond _ a b => assignedC a ++ assignedC b
  | .block _ c => assignedC c
  | .scope c => assignedC c
  | .loop c => assignedC c
  | .rangeFunc _ ps a b => ps.toList ++ (assignedC a ++ assignedC b)
  | _ => []
def killN : List Nat → List SV → List SV
  | [], l => l
  | d :: ds, l => killN ds (setN .any l d)
/-- The slots of a loop over a function forgotten. -/
def kill (asg : List Nat) (s : St) : St := ⟨killN asg s.slots, s.mem⟩
/-- A round's parameters. -/
def putZ : List Nat → List SV → List SV → List SV
  | d :: ds, x :: xs, l => putZ ds xs (setN x l d)
  | _, _, l => l
def datas : List SV → Bool
  | [] => true
  | x :: l => dataB x && datas l
/-- A loop over a function: what it yields; what holds between two rounds. -/
structure RangeQ (T : Nat → Option TI) (G : Nat → CT → Prop) (FA FB : St → Ks → Prop) (asg ps : List Nat) (f : Nat) (caps : List SV) (s : St) (K : Ks) : Prop where
  h : ∃ (xs : List (List SV)), G f (seqC caps xs) ∧ (∀ x ∈ xs, x.length = ps.length ∧ datas x = true) ∧ ∃ (A : Type) (I : A → Prop) (pos : A → Nat) (g : A → St) (R : A → St → St → Prop), (∀ i s s', R i s s' → Sub T s s') ∧ (∃ i, I i ∧ pos i = 0 ∧ R i (kill asg s) (g i)) ∧
    (∀ i x, I i → xs[pos i]? = some x → FA ⟨putZ ps x (g i).slots, (g i).mem⟩ ⟨fun s1 => FB s1 ⟨fun s' => ∃ j, I j ∧ pos j = pos i + 1 ∧ R j (kill asg s') (g j), fun s' => K.r (kill asg s'), fun id s' => K.e id (kill asg s')⟩, fun _ => False, fun _ _ => False⟩) ∧
    (∀ i, I i → pos i = xs.length → K.n (g i))


/-! ### Blocks that are no cells -/
theorem Den.monoC {w w' : World} {X X' : Nat → Prop} (hs : w.heap.size ≤ w'.heap.size) (hk : ∀ b, b < w.heap.size → ¬ X b → ¬ X' b ∧ ∀ o u, w.cell? ⟨b, o, none⟩ = some u → w'.cell? ⟨b, o, none⟩ = some u)
    {ρ : Env} {x : SV} {v : Value} (h : Den w X ρ x v) : Den w' X' ρ x v := by
  induction h with
  | any ρ v => exact .any ρ v
  | bool ρ b => exact .bool ρ b
  | int ρ k n => exact .int ρ k n
  | str ρ s => exact .str ρ s
  | agg ρ l cs hl h ih => exact .agg ρ l cs hl ih
  | tup ρ l cs hl h ih => exact .tup ρ l cs hl ih
  | lst0 ρ sh a cap => exact .lst0 ρ sh a cap
  | lst ρ sh l b off cap us hb hx hc hu hl ho h ih =>
    exact .lst ρ sh l b off cap us (by omega) (hk b hb hx).1 hc (fun j u hj => (hk b hb hx).2 _ _ (hu j u hj)) hl ho ih
  | nil ρ => exact .nil ρ
  | ptr ρ r off b h => exact .ptr ρ r off b h
  | row ρ r a n c h => exact .row ρ r a n c h
  | rsl ρ r sh a n c x cc hc h => exact .rsl ρ r sh a n c x cc hc h
  | rptr ρ r sh i off b o h => exact .rptr ρ r sh i off b o h
  | eptr ρ sh x off b o us hb hx hu hl h ih =>
    exact .eptr ρ sh x off b o us (by omega) (hk b hb hx).1 (fun j u hj => (hk b hb hx).2 _ _ (hu j u hj)) hl ih
  | clo ρ f caps us hl h ih => exact .clo ρ f caps us hl ih
  | obj ρ r v h1 h => exact .obj ρ r v h1 h
  | val ρ v => exact .val ρ v
  | fcl ρ f caps us hl h ih => exact .fcl ρ f caps us hl ih
  | cel ρ x b o u hb hx hu h ih => exact .cel ρ x b o u (by omega) (hk b hb hx).1 ((hk b hb hx).2 _ _ hu) ih
  | lsx ρ sh l b off cap us hb hx hc hu hl ho h ih =>
    exact .lsx ρ sh l b off cap us (by omega) (hk b hb hx).1 hc (fun j u hj => (hk b hb hx).2 _ _ (hu j u hj)) hl ho ih
  | epx ρ sh x off b o us hb hx hu hl h ih =>
    exact .epx ρ sh x off b o us (by omega) (hk b hb hx).1 (fun j u hj => (hk b hb hx).2 _ _ (hu j u hj)) hl ih

theorem putObj_cell {w : World} {D : Nat} {o : Obj} (hD : w.heap[D]? = some o) (hc : o.isCells = false) (o' : Obj) (b off : Nat) (u : Value) (h : w.cell? ⟨b, off, none⟩ = some u) : (w.putObj D o').cell? ⟨b, off, none⟩ = some u := by
  by_cases hb : b = D
  · subst hb
    simp only [World.cell?, hD] at h
    cases o <;> simp_all [Obj.isCells]
  · rw [World.cell?_of_block (w := w) (by exact World.putObj_heap_other hb)]
    exact h

theorem blk_owned {N : Nat → Prop} {w : World} {Y : Nat → Prop} {ρ : Env} {mem : Mem} {r : Nat} {B : Blk} (hB : getM mem r = B) (h : BlkRep T N w Y ρ B (ρ r)) :
    match B with
    | .chunk _ _ => ∃ b, ρ r = some (.pointer (some ⟨b, 0, none⟩)) ∧ owned mem ρ b
    | .iter _ _ => ∃ b, ρ r = some (.pointer (some ⟨b, 0, none⟩)) ∧ owned mem ρ b
    | _ => True := by
  cases B with
  | chunk t x =>
    obtain ⟨i, b, us, ty, h1, h2, _⟩ := h
    exact ⟨b, h2, r, _, by rw [hB]; rfl, h2, rfl⟩
  | iter s p =>
    obtain ⟨b, h2, _⟩ := h
    exact ⟨b, h2, r, _, by rw [hB]; rfl, h2, rfl⟩
  | _ => trivial

/-- What is said of a block, in another world, with another set of blocks that may be written. -/
theorem MRep.chg {N N' : Nat → Prop} {w0 w1 w w' : World} {X : Nat → Prop} {mem : Mem} {ρ : Env} (m : MRep T N w0 w X mem ρ) (hN : ∀ b, owned mem ρ b → N' b) (hX : ∀ b, X b → ¬ N' b) (hsz : ∀ b, w'.heap.size ≤ b → N' b) (hbel : BelowW N' w1 w')
    (hsize : w.heap.size ≤ w'.heap.size) (hown : ∀ b, owned mem ρ b → w'.heap[b]? = w.heap[b]?) (hcell : ∀ b, b < w.heap.size → ¬ Forb X mem ρ b → ∀ o u, w.cell? ⟨b, o, none⟩ = some u → w'.cell? ⟨b, o, none⟩ = some u) : MRep T N' w1 w' X mem ρ := by
  have hk : ∀ b, b < w.heap.size → ¬ Forb X mem ρ b → ¬ Forb X mem ρ b ∧ ∀ o u, w.cell? ⟨b, o, none⟩ = some u → w'.cell? ⟨b, o, none⟩ = some u := fun b h1 h2 => ⟨h2, hcell b h1 h2⟩
  refine ⟨fun b h => ⟨Nat.lt_of_lt_of_le (m.low b h).1 hsize, hX b h⟩, hbel, hsz, fun r => ?_, m.inj, fun g x hg => ⟨(m.gl g x hg).1, (m.gl g x hg).2.monoC hsize hk⟩⟩
  have hr := m.blk r
  cases hm : getM mem r with
  | no => rw [hm] at hr; exact hr
  | frz sh l =>
    rw [hm] at hr
    obtain ⟨v, h1, h2⟩ := hr
    exact ⟨v, h1, h2.monoC hsize hk⟩
  | rowx e l i x =>
    rw [hm] at hr
    obtain ⟨b, off, cap, cur, h2, h3, h4, h5, h6, h7, h0, h9, hi, h8, hx⟩ := hr
    have ho : owned mem ρ b := ⟨r, _, by rw [hm]; rfl, h2, by simp only [vblock]; rw [if_neg (by omega)]⟩
    exact ⟨b, off, cap, cur, h2, hN b ho, by rw [hown b ho]; exact h4, h5, h6, h7, h0, h9, hi, fun j h hj => (h8 j h hj).monoC hsize hk, hx.monoC hsize hk⟩
  | rown sh e l =>
    rw [hm] at hr
    obtain ⟨b, off, cap, cur, h2, h3, h4, h5, h6, h7, h0, h9, h8⟩ := hr
    have ho : owned mem ρ b := ⟨r, _, by rw [hm]; rfl, h2, by simp only [vblock]; rw [if_neg (by omega)]⟩
    exact ⟨b, off, cap, cur, h2, hN b ho, by rw [hown b ho]; exact h4, h5, h6, h7, h0, h9, fun i h => (h8 i h).monoC hsize hk⟩
  | iter s p =>
    rw [hm] at hr
    obtain ⟨b, h1, h2, h3⟩ := hr
    have ho : owned mem ρ b := ⟨r, _, by rw [hm]; rfl, h1, rfl⟩
    exact ⟨b, h1, hN b ho, by rw [hown b ho]; exact h3⟩
  | gen tag k l =>
    rw [hm] at hr
    obtain ⟨v, b, ob, h1, h2, h3, h4, h5⟩ := hr
    have ho : owned mem ρ b := ⟨r, _, by rw [hm]; rfl, h1, h2⟩
    exact ⟨v, b, ob, h1, h2, hN b ho, by rw [hown b ho]; exact h4, h5⟩
  | chunk t x =>
    rw [hm] at hr
    obtain ⟨i, b, us, ty, h1, h2, h3, h4, h5, h7, h6⟩ := hr
    have ho : owned mem ρ b := ⟨r, _, by rw [hm]; rfl, h2, rfl⟩
    exact ⟨i, b, us, ty, h1, h2, hN b ho, by rw [hown b ho]; exact h4, h5, h7, h6.monoC hsize hk⟩
  | row sh e l =>
    rw [hm] at hr
    obtain ⟨v, h1, h2⟩ := hr
    refine ⟨v, h1, ?_⟩
    rcases h2 with h2 | ⟨b, off, cap, cur, h2, h3, h4, h5, h6, h7, h0, h9, h8⟩
    · exact .inl h2
    · have ho : owned mem ρ b := ⟨r, _, by rw [hm]; rfl, h1, by rw [h2]; simp only [vblock]; rw [if_neg (by omega)]⟩
      exact .inr ⟨b, off, cap, cur, h2, hN b ho, by rw [hown b ho]; exact h4, h5, h6, h7, h0, h9, fun i h => (h8 i h).monoC hsize hk⟩

/-- The same world, other blocks that may be written. -/
theorem MRep.chN {N N' : Nat → Prop} {w0 w1 w : World} {X : Nat → Prop} {mem : Mem} {ρ : Env} (m : MRep T N w0 w X mem ρ) (hN : ∀ b, owned mem ρ b → N' b) (hX : ∀ b, X b → ¬ N' b) (hsz : ∀ b, w.heap.size ≤ b → N' b) (hbel : BelowW N' w1 w) : MRep T N' w1 w X mem ρ :=
  m.chg hN hX hsz hbel (Nat.le_refl _) (fun _ _ => rfl) (fun _ _ _ _ _ h => h)
/-- What is owned, or new. -/
def Nw (mem : Mem) (ρ : Env) (w : World) : Nat → Prop := fun b => owned mem ρ b ∨ w.heap.size ≤ b
theorem MRep.base {N : Nat → Prop} {w0 w : World} {X : Nat → Prop} {mem : Mem} {ρ : Env} (m : MRep T N w0 w X mem ρ) : MRep T (Nw mem ρ w) w w X mem ρ :=
  m.chN (fun b h => .inl h) (fun b h hn => by
    rcases hn with hn | hn
    · exact (m.low b h).2 (m.owned_lt hn).1
    · have := (m.low b h).1; omega) (fun b h => .inr h) (.refl _ _)
theorem Nw.sub {N : Nat → Prop} {w0 w : World} {X : Nat → Prop} {mem : Mem} {ρ : Env} (m : MRep T N w0 w X mem ρ) {b : Nat} (h : Nw mem ρ w b) : N b := h.elim (fun h => (m.owned_lt h).1) (m.szN b)
theorem BelowW.weak {N N' : Nat → Prop} {w w' : World} (h : BelowW N w w') (hN : ∀ b, N b → N' b) : BelowW N' w w' := ⟨h.os, h.tape, h.output, h.size, fun k h1 h2 => h.block k h1 (fun h => h2 (hN k h))⟩
theorem MRep.unbase {N : Nat → Prop} {w0 w w' : World} {X : Nat → Prop} {mem mem' : Mem} {ρ ρ' : Env} (m : MRep T N w0 w X mem ρ) (m' : MRep T (Nw mem ρ w) w w' X mem' ρ') : MRep T N w0 w' X mem' ρ' :=
  m'.chN (fun b h => Nw.sub m (m'.owned_lt h).1) (fun b h => (m.low b h).2) (fun b h => m.szN b (Nat.le_trans m'.below.size h)) (m.below.trans (m'.below.weak fun b h => Nw.sub m h))
theorem MRep.putObj {N : Nat → Prop} {w0 w : World} {X : Nat → Prop} {mem : Mem} {ρ : Env} (m : MRep T N w0 w X mem ρ) {D : Nat} {o : Obj} (hD : w.heap[D]? = some o) (hc : o.isCells = false) (hN : N D) (hY : ¬ Forb X mem ρ D) (o' : Obj) :
    MRep T N w0 (w.putObj D o') X mem ρ :=
  m.chg (fun b h => (m.owned_lt h).1) (fun b h => (m.low b h).2) (fun b h => m.szN b (by simpa using h)) (m.below.trans ⟨rfl, rfl, rfl, by simp, fun k _ hk => World.putObj_heap_other (fun e => hk (by rw [e]; exact hN))⟩) (by simp)
    (fun b h => World.putObj_heap_other (fun e => hY (.inr (by rw [← e]; exact h)))) (fun b _ _ off u h => putObj_cell hD hc o' b off u h)
theorem Rep.putObj {N : Nat → Prop} {w0 w : World} {X : Nat → Prop} {z : Anc} {s : St} {a : Act} {ρ : Env} (h : Rep T N w0 X z s a w ρ) {D : Nat} {o : Obj} (hD : w.heap[D]? = some o) (hc : o.isCells = false) (hN : N D) (hY : ¬ Forb X s.mem ρ D) (o' : Obj)
    {ds : List Deferred} (hds : DefOk N (w.putObj D o') (Forb X s.mem ρ) ds) (hnd : z.nd = true → ds = []) : Rep T N w0 X z s { a with defers := ds } (w.putObj D o') ρ :=
  ⟨h.m.putObj hD hc hN hY o', hds, h.size, fun t => (h.slot t).monoC (by simp) fun b _ hb => ⟨hb, fun off u hu => putObj_cell hD hc o' b off u hu⟩, h.anch, h.fix, h.len, hnd⟩
theorem DefOk.grow {N : Nat → Prop} {w w' : World} {Y : Nat → Prop} {ds : List Deferred} (h : DefOk N w Y ds) (hb : Below w.heap.size w w') : DefOk N w' Y ds := by
  obtain ⟨Ds, h1, h2, h3⟩ := h.h
  exact ⟨Ds, h1, h2, fun D hD => by obtain ⟨g1, g2, g3⟩ := h3 D hD; exact ⟨g1, g2, (hb.block D (heap_lt g3)).trans g3⟩⟩
theorem Rep.grow {N : Nat → Prop} {w0 w w' : World} {X : Nat → Prop} {z : Anc} {s : St} {a : Act} {ρ : Env} (h : Rep T N w0 X z s a w ρ) (hb : Below w.heap.size w w') : Rep T N w0 X z s a w' ρ :=
  ⟨h.m.grow hb, h.defers.grow hb, h.size, fun t => (h.slot t).mono hb.size fun b h1 h2 => ⟨h2, hb.block b h1⟩, h.anch, h.fix, h.len, h.nod⟩
/-- A step of what is known, with what it owns. -/
theorem Sub.own {s s' : St} (hs : Sub T s s') {N : Nat → Prop} {w0 w : World} {X : Nat → Prop} {z : Anc} {a : Act} {ρ : Env} (h : Rep T N w0 X z s a w ρ) : ∃ ρ', Rep T N w0 X z s' a w ρ' ∧ ∀ b, owned s'.mem ρ' b → owned s.mem ρ b := by
  have h1 : Rep T (Nw s.mem ρ w) w X z s { a with defers := [] } w ρ := ⟨h.m.base, .nil _ _ _, h.size, h.slot, h.anch, h.fix, h.len, fun _ => rfl⟩
  obtain ⟨ρ', h2⟩ := hs.h _ _ _ _ _ _ _ h1
  have ho : ∀ b, owned s'.mem ρ' b → owned s.mem ρ b := fun b hb => by
    obtain ⟨g1, g2⟩ := h2.m.owned_lt hb
    exact g1.resolve_right (by omega)
  have hf : ∀ b, Forb X s'.mem ρ' b → Forb X s.mem ρ b := fun b hb => hb.imp id (ho b)
  exact ⟨ρ', ⟨h.m.unbase h2.m, h.defers.sub hf, h2.size, h2.slot, h2.anch, h2.fix, h2.len, h.nod⟩, ho⟩

theorem killN_len : ∀ (ds : List Nat) (l : List SV), (killN ds l).length = l.length
  | [], _ => rfl
  | d :: ds, l => by rw [killN, killN_len ds, setN_length]
theorem getN_setAny (l : List SV) (d t : Nat) : getN SV.any (setN .any l d) t = .any ∨ getN SV.any (setN .any l d) t = getN SV.any l t := by
  by_cases h : d < l.length
  · rw [getN_setN _ _ _ _ _ h]
    split
    · exact .inl rfl
    · exact .inr rfl
  · rw [setN_eq, List.set_eq_of_length_le (by omega)]; exact .inr rfl
theorem killN_get : ∀ (ds : List Nat) (l : List SV) (t : Nat), getN SV.any (killN ds l) t = .any ∨ (t ∉ ds ∧ getN SV.any (killN ds l) t = getN SV.any l t) ∨ (t ∈ ds ∧ l.length ≤ t)
  | [], l, t => .inr (.inl ⟨by simp, rfl⟩)
  | d :: ds, l, t => by
    rw [killN]
    rcases killN_get ds (setN .any l d) t with h | ⟨h1, h2⟩ | ⟨h1, h2⟩
    · exact .inl h
    · by_cases htd : t = d
      · subst htd
        by_cases hl : t < l.length
        · left; rw [h2, getN_setN _ _ _ _ _ hl, if_pos rfl]
        · exact .inr (.inr ⟨by simp, by omega⟩)
      · refine .inr (.inl ⟨by simp [htd, h1], ?_⟩)
        rw [h2]
        by_cases hl : d < l.length
        · rw [getN_setN _ _ _ _ _ hl, if_neg htd]
        · rw [setN_eq, List.set_eq_of_length_le (by omega)]
    · rw [setN_length] at h2
      exact .inr (.inr ⟨by simp [h1], h2⟩)
theorem getN_out {l : List SV} {t : Nat} (h : l.length ≤ t) : getN SV.any l t = .any := by rw [getN_eq, List.getElem?_eq_none h]; rfl
/-- The slots that a loop writes forgotten; the others are as the loop's temporaries say. -/
theorem Rep.kill {N : Nat → Prop} {w0 w : World} {X : Nat → Prop} {z z' : Anc} {s : St} {a a' : Act} {ρ : Env} (h : Rep T N w0 X z s a w ρ) {asg : List Nat} (ht : ∀ t, t ∉ asg → a'.tmps.getD t undef = a.tmps.getD t undef) (hsz : a'.tmps.size = a.tmps.size)
    {ds : List Deferred} (hds : DefOk N w (Forb X s.mem ρ) ds) (hd : a'.defers = ds) (hz : z'.z = z.z) (hfix : ∀ t v, z'.fx t = some v → a'.tmps.getD t undef = v) (hlen : ∀ k, z'.len = some k → a'.tmps.size = k) (hnd : z'.nd = true → a'.defers = []) : Rep T N w0 X z' (kill asg s) a' w ρ := by
  refine ⟨h.m, by rw [hd]; exact hds, by rw [hsz, h.size]; simp [Go.Proofs.YtligbjbkecmecaaDoor.kill, killN_len], fun t => ?_, fun v hv => h.anch v (by rw [← hz]; exact hv), hfix, hlen, hnd⟩
  show Den w (Forb X s.mem ρ) ρ (getN .any (killN asg s.slots) t) _
  rcases killN_get asg s.slots t with e | ⟨e1, e2⟩ | ⟨e1, e2⟩
  · rw [e]; exact .any _ _
  · rw [e2, ht t e1]; exact h.slot t
  · rw [getN_out (by rw [killN_len]; exact e2)]; exact .any _ _

/-- What a loop over a function holds fast. -/
structure Held (N : Nat → Prop) (X : Nat → Prop) (mem : Mem) (ρ : Env) (L D : Nat) (ol : Loop) (ds : List Deferred) (W : World) : Prop where
  l : W.heap[L]? = some (.loop ol)
  d : W.heap[D]? = some (.deferred (some []))
  nl : ¬ Forb X mem ρ L
  nd : ¬ Forb X mem ρ D
  df : DefOk N W (Forb X mem ρ) ds
theorem Held.sub {N : Nat → Prop} {X : Nat → Prop} {mem mem' : Mem} {ρ ρ' : Env} {L D : Nat} {ol : Loop} {ds : List Deferred} {W : World} (h : Held N X mem ρ L D ol ds W) (ho : ∀ b, owned mem' ρ' b → owned mem ρ b) : Held N X mem' ρ' L D ol ds W :=
  ⟨h.l, h.d, fun e => h.nl (e.imp id (ho L)), fun e => h.nd (e.imp id (ho D)), h.df.sub fun b e => e.imp id (ho b)⟩
theorem Held.grow {N : Nat → Prop} {X : Nat → Prop} {mem : Mem} {ρ : Env} {L D : Nat} {ol : Loop} {ds : List Deferred} {W W' : World} (h : Held N X mem ρ L D ol ds W) (hb : Below W.heap.size W W') : Held N X mem ρ L D ol ds W' :=
  ⟨(hb.block L (heap_lt h.l)).trans h.l, (hb.block D (heap_lt h.d)).trans h.d, h.nl, h.nd, h.df.grow hb⟩
/-- Over a walk that may write what it owned. -/
theorem Held.walk {N : Nat → Prop} {X : Nat → Prop} {mem mem' : Mem} {ρ ρ' : Env} {L D : Nat} {ol : Loop} {ds : List Deferred} {W W' : World} (h : Held N X mem ρ L D ol ds W) (m' : MRep T (Nw mem ρ W) W W' X mem' ρ') : Held N X mem' ρ' L D ol ds W' := by
  have no : ∀ b, b < W.heap.size → ¬ Forb X mem ρ b → ¬ Nw mem ρ W b := fun b hb hf hn => hn.elim (fun h => hf (.inr h)) (fun h => by omega)
  have nf : ∀ b, b < W.heap.size → ¬ Forb X mem ρ b → ¬ Forb X mem' ρ' b := fun b hb hf hn => hn.elim (fun h => hf (.inl h)) (fun h => no b hb hf (m'.owned_lt h).1)
  have kp : ∀ b, b < W.heap.size → ¬ Forb X mem ρ b → W'.heap[b]? = W.heap[b]? := fun b hb hf => m'.below.block b hb (no b hb hf)
  refine ⟨(kp L (heap_lt h.l) h.nl).trans h.l, (kp D (heap_lt h.d) h.nd).trans h.d, nf L (heap_lt h.l) h.nl, nf D (heap_lt h.d) h.nd, ?_⟩
  obtain ⟨Ds, h1, h2, h3⟩ := h.df.h
  exact ⟨Ds, h1, h2, fun k hk => by obtain ⟨g1, g2, g3⟩ := h3 k hk; exact ⟨g1, nf k (heap_lt g3) g2, (kp k (heap_lt g3) g2).trans g3⟩⟩
theorem Held.put {N : Nat → Prop} {X : Nat → Prop} {mem : Mem} {ρ : Env} {L D : Nat} {ol : Loop} {ds : List Deferred} {W : World} (h : Held N X mem ρ L D ol ds W) (ol' : Loop) : Held N X mem ρ L D ol' ds (W.putObj L (.loop ol')) := by
  have hne : ∀ k, W.heap[k]? = some (.deferred (some [])) → k ≠ L := by rintro k hk rfl; rw [h.l] at hk; cases hk
  refine ⟨World.putObj_heap_same (heap_lt h.l), (World.putObj_heap_other (hne D h.d)).trans h.d, h.nl, h.nd, ?_⟩
  obtain ⟨Ds, h1, h2, h3⟩ := h.df.h
  exact ⟨Ds, h1, h2, fun k hk => by obtain ⟨g1, g2, g3⟩ := h3 k hk; exact ⟨g1, g2, (World.putObj_heap_other (hne k g3)).trans g3⟩⟩

theorem zip_fold : ∀ (ds : List Nat) (vs : List Value) (t : Array Value), ds.length = vs.length → ((ds.zip vs).foldl (fun (t : Array Value) (p : Nat × Value) => t.setIfInBounds p.1 p.2) t).size = t.size ∧
    ∀ k, k ∉ ds → ((ds.zip vs).foldl (fun (t : Array Value) (p : Nat × Value) => t.setIfInBounds p.1 p.2) t).getD k undef = t.getD k undef
  | [], vs, t, _ => ⟨by simp, fun k _ => by simp⟩
  | d :: ds, [], t, h => by simp at h
  | d :: ds, v :: vs, t, h => by
    obtain ⟨h1, h2⟩ := zip_fold ds vs (t.setIfInBounds d v) (by simpa using h)
    refine ⟨by simp only [List.zip_cons_cons, List.foldl_cons]; rw [h1]; simp, fun k hk => ?_⟩
    simp only [List.zip_cons_cons, List.foldl_cons]
    rw [h2 k (fun h => hk (by simp [h]))]
    have : d ≠ k := fun e => hk (by simp [e])
    simp [Array.getElem?_setIfInBounds_ne this]
theorem datas_get : ∀ {l : List SV}, datas l = true → ∀ (i : Nat) (x : SV), l[i]? = some x → dataB x = true
  | [], _, i, x, h => by simp at h
  | y :: l, hl, 0, x, h => by simp [datas] at hl h; subst h; exact hl.1
  | y :: l, hl, i + 1, x, h => by simp [datas] at hl; exact datas_get hl.2 i x (by simpa using h)
/-- A round's parameters laid. -/
theorem putZ_den {w : World} {Y : Nat → Prop} {ρ : Env} : ∀ (ds : List Nat) (xs : List SV) (vs : List Value) (l : List SV) (t : Array Value), ds.length = xs.length → xs.length = vs.length → (∀ (i : Nat) (x : SV) (u : Value), xs[i]? = some x → vs[i]? = some u → Den w Y ρ x u) → t.size = l.length → (∀ k, Den w Y ρ (getN .any l k) (t.getD k undef)) →
    (putZ ds xs l).length = l.length ∧ ∀ k, Den w Y ρ (getN .any (putZ ds xs l) k) (((ds.zip vs).foldl (fun (t : Array Value) (p : Nat × Value) => t.setIfInBounds p.1 p.2) t).getD k undef)
  | [], xs, vs, l, t, _, _, _, _, h => ⟨by cases xs <;> rfl, fun k => by cases xs <;> simpa [putZ] using h k⟩
  | d :: ds, [], vs, l, t, h, _, _, _, _ => by simp at h
  | d :: ds, x :: xs, [], l, t, _, h, _, _, _ => by simp at h
  | d :: ds, x :: xs, v :: vs, l, t, h1, h2, hx, hs, h => by
    have ih := putZ_den ds xs vs (setN x l d) (t.setIfInBounds d v) (by simpa using h1) (by simpa using h2) (fun i y u hy hu => hx (i + 1) y u (by simpa using hy) (by simpa using hu)) (by simp [setN_length, hs]) (fun k => ?_)
    · refine ⟨by rw [putZ, ih.1, setN_length], fun k => ?_⟩
      simp only [putZ, List.zip_cons_cons, List.foldl_cons]
      exact ih.2 k
    · by_cases hd : d < l.length
      · rw [getN_setN _ _ _ _ _ hd]
        by_cases hk : k = d
        · subst hk
          rw [if_pos rfl]
          have : (t.setIfInBounds k v).getD k undef = v := by simp [hs, hd]
          rw [this]
          exact hx 0 x v rfl rfl
        · rw [if_neg hk]
          have : (t.setIfInBounds d v).getD k undef = t.getD k undef := by simp [Array.getElem?_setIfInBounds_ne (Ne.symm hk)]
          rw [this]
          exact h k
      · rw [setN_eq, List.set_eq_of_length_le (by omega), Array.setIfInBounds_eq_of_size_le (by omega)]
        exact h k

theorem range_sound (hG : ∀ f c, G f c → ACall P T f c) {FA FB : St → Ks → Prop} {x y : Code} {ps : Array Tmp} {gop : Operand} {N : Nat → Prop} {w0 : World} {X : Nat → Prop} {z : Anc} {s : St} {K : Ks} {Q : Exit → Act → World → Prop} {a : Act} {w : World} {ρ : Env} {gf : Nat} {caps : List SV}
    (hr : Rep T N w0 X z s a w ρ) (hev : s.ev gop = .clo gf caps) (h : RangeQ T G FA FB (ps.toList ++ (assignedC x ++ assignedC y)) ps.toList gf caps s K)
    (ihx : ∀ (N : Nat → Prop) (w0 : World) (z : Anc) (s : St) (K : Ks) (Q : Exit → Act → World → Prop) (a : Act) (w : World) (ρ : Env), FA s K → Rep T N w0 X z s a w ρ → (∀ s a w ρ, K.n s → Rep T N w0 X z s a w ρ → Q .normal a w) → (∀ s a w ρ, K.r s → Rep T N w0 X z s a w ρ → Q .ret a w) →
      (∀ i s a w ρ, K.e i s → Rep T N w0 X z s a w ρ → Q (.exit i) a w) → (∀ q ∈ assignedC x, z.fx q = none) → ∀ l nn, x.wpIn (FR (some l)) nn P Q a w)
    (ihy : ∀ (N : Nat → Prop) (w0 : World) (z : Anc) (s : St) (K : Ks) (Q : Exit → Act → World → Prop) (a : Act) (w : World) (ρ : Env), FB s K → Rep T N w0 X z s a w ρ → (∀ s a w ρ, K.n s → Rep T N w0 X z s a w ρ → Q .normal a w) → (∀ s a w ρ, K.r s → Rep T N w0 X z s a w ρ → Q .ret a w) →
      (∀ i s a w ρ, K.e i s → Rep T N w0 X z s a w ρ → Q (.exit i) a w) → (∀ q ∈ assignedC y, z.fx q = none) → ∀ l nn, y.wpIn (FR (some l)) nn P Q a w)
    (hn : ∀ s a w ρ, K.n s → Rep T N w0 X z s a w ρ → Q .normal a w) (hret : ∀ s a w ρ, K.r s → Rep T N w0 X z s a w ρ → Q .ret a w) (he : ∀ i s a w ρ, K.e i s → Rep T N w0 X z s a w ρ → Q (.exit i) a w) (nn : Nat) (hznd : z.nd = false) :
    (Code.rangeFunc gop ps x y).wpIn (FR none) nn P Q a w := by
  obtain ⟨xs, hgs, hxs, A, I, pos, g, R, hR, ⟨i0, hI0, hp0, hs0⟩, hround, hdone⟩ := h.h
  have ac := hG _ _ hgs
  obtain ⟨fn, hf, hb, hnm⟩ := ac.fn
  have aq : ASeq P gf caps xs := by have := ac.q rfl; rw [seqC_L] at this; exact this
  have hv := hr.ev gop
  rw [hev] at hv
  obtain ⟨us, hq, hcaps⟩ : ∃ us : List Value, a.eval gop = .func (.func gf) #[] ⟨us⟩ ∧ DenL w (Forb X s.mem ρ) noEnv caps us := by
    generalize a.eval gop = v at hv
    cases hv with
    | clo _ _ _ us hl hcl => exact ⟨us, rfl, hl, fun i x u hx hu => by
        obtain ⟨h1, rfl⟩ := List.getElem?_eq_some_iff.1 hx
        obtain ⟨h2, rfl⟩ := List.getElem?_eq_some_iff.1 hu
        exact hcl i h1 h2⟩
  obtain ⟨asg, hasg⟩ : ∃ asg, asg = ps.toList ++ (assignedC x ++ assignedC y) := ⟨_, rfl⟩
  rw [← hasg] at hs0 hround
  -- the start
  obtain ⟨a1, ha1⟩ : ∃ a1 : Act, a1 = { a with defers := [] } := ⟨_, rfl⟩
  have rb : Rep T (Nw s.mem ρ w) w X z s a1 w ρ := by rw [ha1]; exact ⟨hr.m.base, .nil _ _ _, hr.size, hr.slot, hr.anch, hr.fix, hr.len, fun _ => rfl⟩
  have rk : Rep T (Nw s.mem ρ w) w X z (kill asg s) a1 w ρ := rb.kill (fun _ _ => rfl) rfl (.nil _ _ _) (by rw [ha1]) rfl rb.fix rb.len rb.nod
  obtain ⟨ρ0, r0, ho0⟩ := (hR _ _ _ hs0).own rk
  refine wpIn_rangeFunc ?_
  intro fnid hfn
  obtain ⟨rec, hrec⟩ : ∃ rec : LoopState → Option Code → Loop, rec = fun st pe => { state := st, pending := pe, fn := fnid, tmps := a.tmps, params := ps, assign := x, body := y, defers := w.heap.size } := ⟨_, rfl⟩
  obtain ⟨W1, hW1⟩ : ∃ W1, (w.alloc (.deferred (some []))).alloc (.loop (rec .ready none)) = W1 := ⟨_, rfl⟩
  have hL1 : W1.heap[w.heap.size + 1]? = some (.loop (rec .ready none)) := by
    rw [← hW1]; have := World.alloc_heap_new (w.alloc (.deferred (some []))) (.loop (rec .ready none)); rwa [World.size_alloc] at this
  have hK1 : W1.heap[w.heap.size]? = some (.deferred (some [])) := by
    rw [← hW1]; exact (Below.heap_alloc _ _ _ (by simp)).trans (World.alloc_heap_new w _)
  have hb1 : Below w.heap.size w W1 := by
    rw [← hW1]; exact ((Below.refl _ w).alloc (Nat.le_refl _) _).alloc (by simp) _
  have nfw : ∀ b, w.heap.size ≤ b → ¬ Forb X (g i0).mem ρ0 b := fun b hb h => by have := r0.m.forb_lt h; omega
  have hd0 : Held N X (g i0).mem ρ0 (w.heap.size + 1) w.heap.size (rec .ready none) a.defers W1 :=
    ⟨hL1, hK1, nfw _ (by omega), nfw _ (Nat.le_refl _), (hr.defers.sub (fun b h => h.imp id (fun h => ho0 b h))).grow hb1⟩
  -- how the loop ends
  have back : ∀ (s' : St) (ρ' : Env) (W : World) (ol : Loop), Rep T (Nw s.mem ρ w) w X z s' a1 W ρ' → Held N X s'.mem ρ' (w.heap.size + 1) w.heap.size ol a.defers W →
      ∀ ol', Rep T N w0 X z s' { a with defers := { target := .collected w.heap.size, args := #[] } :: a.defers } (W.putObj (w.heap.size + 1) (.loop ol')) ρ' := by
    intro s' ρ' W ol rp hd ol'
    have hd' := hd.put ol'
    have r1 : Rep T N w0 X z s' { a1 with defers := [] } W ρ' := ⟨hr.m.unbase rp.m, .nil _ _ _, rp.size, rp.slot, rp.anch, rp.fix, rp.len, fun _ => rfl⟩
    have r2 := r1.putObj hd.l rfl (hr.m.szN _ (by omega)) hd.nl (.loop ol') (ds := { target := .collected w.heap.size, args := #[] } :: a.defers) (by
      obtain ⟨Ds, h1, h2, h3⟩ := hd'.df.h
      obtain ⟨Ds0, g1, g2, g3⟩ := hr.defers.h
      refine ⟨w.heap.size :: Ds, by rw [h1]; rfl, List.nodup_cons.2 ⟨fun hm => ?_, h2⟩, fun D hD => ?_⟩
      · have e : Ds = Ds0 := by
          have := h1.symm.trans g1
          exact List.map_inj_right (fun p q hpq => by simpa using hpq) |>.1 this
        rw [e] at hm
        have := heap_lt (g3 _ hm).2.2
        omega
      · rcases List.mem_cons.1 hD with rfl | hD
        · exact ⟨hr.m.szN _ (Nat.le_refl _), hd'.nd, hd'.d⟩
        · exact h3 D hD) (fun h => by rw [hznd] at h; cases h)
    rw [ha1] at r2
    exact r2
  refine ⟨w.heap.size + 1, [{ target := .collected w.heap.size, args := #[] }], W1, { target := .fn (.func gf) ⟨us⟩, args := #[.func (.yield (w.heap.size + 1)) #[] #[]] }, W1, gf,
    #[.func (.yield (w.heap.size + 1)) #[] #[]] ++ ⟨us⟩, W1, ?_, ?_, fun _ _ => trivial, ?_, fun h => by simp [FR, Fence.wide] at h, ?_⟩
  · rw [← hW1, hrec]; exact run_enterLoop_outer _ _ _ _ _
  · simp only [resolve, hq]
    simp [go_sem]
  · simp only [invoke]
    simp [go_sem, run_callFunc hf hb hnm]
  refine CallsIn.mono (aq.h w (Forb X s.mem ρ) us hcaps (w.heap.size + 1)
    (fun k W => ∃ i ρ', I i ∧ pos i = k ∧ Rep T (Nw s.mem ρ w) w X z (g i) a1 W ρ' ∧ Held N X (g i).mem ρ' (w.heap.size + 1) w.heap.size (rec .ready none) a.defers W)
    (fun W => ∃ s' ρ' c, Rep T (Nw s.mem ρ w) w X z s' a1 W ρ' ∧ Held N X s'.mem ρ' (w.heap.size + 1) w.heap.size (rec .done (some c)) a.defers W ∧ ((c = .ret ∧ K.r s') ∨ ∃ id, c = .exit id ∧ K.e id s')) W1
    (fun k A B hJ hb => by obtain ⟨i, ρ', h1, h2, h3, h4⟩ := hJ; exact ⟨i, ρ', h1, h2, h3.grow hb, h4.grow hb⟩)
    (fun A B hJ hb => by obtain ⟨s', ρ', c, h1, h2, h3⟩ := hJ; exact ⟨s', ρ', c, h1.grow hb, h2.grow hb, h3⟩)
    (fun k A hJ => by
      obtain ⟨i, ρ', _, _, h3, _⟩ := hJ
      exact ⟨h3.m.below.size, fun b hb hf => h3.m.below.block b hb (fun hn => hn.elim (fun h => hf (.inr h)) (fun h => by omega))⟩)
    ?_ ⟨i0, ρ0, hI0, hp0, r0.grow hb1, hd0⟩ _) ?_
  · -- one round
    rintro k xx vs Wr ⟨i, ρi, hIi, hpi, ri, hdi⟩ hxx hden m
    obtain ⟨hxl, hxd⟩ := hxs xx (List.mem_of_getElem? hxx)
    have hvl : vs.length = ps.size := by rw [← hden.1, hxl, Array.length_toList]
    have hy := run_yield (P := P) (args := ⟨vs⟩) hdi.l (by rw [hrec]; simpa using hvl)
    obtain ⟨ar, har⟩ : ∃ ar : Act, ar = { tmps := (ps.zip ⟨vs⟩).foldl (fun tmps (t, a) => tmps.setIfInBounds t a) a.tmps, defers := [] } := ⟨_, rfl⟩
    have hart : ar.tmps = ((ps.toList.zip vs).foldl (fun (t : Array Value) (p : Nat × Value) => t.setIfInBounds p.1 p.2) a1.tmps) := by
      rw [har, ha1]
      simp only [← Array.foldl_toList, Array.toList_zip]
    obtain ⟨zr, hzr⟩ : ∃ zr : Anc, zr = ⟨z.z, fun t => if t ∈ asg then none else some (a1.tmps.getD t undef), some a1.tmps.size, true⟩ := ⟨_, rfl⟩
    have hzf := zip_fold ps.toList vs a1.tmps (by rw [Array.length_toList]; exact hvl.symm)
    -- what is known at the round's beginning
    have hdx : ∀ (j : Nat) (q : SV) (u : Value), xx[j]? = some q → vs[j]? = some u → Den Wr (Forb X (g i).mem ρi) ρi q u := fun j q u hq hu => by
      refine ((hden.2 j q u hq hu).mono ri.m.below.size fun b h1 h2 => ⟨fun hf => h2 ?_, ri.m.below.block b h1 fun hn => h2 (hn.elim (fun h => .inr h) (fun h => by omega))⟩).env fun r => .inr (.inr (data_noref (datas_get hxd j q hq) r))
      rcases hf with hf | hf
      · exact .inl hf
      · exact (ri.m.owned_lt hf).1.elim (fun h => .inr h) (fun h => by omega)
    have hpz := putZ_den (ρ := ρi) ps.toList xx vs (g i).slots a1.tmps hxl.symm hden.1 hdx ri.size ri.slot
    have rr : Rep T (Nw (g i).mem ρi Wr) Wr X zr ⟨putZ ps.toList xx (g i).slots, (g i).mem⟩ ar Wr ρi := by
      refine ⟨ri.m.base, by rw [har]; exact .nil _ _ _, by rw [hart, hzf.1, ri.size]; exact hpz.1.symm, fun t => by rw [hart]; exact hpz.2 t, by rw [hzr]; exact ri.anch, fun t v hv => ?_, fun q hq => ?_, fun _ => by rw [har]⟩
      · rw [hzr] at hv
        simp only at hv
        split at hv
        · cases hv
        · rename_i ht
          injection hv with hv
          rw [hart, hzf.2 t (fun h => ht (by rw [hasg]; simp [h])), hv]
      · rw [hzr] at hq
        injection hq with hq
        rw [hart, hzf.1, hq]
    have hfx : ∀ q ∈ asg, zr.fx q = none := fun q hq => by rw [hzr]; simp [hq]
    -- behind the body, at the loop's own temporaries
    have home : ∀ (s1 s' : St) (a' : Act) (ρ1 ρ'' : Env) (w1 W' : World), Rep T (Nw (g i).mem ρi Wr) Wr X zr s1 a' w1 ρ1 ∨ True → MRep T (Nw (g i).mem ρi Wr) Wr w1 X s1.mem ρ1 →
        Rep T (Nw s1.mem ρ1 (w1.putObj (w.heap.size + 1) (.loop { rec .ready none with state := .busy }))) (w1.putObj (w.heap.size + 1) (.loop { rec .ready none with state := .busy })) X zr s' a' W' ρ'' →
        Held N X s'.mem ρ'' (w.heap.size + 1) w.heap.size { rec .ready none with state := .busy } a.defers W' → ∀ ol', Rep T (Nw s.mem ρ w) w X z (kill asg s') a1 (W'.putObj (w.heap.size + 1) (.loop ol')) ρ'' := by
      intro s1 s' a' ρ1 ρ'' w1 W' _ m1 r' hd' ol'
      have hsub1 : ∀ b, Nw (g i).mem ρi Wr b → Nw s.mem ρ w b := fun b hb => Nw.sub ri.m hb
      have hb2 : BelowW (Nw s.mem ρ w) w (w1.putObj (w.heap.size + 1) (.loop { rec .ready none with state := .busy })) :=
        (ri.m.below.trans (m1.below.weak hsub1)).trans ⟨rfl, rfl, rfl, by simp, fun k _ hk => World.putObj_heap_other (fun e => hk (by rw [e]; exact .inr (by omega)))⟩
      have hsub2 : ∀ b, Nw s1.mem ρ1 (w1.putObj (w.heap.size + 1) (.loop { rec .ready none with state := .busy })) b → Nw s.mem ρ w b := fun b hb => hb.elim (fun h => hsub1 b (m1.owned_lt h).1) (fun h => .inr (Nat.le_trans hb2.size h))
      have m2 : MRep T (Nw s.mem ρ w) w W' X s'.mem ρ'' := r'.m.chN (fun b h => hsub2 b (r'.m.owned_lt h).1) (fun b h => (rb.m.low b h).2) (fun b h => .inr (Nat.le_trans (hb2.trans (r'.m.below.weak hsub2)).size h)) (hb2.trans (r'.m.below.weak hsub2))
      have hlen := r'.len a1.tmps.size (by rw [hzr])
      have r3 : Rep T (Nw s.mem ρ w) w X z (kill asg s') a1 W' ρ'' := by
        have r4 : Rep T (Nw s.mem ρ w) w X zr s' { a' with defers := [] } W' ρ'' := ⟨m2, .nil _ _ _, r'.size, r'.slot, r'.anch, r'.fix, r'.len, fun _ => rfl⟩
        refine r4.kill (fun t ht => ?_) hlen.symm (.nil _ _ _) (by rw [ha1]) (by rw [hzr]) rb.fix rb.len rb.nod
        exact (r'.fix t (a1.tmps.getD t undef) (by rw [hzr]; simp [ht])).symm
      have r5 := r3.putObj hd'.l rfl (.inr (by omega)) hd'.nl (.loop ol') (ds := []) (.nil _ _ _) (fun _ => rfl)
      have e : ({ a1 with defers := [] } : Act) = a1 := by rw [ha1]
      rw [e] at r5
      exact r5
    refine ⟨fnid, ar.tmps, x, y, ?_, roundIn_of_wpIn (F := Fence.wide) trivial ?_⟩
    · rw [hy, hrec, har]
    have er : ({ tmps := ar.tmps, defers := [] } : Act) = ar := by rw [har]
    rw [er]
    refine ihx _ _ zr _ _ _ ar Wr ρi (hround i xx hIi (by rw [hpi]; exact hxx)) rr ?_ (fun _ _ _ _ h => h.elim) (fun _ _ _ _ _ h => h.elim) (fun q hq => hfx q (by rw [hasg]; simp [hq])) _ _
    intro s1 a2 w1 ρ1 hFB r1
    have hd1 := hdi.walk r1.m
    have hd2 := hd1.put { rec .ready none with state := .busy }
    refine ⟨_, run_beginRound hd1.l (by rw [hrec]), ?_⟩
    have m2 : MRep T (Nw s1.mem ρ1 (w1.putObj (w.heap.size + 1) (.loop { rec .ready none with state := .busy }))) (w1.putObj (w.heap.size + 1) (.loop { rec .ready none with state := .busy })) (w1.putObj (w.heap.size + 1) (.loop { rec .ready none with state := .busy })) X s1.mem ρ1 := by
      refine r1.m.chg (fun b h => .inl h) (fun b h hn => ?_) (fun b h => .inr h) (.refl _ _) (by simp) (fun b h => World.putObj_heap_other (fun e => hd1.nl (.inr (by rw [← e]; exact h)))) (fun b _ _ off u h => putObj_cell hd1.l rfl _ b off u h)
      rcases hn with hn | hn
      · exact (r1.m.low b h).2 (r1.m.owned_lt hn).1
      · have := (r1.m.low b h).1
        simp at hn
        omega
    have hdf : a2.defers = [] := r1.nod (by rw [hzr])
    have r2 : Rep T (Nw s1.mem ρ1 (w1.putObj (w.heap.size + 1) (.loop { rec .ready none with state := .busy }))) (w1.putObj (w.heap.size + 1) (.loop { rec .ready none with state := .busy })) X zr s1 a2 (w1.putObj (w.heap.size + 1) (.loop { rec .ready none with state := .busy })) ρ1 :=
      ⟨m2, by rw [hdf]; exact .nil _ _ _, r1.size, fun t => (r1.slot t).monoC (by simp) fun b _ hb => ⟨hb, fun off u hu => putObj_cell hd1.l rfl _ b off u hu⟩, r1.anch, r1.fix, r1.len, r1.nod⟩
    have fin : ∀ (s' : St) (a' : Act) (W' : World) (ρ'' : Env) (jump : Option Code), Rep T (Nw s1.mem ρ1 (w1.putObj (w.heap.size + 1) (.loop { rec .ready none with state := .busy }))) (w1.putObj (w.heap.size + 1) (.loop { rec .ready none with state := .busy })) X zr s' a' W' ρ'' →
        ∃ W4, (Instr.endRound (w.heap.size + 1) jump).run P W' = .ok (.bool jump.isNone) W4 ∧ Rep T (Nw s.mem ρ w) w X z (kill asg s') a1 W4 ρ'' ∧ Held N X s'.mem ρ'' (w.heap.size + 1) w.heap.size (rec (if jump.isNone then .ready else .done) jump) a.defers W4 := by
      intro s' a' W' ρ'' jump r'
      have hd3 := hd2.walk r'.m
      refine ⟨_, run_endRound jump hd3.l, home s1 s' a' ρ1 ρ'' w1 W' (.inr trivial) r1.m r' hd3 _, ?_⟩
      have := hd3.put { rec .ready none with state := if jump.isNone then .ready else .done, pending := jump }
      rw [hrec] at this ⊢
      exact this
    refine ihy _ _ zr _ _ _ a2 _ ρ1 hFB r2 ?_ ?_ ?_ (fun q hq => hfx q (by rw [hasg]; simp [hq])) _ _
    · rintro s' a' W' ρ'' ⟨j, hj, hpj, hRj⟩ r'
      obtain ⟨W4, h1, h2, h3⟩ := fin s' a' W' ρ'' none r'
      obtain ⟨ρj, r3, hoj⟩ := (hR _ _ _ hRj).own h2
      exact ⟨_, W4, h1, .inl ⟨rfl, j, ρj, hj, by rw [hpj, hpi], r3, h3.sub hoj⟩⟩
    · rintro s' a' W' ρ'' hk r'
      obtain ⟨W4, h1, h2, h3⟩ := fin s' a' W' ρ'' (some .ret) r'
      exact ⟨_, W4, h1, .inr ⟨rfl, _, ρ'', .ret, h2, h3, .inl ⟨rfl, hk⟩⟩⟩
    · rintro id s' a' W' ρ'' hk r'
      obtain ⟨W4, h1, h2, h3⟩ := fin s' a' W' ρ'' (some (.exit id)) r'
      exact ⟨_, W4, h1, .inr ⟨rfl, _, ρ'', .exit id, h2, h3, .inr ⟨id, rfl, hk⟩⟩⟩
  · -- behind the iterator
    rintro e W2 ⟨⟨v, rfl⟩, (⟨i, ρ', hIi, hpi, ri, hdi⟩ | ⟨s', ρ', c, ri, hdi, hc⟩)⟩
    · refine ⟨none, _, by have := run_endLoop (P := P) hdi.l (by rw [hrec]; simp); rw [hrec] at this; exact this, ?_⟩
      exact hn _ _ _ _ (hdone i hIi hpi) (back _ _ _ _ ri hdi _)
    · refine ⟨some c, _, by have := run_endLoop (P := P) hdi.l (by rw [hrec]; simp); rw [hrec] at this; exact this, ?_⟩
      rcases hc with ⟨rfl, hk⟩ | ⟨id, rfl, hk⟩
      · exact wpIn_ret (hret _ _ _ _ hk (back _ _ _ _ ri hdi _))
      · exact wpIn_exit (he _ _ _ _ _ hk (back _ _ _ _ ri hdi _))

end Go.Proofs.YtligbjbkecmecaaDoor
