/- Texts put together: Rg Swp Ty Tac OA OM VB VC VD VA VF Opn. -/
import Derived.Test.YtjhicdoigllblaaMb
import Derived.Scope
import Derived.Test.YtjhicdoigllblaaChecked
import Derived.KernelRfl
import Derived.RangeFuncBound
import Derived.RangeFuncCalls
import Derived.RangeFuncLeaves
import Derived.Shelf.Abstract
import Derived.WalkKit
import Derived.OwnWalkIn
import Derived.TacticsInMore
import Derived.LoopNIn
import Derived.LoopIn
import Derived.Test.YtjhicdoigllblaaRows
import Derived.ProofKit
import Derived.OpenShut
import Derived.ShutString
import Derived.SizedLaws
import Derived.Lib.SmallJoins
/- Loops over functions ('for .. := range seq'): what is kept between two rounds; the law. -/
namespace Go.Proofs.Ytjhicdoigllblaa
set_option linter.unusedVariables false
set_option linter.unusedSimpArgs false
open Go.RowKit
variable {P : Program} {T : Nat → Option TI} {G : Nat → CT → Prop}

structure Ks where
  n : St → Prop
  r : St → Prop
  e : Nat → St → Prop

/-- The temporaries that a code writes. -/
def dstsL : List Oper → List Nat
  | [] => []
  | o :: l => (match o.dst with | some d => d :: dstsL l | none => dstsL l)
theorem dstsL_mem {q : Nat} {l : List Oper} {o : Oper} (h : o ∈ l) (hq : o.dst = some q) : q ∈ dstsL l := by
  induction l with
  | nil => cases h
  | cons p l ih =>
    simp only [dstsL]
    rcases List.mem_cons.1 h with h | h
    · rw [← h, hq]; simp
    · have := ih h
      split
      · exact List.mem_cons_of_mem _ this
      · exact this
def assignedC : Code → List Nat
  | .region _ ops _ => dstsL ops.toList
  | .seq a b => assignedC a ++ assignedC b
  | .cond _ a b => assignedC a ++ assignedC b
  | .block _ c => assignedC c
  | .scope c => assignedC c
  | .loop c => assignedC c
  | .rangeFunc _ ps a b => ps.toList ++ (assignedC a ++ assignedC b)
  | _ => []
def killN : List Nat → List SV → List SV
  | [], l => l
  | d :: ds, l => killN ds (setN .any l d)
/-- The slots of a loop over a function forgotten. -/
def kill (asg : List Nat) (s : St) : St := ⟨killN asg s.slots, s.mem⟩
/-- A round's parameters. -/
def putZ : List Nat → List SV → List SV → List SV
  | d :: ds, x :: xs, l => putZ ds xs (setN x l d)
  | _, _, l => l
def datas : List SV → Bool
  | [] => true
  | x :: l => dataB x && datas l
/-- A loop over a function: what it yields; what holds between two rounds. -/
structure RangeQ (T : Nat → Option TI) (G : Nat → CT → Prop) (FA FB : St → Ks → Prop) (asg ps : List Nat) (f : Nat) (caps : List SV) (s : St) (K : Ks) : Prop where
  h : ∃ (xs : List (List SV)), G f (seqC caps xs) ∧ (∀ x ∈ xs, x.length = ps.length ∧ datas x = true) ∧ ∃ (A : Type) (I : A → Prop) (pos : A → Nat) (g : A → St) (R : A → St → St → Prop), (∀ i s s', R i s s' → Sub T s s') ∧ (∃ i, I i ∧ pos i = 0 ∧ R i (kill asg s) (g i)) ∧
    (∀ i x, I i → xs[pos i]? = some x → FA ⟨putZ ps x (g i).slots, (g i).mem⟩ ⟨fun s1 => FB s1 ⟨fun s' => ∃ j, I j ∧ pos j = pos i + 1 ∧ R j (kill asg s') (g j), fun s' => K.r (kill asg s'), fun id s' => K.e id (kill asg s')⟩, fun _ => False, fun _ _ => False⟩) ∧
    (∀ i, I i → pos i = xs.length → K.n (g i))


/-! ### Blocks that are no cells -/
theorem Den.monoC {w w' : World} {X X' : Nat → Prop} (hs : w.heap.size ≤ w'.heap.size) (hk : ∀ b, b < w.heap.size → ¬ X b → ¬ X' b ∧ ∀ o u, w.cell? ⟨b, o, none⟩ = some u → w'.cell? ⟨b, o, none⟩ = some u)
    {ρ : Env} {x : SV} {v : Value} (h : Den w X ρ x v) : Den w' X' ρ x v := by
  induction h with
  | any ρ v => exact .any ρ v
  | bool ρ b => exact .bool ρ b
  | int ρ k n => exact .int ρ k n
  | str ρ s => exact .str ρ s
  | agg ρ l cs hl h ih => exact .agg ρ l cs hl ih
  | tup ρ l cs hl h ih => exact .tup ρ l cs hl ih
  | lst0 ρ sh a cap => exact .lst0 ρ sh a cap
  | lst ρ sh l b off cap us hb hx hc hu hl ho h ih =>
    exact .lst ρ sh l b off cap us (by omega) (hk b hb hx).1 hc (fun j u hj => (hk b hb hx).2 _ _ (hu j u hj)) hl ho ih
  | nil ρ => exact .nil ρ
  | ptr ρ r off b h => exact .ptr ρ r off b h
  | row ρ r a n c h => exact .row ρ r a n c h
  | rsl ρ r sh a n c x cc hc h => exact .rsl ρ r sh a n c x cc hc h
  | rptr ρ r sh i off b o h => exact .rptr ρ r sh i off b o h
  | eptr ρ sh x off b o us hb hx hu hl h ih =>
    exact .eptr ρ sh x off b o us (by omega) (hk b hb hx).1 (fun j u hj => (hk b hb hx).2 _ _ (hu j u hj)) hl ih
  | clo ρ f caps us hl h ih => exact .clo ρ f caps us hl ih
  | val ρ v => exact .val ρ v

theorem putObj_cell {w : World} {D : Nat} {o : Obj} (hD : w.heap[D]? = some o) (hc : o.isCells = false) (o' : Obj) (b off : Nat) (u : Value) (h : w.cell? ⟨b, off, none⟩ = some u) : (w.putObj D o').cell? ⟨b, off, none⟩ = some u := by
  by_cases hb : b = D
  · subst hb
    simp only [World.cell?, hD] at h
    cases o <;> simp_all [Obj.isCells]
  · rw [World.cell?_of_block (w := w) (by exact World.putObj_heap_other hb)]
    exact h

theorem blk_owned {N : Nat → Prop} {w : World} {Y : Nat → Prop} {ρ : Env} {mem : Mem} {r : Nat} {B : Blk} (hB : getM mem r = B) (h : BlkRep T N w Y ρ B (ρ r)) :
    match B with
    | .chunk _ _ => ∃ b, ρ r = some (.pointer (some ⟨b, 0, none⟩)) ∧ owned mem ρ b
    | .iter _ _ => ∃ b, ρ r = some (.pointer (some ⟨b, 0, none⟩)) ∧ owned mem ρ b
    | _ => True := by
  cases B with
  | chunk t x =>
    obtain ⟨i, b, us, ty, h1, h2, _⟩ := h
    exact ⟨b, h2, r, _, by rw [hB]; rfl, h2, rfl⟩
  | iter s p =>
    obtain ⟨b, h2, _⟩ := h
    exact ⟨b, h2, r, _, by rw [hB]; rfl, h2, rfl⟩
  | _ => trivial

/-- What is said of a block, in another world, with another set of blocks that may be written. -/
theorem MRep.chg {N N' : Nat → Prop} {w0 w1 w w' : World} {X : Nat → Prop} {mem : Mem} {ρ : Env} (m : MRep T N w0 w X mem ρ) (hN : ∀ b, owned mem ρ b → N' b) (hX : ∀ b, X b → ¬ N' b) (hsz : ∀ b, w'.heap.size ≤ b → N' b) (hbel : BelowW N' w1 w')
    (hsize : w.heap.size ≤ w'.heap.size) (hown : ∀ b, owned mem ρ b → w'.heap[b]? = w.heap[b]?) (hcell : ∀ b, b < w.heap.size → ¬ Forb X mem ρ b → ∀ o u, w.cell? ⟨b, o, none⟩ = some u → w'.cell? ⟨b, o, none⟩ = some u) : MRep T N' w1 w' X mem ρ := by
  have hk : ∀ b, b < w.heap.size → ¬ Forb X mem ρ b → ¬ Forb X mem ρ b ∧ ∀ o u, w.cell? ⟨b, o, none⟩ = some u → w'.cell? ⟨b, o, none⟩ = some u := fun b h1 h2 => ⟨h2, hcell b h1 h2⟩
  refine ⟨fun b h => ⟨Nat.lt_of_lt_of_le (m.low b h).1 hsize, hX b h⟩, hbel, hsz, fun r => ?_, m.inj, fun g x hg => ⟨(m.gl g x hg).1, (m.gl g x hg).2.monoC hsize hk⟩⟩
  have hr := m.blk r
  cases hm : getM mem r with
  | no => rw [hm] at hr; exact hr
  | frz sh l =>
    rw [hm] at hr
    obtain ⟨v, h1, h2⟩ := hr
    exact ⟨v, h1, h2.monoC hsize hk⟩
  | rowx e l i x =>
    rw [hm] at hr
    obtain ⟨b, off, cap, cur, h2, h3, h4, h5, h6, h7, h0, h9, hi, h8, hx⟩ := hr
    have ho : owned mem ρ b := ⟨r, _, by rw [hm]; rfl, h2, by simp only [vblock]; rw [if_neg (by omega)]⟩
    exact ⟨b, off, cap, cur, h2, hN b ho, by rw [hown b ho]; exact h4, h5, h6, h7, h0, h9, hi, fun j h hj => (h8 j h hj).monoC hsize hk, hx.monoC hsize hk⟩
  | iter s p =>
    rw [hm] at hr
    obtain ⟨b, h1, h2, h3⟩ := hr
    have ho : owned mem ρ b := ⟨r, _, by rw [hm]; rfl, h1, rfl⟩
    exact ⟨b, h1, hN b ho, by rw [hown b ho]; exact h3⟩
  | chunk t x =>
    rw [hm] at hr
    obtain ⟨i, b, us, ty, h1, h2, h3, h4, h5, h7, h6⟩ := hr
    have ho : owned mem ρ b := ⟨r, _, by rw [hm]; rfl, h2, rfl⟩
    exact ⟨i, b, us, ty, h1, h2, hN b ho, by rw [hown b ho]; exact h4, h5, h7, h6.monoC hsize hk⟩
  | row sh e l =>
    rw [hm] at hr
    obtain ⟨v, h1, h2⟩ := hr
    refine ⟨v, h1, ?_⟩
    rcases h2 with h2 | ⟨b, off, cap, cur, h2, h3, h4, h5, h6, h7, h0, h9, h8⟩
    · exact .inl h2
    · have ho : owned mem ρ b := ⟨r, _, by rw [hm]; rfl, h1, by rw [h2]; simp only [vblock]; rw [if_neg (by omega)]⟩
      exact .inr ⟨b, off, cap, cur, h2, hN b ho, by rw [hown b ho]; exact h4, h5, h6, h7, h0, h9, fun i h => (h8 i h).monoC hsize hk⟩

/-- The same world, other blocks that may be written. -/
theorem MRep.chN {N N' : Nat → Prop} {w0 w1 w : World} {X : Nat → Prop} {mem : Mem} {ρ : Env} (m : MRep T N w0 w X mem ρ) (hN : ∀ b, owned mem ρ b → N' b) (hX : ∀ b, X b → ¬ N' b) (hsz : ∀ b, w.heap.size ≤ b → N' b) (hbel : BelowW N' w1 w) : MRep T N' w1 w X mem ρ :=
  m.chg hN hX hsz hbel (Nat.le_refl _) (fun _ _ => rfl) (fun _ _ _ _ _ h => h)
/-- What is owned, or new. -/
def Nw (mem : Mem) (ρ : Env) (w : World) : Nat → Prop := fun b => owned mem ρ b ∨ w.heap.size ≤ b
theorem MRep.base {N : Nat → Prop} {w0 w : World} {X : Nat → Prop} {mem : Mem} {ρ : Env} (m : MRep T N w0 w X mem ρ) : MRep T (Nw mem ρ w) w w X mem ρ :=
  m.chN (fun b h => .inl h) (fun b h hn => by
    rcases hn with hn | hn
    · exact (m.low b h).2 (m.owned_lt hn).1
    · have := (m.low b h).1; omega) (fun b h => .inr h) (.refl _ _)
theorem Nw.sub {N : Nat → Prop} {w0 w : World} {X : Nat → Prop} {mem : Mem} {ρ : Env} (m : MRep T N w0 w X mem ρ) {b : Nat} (h : Nw mem ρ w b) : N b := h.elim (fun h => (m.owned_lt h).1) (m.szN b)
theorem BelowW.weak {N N' : Nat → Prop} {w w' : World} (h : BelowW N w w') (hN : ∀ b, N b → N' b) : BelowW N' w w' := ⟨h.os, h.tape, h.output, h.size, fun k h1 h2 => h.block k h1 (fun h => h2 (hN k h))⟩
theorem MRep.unbase {N : Nat → Prop} {w0 w w' : World} {X : Nat → Prop} {mem mem' : Mem} {ρ ρ' : Env} (m : MRep T N w0 w X mem ρ) (m' : MRep T (Nw mem ρ w) w w' X mem' ρ') : MRep T N w0 w' X mem' ρ' :=
  m'.chN (fun b h => Nw.sub m (m'.owned_lt h).1) (fun b h => (m.low b h).2) (fun b h => m.szN b (Nat.le_trans m'.below.size h)) (m.below.trans (m'.below.weak fun b h => Nw.sub m h))
theorem MRep.putObj {N : Nat → Prop} {w0 w : World} {X : Nat → Prop} {mem : Mem} {ρ : Env} (m : MRep T N w0 w X mem ρ) {D : Nat} {o : Obj} (hD : w.heap[D]? = some o) (hc : o.isCells = false) (hN : N D) (hY : ¬ Forb X mem ρ D) (o' : Obj) :
    MRep T N w0 (w.putObj D o') X mem ρ :=
  m.chg (fun b h => (m.owned_lt h).1) (fun b h => (m.low b h).2) (fun b h => m.szN b (by simpa using h)) (m.below.trans ⟨rfl, rfl, rfl, by simp, fun k _ hk => World.putObj_heap_other (fun e => hk (by rw [e]; exact hN))⟩) (by simp)
    (fun b h => World.putObj_heap_other (fun e => hY (.inr (by rw [← e]; exact h)))) (fun b _ _ off u h => putObj_cell hD hc o' b off u h)
theorem Rep.putObj {N : Nat → Prop} {w0 w : World} {X : Nat → Prop} {z : Anc} {s : St} {a : Act} {ρ : Env} (h : Rep T N w0 X z s a w ρ) {D : Nat} {o : Obj} (hD : w.heap[D]? = some o) (hc : o.isCells = false) (hN : N D) (hY : ¬ Forb X s.mem ρ D) (o' : Obj)
    {ds : List Deferred} (hds : DefOk N (w.putObj D o') (Forb X s.mem ρ) ds) (hnd : z.nd = true → ds = []) : Rep T N w0 X z s { a with defers := ds } (w.putObj D o') ρ :=
  ⟨h.m.putObj hD hc hN hY o', hds, h.size, fun t => (h.slot t).monoC (by simp) fun b _ hb => ⟨hb, fun off u hu => putObj_cell hD hc o' b off u hu⟩, h.anch, h.fix, h.len, hnd⟩
theorem DefOk.grow {N : Nat → Prop} {w w' : World} {Y : Nat → Prop} {ds : List Deferred} (h : DefOk N w Y ds) (hb : Below w.heap.size w w') : DefOk N w' Y ds := by
  obtain ⟨Ds, h1, h2, h3⟩ := h.h
  exact ⟨Ds, h1, h2, fun D hD => by obtain ⟨g1, g2, g3⟩ := h3 D hD; exact ⟨g1, g2, (hb.block D (heap_lt g3)).trans g3⟩⟩
theorem Rep.grow {N : Nat → Prop} {w0 w w' : World} {X : Nat → Prop} {z : Anc} {s : St} {a : Act} {ρ : Env} (h : Rep T N w0 X z s a w ρ) (hb : Below w.heap.size w w') : Rep T N w0 X z s a w' ρ :=
  ⟨h.m.grow hb, h.defers.grow hb, h.size, fun t => (h.slot t).mono hb.size fun b h1 h2 => ⟨h2, hb.block b h1⟩, h.anch, h.fix, h.len, h.nod⟩
/-- A step of what is known, with what it owns. -/
theorem Sub.own {s s' : St} (hs : Sub T s s') {N : Nat → Prop} {w0 w : World} {X : Nat → Prop} {z : Anc} {a : Act} {ρ : Env} (h : Rep T N w0 X z s a w ρ) : ∃ ρ', Rep T N w0 X z s' a w ρ' ∧ ∀ b, owned s'.mem ρ' b → owned s.mem ρ b := by
  have h1 : Rep T (Nw s.mem ρ w) w X z s { a with defers := [] } w ρ := ⟨h.m.base, .nil _ _ _, h.size, h.slot, h.anch, h.fix, h.len, fun _ => rfl⟩
  obtain ⟨ρ', h2⟩ := hs.h _ _ _ _ _ _ _ h1
  have ho : ∀ b, owned s'.mem ρ' b → owned s.mem ρ b := fun b hb => by
    obtain ⟨g1, g2⟩ := h2.m.owned_lt hb
    exact g1.resolve_right (by omega)
  have hf : ∀ b, Forb X s'.mem ρ' b → Forb X s.mem ρ b := fun b hb => hb.imp id (ho b)
  exact ⟨ρ', ⟨h.m.unbase h2.m, h.defers.sub hf, h2.size, h2.slot, h2.anch, h2.fix, h2.len, h.nod⟩, ho⟩

theorem killN_len : ∀ (ds : List Nat) (l : List SV), (killN ds l).length = l.length
  | [], _ => rfl
  | d :: ds, l => by rw [killN, killN_len ds, setN_length]
theorem getN_setAny (l : List SV) (d t : Nat) : getN SV.any (setN .any l d) t = .any ∨ getN SV.any (setN .any l d) t = getN SV.any l t := by
  by_cases h : d < l.length
  · rw [getN_setN _ _ _ _ _ h]
    split
    · exact .inl rfl
    · exact .inr rfl
  · rw [setN_eq, List.set_eq_of_length_le (by omega)]; exact .inr rfl
theorem killN_get : ∀ (ds : List Nat) (l : List SV) (t : Nat), getN SV.any (killN ds l) t = .any ∨ (t ∉ ds ∧ getN SV.any (killN ds l) t = getN SV.any l t) ∨ (t ∈ ds ∧ l.length ≤ t)
  | [], l, t => .inr (.inl ⟨by simp, rfl⟩)
  | d :: ds, l, t => by
    rw [killN]
    rcases killN_get ds (setN .any l d) t with h | ⟨h1, h2⟩ | ⟨h1, h2⟩
    · exact .inl h
    · by_cases htd : t = d
      · subst htd
        by_cases hl : t < l.length
        · left; rw [h2, getN_setN _ _ _ _ _ hl, if_pos rfl]
        · exact .inr (.inr ⟨by simp, by omega⟩)
      · refine .inr (.inl ⟨by simp [htd, h1], ?_⟩)
        rw [h2]
        by_cases hl : d < l.length
        · rw [getN_setN _ _ _ _ _ hl, if_neg htd]
        · rw [setN_eq, List.set_eq_of_length_le (by omega)]
    · rw [setN_length] at h2
      exact .inr (.inr ⟨by simp [h1], h2⟩)
theorem getN_out {l : List SV} {t : Nat} (h : l.length ≤ t) : getN SV.any l t = .any := by rw [getN_eq, List.getElem?_eq_none h]; rfl
/-- The slots that a loop writes forgotten; the others are as the loop's temporaries say. -/
theorem Rep.kill {N : Nat → Prop} {w0 w : World} {X : Nat → Prop} {z z' : Anc} {s : St} {a a' : Act} {ρ : Env} (h : Rep T N w0 X z s a w ρ) {asg : List Nat} (ht : ∀ t, t ∉ asg → a'.tmps.getD t undef = a.tmps.getD t undef) (hsz : a'.tmps.size = a.tmps.size)
    {ds : List Deferred} (hds : DefOk N w (Forb X s.mem ρ) ds) (hd : a'.defers = ds) (hz : z'.z = z.z) (hfix : ∀ t v, z'.fx t = some v → a'.tmps.getD t undef = v) (hlen : ∀ k, z'.len = some k → a'.tmps.size = k) (hnd : z'.nd = true → a'.defers = []) : Rep T N w0 X z' (kill asg s) a' w ρ := by
  refine ⟨h.m, by rw [hd]; exact hds, by rw [hsz, h.size]; simp [Go.Proofs.Ytjhicdoigllblaa.kill, killN_len], fun t => ?_, fun v hv => h.anch v (by rw [← hz]; exact hv), hfix, hlen, hnd⟩
  show Den w (Forb X s.mem ρ) ρ (getN .any (killN asg s.slots) t) _
  rcases killN_get asg s.slots t with e | ⟨e1, e2⟩ | ⟨e1, e2⟩
  · rw [e]; exact .any _ _
  · rw [e2, ht t e1]; exact h.slot t
  · rw [getN_out (by rw [killN_len]; exact e2)]; exact .any _ _

/-- What a loop over a function holds fast. -/
structure Held (N : Nat → Prop) (X : Nat → Prop) (mem : Mem) (ρ : Env) (L D : Nat) (ol : Loop) (ds : List Deferred) (W : World) : Prop where
  l : W.heap[L]? = some (.loop ol)
  d : W.heap[D]? = some (.deferred (some []))
  nl : ¬ Forb X mem ρ L
  nd : ¬ Forb X mem ρ D
  df : DefOk N W (Forb X mem ρ) ds
theorem Held.sub {N : Nat → Prop} {X : Nat → Prop} {mem mem' : Mem} {ρ ρ' : Env} {L D : Nat} {ol : Loop} {ds : List Deferred} {W : World} (h : Held N X mem ρ L D ol ds W) (ho : ∀ b, owned mem' ρ' b → owned mem ρ b) : Held N X mem' ρ' L D ol ds W :=
  ⟨h.l, h.d, fun e => h.nl (e.imp id (ho L)), fun e => h.nd (e.imp id (ho D)), h.df.sub fun b e => e.imp id (ho b)⟩
theorem Held.grow {N : Nat → Prop} {X : Nat → Prop} {mem : Mem} {ρ : Env} {L D : Nat} {ol : Loop} {ds : List Deferred} {W W' : World} (h : Held N X mem ρ L D ol ds W) (hb : Below W.heap.size W W') : Held N X mem ρ L D ol ds W' :=
  ⟨(hb.block L (heap_lt h.l)).trans h.l, (hb.block D (heap_lt h.d)).trans h.d, h.nl, h.nd, h.df.grow hb⟩
/-- Over a walk that may write what it owned. -/
theorem Held.walk {N : Nat → Prop} {X : Nat → Prop} {mem mem' : Mem} {ρ ρ' : Env} {L D : Nat} {ol : Loop} {ds : List Deferred} {W W' : World} (h : Held N X mem ρ L D ol ds W) (m' : MRep T (Nw mem ρ W) W W' X mem' ρ') : Held N X mem' ρ' L D ol ds W' := by
  have no : ∀ b, b < W.heap.size → ¬ Forb X mem ρ b → ¬ Nw mem ρ W b := fun b hb hf hn => hn.elim (fun h => hf (.inr h)) (fun h => by omega)
  have nf : ∀ b, b < W.heap.size → ¬ Forb X mem ρ b → ¬ Forb X mem' ρ' b := fun b hb hf hn => hn.elim (fun h => hf (.inl h)) (fun h => no b hb hf (m'.owned_lt h).1)
  have kp : ∀ b, b < W.heap.size → ¬ Forb X mem ρ b → W'.heap[b]? = W.heap[b]? := fun b hb hf => m'.below.block b hb (no b hb hf)
  refine ⟨(kp L (heap_lt h.l) h.nl).trans h.l, (kp D (heap_lt h.d) h.nd).trans h.d, nf L (heap_lt h.l) h.nl, nf D (heap_lt h.d) h.nd, ?_⟩
  obtain ⟨Ds, h1, h2, h3⟩ := h.df.h
  exact ⟨Ds, h1, h2, fun k hk => by obtain ⟨g1, g2, g3⟩ := h3 k hk; exact ⟨g1, nf k (heap_lt g3) g2, (kp k (heap_lt g3) g2).trans g3⟩⟩
theorem Held.put {N : Nat → Prop} {X : Nat → Prop} {mem : Mem} {ρ : Env} {L D : Nat} {ol : Loop} {ds : List Deferred} {W : World} (h : Held N X mem ρ L D ol ds W) (ol' : Loop) : Held N X mem ρ L D ol' ds (W.putObj L (.loop ol')) := by
  have hne : ∀ k, W.heap[k]? = some (.deferred (some [])) → k ≠ L := by rintro k hk rfl; rw [h.l] at hk; cases hk
  refine ⟨World.putObj_heap_same (heap_lt h.l), (World.putObj_heap_other (hne D h.d)).trans h.d, h.nl, h.nd, ?_⟩
  obtain ⟨Ds, h1, h2, h3⟩ := h.df.h
  exact ⟨Ds, h1, h2, fun k hk => by obtain ⟨g1, g2, g3⟩ := h3 k hk; exact ⟨g1, g2, (World.putObj_heap_other (hne k g3)).trans g3⟩⟩

theorem zip_fold : ∀ (ds : List Nat) (vs : List Value) (t : Array Value), ds.length = vs.length → ((ds.zip vs).foldl (fun (t : Array Value) (p : Nat × Value) => t.setIfInBounds p.1 p.2) t).size = t.size ∧
    ∀ k, k ∉ ds → ((ds.zip vs).foldl (fun (t : Array Value) (p : Nat × Value) => t.setIfInBounds p.1 p.2) t).getD k undef = t.getD k undef
  | [], vs, t, _ => ⟨by simp, fun k _ => by simp⟩
  | d :: ds, [], t, h => by simp at h
  | d :: ds, v :: vs, t, h => by
    obtain ⟨h1, h2⟩ := zip_fold ds vs (t.setIfInBounds d v) (by simpa using h)
    refine ⟨by simp only [List.zip_cons_cons, List.foldl_cons]; rw [h1]; simp, fun k hk => ?_⟩
    simp only [List.zip_cons_cons, List.foldl_cons]
    rw [h2 k (fun h => hk (by simp [h]))]
    have : d ≠ k := fun e => hk (by simp [e])
    simp [Array.getElem?_setIfInBounds_ne this]
theorem datas_get : ∀ {l : List SV}, datas l = true → ∀ (i : Nat) (x : SV), l[i]? = some x → dataB x = true
  | [], _, i, x, h => by simp at h
  | y :: l, hl, 0, x, h => by simp [datas] at hl h; subst h; exact hl.1
  | y :: l, hl, i + 1, x, h => by simp [datas] at hl; exact datas_get hl.2 i x (by simpa using h)
/-- A round's parameters laid. -/
theorem putZ_den {w : World} {Y : Nat → Prop} {ρ : Env} : ∀ (ds : List Nat) (xs : List SV) (vs : List Value) (l : List SV) (t : Array Value), ds.length = xs.length → xs.length = vs.length → (∀ (i : Nat) (x : SV) (u : Value), xs[i]? = some x → vs[i]? = some u → Den w Y ρ x u) → t.size = l.length → (∀ k, Den w Y ρ (getN .any l k) (t.getD k undef)) →
    (putZ ds xs l).length = l.length ∧ ∀ k, Den w Y ρ (getN .any (putZ ds xs l) k) (((ds.zip vs).foldl (fun (t : Array Value) (p : Nat × Value) => t.setIfInBounds p.1 p.2) t).getD k undef)
  | [], xs, vs, l, t, _, _, _, _, h => ⟨by cases xs <;> rfl, fun k => by cases xs <;> simpa [putZ] using h k⟩
  | d :: ds, [], vs, l, t, h, _, _, _, _ => by simp at h
  | d :: ds, x :: xs, [], l, t, _, h, _, _, _ => by simp at h
  | d :: ds, x :: xs, v :: vs, l, t, h1, h2, hx, hs, h => by
    have ih := putZ_den ds xs vs (setN x l d) (t.setIfInBounds d v) (by simpa using h1) (by simpa using h2) (fun i y u hy hu => hx (i + 1) y u (by simpa using hy) (by simpa using hu)) (by simp [setN_length, hs]) (fun k => ?_)
    · refine ⟨by rw [putZ, ih.1, setN_length], fun k => ?_⟩
      simp only [putZ, List.zip_cons_cons, List.foldl_cons]
      exact ih.2 k
    · by_cases hd : d < l.length
      · rw [getN_setN _ _ _ _ _ hd]
        by_cases hk : k = d
        · subst hk
          rw [if_pos rfl]
          have : (t.setIfInBounds k v).getD k undef = v := by simp [hs, hd]
          rw [this]
          exact hx 0 x v rfl rfl
        · rw [if_neg hk]
          have : (t.setIfInBounds d v).getD k undef = t.getD k undef := by simp [Array.getElem?_setIfInBounds_ne (Ne.symm hk)]
          rw [this]
          exact h k
      · rw [setN_eq, List.set_eq_of_length_le (by omega), Array.setIfInBounds_eq_of_size_le (by omega)]
        exact h k

theorem range_sound (hG : ∀ f c, G f c → ACall P T f c) {FA FB : St → Ks → Prop} {x y : Code} {ps : Array Tmp} {gop : Operand} {N : Nat → Prop} {w0 : World} {X : Nat → Prop} {z : Anc} {s : St} {K : Ks} {Q : Exit → Act → World → Prop} {a : Act} {w : World} {ρ : Env} {gf : Nat} {caps : List SV}
    (hr : Rep T N w0 X z s a w ρ) (hev : s.ev gop = .clo gf caps) (h : RangeQ T G FA FB (ps.toList ++ (assignedC x ++ assignedC y)) ps.toList gf caps s K)
    (ihx : ∀ (N : Nat → Prop) (w0 : World) (z : Anc) (s : St) (K : Ks) (Q : Exit → Act → World → Prop) (a : Act) (w : World) (ρ : Env), FA s K → Rep T N w0 X z s a w ρ → (∀ s a w ρ, K.n s → Rep T N w0 X z s a w ρ → Q .normal a w) → (∀ s a w ρ, K.r s → Rep T N w0 X z s a w ρ → Q .ret a w) →
      (∀ i s a w ρ, K.e i s → Rep T N w0 X z s a w ρ → Q (.exit i) a w) → (∀ q ∈ assignedC x, z.fx q = none) → ∀ l nn, x.wpIn (FR (some l)) nn P Q a w)
    (ihy : ∀ (N : Nat → Prop) (w0 : World) (z : Anc) (s : St) (K : Ks) (Q : Exit → Act → World → Prop) (a : Act) (w : World) (ρ : Env), FB s K → Rep T N w0 X z s a w ρ → (∀ s a w ρ, K.n s → Rep T N w0 X z s a w ρ → Q .normal a w) → (∀ s a w ρ, K.r s → Rep T N w0 X z s a w ρ → Q .ret a w) →
      (∀ i s a w ρ, K.e i s → Rep T N w0 X z s a w ρ → Q (.exit i) a w) → (∀ q ∈ assignedC y, z.fx q = none) → ∀ l nn, y.wpIn (FR (some l)) nn P Q a w)
    (hn : ∀ s a w ρ, K.n s → Rep T N w0 X z s a w ρ → Q .normal a w) (hret : ∀ s a w ρ, K.r s → Rep T N w0 X z s a w ρ → Q .ret a w) (he : ∀ i s a w ρ, K.e i s → Rep T N w0 X z s a w ρ → Q (.exit i) a w) (nn : Nat) (hznd : z.nd = false) :
    (Code.rangeFunc gop ps x y).wpIn (FR none) nn P Q a w := by
  obtain ⟨xs, hgs, hxs, A, I, pos, g, R, hR, ⟨i0, hI0, hp0, hs0⟩, hround, hdone⟩ := h.h
  have ac := hG _ _ hgs
  obtain ⟨fn, hf, hb, hnm⟩ := ac.fn
  have aq : ASeq P gf caps xs := by have := ac.q rfl; rw [seqC_L] at this; exact this
  have hv := hr.ev gop
  rw [hev] at hv
  obtain ⟨us, hq, hcaps⟩ : ∃ us : List Value, a.eval gop = .func (.func gf) #[] ⟨us⟩ ∧ DenL w (Forb X s.mem ρ) noEnv caps us := by
    generalize a.eval gop = v at hv
    cases hv with
    | clo _ _ _ us hl hcl => exact ⟨us, rfl, hl, fun i x u hx hu => by
        obtain ⟨h1, rfl⟩ := List.getElem?_eq_some_iff.1 hx
        obtain ⟨h2, rfl⟩ := List.getElem?_eq_some_iff.1 hu
        exact hcl i h1 h2⟩
  obtain ⟨asg, hasg⟩ : ∃ asg, asg = ps.toList ++ (assignedC x ++ assignedC y) := ⟨_, rfl⟩
  rw [← hasg] at hs0 hround
  -- the start
  obtain ⟨a1, ha1⟩ : ∃ a1 : Act, a1 = { a with defers := [] } := ⟨_, rfl⟩
  have rb : Rep T (Nw s.mem ρ w) w X z s a1 w ρ := by rw [ha1]; exact ⟨hr.m.base, .nil _ _ _, hr.size, hr.slot, hr.anch, hr.fix, hr.len, fun _ => rfl⟩
  have rk : Rep T (Nw s.mem ρ w) w X z (kill asg s) a1 w ρ := rb.kill (fun _ _ => rfl) rfl (.nil _ _ _) (by rw [ha1]) rfl rb.fix rb.len rb.nod
  obtain ⟨ρ0, r0, ho0⟩ := (hR _ _ _ hs0).own rk
  refine wpIn_rangeFunc ?_
  intro fnid hfn
  obtain ⟨rec, hrec⟩ : ∃ rec : LoopState → Option Code → Loop, rec = fun st pe => { state := st, pending := pe, fn := fnid, tmps := a.tmps, params := ps, assign := x, body := y, defers := w.heap.size } := ⟨_, rfl⟩
  obtain ⟨W1, hW1⟩ : ∃ W1, (w.alloc (.deferred (some []))).alloc (.loop (rec .ready none)) = W1 := ⟨_, rfl⟩
  have hL1 : W1.heap[w.heap.size + 1]? = some (.loop (rec .ready none)) := by
    rw [← hW1]; have := World.alloc_heap_new (w.alloc (.deferred (some []))) (.loop (rec .ready none)); rwa [World.size_alloc] at this
  have hK1 : W1.heap[w.heap.size]? = some (.deferred (some [])) := by
    rw [← hW1]; exact (Below.heap_alloc _ _ _ (by simp)).trans (World.alloc_heap_new w _)
  have hb1 : Below w.heap.size w W1 := by
    rw [← hW1]; exact ((Below.refl _ w).alloc (Nat.le_refl _) _).alloc (by simp) _
  have nfw : ∀ b, w.heap.size ≤ b → ¬ Forb X (g i0).mem ρ0 b := fun b hb h => by have := r0.m.forb_lt h; omega
  have hd0 : Held N X (g i0).mem ρ0 (w.heap.size + 1) w.heap.size (rec .ready none) a.defers W1 :=
    ⟨hL1, hK1, nfw _ (by omega), nfw _ (Nat.le_refl _), (hr.defers.sub (fun b h => h.imp id (fun h => ho0 b h))).grow hb1⟩
  -- how the loop ends
  have back : ∀ (s' : St) (ρ' : Env) (W : World) (ol : Loop), Rep T (Nw s.mem ρ w) w X z s' a1 W ρ' → Held N X s'.mem ρ' (w.heap.size + 1) w.heap.size ol a.defers W →
      ∀ ol', Rep T N w0 X z s' { a with defers := { target := .collected w.heap.size, args := #[] } :: a.defers } (W.putObj (w.heap.size + 1) (.loop ol')) ρ' := by
    intro s' ρ' W ol rp hd ol'
    have hd' := hd.put ol'
    have r1 : Rep T N w0 X z s' { a1 with defers := [] } W ρ' := ⟨hr.m.unbase rp.m, .nil _ _ _, rp.size, rp.slot, rp.anch, rp.fix, rp.len, fun _ => rfl⟩
    have r2 := r1.putObj hd.l rfl (hr.m.szN _ (by omega)) hd.nl (.loop ol') (ds := { target := .collected w.heap.size, args := #[] } :: a.defers) (by
      obtain ⟨Ds, h1, h2, h3⟩ := hd'.df.h
      obtain ⟨Ds0, g1, g2, g3⟩ := hr.defers.h
      refine ⟨w.heap.size :: Ds, by rw [h1]; rfl, List.nodup_cons.2 ⟨fun hm => ?_, h2⟩, fun D hD => ?_⟩
      · have e : Ds = Ds0 := by
          have := h1.symm.trans g1
          exact List.map_inj_right (fun p q hpq => by simpa using hpq) |>.1 this
        rw [e] at hm
        have := heap_lt (g3 _ hm).2.2
        omega
      · rcases List.mem_cons.1 hD with rfl | hD
        · exact ⟨hr.m.szN _ (Nat.le_refl _), hd'.nd, hd'.d⟩
        · exact h3 D hD) (fun h => by rw [hznd] at h; cases h)
    rw [ha1] at r2
    exact r2
  refine ⟨w.heap.size + 1, [{ target := .collected w.heap.size, args := #[] }], W1, { target := .fn (.func gf) ⟨us⟩, args := #[.func (.yield (w.heap.size + 1)) #[] #[]] }, W1, gf,
    #[.func (.yield (w.heap.size + 1)) #[] #[]] ++ ⟨us⟩, W1, ?_, ?_, fun _ _ => trivial, ?_, fun h => by simp [FR, Fence.wide] at h, ?_⟩
  · rw [← hW1, hrec]; exact run_enterLoop_outer _ _ _ _ _
  · simp only [resolve, hq]
    simp [go_sem]
  · simp only [invoke]
    simp [go_sem, run_callFunc hf hb hnm]
  refine CallsIn.mono (aq.h w (Forb X s.mem ρ) us hcaps (w.heap.size + 1)
    (fun k W => ∃ i ρ', I i ∧ pos i = k ∧ Rep T (Nw s.mem ρ w) w X z (g i) a1 W ρ' ∧ Held N X (g i).mem ρ' (w.heap.size + 1) w.heap.size (rec .ready none) a.defers W)
    (fun W => ∃ s' ρ' c, Rep T (Nw s.mem ρ w) w X z s' a1 W ρ' ∧ Held N X s'.mem ρ' (w.heap.size + 1) w.heap.size (rec .done (some c)) a.defers W ∧ ((c = .ret ∧ K.r s') ∨ ∃ id, c = .exit id ∧ K.e id s')) W1
    (fun k A B hJ hb => by obtain ⟨i, ρ', h1, h2, h3, h4⟩ := hJ; exact ⟨i, ρ', h1, h2, h3.grow hb, h4.grow hb⟩)
    (fun A B hJ hb => by obtain ⟨s', ρ', c, h1, h2, h3⟩ := hJ; exact ⟨s', ρ', c, h1.grow hb, h2.grow hb, h3⟩)
    (fun k A hJ => by
      obtain ⟨i, ρ', _, _, h3, _⟩ := hJ
      exact ⟨h3.m.below.size, fun b hb hf => h3.m.below.block b hb (fun hn => hn.elim (fun h => hf (.inr h)) (fun h => by omega))⟩)
    ?_ ⟨i0, ρ0, hI0, hp0, r0.grow hb1, hd0⟩ _) ?_
  · -- one round
    rintro k xx vs Wr ⟨i, ρi, hIi, hpi, ri, hdi⟩ hxx hden m
    obtain ⟨hxl, hxd⟩ := hxs xx (List.mem_of_getElem? hxx)
    have hvl : vs.length = ps.size := by rw [← hden.1, hxl, Array.length_toList]
    have hy := run_yield (P := P) (args := ⟨vs⟩) hdi.l (by rw [hrec]; simpa using hvl)
    obtain ⟨ar, har⟩ : ∃ ar : Act, ar = { tmps := (ps.zip ⟨vs⟩).foldl (fun tmps (t, a) => tmps.setIfInBounds t a) a.tmps, defers := [] } := ⟨_, rfl⟩
    have hart : ar.tmps = ((ps.toList.zip vs).foldl (fun (t : Array Value) (p : Nat × Value) => t.setIfInBounds p.1 p.2) a1.tmps) := by
      rw [har, ha1]
      simp only [← Array.foldl_toList, Array.toList_zip]
    obtain ⟨zr, hzr⟩ : ∃ zr : Anc, zr = ⟨z.z, fun t => if t ∈ asg then none else some (a1.tmps.getD t undef), some a1.tmps.size, true⟩ := ⟨_, rfl⟩
    have hzf := zip_fold ps.toList vs a1.tmps (by rw [Array.length_toList]; exact hvl.symm)
    -- what is known at the round's beginning
    have hdx : ∀ (j : Nat) (q : SV) (u : Value), xx[j]? = some q → vs[j]? = some u → Den Wr (Forb X (g i).mem ρi) ρi q u := fun j q u hq hu => by
      refine ((hden.2 j q u hq hu).mono ri.m.below.size fun b h1 h2 => ⟨fun hf => h2 ?_, ri.m.below.block b h1 fun hn => h2 (hn.elim (fun h => .inr h) (fun h => by omega))⟩).env fun r => .inr (.inr (data_noref (datas_get hxd j q hq) r))
      rcases hf with hf | hf
      · exact .inl hf
      · exact (ri.m.owned_lt hf).1.elim (fun h => .inr h) (fun h => by omega)
    have hpz := putZ_den (ρ := ρi) ps.toList xx vs (g i).slots a1.tmps hxl.symm hden.1 hdx ri.size ri.slot
    have rr : Rep T (Nw (g i).mem ρi Wr) Wr X zr ⟨putZ ps.toList xx (g i).slots, (g i).mem⟩ ar Wr ρi := by
      refine ⟨ri.m.base, by rw [har]; exact .nil _ _ _, by rw [hart, hzf.1, ri.size]; exact hpz.1.symm, fun t => by rw [hart]; exact hpz.2 t, by rw [hzr]; exact ri.anch, fun t v hv => ?_, fun q hq => ?_, fun _ => by rw [har]⟩
      · rw [hzr] at hv
        simp only at hv
        split at hv
        · cases hv
        · rename_i ht
          injection hv with hv
          rw [hart, hzf.2 t (fun h => ht (by rw [hasg]; simp [h])), hv]
      · rw [hzr] at hq
        injection hq with hq
        rw [hart, hzf.1, hq]
    have hfx : ∀ q ∈ asg, zr.fx q = none := fun q hq => by rw [hzr]; simp [hq]
    -- behind the body, at the loop's own temporaries
    have home : ∀ (s1 s' : St) (a' : Act) (ρ1 ρ'' : Env) (w1 W' : World), Rep T (Nw (g i).mem ρi Wr) Wr X zr s1 a' w1 ρ1 ∨ True → MRep T (Nw (g i).mem ρi Wr) Wr w1 X s1.mem ρ1 →
        Rep T (Nw s1.mem ρ1 (w1.putObj (w.heap.size + 1) (.loop { rec .ready none with state := .busy }))) (w1.putObj (w.heap.size + 1) (.loop { rec .ready none with state := .busy })) X zr s' a' W' ρ'' →
        Held N X s'.mem ρ'' (w.heap.size + 1) w.heap.size { rec .ready none with state := .busy } a.defers W' → ∀ ol', Rep T (Nw s.mem ρ w) w X z (kill asg s') a1 (W'.putObj (w.heap.size + 1) (.loop ol')) ρ'' := by
      intro s1 s' a' ρ1 ρ'' w1 W' _ m1 r' hd' ol'
      have hsub1 : ∀ b, Nw (g i).mem ρi Wr b → Nw s.mem ρ w b := fun b hb => Nw.sub ri.m hb
      have hb2 : BelowW (Nw s.mem ρ w) w (w1.putObj (w.heap.size + 1) (.loop { rec .ready none with state := .busy })) :=
        (ri.m.below.trans (m1.below.weak hsub1)).trans ⟨rfl, rfl, rfl, by simp, fun k _ hk => World.putObj_heap_other (fun e => hk (by rw [e]; exact .inr (by omega)))⟩
      have hsub2 : ∀ b, Nw s1.mem ρ1 (w1.putObj (w.heap.size + 1) (.loop { rec .ready none with state := .busy })) b → Nw s.mem ρ w b := fun b hb => hb.elim (fun h => hsub1 b (m1.owned_lt h).1) (fun h => .inr (Nat.le_trans hb2.size h))
      have m2 : MRep T (Nw s.mem ρ w) w W' X s'.mem ρ'' := r'.m.chN (fun b h => hsub2 b (r'.m.owned_lt h).1) (fun b h => (rb.m.low b h).2) (fun b h => .inr (Nat.le_trans (hb2.trans (r'.m.below.weak hsub2)).size h)) (hb2.trans (r'.m.below.weak hsub2))
      have hlen := r'.len a1.tmps.size (by rw [hzr])
      have r3 : Rep T (Nw s.mem ρ w) w X z (kill asg s') a1 W' ρ'' := by
        have r4 : Rep T (Nw s.mem ρ w) w X zr s' { a' with defers := [] } W' ρ'' := ⟨m2, .nil _ _ _, r'.size, r'.slot, r'.anch, r'.fix, r'.len, fun _ => rfl⟩
        refine r4.kill (fun t ht => ?_) hlen.symm (.nil _ _ _) (by rw [ha1]) (by rw [hzr]) rb.fix rb.len rb.nod
        exact (r'.fix t (a1.tmps.getD t undef) (by rw [hzr]; simp [ht])).symm
      have r5 := r3.putObj hd'.l rfl (.inr (by omega)) hd'.nl (.loop ol') (ds := []) (.nil _ _ _) (fun _ => rfl)
      have e : ({ a1 with defers := [] } : Act) = a1 := by rw [ha1]
      rw [e] at r5
      exact r5
    refine ⟨fnid, ar.tmps, x, y, ?_, roundIn_of_wpIn (F := Fence.wide) trivial ?_⟩
    · rw [hy, hrec, har]
    have er : ({ tmps := ar.tmps, defers := [] } : Act) = ar := by rw [har]
    rw [er]
    refine ihx _ _ zr _ _ _ ar Wr ρi (hround i xx hIi (by rw [hpi]; exact hxx)) rr ?_ (fun _ _ _ _ h => h.elim) (fun _ _ _ _ _ h => h.elim) (fun q hq => hfx q (by rw [hasg]; simp [hq])) _ _
    intro s1 a2 w1 ρ1 hFB r1
    have hd1 := hdi.walk r1.m
    have hd2 := hd1.put { rec .ready none with state := .busy }
    refine ⟨_, run_beginRound hd1.l (by rw [hrec]), ?_⟩
    have m2 : MRep T (Nw s1.mem ρ1 (w1.putObj (w.heap.size + 1) (.loop { rec .ready none with state := .busy }))) (w1.putObj (w.heap.size + 1) (.loop { rec .ready none with state := .busy })) (w1.putObj (w.heap.size + 1) (.loop { rec .ready none with state := .busy })) X s1.mem ρ1 := by
      refine r1.m.chg (fun b h => .inl h) (fun b h hn => ?_) (fun b h => .inr h) (.refl _ _) (by simp) (fun b h => World.putObj_heap_other (fun e => hd1.nl (.inr (by rw [← e]; exact h)))) (fun b _ _ off u h => putObj_cell hd1.l rfl _ b off u h)
      rcases hn with hn | hn
      · exact (r1.m.low b h).2 (r1.m.owned_lt hn).1
      · have := (r1.m.low b h).1
        simp at hn
        omega
    have hdf : a2.defers = [] := r1.nod (by rw [hzr])
    have r2 : Rep T (Nw s1.mem ρ1 (w1.putObj (w.heap.size + 1) (.loop { rec .ready none with state := .busy }))) (w1.putObj (w.heap.size + 1) (.loop { rec .ready none with state := .busy })) X zr s1 a2 (w1.putObj (w.heap.size + 1) (.loop { rec .ready none with state := .busy })) ρ1 :=
      ⟨m2, by rw [hdf]; exact .nil _ _ _, r1.size, fun t => (r1.slot t).monoC (by simp) fun b _ hb => ⟨hb, fun off u hu => putObj_cell hd1.l rfl _ b off u hu⟩, r1.anch, r1.fix, r1.len, r1.nod⟩
    have fin : ∀ (s' : St) (a' : Act) (W' : World) (ρ'' : Env) (jump : Option Code), Rep T (Nw s1.mem ρ1 (w1.putObj (w.heap.size + 1) (.loop { rec .ready none with state := .busy }))) (w1.putObj (w.heap.size + 1) (.loop { rec .ready none with state := .busy })) X zr s' a' W' ρ'' →
        ∃ W4, (Instr.endRound (w.heap.size + 1) jump).run P W' = .ok (.bool jump.isNone) W4 ∧ Rep T (Nw s.mem ρ w) w X z (kill asg s') a1 W4 ρ'' ∧ Held N X s'.mem ρ'' (w.heap.size + 1) w.heap.size (rec (if jump.isNone then .ready else .done) jump) a.defers W4 := by
      intro s' a' W' ρ'' jump r'
      have hd3 := hd2.walk r'.m
      refine ⟨_, run_endRound jump hd3.l, home s1 s' a' ρ1 ρ'' w1 W' (.inr trivial) r1.m r' hd3 _, ?_⟩
      have := hd3.put { rec .ready none with state := if jump.isNone then .ready else .done, pending := jump }
      rw [hrec] at this ⊢
      exact this
    refine ihy _ _ zr _ _ _ a2 _ ρ1 hFB r2 ?_ ?_ ?_ (fun q hq => hfx q (by rw [hasg]; simp [hq])) _ _
    · rintro s' a' W' ρ'' ⟨j, hj, hpj, hRj⟩ r'
      obtain ⟨W4, h1, h2, h3⟩ := fin s' a' W' ρ'' none r'
      obtain ⟨ρj, r3, hoj⟩ := (hR _ _ _ hRj).own h2
      exact ⟨_, W4, h1, .inl ⟨rfl, j, ρj, hj, by rw [hpj, hpi], r3, h3.sub hoj⟩⟩
    · rintro s' a' W' ρ'' hk r'
      obtain ⟨W4, h1, h2, h3⟩ := fin s' a' W' ρ'' (some .ret) r'
      exact ⟨_, W4, h1, .inr ⟨rfl, _, ρ'', .ret, h2, h3, .inl ⟨rfl, hk⟩⟩⟩
    · rintro id s' a' W' ρ'' hk r'
      obtain ⟨W4, h1, h2, h3⟩ := fin s' a' W' ρ'' (some (.exit id)) r'
      exact ⟨_, W4, h1, .inr ⟨rfl, _, ρ'', .exit id, h2, h3, .inr ⟨id, rfl, hk⟩⟩⟩
  · -- behind the iterator
    rintro e W2 ⟨⟨v, rfl⟩, (⟨i, ρ', hIi, hpi, ri, hdi⟩ | ⟨s', ρ', c, ri, hdi, hc⟩)⟩
    · refine ⟨none, _, by have := run_endLoop (P := P) hdi.l (by rw [hrec]; simp); rw [hrec] at this; exact this, ?_⟩
      exact hn _ _ _ _ (hdone i hIi hpi) (back _ _ _ _ ri hdi _)
    · refine ⟨some c, _, by have := run_endLoop (P := P) hdi.l (by rw [hrec]; simp); rw [hrec] at this; exact this, ?_⟩
      rcases hc with ⟨rfl, hk⟩ | ⟨id, rfl, hk⟩
      · exact wpIn_ret (hret _ _ _ _ hk (back _ _ _ _ ri hdi _))
      · exact wpIn_exit (he _ _ _ _ _ hk (back _ _ _ _ ri hdi _))

end Go.Proofs.Ytjhicdoigllblaa
/- Code: the evaluator of a whole body, its law, and how a contract is proved by it. -/
namespace Go.Proofs.Ytjhicdoigllblaa
set_option linter.unusedVariables false
set_option linter.unusedSimpArgs false
open Go.RowKit
variable {P : Program} {T : Nat → Option TI} {G : Nat → CT → Prop}

structure LoopQ (T : Nat → Option TI) (F : St → Ks → Prop) (s : St) (K : Ks) : Prop where
  h : ∃ (A : Type) (I : A → Prop) (μ : A → Nat) (f : A → St) (R : A → St → St → Prop), (∀ i s s', R i s s' → Sub T s s') ∧ (∃ i, I i ∧ R i s (f i)) ∧ ∀ i, I i → F (f i) ⟨fun s' => ∃ j, I j ∧ μ j < μ i ∧ R j s' (f j), K.r, K.e⟩

def swp (T : Nat → Option TI) (G : Nat → CT → Prop) : Code → St → Ks → Prop
  | .skip, s, K => K.n s
  | .ret, s, K => K.r s
  | .region _ ops false, s, K => opsG T G [] ops ops.toList [] (prepO ops.toList s) (fun _ s => K.n s)
  | .region _ ops true, s, K => drawG T G ops (prepO ops.toList s) K.n
  | .seq a b, s, K => swp T G a s ⟨fun s => swp T G b s K, K.r, K.e⟩
  | .cond c a b, s, K => (match s.ev c with
    | .bool t => br t (fun _ => swp T G a s K) (fun _ => swp T G b s K)
    | _ => False)
  | .block id c, s, K => swp T G c s ⟨K.n, K.r, fun i s => if Nat.beq i id then K.n s else K.e i s⟩
  | .exit id, s, K => K.e id s
  | .label _, s, K => K.n s
  | .scope c, s, K => swp T G c s K
  | .loop c, s, K => LoopQ T (fun s K => swp T G c s K) s K
  | .rangeFunc f ps a b, s, K => (match s.ev f with
    | .clo f caps => RangeQ T G (fun s K => swp T G a s K) (fun s K => swp T G b s K) (ps.toList ++ (assignedC a ++ assignedC b)) ps.toList f caps s K
    | _ => False)
  | _, _, _ => False

/-- No loop over a function stands in it. -/
def noRange : Code → Bool
  | .seq a b => noRange a && noRange b
  | .cond _ a b => noRange a && noRange b
  | .block _ c => noRange c
  | .scope c => noRange c
  | .loop c => noRange c
  | .rangeFunc _ _ _ _ => false
  | _ => true
def codeOk : Code → Bool
  | .region _ ops true => regOk ops
  | .seq a b => codeOk a && codeOk b
  | .cond _ a b => codeOk a && codeOk b
  | .block _ c => codeOk c
  | .scope c => codeOk c
  | .loop c => codeOk c
  | .rangeFunc _ _ a b => codeOk a && codeOk b && noRange a && noRange b
  | _ => true

theorem wp_loop_ix {F : Fence} {n : Nat} {c : Code} {A : Type} {Q : Exit → Act → World → Prop} (I : A → Act → World → Prop) (μ : A → Nat)
    (round : ∀ i a w, I i a w → c.wpIn F n P (Exit.then (fun a' w' => ∃ j, I j a' w' ∧ μ j < μ i) Q) a w) : ∀ i a w, I i a w → (Code.loop c).wpIn F n P Q a w := by
  intro i a w hI b k cs hro hb hr
  have key : ∀ n i a w, μ i = n → I i a w → ∃ e a' w', Q e a' w' ∧ ArrivesIn (Machine.fenced P F) P (lone (b.atR a (.code c :: .inLoop c :: k)) cs w) b k cs e a' w' := by
    intro m
    induction m using Nat.strongRecOn with
    | _ m ih =>
      intro i a w hn hI
      obtain ⟨e, a₁, w₁, hq, harr⟩ := round i a w hI b (.inLoop c :: k) cs hro hb hr
      cases e with
      | normal =>
        obtain ⟨j, hI₁, hlt⟩ := hq
        obtain ⟨e₂, a₂, w₂, hq₂, harr₂⟩ := ih (μ j) (hn ▸ hlt) j a₁ w₁ rfl hI₁
        exact ⟨e₂, a₂, w₂, hq₂, .of_steps (StepsIn.trans harr (.one (fenced_calm hb hr rfl) stepR_inLoop)) harr₂⟩
      | exit id => exact ⟨_, a₁, w₁, hq, .pass (x := .inLoop c) rfl (fun _ _ => .inl (by simp)) harr⟩
      | goto l => exact ⟨_, a₁, w₁, hq, .pass (x := .inLoop c) rfl (fun _ _ => .inl (by simp)) harr⟩
      | ret => exact ⟨_, a₁, w₁, hq, .pass (x := .inLoop c) rfl (fun _ _ => .inl (by simp)) harr⟩
      | panic ch => exact ⟨_, a₁, w₁, hq, .pass (x := .inLoop c) rfl (fun _ _ => .inl (by simp)) harr⟩
      | outgrown => exact ⟨_, a₁, w₁, hq, .pass (x := .inLoop c) rfl (fun _ _ => .inl (by simp)) harr⟩
  obtain ⟨e, a', w', hq, harr⟩ := key _ i a w rfl hI
  exact ⟨e, a', w', hq, .of_steps (.one (fenced_calm hb hr rfl) stepR_loop) harr⟩

theorem stepR_scope {b : Frame} {a : Act} {k : List Item} {cs : List Frame} {w : World} {c : Code} : step P (lone (b.atR a (.code (.scope c) :: k)) cs w) = .next (lone (b.atR a (.code c :: .inScope c :: k)) cs w) :=
  step_lone_go (by simp [stepG, stepG.exec, Frame.atR])
theorem stepR_inScope {b : Frame} {a : Act} {k : List Item} {cs : List Frame} {w : World} {c : Code} : step P (lone (b.atR a (.inScope c :: k)) cs w) = .next (lone (b.atR a k) cs w) :=
  step_lone_go (by simp [stepG, stepG.exec, Frame.atR])
theorem wpIn_scope_straight {F : Fence} {n : Nat} {Q : Exit → Act → World → Prop} {a : Act} {w : World} {c : Code} (h : c.wpIn F n P (Exit.noGoto Q) a w) : (Code.scope c).wpIn F n P Q a w := by
  intro b k cs hro hb hr
  have h0 : (lone (b.atR a (.code (.scope c) :: k)) cs w).fenced P F := fenced_calm hb hr rfl
  obtain ⟨e, a₁, w₁, hq, harr⟩ := h b (.inScope c :: k) cs hro hb hr
  cases e with
  | normal => exact ⟨.normal, a₁, w₁, hq, .head h0 stepR_scope (StepsIn.trans harr (.one (fenced_calm hb hr rfl) stepR_inScope))⟩
  | exit id =>
    have hx : exitTo id (.inScope c :: k) = exitTo id k := by simp [exitTo]
    exact ⟨.exit id, a₁, w₁, hq, fun k' hk => .head h0 stepR_scope (harr.1 k' (by rw [hx]; exact hk)),
      fun hr' hk => let ⟨k₁, h1, h2⟩ := harr.2 hr' (by rw [hx]; exact hk); ⟨k₁, h1, .head h0 stepR_scope h2⟩⟩
  | goto l => exact hq.elim
  | ret => exact ⟨_, a₁, w₁, hq, .of_steps (.one h0 stepR_scope) harr⟩
  | panic ch => exact ⟨_, a₁, w₁, hq, .of_steps (.one h0 stepR_scope) harr⟩
  | outgrown => exact ⟨_, a₁, w₁, hq, .of_steps (.one h0 stepR_scope) harr⟩

theorem swp_sound (tab : Tab P T) (hG : ∀ f c, G f c → ACall P T f c) (hmix : P.follows .mixedOrders = true) : ∀ (c : Code) (N : Nat → Prop) (w0 : World) (X : Nat → Prop) (z : Anc) (s : St) (K : Ks) (Q : Exit → Act → World → Prop) (a : Act) (w : World) (ρ : Env),
    codeOk c = true → swp T G c s K → Rep T N w0 X z s a w ρ → (∀ s a w ρ, K.n s → Rep T N w0 X z s a w ρ → Q .normal a w) → (∀ s a w ρ, K.r s → Rep T N w0 X z s a w ρ → Q .ret a w) →
    (∀ i s a w ρ, K.e i s → Rep T N w0 X z s a w ρ → Q (.exit i) a w) → (∀ q ∈ assignedC c, z.fx q = none) → ∀ (ro : Option Nat) (nn : Nat), ((ro = none ∧ z.nd = false) ∨ noRange c = true) → c.wpIn (FR ro) nn P Q a w := by
  intro c
  induction c with
  | skip => intro N w0 X z s K Q a w ρ _ h hr hn _ _ _ ro nn _; exact wpIn_skip (hn s a w ρ h hr)
  | ret => intro N w0 X z s K Q a w ρ _ h hr _ hret _ _ ro nn _; exact wpIn_ret (hret s a w ρ h hr)
  | region id ops draw =>
    intro N w0 X z s K Q a w ρ hok h hr hn _ _ hfx ro nn _
    obtain ⟨ρ1, hr1⟩ := (prepO_sub (T := T) ops.toList s).h _ _ _ _ _ _ _ hr
    have hfx' : ∀ o ∈ ops.toList, ∀ q, o.dst = some q → z.fx q = none := fun o ho q hq => hfx q (dstsL_mem ho hq)
    cases draw
    · exact reg_seq tab hG h hr1 hn hfx' ro nn
    · exact reg_draw tab hG hmix hok h hr1 hn hfx' ro nn
  | seq x y ihx ihy =>
    intro N w0 X z s K Q a w ρ hok h hr hn hret he hfx ro nn hro
    simp only [codeOk, Bool.and_eq_true] at hok
    have h1 : (ro = none ∧ z.nd = false) ∨ noRange x = true := hro.imp id fun h => by simp only [noRange, Bool.and_eq_true] at h; exact h.1
    have h2 : (ro = none ∧ z.nd = false) ∨ noRange y = true := hro.imp id fun h => by simp only [noRange, Bool.and_eq_true] at h; exact h.2
    exact wpIn_seq (ihx N w0 X z s _ (Exit.then (y.wpIn (FR ro) nn P Q) Q) a w ρ hok.1 h hr (fun s a w ρ h hr => ihy N w0 X z s K Q a w ρ hok.2 h hr hn hret he (fun q hq => hfx q (by simp [assignedC, hq])) ro nn h2) hret he (fun q hq => hfx q (by simp [assignedC, hq])) ro nn h1)
  | cond c x y ihx ihy =>
    intro N w0 X z s K Q a w ρ hok h hr hn hret he hfx ro nn hro
    simp only [codeOk, Bool.and_eq_true] at hok
    have h1 : (ro = none ∧ z.nd = false) ∨ noRange x = true := hro.imp id fun h => by simp only [noRange, Bool.and_eq_true] at h; exact h.1
    have h2 : (ro = none ∧ z.nd = false) ∨ noRange y = true := hro.imp id fun h => by simp only [noRange, Bool.and_eq_true] at h; exact h.2
    simp only [swp] at h
    have hev := hr.ev c
    split at h
    · rename_i t ht
      rw [ht, Den.bool_iff] at hev
      cases t
      · exact wpIn_cond hev (ihy N w0 X z s K Q a w ρ hok.2 h hr hn hret he (fun q hq => hfx q (by simp [assignedC, hq])) ro nn h2)
      · exact wpIn_cond hev (ihx N w0 X z s K Q a w ρ hok.1 h hr hn hret he (fun q hq => hfx q (by simp [assignedC, hq])) ro nn h1)
    · exact h.elim
  | block id c ih =>
    intro N w0 X z s K Q a w ρ hok h hr hn hret he hfx ro nn hro
    refine wpIn_block (ih N w0 X z s _ (Exit.inBlock id Q) a w ρ hok h hr hn hret (fun i s a w ρ h hr => ?_) hfx ro nn hro)
    simp only [Exit.inBlock]
    by_cases hi : i = id
    · subst hi
      rw [if_pos rfl]
      simp at h
      exact hn s a w ρ h hr
    · rw [if_neg hi]
      have hb : Nat.beq i id = false := by
        cases hb : Nat.beq i id
        · rfl
        · exact absurd (Nat.eq_of_beq_eq_true hb) hi
      have h' : (if Nat.beq i id = true then K.n s else K.e i s) := h
      rw [hb] at h'
      exact he i s a w ρ h' hr
  | exit id => intro N w0 X z s K Q a w ρ _ h hr _ _ he _ ro nn _; exact wpIn_exit (he id s a w ρ h hr)
  | loop c ih =>
    intro N w0 X z s K Q a w ρ hok h hr hn hret he hfx ro nn hro
    obtain ⟨A, I, μ, f, R, hR, ⟨i, hI, hs⟩, hround⟩ := h.h
    obtain ⟨ρ', hr'⟩ := (hR _ _ _ hs).h _ _ _ _ _ _ _ hr
    refine wp_loop_ix (fun i a w => I i ∧ ∃ ρ, Rep T N w0 X z (f i) a w ρ) μ (fun i a w ⟨hI, ρ, hr⟩ => ?_) i a w ⟨hI, ρ', hr'⟩
    refine ih N w0 X z (f i) _ (Exit.then (fun a' w' => ∃ j, (I j ∧ ∃ ρ, Rep T N w0 X z (f j) a' w' ρ) ∧ μ j < μ i) Q) a w ρ hok (hround i hI) hr (fun s a w ρ h hr => ?_) hret he hfx ro nn hro
    obtain ⟨j, hj, hlt, hsub⟩ := h
    obtain ⟨ρ'', hr''⟩ := (hR _ _ _ hsub).h _ _ _ _ _ _ _ hr
    exact ⟨j, ⟨hj, ρ'', hr''⟩, hlt⟩
  | rangeFunc f ps x y ihx ihy =>
    intro N w0 X z s K Q a w ρ hok h hr hn hret he hfx ro nn hro
    obtain ⟨rfl, hznd⟩ := hro.resolve_right (by simp [noRange])
    simp only [codeOk, Bool.and_eq_true] at hok
    simp only [swp] at h
    split at h
    · rename_i gf caps hev
      exact range_sound hG hr hev h (fun N w0 z s K Q a w ρ h hr hn hret he hfx l nn => ihx N w0 X z s K Q a w ρ hok.1.1.1 h hr hn hret he hfx (some l) nn (.inr hok.1.2))
        (fun N w0 z s K Q a w ρ h hr hn hret he hfx l nn => ihy N w0 X z s K Q a w ρ hok.1.1.2 h hr hn hret he hfx (some l) nn (.inr hok.2)) hn hret he nn hznd
    · exact h.elim
  | scope c ih =>
    intro N w0 X z s K Q a w ρ hok h hr hn hret he hfx ro nn hro
    exact wpIn_scope_straight (ih N w0 X z s K (Exit.noGoto Q) a w ρ hok h hr hn hret he hfx ro nn hro)
  | label l => intro N w0 X z s K Q a w ρ _ h hr hn _ _ _ ro nn _; exact wpIn_label (hn s a w ρ h hr)
  | goto l => intro N w0 X z s K Q a w ρ _ h; exact h.elim
  | refuse y => intro N w0 X z s K Q a w ρ _ h; exact h.elim

/-! ### Results -/
def resOne (T : Nat → Option TI) (s : St) : ResultVar → Option SV
  | .tmp k => some (getN .any s.slots k)
  | .cell k ty => (match getN .any s.slots k with
    | .ptr r o => (match getM s.mem r with
      | .chunk t' y => if Nat.beq o 0 && Nat.beq t' ty then some y else none
      | _ => none)
    | _ => none)
def resL (T : Nat → Option TI) (s : St) : List ResultVar → Option (List SV)
  | v :: vs => (match resOne T s v, resL T s vs with
    | some x, some xs => some (x :: xs)
    | _, _ => none)
  | [] => some []
/-- The first live thing in the results. -/
def firstId (m : Mem) : List Nat → Option Nat
  | [] => none
  | q :: l => (match getM m q with | .no => firstId m l | .frz _ _ => firstId m l | _ => if Nat.beq q 0 then firstId m l else some q)
/-- A part of a result, where nw: the thing 1 is new. -/
noncomputable def fin1 (nw : Bool) (m : Mem) : SV → Option SV
  | .row r => if nw && Nat.beq r 1 then some (.row 1) else viewC (getM m) (.row r)
  | .rsl r sh a n c => if nw && Nat.beq r 1 then none else viewC (getM m) (.rsl r sh a n c)
  | .ptr r o => if nw && Nat.beq r 1 && Nat.beq o 0 then some (.ptr 1 0) else none
  | x => viewC (getM m) x
noncomputable def fin1s (nw : Bool) (m : Mem) : List SV → Option (List SV)
  | [] => some []
  | x :: l => (match fin1 nw m x, fin1s nw m l with
    | some y, some ys => some (y :: ys)
    | _, _ => none)
noncomputable def finV (T : Nat → Option TI) (nw : Bool) (m : Mem) (t : Nat) : SV → Option SV
  | .agg l => (match fin1s nw m l with | some l => some (.agg l) | none => none)
  | x => (match fin1 nw m x with | some y => some (normNil T t y) | none => none)
noncomputable def finL (T : Nat → Option TI) (nw : Bool) (m : Mem) : List Nat → List SV → Option (List SV)
  | t :: ts, x :: xs => (match finV T nw m t x, finL T nw m ts xs with
    | some y, some ys => some (y :: ys)
    | _, _ => none)
  | [], [] => some []
  | _, _ => none
def packR : List SV → SV
  | [x] => x
  | l => .tup l
/-- A body is at its end: the result, what is new, what was lent. -/
structure Fin (x r : SV) (b n : Blk) (l l' : Blk) : Prop where
  r : x = r
  n : b = n
  l : l = l'
def finS (s : St) : Option Nat → St
  | some q => if Nat.beq q 0 then s else swS 1 q s
  | none => s
/-- The state with what is new at 1. -/
def endS (T : Nat → Option TI) (vs : List ResultVar) (nw : Bool) (s : St) : St :=
  if nw then (match resL T s vs with | some xs => finS s (firstId s.mem (idsV.idsVs xs)) | none => s) else s
def lentE (l : Option (Nat × SV)) (m : Mem) : Blk := match l with | some _ => getM m 0 | none => .no
def retQ' (T : Nat → Option TI) (ts : List Nat) (vs : List ResultVar) (c : CT) (nw : Bool) (s : St) : Prop :=
  match resL T s vs with
  | some xs => (match finL T nw s.mem ts xs with
    | some ys => Fin (packR ys) c.r (if nw then getM s.mem 1 else .no) c.new (lentE c.lent s.mem) (lentB' c.lent c.lent')
    | none => False)
  | none => False
def retQ (T : Nat → Option TI) (ts : List Nat) (vs : List ResultVar) (s : St) (c : CT) : Prop := retQ' T ts vs c (isNew c.new) (endS T vs (isNew c.new) s)

def resSem (a : Act) (v : ResultVar) : Sem Value := match v with
  | .tmp t => pure (a.tmps.getD t undef)
  | .cell k ty => do loadVar ty (← asAddr (a.tmps.getD k undef))


theorem resOne_ok (tab : Tab P T) {N : Nat → Prop} {w0 : World} {X : Nat → Prop} {z : Anc} {s : St} {a : Act} {w : World} {ρ : Env} (h : Rep T N w0 X z s a w ρ) {v : ResultVar} {x : SV} (hx : resOne T s v = some x) :
    ∃ u, (resSem a v).run P w = .ok u w ∧ Den w (Forb X s.mem ρ) ρ x u := by
  cases v with
  | tmp k => simp only [resOne] at hx; injection hx with hx; subst hx; exact ⟨_, rfl, h.slot k⟩
  | cell k ty =>
    simp only [resOne] at hx
    cases hs : getN SV.any s.slots k with
    | ptr r o =>
      simp only [hs] at hx
      cases hm : getM s.mem r with
      | chunk t' y =>
        simp only [hm] at hx
        split at hx
        · rename_i hc
          simp only [Bool.and_eq_true] at hc
          have h0 : o = 0 := Nat.eq_of_beq_eq_true hc.1
          have h1 : t' = ty := Nat.eq_of_beq_eq_true hc.2
          subst h0; subst h1
          injection hx with hx; subst hx
          have hb := h.m.blk r
          rw [hm] at hb
          obtain ⟨i', b, us, tt, e1, e2, e3, e4, e5, e6, e7⟩ := hb
          have hd := h.slot k
          rw [hs] at hd
          simp only [resSem]
          generalize a.tmps.getD k undef = q at hd
          cases hd with
          | ptr _ _ _ b' hb' =>
            have := hb' _ e2
            simp only [Value.pointer.injEq, Option.some.injEq, Addr.mk.injEq, and_true] at this
            subst this
            refine ⟨_, ?_, e7⟩
            have := run_load_at (P := P) (tab.tys.ok t' i' e1) (tab.sz.one t' i' e1) w b 0 us.toList (by rw [Array.length_toList, e5]; exact Nat.le_refl _) (fun j u hu => by rw [Nat.zero_add, cell_of_row w b j us tt (0, 0) e4]; simpa using hu)
            simpa [Instr.loadAt, Instr.sureAddr, asAddr] using this
        · cases hx
      | _ => simp only [hm] at hx; cases hx
    | _ => simp only [hs] at hx; cases hx

theorem resL_ok (tab : Tab P T) {N : Nat → Prop} {w0 : World} {X : Nat → Prop} {z : Anc} {s : St} {a : Act} {w : World} {ρ : Env} (h : Rep T N w0 X z s a w ρ) : ∀ (vs : List ResultVar) (xs : List SV), resL T s vs = some xs →
    ∃ us : List Value, (vs.mapM (resSem a)).run P w = Result.ok us w ∧ DenL w (Forb X s.mem ρ) ρ xs us
  | [], xs, hx => by
    simp only [resL] at hx
    injection hx with hx; subst hx
    exact ⟨[], rfl, rfl, fun i x u h => by simp at h⟩
  | v :: vs, xs, hx => by
    simp only [resL] at hx
    cases h1 : resOne T s v with
    | none => rw [h1] at hx; cases hx
    | some x =>
      cases h2 : resL T s vs with
      | none => rw [h1, h2] at hx; cases hx
      | some ys =>
        rw [h1, h2] at hx
        injection hx with hx; subst hx
        obtain ⟨u, r1, d1⟩ := resOne_ok tab h h1
        obtain ⟨us, r2, d2⟩ := resL_ok tab h vs ys h2
        refine ⟨u :: us, ?_, by simp [d2.1], fun i x' u' hx' hu' => ?_⟩
        · rw [List.mapM_cons, Sem.run_bind, r1, Result.andThen_ok, Sem.run_bind, r2, Result.andThen_ok]
          rfl
        · cases i with
          | zero => simp at hx' hu'; subst hx'; subst hu'; exact d1
          | succ i => exact d2.2 i x' u' (by simpa using hx') (by simpa using hu')

theorem endS_sub (vs : List ResultVar) (nw : Bool) (s : St) : Sub T s (endS T vs nw s) := by
  unfold endS
  split
  · split
    · unfold finS
      split
      · split
        · exact .refl s
        · rename_i h; exact swS_sub 1 _ s (by simp) (fun h0 => h (by simp [h0]))
      · exact .refl s
    · exact .refl s
  · exact .refl s

def idsF (nw : Bool) : List Nat → List Nat
  | [] => []
  | q :: l => if nw && Nat.beq q 1 then idsF nw l else q :: idsF nw l
theorem idsF_mem {nw : Bool} : ∀ {l : List Nat} {q : Nat}, q ∈ idsF nw l ↔ q ∈ l ∧ ¬ (nw = true ∧ q = 1)
  | [], q => by simp [idsF]
  | k :: l, q => by
    simp only [idsF]
    split
    · rename_i h
      simp only [Bool.and_eq_true, nbeq] at h
      rw [idsF_mem]
      constructor
      · rintro ⟨h1, h2⟩; exact ⟨by simp [h1], h2⟩
      · rintro ⟨h1, h2⟩
        rcases List.mem_cons.1 h1 with rfl | h1
        · exact absurd h h2
        · exact ⟨h1, h2⟩
    · rename_i h
      simp only [Bool.and_eq_true, nbeq] at h
      rw [List.mem_cons, idsF_mem, List.mem_cons]
      constructor
      · rintro (rfl | ⟨h1, h2⟩)
        · exact ⟨.inl rfl, h⟩
        · exact ⟨.inr h1, h2⟩
      · rintro ⟨rfl | h1, h2⟩
        · exact .inl rfl
        · exact .inr ⟨h1, h2⟩

theorem ret_ok (tab : Tab P T) {N : Nat → Prop} {w0 : World} {X : Nat → Prop} {z : Anc} {s : St} {a : Act} {w : World} {ρ : Env} (h : Rep T N w0 X z s a w ρ) {fn : Func} {c : CT} {nw : Bool} (hnw : nw = isNew c.new) (hq : retQ' T fn.resultTypes.toList fn.results.toList c nw s) :
    ∃ v ρ', (results fn a.tmps).run P w = .ok v w ∧ MRep T N w0 w X (outM c) ρ' ∧ Den w (Forb X (outM c) ρ') ρ' c.r v ∧ (∀ u, z.z = some u → c.lent.isSome = true → ρ' 0 = some u) ∧ (c.lent = none → ρ' 0 = none) := by
  unfold retQ' at hq
  cases hx : resL T s fn.results.toList with
  | none => rw [hx] at hq; exact hq.elim
  | some xs =>
    rw [hx] at hq
    simp only at hq
    cases hy : finL T nw s.mem fn.resultTypes.toList xs with
    | none => rw [hy] at hq; exact hq.elim
    | some ys =>
      rw [hy] at hq
      simp only at hq
      obtain ⟨q1, q2, q3⟩ := hq
      obtain ⟨us, hr, hd⟩ := resL_ok tab h _ _ hx
      have fz := freeze_ids (T := T) (sees_all s.mem) h.m (idsF nw (rids.ridsL xs))
      have hout : ∀ r, getM (outM c) r = .no ∨ getM (outM c) r = getM (appU (frzU (getM s.mem) (idsF nw (rids.ridsL xs))) s.mem) r := by
        intro r
        rw [getM_out]
        have keep : ∀ r, (∀ sh e k, getM s.mem r ≠ .row sh e k) ∨ r ∉ idsF nw (rids.ridsL xs) → getM (appU (frzU (getM s.mem) (idsF nw (rids.ridsL xs))) s.mem) r = getM s.mem r := by
          intro r hr
          rcases fz.old r with g | ⟨g1, sh, e, k, g2, _⟩
          · exact g
          · rcases hr with hr | hr
            · exact absurd g2 (hr _ _ _)
            · exact absurd g1 hr
        by_cases h0 : r = 0
        · subst h0
          rw [if_pos rfl]
          cases hl : c.lent with
          | none => exact .inl rfl
          | some p =>
            obtain ⟨t, x⟩ := p
            right
            rw [hl] at q3
            simp only [lentE, lentB'] at q3 ⊢
            rw [keep 0 (.inl fun sh e k hk => by rw [hk] at q3; cases q3)]
            exact q3.symm
        · rw [if_neg h0]
          by_cases h1 : r = 1
          · subst h1
            rw [if_pos rfl]
            cases hn : nw with
            | false =>
              rw [hn] at q2
              simp only [Bool.false_eq_true, if_false] at q2
              exact .inl q2.symm
            | true =>
              rw [hn] at q2 keep
              simp only [if_true] at q2
              right
              rw [← hn] at keep ⊢
              rw [keep 1 (.inr fun hm => (idsF_mem.1 hm).2 ⟨hn, rfl⟩)]
              exact q2.symm
          · rw [if_neg h1]; exact .inl rfl
      obtain ⟨m', env, hf⟩ := fz.m.drop hout
      generalize hρ : (fun r => match getM (outM c) r with | .no => none | _ => ρ r : Env) = ρ' at m' env hf
      have lift : ∀ {ρ0 : Env} {x : SV} {v : Value}, Den w (Forb X s.mem ρ) ρ0 x v → Den w (Forb X (outM c) ρ') ρ0 x v := fun hd => (hd.mono fz.t.size fz.t.keep).mono (Nat.le_refl _) fun b _ hb => ⟨fun hb' => hb (hf b hb'), rfl⟩
      have view1 : ∀ {x y : SV} {v : Value}, (∀ r ∈ rids x, r ∈ idsF nw (rids.ridsL xs)) → viewC (getM s.mem) x = some y → Den w (Forb X s.mem ρ) ρ x v → Den w (Forb X (outM c) ρ') ρ' y v := by
        intro x y v hr hv hd
        obtain ⟨a1, a2⟩ := viewC_same (μ' := getM (appU (frzU (getM s.mem) (idsF nw (rids.ridsL xs))) s.mem)) (fun r hr' => fz.at' r (hr r hr')) hv
        have := viewC_den (sees_all _) fz.m (Z := Forb X (outM c) ρ') (fun b _ hb hb' => hb (hf b hb')) (fun hl => by rw [a2] at hl; cases hl) a1 (fz.t.den (fun _ h => by cases h) hd)
        exact this.env fun r => .inr (.inr (by
          have hp : plainB y = true := by
            have := view_data (T := T) (μ := getM s.mem) (t := 0) (x := .agg [x]) (y := .agg [y]) (by simp [view, viewCs, hv])
            simpa [dataB, allPlain] using this
          exact plain_noref hp r))
      have part : ∀ {x y : SV} {v : Value}, (∀ r ∈ rids x, r ∈ rids.ridsL xs) → fin1 nw s.mem x = some y → Den w (Forb X s.mem ρ) ρ x v → Den w (Forb X (outM c) ρ') ρ' y v := by
        intro x y v hr hv hd
        cases x with
        | row r =>
          simp only [fin1] at hv
          split at hv
          · rename_i hc
            simp only [Bool.and_eq_true, nbeq] at hc
            injection hv with hv; subst hv
            obtain ⟨_, rfl⟩ := hc
            exact (lift hd).env fun r => (env r).imp id .inl
          · rename_i hc
            simp only [Bool.and_eq_true, nbeq] at hc
            exact view1 (fun k hk => idsF_mem.2 ⟨hr k hk, by simp [rids] at hk; subst hk; exact hc⟩) hv hd
        | rsl r sh a n c =>
          simp only [fin1] at hv
          split at hv
          · cases hv
          · rename_i hc
            simp only [Bool.and_eq_true, nbeq] at hc
            exact view1 (fun k hk => idsF_mem.2 ⟨hr k hk, by simp [rids] at hk; subst hk; exact hc⟩) hv hd
        | ptr r o =>
          simp only [fin1] at hv
          split at hv
          · rename_i hc
            simp only [Bool.and_eq_true, nbeq] at hc
            injection hv with hv; subst hv
            obtain ⟨⟨_, rfl⟩, rfl⟩ := hc
            exact (lift hd).env fun r => (env r).imp id .inl
          · cases hv
        | agg l => simp [fin1, viewC, plainB] at hv
        | tup l => simp [fin1, viewC, plainB] at hv
        | _ => exact view1 (fun k hk => by simp [rids] at hk) (by simpa only [fin1] using hv) hd
      have parts : ∀ {l l' : List SV} {vs : List Value}, (∀ r ∈ rids.ridsL l, r ∈ rids.ridsL xs) → fin1s nw s.mem l = some l' → DenL w (Forb X s.mem ρ) ρ l vs → DenL w (Forb X (outM c) ρ') ρ' l' vs := by
        intro l
        induction l with
        | nil => intro l' vs _ hv hd; simp only [fin1s] at hv; injection hv with hv; subst hv; exact ⟨hd.1, fun i x u h => by simp at h⟩
        | cons x l ih =>
          intro l' vs hr hv hd
          simp only [fin1s] at hv
          cases h1 : fin1 nw s.mem x with
          | none => rw [h1] at hv; cases hv
          | some y =>
            cases h2 : fin1s nw s.mem l with
            | none => rw [h1, h2] at hv; cases hv
            | some ys' =>
              rw [h1, h2] at hv
              injection hv with hv; subst hv
              cases vs with
              | nil => have := hd.1; simp at this
              | cons v vs =>
                have ih := ih (fun r hr' => hr r (by simp [rids.ridsL, hr'])) h2 ⟨by have := hd.1; simpa using this, fun i x u hx hu => hd.2 (i + 1) x u hx hu⟩
                refine ⟨by simp [ih.1], fun i x' u hx' hu' => ?_⟩
                cases i with
                | zero => simp at hx' hu'; subst hx'; subst hu'; exact part (fun r hr' => hr r (by simp [rids.ridsL, hr'])) h1 (hd.2 0 _ _ rfl rfl)
                | succ i => exact ih.2 i x' u (by simpa using hx') (by simpa using hu')
      have whole : ∀ {t : Nat} {x y : SV} {v : Value}, (∀ r ∈ rids x, r ∈ rids.ridsL xs) → finV T nw s.mem t x = some y → Den w (Forb X s.mem ρ) ρ x v → Den w (Forb X (outM c) ρ') ρ' y v := by
        intro t x y v hr hv hd
        cases x with
        | agg l =>
          simp only [finV] at hv
          cases h1 : fin1s nw s.mem l with
          | none => rw [h1] at hv; cases hv
          | some l' =>
            rw [h1] at hv
            injection hv with hv; subst hv
            obtain ⟨cs, rfl, hd2⟩ := Den.agg_iff.1 hd
            exact Den.agg_iff.2 ⟨cs, rfl, parts hr h1 hd2⟩
        | _ =>
          simp only [finV] at hv
          split at hv
          · rename_i y' h1
            injection hv with hv; subst hv
            exact normNil_den (part hr h1 hd)
          · cases hv
      have all : ∀ {ts : List Nat} {l l' : List SV} {vs : List Value}, (∀ r ∈ rids.ridsL l, r ∈ rids.ridsL xs) → finL T nw s.mem ts l = some l' → DenL w (Forb X s.mem ρ) ρ l vs → DenL w (Forb X (outM c) ρ') ρ' l' vs := by
        intro ts
        induction ts with
        | nil =>
          intro l l' vs _ hv hd
          cases l with
          | nil => simp only [finL] at hv; injection hv with hv; subst hv; exact ⟨hd.1, fun i x u h => by simp at h⟩
          | cons => simp [finL] at hv
        | cons t ts ih =>
          intro l l' vs hr hv hd
          cases l with
          | nil => simp [finL] at hv
          | cons x l =>
            simp only [finL] at hv
            cases h1 : finV T nw s.mem t x with
            | none => rw [h1] at hv; cases hv
            | some y =>
              cases h2 : finL T nw s.mem ts l with
              | none => rw [h1, h2] at hv; cases hv
              | some ys' =>
                rw [h1, h2] at hv
                injection hv with hv; subst hv
                cases vs with
                | nil => have := hd.1; simp at this
                | cons v vs =>
                  have ih := ih (fun r hr' => hr r (by simp [rids.ridsL, hr'])) h2 ⟨by have := hd.1; simpa using this, fun i x u hx hu => hd.2 (i + 1) x u hx hu⟩
                  refine ⟨by simp [ih.1], fun i x' u hx' hu' => ?_⟩
                  cases i with
                  | zero => simp at hx' hu'; subst hx'; subst hu'; exact whole (fun r hr' => hr r (by simp [rids.ridsL, hr'])) h1 (hd.2 0 _ _ rfl rfl)
                  | succ i => exact ih.2 i x' u (by simpa using hx') (by simpa using hu')
      have hdy := all (fun r hr => hr) hy hd
      have hm : (fn.results.mapM (resSem a)).run P w = .ok us.toArray w := by
        rw [Array.mapM_eq_mapM_toList, Sem.run_map, hr]
        rfl
      have hres : (results fn a.tmps).run P w = .ok (if h : us.toArray.size = 1 then us.toArray[0] else .tuple us.toArray) w := by
        unfold results
        rw [Sem.run_bind]
        refine (congrArg (fun r => Result.andThen r _) hm).trans ?_
        rfl
      refine ⟨_, ρ', hres, m', ?_, fun u hz hl => ?_, fun hl => ?_⟩
      · rw [← q1]
        by_cases h1 : us.length = 1
        · obtain ⟨u, rfl⟩ := List.length_eq_one_iff.1 h1
          have hxl : ys.length = 1 := by rw [hdy.1]; rfl
          obtain ⟨x, rfl⟩ := List.length_eq_one_iff.1 hxl
          simp only [packR]
          have := hdy.2 0 x u rfl rfl
          simpa using this
        · have hp : packR ys = .tup ys := by
            have : ys.length ≠ 1 := by rw [hdy.1]; exact h1
            match ys, this with
            | [], _ => rfl
            | [x], h => exact absurd rfl h
            | x :: y :: l, _ => rfl
          rw [hp, dif_neg (by simpa using h1)]
          exact Den.tup_iff.2 ⟨us, rfl, hdy⟩
      · cases hl' : c.lent with
        | none => rw [hl'] at hl; cases hl
        | some p =>
          obtain ⟨t, x⟩ := p
          rw [hl'] at q3
          simp only [lentE, lentB'] at q3
          have h0 : ρ 0 = some u := h.anch u hz (by rw [q3]; simp)
          rw [← hρ]
          simp only [getM_out, if_true, hl', lentB']
          exact h0
      · rw [← hρ]
        simp only [getM_out, if_true, hl, lentB']

/-! ### A contract -/
def start (n : Nat) (c : CT) : St := ⟨c.args ++ List.replicate (n - c.args.length) .any, inM c⟩

theorem contract (tab : Tab P T) (hG : ∀ f c, G f c → ACall P T f c) (hmix : P.follows .mixedOrders = true) {f : FuncId} {fn : Func} {c : Code} {ct : CT} (hf : P.funcs[f]? = some fn) (hb : fn.body = some c)
    (hn : (fn.name == "runtime.NumGoroutine") = false) (hok : codeOk c = true) (hni : isSeq ct = false)
    (h : swp T G c (start fn.ntmps ct) ⟨fun s => retQ T fn.resultTypes.toList fn.results.toList s ct, fun s => retQ T fn.resultTypes.toList fn.results.toList s ct, fun _ _ => False⟩) : ACall P T f ct := by
  refine ⟨⟨fn, hf, by rw [hb]; rfl, hn⟩, (fun hs => by rw [hni] at hs; cases hs), fun _ N w X ρ vs m hd => ?_⟩
  refine (callsIn_wide (n := 1)).1 (callsIn_of_wp_marks hf hb trivial ?_)
  have hrep : Rep T N w X ⟨ρ 0, fun _ => none, none, false⟩ (start fn.ntmps ct) { tmps := ⟨vs⟩ ++ Array.replicate (fn.ntmps - (⟨vs⟩ : Array Value).size) undef, defers := [] } w ρ := by
    refine ⟨m, .nil _ _ _, ?_, fun t => ?_, fun v hv _ => hv, (fun _ _ h => by cases h), (fun _ h => by cases h), (fun h => by cases h)⟩
    · simp only [start, Array.size_append, List.size_toArray, Array.size_replicate, List.length_append, List.length_replicate, hd.1]
    · simp only [start]
      rw [getN_eq]
      by_cases ht : t < ct.args.length
      · have ht' : t < vs.length := by rw [← hd.1]; exact ht
        rw [List.getElem?_append_left ht, List.getElem?_eq_getElem ht]
        have : ((⟨vs⟩ : Array Value) ++ Array.replicate (fn.ntmps - (⟨vs⟩ : Array Value).size) undef).getD t undef = vs[t] := by
          simp [Array.getElem?_append, ht']
        rw [this]
        exact hd.2 t _ _ (List.getElem?_eq_getElem ht) (List.getElem?_eq_getElem ht')
      · rw [List.getElem?_append_right (by omega), List.getElem?_replicate]
        split <;> exact .any _ _
  have fin0 : ∀ (s : St) (a : Act) (w' : World) (ρ1 : Env), retQ T fn.resultTypes.toList fn.results.toList s ct → Rep T N w X ⟨ρ 0, fun _ => none, none, false⟩ s a w' ρ1 →
      ∃ v, (results fn a.tmps).run P w' = .ok v w' ∧ ∃ v' ρ', Ending.returned v = .returned v' ∧ MRep T N w w' X (outM ct) ρ' ∧ ρ' 0 = ρ 0 ∧ Den w' (Forb X (outM ct) ρ') ρ' ct.r v' := by
    intro s a w' ρ1 hq hr
    obtain ⟨ρ2, hr2⟩ := (endS_sub (T := T) fn.results.toList (isNew ct.new) s).h _ _ _ _ _ _ _ hr
    obtain ⟨v, ρ', h1, h2, h3, h4, h5⟩ := ret_ok tab hr2 rfl hq
    refine ⟨v, h1, v, ρ', rfl, h2, ?_, h3⟩
    have hm0 := m.some0 0
    rw [getM_in, if_pos rfl] at hm0
    cases hl : ct.lent with
    | none =>
      rw [h5 hl, hm0.1 (by rw [hl]; rfl)]
    | some p =>
      cases h0 : ρ 0 with
      | none => have := hm0.2 h0; rw [hl] at this; cases this
      | some u => exact h4 u h0 (by rw [hl]; rfl)
  have fin1 : ∀ (Ds : List Nat) (s : St) (a : Act) (w' : World) (ρ1 : Env), retQ T fn.resultTypes.toList fn.results.toList s ct → Rep T N w X ⟨ρ 0, fun _ => none, none, false⟩ s a w' ρ1 → a.defers = Ds.map (fun D => { target := .collected D, args := #[] }) → Ds.Nodup →
      (∀ D ∈ Ds, N D ∧ ¬ Forb X s.mem ρ1 D ∧ w'.heap[D]? = some (.deferred (some []))) →
      LeavesInM Fence.wide 1 P fn a.tmps (fun e w' => ∃ v' ρ', e = .returned v' ∧ MRep T N w w' X (outM ct) ρ' ∧ ρ' 0 = ρ 0 ∧ Den w' (Forb X (outM ct) ρ') ρ' ct.r v') a.defers .returning w' := by
    intro Ds
    induction Ds with
    | nil =>
      intro s a w' ρ1 hq hr hd _ _
      rw [hd]
      exact fin0 s a w' ρ1 hq hr
    | cons D Ds ih =>
      intro s a w' ρ1 hq hr hd hnd hk
      rw [hd]
      obtain ⟨k1, k2, k3⟩ := hk D (by simp)
      have hne : ∀ q ∈ Ds, q ≠ D := by rintro q hq rfl; exact (List.nodup_cons.1 hnd).1 hq
      have hk2 : ∀ q ∈ Ds, N q ∧ ¬ Forb X s.mem ρ1 q ∧ (w'.putObj D (.deferred none)).heap[q]? = some (.deferred (some [])) := fun q hq => by
        obtain ⟨g1, g2, g3⟩ := hk q (by simp [hq])
        exact ⟨g1, g2, (World.putObj_heap_other (hne q hq)).trans g3⟩
      have hr2 := hr.putObj k3 rfl k1 k2 (.deferred none) (ds := Ds.map (fun D => { target := .collected D, args := #[] })) ⟨Ds, rfl, (List.nodup_cons.1 hnd).2, hk2⟩ (fun h => by cases h)
      exact ⟨by simp, .inl ⟨D, _, rfl, run_takeDeferred k3, ih s _ _ ρ1 hq hr2 rfl (List.nodup_cons.1 hnd).2 hk2⟩⟩
  have fin : ∀ (s : St) (a : Act) (w' : World) (ρ1 : Env), retQ T fn.resultTypes.toList fn.results.toList s ct → Rep T N w X ⟨ρ 0, fun _ => none, none, false⟩ s a w' ρ1 →
      LeavesInM Fence.wide 1 P fn a.tmps (fun e w' => ∃ v' ρ', e = .returned v' ∧ MRep T N w w' X (outM ct) ρ' ∧ ρ' 0 = ρ 0 ∧ Den w' (Forb X (outM ct) ρ') ρ' ct.r v') a.defers .returning w' := by
    intro s a w' ρ1 hq hr
    obtain ⟨Ds, h1, h2, h3⟩ := hr.defers.h
    exact fin1 Ds s a w' ρ1 hq hr h1 h2 h3
  exact swp_sound tab hG hmix c N w X _ _ _ _ _ w ρ hok h hrep (fun s a w' ρ1 hq hr => fin s a w' ρ1 hq hr) (fun s a w' ρ1 hq hr => fin s a w' ρ1 hq hr) (fun i s a w' ρ hq => hq.elim) (fun _ _ => rfl) none 1 (.inl ⟨rfl, rfl⟩)

/-! ### Loops: what a round may write is forgotten, then said anew -/
def putNs : List (Nat × SV) → List SV → List SV
  | [], l => l
  | (d, x) :: ds, l => putNs ds (setN x l d)
/-- The memory less the ids that a round may make. -/
def killM (D : List Nat) : Mem → Mem
  | [] => []
  | (k, b) :: m => (match b with
    | .no => killM D m
    | b => if memB k D then killM D m else (k, b) :: killM D m)
def putMs : List (Nat × Blk) → Mem → Mem
  | [], m => m
  | (d, x) :: ds, m => putMs ds (setM x m d)
def loopSt (c : Code) (s : St) (u : List (Nat × SV)) (v : List (Nat × Blk)) : St :=
  ⟨putNs u (killN (assignedC c) s.slots), putMs v (killM (assignedC c) s.mem)⟩
/-- Nil cells taken for empty lists where lists are wanted. -/
def nilL : List SV → List SV → List SV
  | .lst sh _ :: ys, .nil :: xs => .lst sh [] :: nilL ys xs
  | _ :: ys, x :: xs => x :: nilL ys xs
  | _, xs => xs
def nilH : List SV → List SV → Bool
  | .lst _ _ :: _, .nil :: _ => true
  | _ :: ys, _ :: xs => nilH ys xs
  | _, _ => false
def fitN (k : Nat) (b : Blk) (s : St) : St :=
  match b, getM s.mem k with
  | .chunk _ (.agg ys), .chunk t (.agg xs) => if nilH ys xs then ⟨s.slots, setM (.chunk t (.agg (nilL ys xs))) s.mem k⟩ else s
  | _, _ => s
theorem nilL_den {w : World} {Y : Nat → Prop} {ρ : Env} : ∀ (ys xs : List SV) (us : List Value), DenL w Y ρ xs us → DenL w Y ρ (nilL ys xs) us
  | [], xs, us, h => by unfold nilL; exact h
  | y :: ys, [], us, h => by cases y <;> exact h
  | y :: ys, x :: xs, [], h => by have := h.1; simp at this
  | y :: ys, x :: xs, u :: us, h => by
    have ih := nilL_den ys xs us ⟨by have := h.1; simpa using this, fun i x u hx hu => h.2 (i + 1) x u hx hu⟩
    have cons : ∀ x', Den w Y ρ x' u → DenL w Y ρ (x' :: nilL ys xs) (u :: us) := fun x' hx' => ⟨by simp [ih.1], fun i z v hz hv => by
      cases i with
      | zero => simp at hz hv; subst hz; subst hv; exact hx'
      | succ i => exact ih.2 i z v (by simpa using hz) (by simpa using hv)⟩
    have h0 := h.2 0 x u rfl rfl
    have keep : DenL w Y ρ (x :: nilL ys xs) (u :: us) := cons x h0
    cases y with
    | lst sh l =>
      cases x with
      | nil =>
        refine cons _ ?_
        generalize u = v at h0
        cases h0
        exact .lst0 _ _ _ _
      | _ => exact keep
    | _ => exact keep
theorem MRep.weakC {N : Nat → Prop} {w0 w : World} {X : Nat → Prop} {mem : Mem} {ρ : Env} (m : MRep T N w0 w X mem ρ) {k t : Nat} {xs xs' : List SV} (hk : getM mem k = .chunk t (.agg xs)) (hw : ∀ (us : List Value), DenL w (Forb X mem ρ) ρ xs us → DenL w (Forb X mem ρ) ρ xs' us) :
    MRep T N w0 w X (setM (.chunk t (.agg xs')) mem k) ρ ∧ Forb X (setM (.chunk t (.agg xs')) mem k) ρ = Forb X mem ρ := by
  have ho : ∀ r, (getM (setM (.chunk t (.agg xs')) mem k) r).own = (getM mem r).own := fun r => by
    rw [getM_setM]
    by_cases h : r = k
    · subst h; rw [if_pos rfl, hk]; rfl
    · rw [if_neg h]
  have hF : Forb X (setM (.chunk t (.agg xs')) mem k) ρ = Forb X mem ρ := by
    funext b
    simp only [Forb, owned, ho]
  refine ⟨⟨m.low, m.below, m.szN, fun r => ?_, fun r r' v v' b g1 g2 => ?_, ?_⟩, hF⟩
  · rw [hF, getM_setM]
    by_cases h : r = k
    · subst h
      rw [if_pos rfl]
      have hb := m.blk r
      rw [hk] at hb
      obtain ⟨i, b, us, ty, h1, h2, h3, h4, h5, h6, h7⟩ := hb
      refine ⟨i, b, us, ty, h1, h2, h3, h4, h5, h6, ?_⟩
      obtain ⟨cs, hv, hc⟩ := Den.agg_iff.1 h7
      exact Den.agg_iff.2 ⟨cs, hv, hw _ hc⟩
    · rw [if_neg h]; exact m.blk r
  · rw [ho] at g1 g2
    exact m.inj r r' v v' b g1 g2
  · rw [hF]; exact m.gl
theorem fitN_sub (k : Nat) (b : Blk) (s : St) : Sub T s (fitN k b s) := ⟨fun N w0 X z a w ρ hr => by
  unfold fitN
  split
  case h_2 => exact ⟨ρ, hr⟩
  rename_i ys t xs hk
  split
  case isFalse => exact ⟨ρ, hr⟩
  obtain ⟨m', hF⟩ := hr.m.weakC hk (xs' := nilL ys xs) (fun us => nilL_den ys xs us)
  refine ⟨ρ, ⟨m', by rw [hF]; exact hr.defers, hr.size, fun t => by rw [hF]; exact hr.slot t, anch_turn hr.m m' hr.anch (.inr rfl), hr.fix, hr.len, hr.nod⟩⟩⟩
/-- A slot that is nil, taken for an empty list. -/
def nilT (t : Nat) (sh : Option Nat) (s : St) : St :=
  match getN .any s.slots t with
  | .nil => if Nat.blt t s.slots.length then ⟨setN (.lst sh []) s.slots t, s.mem⟩ else s
  | _ => s
theorem nilT_sub (t : Nat) (sh : Option Nat) (s : St) : Sub T s (nilT t sh s) := ⟨fun N w0 X z a w ρ hr => by
  unfold nilT
  split
  case h_2 => exact ⟨ρ, hr⟩
  rename_i ht
  split
  case isFalse => exact ⟨ρ, hr⟩
  rename_i hc
  simp only [Nat.blt_eq] at hc
  refine ⟨ρ, ⟨hr.m, hr.defers, by rw [hr.size]; simp [setN_length], fun k => ?_, hr.anch, hr.fix, hr.len, hr.nod⟩⟩
  simp only
  rw [getN_setN _ _ _ _ _ hc]
  by_cases hk : k = t
  · subst hk
    rw [if_pos rfl]
    have := hr.slot k
    rw [ht] at this
    generalize a.tmps.getD k undef = v at this
    cases this
    exact .lst0 _ _ _ _
  · rw [if_neg hk]
    exact hr.slot k⟩
/-- Ids exchanged so that the values are as they are wanted. -/
noncomputable def fit1 (v : List (Nat × Blk)) (t : Nat) (y : SV) (s : St) : St :=
  match y, getN .any s.slots t with
  | .row q, .row p => if Nat.beq p q || Nat.beq p 0 || Nat.beq q 0 then s else swS p q s
  | .ptr q _, .ptr p _ => if Nat.beq p q || Nat.beq p 0 || Nat.beq q 0 then s else swS p q s
  | .row q, .nil => (match getM v q with | .row sh e _ => adopt t q sh e s | _ => s)
  | .rsl q _ _ _ _, .row p => asRsl t (if Nat.beq p q || Nat.beq p 0 || Nat.beq q 0 then s else swS p q s)
  | .rsl q _ _ _ _, .rsl p _ _ _ _ => if Nat.beq p q || Nat.beq p 0 || Nat.beq q 0 then s else swS p q s
  | .lst sh _, .nil => nilT t sh s
  | _, _ => s
noncomputable def fitU (v : List (Nat × Blk)) : List (Nat × SV) → St → St
  | [], s => s
  | (t, y) :: u, s => fitU v u (fit1 v t y s)
def sw1 (y x : SV) (s : St) : St :=
  match y, x with
  | .row q, .row p => if Nat.beq p q || Nat.beq p 0 || Nat.beq q 0 then s else swS p q s
  | _, _ => s
def fit2 : List SV → List SV → St → St
  | y :: ys, x :: xs, s => fit2 ys xs (sw1 y x s)
  | [], _, s => s
  | _ :: _, [], s => s
noncomputable def fitB (k : Nat) (b : Blk) (s : St) : St :=
  match b, getM s.mem k with
  | .chunk _ (.agg ys), .chunk _ (.agg xs) => fit2 ys xs s
  | .row _ _ _, .rowx _ _ _ _ => unXs k s
  | .rowx _ _ _ y, .rowx _ _ _ x => sw1 y x s
  | _, _ => s
noncomputable def fitM : List (Nat × Blk) → St → St
  | [], s => s
  | (k, b) :: v, s => fitM v (fitN k b (fitB k b s))
noncomputable def fitS (u : List (Nat × SV)) (v : List (Nat × Blk)) (s : St) : St := fitM v (fitU v u s)
theorem swS_sub' (p q : Nat) (s : St) : Sub T s (if Nat.beq p q || Nat.beq p 0 || Nat.beq q 0 then s else swS p q s) := by
  split
  · exact .refl s
  · rename_i h
    simp only [Bool.or_eq_true, nbeq, not_or] at h
    exact swS_sub p q s h.1.2 h.2
theorem fit1_sub (v : List (Nat × Blk)) (t : Nat) (y : SV) (s : St) : Sub T s (fit1 v t y s) := by
  unfold fit1
  split
  · exact swS_sub' _ _ s
  · exact swS_sub' _ _ s
  · split
    · exact adopt_sub _ _ _ _ s
    · exact .refl s
  · exact (swS_sub' _ _ s).trans (asRsl_sub _ _)
  · exact swS_sub' _ _ s
  · exact nilT_sub _ _ s
  · exact .refl s
theorem fitU_sub (v : List (Nat × Blk)) : ∀ (u : List (Nat × SV)) (s : St), Sub T s (fitU v u s)
  | [], s => .refl s
  | (t, y) :: u, s => (fit1_sub v t y s).trans (fitU_sub v u _)
theorem sw1_sub (y x : SV) (s : St) : Sub T s (sw1 y x s) := by
  unfold sw1
  split
  · exact swS_sub' _ _ s
  · exact .refl s
theorem fit2_sub : ∀ (ys xs : List SV) (s : St), Sub T s (fit2 ys xs s)
  | [], xs, s => by simp only [fit2]; exact .refl s
  | y :: ys, [], s => by simp only [fit2]; exact .refl s
  | y :: ys, x :: xs, s => by
    simp only [fit2]
    exact (sw1_sub y x s).trans (fit2_sub ys xs _)
theorem fitB_sub (k : Nat) (b : Blk) (s : St) : Sub T s (fitB k b s) := by
  unfold fitB
  split
  · exact fit2_sub _ _ s
  · exact unXs_sub k s
  · exact sw1_sub _ _ s
  · exact .refl s
theorem fitM_sub : ∀ (v : List (Nat × Blk)) (s : St), Sub T s (fitM v s)
  | [], s => .refl s
  | (k, b) :: v, s => ((fitB_sub k b s).trans (fitN_sub k b _)).trans (fitM_sub v _)
theorem fitS_sub (u : List (Nat × SV)) (v : List (Nat × Blk)) (s : St) : Sub T s (fitS u v s) := (fitU_sub v u s).trans (fitM_sub v _)

theorem loopQ {c : Code} {s : St} {K : Ks} {A : Type} (I : A → Prop) (μ : A → Nat) (u : A → List (Nat × SV)) (v : A → List (Nat × Blk)) (i0 : A) (h0 : I i0)
    (hs : WeakSt (fitS (u i0) (v i0) s) (loopSt c (fitS (u i0) (v i0) s) (u i0) (v i0)))
    (hr : ∀ i, I i → swp T G c (loopSt c (fitS (u i0) (v i0) s) (u i) (v i)) ⟨fun s' => ∃ j, I j ∧ μ j < μ i ∧ WeakSt (fitS (u j) (v j) s') (loopSt c (fitS (u i0) (v i0) s) (u j) (v j)), K.r, K.e⟩) : LoopQ T (fun s K => swp T G c s K) s K := by
  exact ⟨⟨A, I, μ, fun i => loopSt c (fitS (u i0) (v i0) s) (u i) (v i), fun i s s' => WeakSt (fitS (u i) (v i) s) s', fun i s s' h => (fitS_sub (u i) (v i) s).trans (weak_sub h), ⟨i0, h0, hs⟩, hr⟩⟩
def rangeSt (asg : List Nat) (s : St) (u : List (Nat × SV)) (v : List (Nat × Blk)) : St := ⟨putNs u (killN asg s.slots), putMs v (killM asg s.mem)⟩
theorem rangeQ {FA FB : St → Ks → Prop} {asg ps : List Nat} {f : Nat} {caps : List SV} {s : St} {K : Ks} (xs : List (List SV)) (hg : G f (seqC caps xs)) (hx : ∀ x ∈ xs, x.length = ps.length ∧ datas x = true) {A : Type} (I : A → Prop) (pos : A → Nat) (u : A → List (Nat × SV)) (v : A → List (Nat × Blk)) (i0 : A) (h0 : I i0 ∧ pos i0 = 0)
    (hs : WeakSt (fitS (u i0) (v i0) (kill asg s)) (rangeSt asg (fitS (u i0) (v i0) (kill asg s)) (u i0) (v i0)))
    (hr : ∀ i x, I i → xs[pos i]? = some x → FA ⟨putZ ps x (rangeSt asg (fitS (u i0) (v i0) (kill asg s)) (u i) (v i)).slots, (rangeSt asg (fitS (u i0) (v i0) (kill asg s)) (u i) (v i)).mem⟩
      ⟨fun s1 => FB s1 ⟨fun s' => ∃ j, I j ∧ pos j = pos i + 1 ∧ WeakSt (fitS (u j) (v j) (kill asg s')) (rangeSt asg (fitS (u i0) (v i0) (kill asg s)) (u j) (v j)), fun s' => K.r (kill asg s'), fun id s' => K.e id (kill asg s')⟩, fun _ => False, fun _ _ => False⟩)
    (hd : ∀ i, I i → pos i = xs.length → K.n (rangeSt asg (fitS (u i0) (v i0) (kill asg s)) (u i) (v i))) : RangeQ T G FA FB asg ps f caps s K :=
  ⟨⟨xs, hg, hx, A, I, pos, fun i => rangeSt asg (fitS (u i0) (v i0) (kill asg s)) (u i) (v i), fun i s s' => WeakSt (fitS (u i) (v i) s) s', fun i s s' h => (fitS_sub (u i) (v i) s).trans (weak_sub h), ⟨i0, h0.1, h0.2, hs⟩, hr, hd⟩⟩
end Go.Proofs.Ytjhicdoigllblaa
/- The table of this seat's types, for the calculus. Printed by a program off the loaded program. -/
namespace Go.Proofs.Ytjhicdoigllblaa
set_option linter.unusedVariables false
set_option linter.unusedSimpArgs false

def tinfo (t : Nat) : Option TI := match t with
  | 2 => some ⟨.int .i64, 1, 8, .int .i64 0⟩  -- int64
  | 3 => some ⟨.int .i64, 1, 8, .int .i64 0⟩  -- int
  | 4 => some ⟨.bool, 1, 1, .bool false⟩  -- bool
  | 5 => some ⟨.int .u8, 1, 1, .int .u8 0⟩  -- uint8
  | 9 => some ⟨.string, 1, 16, .str .empty⟩  -- string
  | 21 => some ⟨.int .i32, 1, 4, .int .i32 0⟩  -- int32
  | 22 => some ⟨.slice 26, 1, 24, .nil⟩  -- [][]uint8
  | 23 => some ⟨.int .u32, 1, 4, .int .u32 0⟩  -- uint32
  | 24 => some ⟨.struct [(0, 3), (1, 5), (2, 22), (3, 23), (4, 3), (5, 3)], 6, 64, .agg [.int .i64 0, .int .u8 0, .nil, .int .u32 0, .int .i64 0, .int .i64 0]⟩  -- struct { State int; Tag uint8; Pieces [][]uint8; Acked uint32; Round int; Until int }
  | 25 => some ⟨.struct [(0, 3), (1, 5), (2, 22), (3, 23), (4, 3), (5, 3)], 6, 64, .agg [.int .i64 0, .int .u8 0, .nil, .int .u32 0, .int .i64 0, .int .i64 0]⟩  -- api.Sender
  | 26 => some ⟨.slice 5, 1, 24, .nil⟩  -- []uint8
  | 27 => some ⟨.slice 3, 1, 24, .nil⟩  -- []int
  | 32 => some ⟨.int .u64, 1, 8, .int .u64 0⟩  -- uint
  | 35 => some ⟨.slice 25, 1, 24, .nil⟩  -- []api.Sender
  | 36 => some ⟨.slice 51, 1, 24, .nil⟩  -- []api.Piece
  | 37 => some ⟨.int .i64, 1, 8, .int .i64 0⟩  -- api.Errno
  | 50 => some ⟨.struct [(0, 5), (1, 3), (2, 3), (3, 4), (4, 26)], 5, 56, .agg [.int .u8 0, .int .i64 0, .int .i64 0, .bool false, .nil]⟩  -- struct { Tag uint8; Number int; Count int; Ack bool; Data []uint8 }
  | 51 => some ⟨.struct [(0, 5), (1, 3), (2, 3), (3, 4), (4, 26)], 5, 56, .agg [.int .u8 0, .int .i64 0, .int .i64 0, .bool false, .nil]⟩  -- api.Piece
  | 54 => some ⟨.struct [(0, 5), (1, 3), (2, 22), (3, 23), (4, 4)], 5, 48, .agg [.int .u8 0, .int .i64 0, .nil, .int .u32 0, .bool false]⟩  -- struct { Tag uint8; Count int; Pieces [][]uint8; Have uint32; Done bool }
  | 55 => some ⟨.struct [(0, 5), (1, 3), (2, 22), (3, 23), (4, 4)], 5, 48, .agg [.int .u8 0, .int .i64 0, .nil, .int .u32 0, .bool false]⟩  -- api.Receiver
  | 58 => some ⟨.slice 55, 1, 24, .nil⟩  -- []api.Receiver
  | 80 => some ⟨.struct [(0, 27), (1, 3)], 2, 32, .agg [.nil, .int .i64 0]⟩  -- struct { l []int; at int }
  | 81 => some ⟨.struct [(0, 27), (1, 3)], 2, 32, .agg [.nil, .int .i64 0]⟩  -- multihopmade.Tape
  | 82 => some ⟨.int .u64, 1, 8, .int .u64 0⟩  -- uint64
  | 92 => some ⟨.array 5 5, 5, 5, .agg [.int .u8 0, .int .u8 0, .int .u8 0, .int .u8 0, .int .u8 0]⟩  -- [5]uint8
  | _ => none

theorem tok2 : TOk Try.prog 2 ⟨.int .i64, 1, 8, .int .i64 0⟩ := ⟨by kernel_rfl, by kernel_rfl, ⟨.int .i64 0, by kernel_rfl, by kernel_rfl, by kernel_rfl, by kernel_rfl, ⟨fun h => (by obtain ⟨_, h⟩ := h; cases h), fun h => (by cases h)⟩⟩⟩
theorem tok3 : TOk Try.prog 3 ⟨.int .i64, 1, 8, .int .i64 0⟩ := ⟨by kernel_rfl, by kernel_rfl, ⟨.int .i64 0, by kernel_rfl, by kernel_rfl, by kernel_rfl, by kernel_rfl, ⟨fun h => (by obtain ⟨_, h⟩ := h; cases h), fun h => (by cases h)⟩⟩⟩
theorem tok4 : TOk Try.prog 4 ⟨.bool, 1, 1, .bool false⟩ := ⟨by kernel_rfl, by kernel_rfl, ⟨.bool false, by kernel_rfl, by kernel_rfl, by kernel_rfl, by kernel_rfl, ⟨fun h => (by obtain ⟨_, h⟩ := h; cases h), fun h => (by cases h)⟩⟩⟩
theorem tok5 : TOk Try.prog 5 ⟨.int .u8, 1, 1, .int .u8 0⟩ := ⟨by kernel_rfl, by kernel_rfl, ⟨.int .u8 0, by kernel_rfl, by kernel_rfl, by kernel_rfl, by kernel_rfl, ⟨fun h => (by obtain ⟨_, h⟩ := h; cases h), fun h => (by cases h)⟩⟩⟩
theorem tok9 : TOk Try.prog 9 ⟨.string, 1, 16, .str .empty⟩ := ⟨by kernel_rfl, by kernel_rfl, ⟨.string .empty, by kernel_rfl, by kernel_rfl, by kernel_rfl, by kernel_rfl, ⟨fun h => (by obtain ⟨_, h⟩ := h; cases h), fun h => (by cases h)⟩⟩⟩
theorem tok21 : TOk Try.prog 21 ⟨.int .i32, 1, 4, .int .i32 0⟩ := ⟨by kernel_rfl, by kernel_rfl, ⟨.int .i32 0, by kernel_rfl, by kernel_rfl, by kernel_rfl, by kernel_rfl, ⟨fun h => (by obtain ⟨_, h⟩ := h; cases h), fun h => (by cases h)⟩⟩⟩
theorem tok22 : TOk Try.prog 22 ⟨.slice 26, 1, 24, .nil⟩ := ⟨by kernel_rfl, by kernel_rfl, ⟨.slice none 0 0, by kernel_rfl, by kernel_rfl, by kernel_rfl, by kernel_rfl, ⟨fun h => (by obtain ⟨_, h⟩ := h; cases h), fun h => (by cases h)⟩⟩⟩
theorem tok23 : TOk Try.prog 23 ⟨.int .u32, 1, 4, .int .u32 0⟩ := ⟨by kernel_rfl, by kernel_rfl, ⟨.int .u32 0, by kernel_rfl, by kernel_rfl, by kernel_rfl, by kernel_rfl, ⟨fun h => (by obtain ⟨_, h⟩ := h; cases h), fun h => (by cases h)⟩⟩⟩
theorem tok24 : TOk Try.prog 24 ⟨.struct [(0, 3), (1, 5), (2, 22), (3, 23), (4, 3), (5, 3)], 6, 64, .agg [.int .i64 0, .int .u8 0, .nil, .int .u32 0, .int .i64 0, .int .i64 0]⟩ := ⟨by kernel_rfl, by kernel_rfl, ⟨.agg #[.int .i64 0, .int .u8 0, .slice none 0 0, .int .u32 0, .int .i64 0, .int .i64 0], by kernel_rfl, by kernel_rfl, by kernel_rfl, by kernel_rfl, ⟨fun _ => rfl, fun _ => ⟨_, rfl⟩⟩⟩⟩
theorem tcmp24 : Try.prog.stoodInHeld 24 = false ∧ Try.prog.eqGuardType Try.prog.depth 24 = false ∧ ∀ fs, Try.prog.underlying 24 = some (.struct fs) → (fs.toList.all fun f => f.name != "_") = true := ⟨by kernel_rfl, by kernel_rfl, fun fs h => by rw [Try.underlying24] at h; first | (injection h with h; injection h with h; subst h; rfl) | cases h⟩
theorem tok25 : TOk Try.prog 25 ⟨.struct [(0, 3), (1, 5), (2, 22), (3, 23), (4, 3), (5, 3)], 6, 64, .agg [.int .i64 0, .int .u8 0, .nil, .int .u32 0, .int .i64 0, .int .i64 0]⟩ := ⟨by kernel_rfl, by kernel_rfl, ⟨.agg #[.int .i64 0, .int .u8 0, .slice none 0 0, .int .u32 0, .int .i64 0, .int .i64 0], by kernel_rfl, by kernel_rfl, by kernel_rfl, by kernel_rfl, ⟨fun _ => rfl, fun _ => ⟨_, rfl⟩⟩⟩⟩
theorem tcmp25 : Try.prog.stoodInHeld 25 = false ∧ Try.prog.eqGuardType Try.prog.depth 25 = false ∧ ∀ fs, Try.prog.underlying 25 = some (.struct fs) → (fs.toList.all fun f => f.name != "_") = true := ⟨by kernel_rfl, by kernel_rfl, fun fs h => by rw [Try.underlying25] at h; first | (injection h with h; injection h with h; subst h; rfl) | cases h⟩
theorem tok26 : TOk Try.prog 26 ⟨.slice 5, 1, 24, .nil⟩ := ⟨by kernel_rfl, by kernel_rfl, ⟨.slice none 0 0, by kernel_rfl, by kernel_rfl, by kernel_rfl, by kernel_rfl, ⟨fun h => (by obtain ⟨_, h⟩ := h; cases h), fun h => (by cases h)⟩⟩⟩
theorem tok27 : TOk Try.prog 27 ⟨.slice 3, 1, 24, .nil⟩ := ⟨by kernel_rfl, by kernel_rfl, ⟨.slice none 0 0, by kernel_rfl, by kernel_rfl, by kernel_rfl, by kernel_rfl, ⟨fun h => (by obtain ⟨_, h⟩ := h; cases h), fun h => (by cases h)⟩⟩⟩
theorem tok32 : TOk Try.prog 32 ⟨.int .u64, 1, 8, .int .u64 0⟩ := ⟨by kernel_rfl, by kernel_rfl, ⟨.int .u64 0, by kernel_rfl, by kernel_rfl, by kernel_rfl, by kernel_rfl, ⟨fun h => (by obtain ⟨_, h⟩ := h; cases h), fun h => (by cases h)⟩⟩⟩
theorem tok35 : TOk Try.prog 35 ⟨.slice 25, 1, 24, .nil⟩ := ⟨by kernel_rfl, by kernel_rfl, ⟨.slice none 0 0, by kernel_rfl, by kernel_rfl, by kernel_rfl, by kernel_rfl, ⟨fun h => (by obtain ⟨_, h⟩ := h; cases h), fun h => (by cases h)⟩⟩⟩
theorem tok36 : TOk Try.prog 36 ⟨.slice 51, 1, 24, .nil⟩ := ⟨by kernel_rfl, by kernel_rfl, ⟨.slice none 0 0, by kernel_rfl, by kernel_rfl, by kernel_rfl, by kernel_rfl, ⟨fun h => (by obtain ⟨_, h⟩ := h; cases h), fun h => (by cases h)⟩⟩⟩
theorem tok37 : TOk Try.prog 37 ⟨.int .i64, 1, 8, .int .i64 0⟩ := ⟨by kernel_rfl, by kernel_rfl, ⟨.int .i64 0, by kernel_rfl, by kernel_rfl, by kernel_rfl, by kernel_rfl, ⟨fun h => (by obtain ⟨_, h⟩ := h; cases h), fun h => (by cases h)⟩⟩⟩
theorem tok50 : TOk Try.prog 50 ⟨.struct [(0, 5), (1, 3), (2, 3), (3, 4), (4, 26)], 5, 56, .agg [.int .u8 0, .int .i64 0, .int .i64 0, .bool false, .nil]⟩ := ⟨by kernel_rfl, by kernel_rfl, ⟨.agg #[.int .u8 0, .int .i64 0, .int .i64 0, .bool false, .slice none 0 0], by kernel_rfl, by kernel_rfl, by kernel_rfl, by kernel_rfl, ⟨fun _ => rfl, fun _ => ⟨_, rfl⟩⟩⟩⟩
theorem tcmp50 : Try.prog.stoodInHeld 50 = false ∧ Try.prog.eqGuardType Try.prog.depth 50 = false ∧ ∀ fs, Try.prog.underlying 50 = some (.struct fs) → (fs.toList.all fun f => f.name != "_") = true := ⟨by kernel_rfl, by kernel_rfl, fun fs h => by rw [Try.underlying50] at h; first | (injection h with h; injection h with h; subst h; rfl) | cases h⟩
theorem tok51 : TOk Try.prog 51 ⟨.struct [(0, 5), (1, 3), (2, 3), (3, 4), (4, 26)], 5, 56, .agg [.int .u8 0, .int .i64 0, .int .i64 0, .bool false, .nil]⟩ := ⟨by kernel_rfl, by kernel_rfl, ⟨.agg #[.int .u8 0, .int .i64 0, .int .i64 0, .bool false, .slice none 0 0], by kernel_rfl, by kernel_rfl, by kernel_rfl, by kernel_rfl, ⟨fun _ => rfl, fun _ => ⟨_, rfl⟩⟩⟩⟩
theorem tcmp51 : Try.prog.stoodInHeld 51 = false ∧ Try.prog.eqGuardType Try.prog.depth 51 = false ∧ ∀ fs, Try.prog.underlying 51 = some (.struct fs) → (fs.toList.all fun f => f.name != "_") = true := ⟨by kernel_rfl, by kernel_rfl, fun fs h => by rw [Try.underlying51] at h; first | (injection h with h; injection h with h; subst h; rfl) | cases h⟩
theorem tok54 : TOk Try.prog 54 ⟨.struct [(0, 5), (1, 3), (2, 22), (3, 23), (4, 4)], 5, 48, .agg [.int .u8 0, .int .i64 0, .nil, .int .u32 0, .bool false]⟩ := ⟨by kernel_rfl, by kernel_rfl, ⟨.agg #[.int .u8 0, .int .i64 0, .slice none 0 0, .int .u32 0, .bool false], by kernel_rfl, by kernel_rfl, by kernel_rfl, by kernel_rfl, ⟨fun _ => rfl, fun _ => ⟨_, rfl⟩⟩⟩⟩
theorem tcmp54 : Try.prog.stoodInHeld 54 = false ∧ Try.prog.eqGuardType Try.prog.depth 54 = false ∧ ∀ fs, Try.prog.underlying 54 = some (.struct fs) → (fs.toList.all fun f => f.name != "_") = true := ⟨by kernel_rfl, by kernel_rfl, fun fs h => by rw [Try.underlying54] at h; first | (injection h with h; injection h with h; subst h; rfl) | cases h⟩
theorem tok55 : TOk Try.prog 55 ⟨.struct [(0, 5), (1, 3), (2, 22), (3, 23), (4, 4)], 5, 48, .agg [.int .u8 0, .int .i64 0, .nil, .int .u32 0, .bool false]⟩ := ⟨by kernel_rfl, by kernel_rfl, ⟨.agg #[.int .u8 0, .int .i64 0, .slice none 0 0, .int .u32 0, .bool false], by kernel_rfl, by kernel_rfl, by kernel_rfl, by kernel_rfl, ⟨fun _ => rfl, fun _ => ⟨_, rfl⟩⟩⟩⟩
theorem tcmp55 : Try.prog.stoodInHeld 55 = false ∧ Try.prog.eqGuardType Try.prog.depth 55 = false ∧ ∀ fs, Try.prog.underlying 55 = some (.struct fs) → (fs.toList.all fun f => f.name != "_") = true := ⟨by kernel_rfl, by kernel_rfl, fun fs h => by rw [Try.underlying55] at h; first | (injection h with h; injection h with h; subst h; rfl) | cases h⟩
theorem tok58 : TOk Try.prog 58 ⟨.slice 55, 1, 24, .nil⟩ := ⟨by kernel_rfl, by kernel_rfl, ⟨.slice none 0 0, by kernel_rfl, by kernel_rfl, by kernel_rfl, by kernel_rfl, ⟨fun h => (by obtain ⟨_, h⟩ := h; cases h), fun h => (by cases h)⟩⟩⟩
theorem tok80 : TOk Try.prog 80 ⟨.struct [(0, 27), (1, 3)], 2, 32, .agg [.nil, .int .i64 0]⟩ := ⟨by kernel_rfl, by kernel_rfl, ⟨.agg #[.slice none 0 0, .int .i64 0], by kernel_rfl, by kernel_rfl, by kernel_rfl, by kernel_rfl, ⟨fun _ => rfl, fun _ => ⟨_, rfl⟩⟩⟩⟩
theorem tcmp80 : Try.prog.stoodInHeld 80 = false ∧ Try.prog.eqGuardType Try.prog.depth 80 = false ∧ ∀ fs, Try.prog.underlying 80 = some (.struct fs) → (fs.toList.all fun f => f.name != "_") = true := ⟨by kernel_rfl, by kernel_rfl, fun fs h => by rw [Try.underlying80] at h; first | (injection h with h; injection h with h; subst h; rfl) | cases h⟩
theorem tok81 : TOk Try.prog 81 ⟨.struct [(0, 27), (1, 3)], 2, 32, .agg [.nil, .int .i64 0]⟩ := ⟨by kernel_rfl, by kernel_rfl, ⟨.agg #[.slice none 0 0, .int .i64 0], by kernel_rfl, by kernel_rfl, by kernel_rfl, by kernel_rfl, ⟨fun _ => rfl, fun _ => ⟨_, rfl⟩⟩⟩⟩
theorem tcmp81 : Try.prog.stoodInHeld 81 = false ∧ Try.prog.eqGuardType Try.prog.depth 81 = false ∧ ∀ fs, Try.prog.underlying 81 = some (.struct fs) → (fs.toList.all fun f => f.name != "_") = true := ⟨by kernel_rfl, by kernel_rfl, fun fs h => by rw [Try.underlying81] at h; first | (injection h with h; injection h with h; subst h; rfl) | cases h⟩
theorem tok82 : TOk Try.prog 82 ⟨.int .u64, 1, 8, .int .u64 0⟩ := ⟨by kernel_rfl, by kernel_rfl, ⟨.int .u64 0, by kernel_rfl, by kernel_rfl, by kernel_rfl, by kernel_rfl, ⟨fun h => (by obtain ⟨_, h⟩ := h; cases h), fun h => (by cases h)⟩⟩⟩
theorem tok92 : TOk Try.prog 92 ⟨.array 5 5, 5, 5, .agg [.int .u8 0, .int .u8 0, .int .u8 0, .int .u8 0, .int .u8 0]⟩ := ⟨by kernel_rfl, by kernel_rfl, ⟨.agg #[.int .u8 0, .int .u8 0, .int .u8 0, .int .u8 0, .int .u8 0], by kernel_rfl, by kernel_rfl, by kernel_rfl, by kernel_rfl, ⟨fun _ => rfl, fun _ => ⟨_, rfl⟩⟩⟩⟩
theorem tcmp92 : Try.prog.stoodInHeld 92 = false ∧ Try.prog.eqGuardType Try.prog.depth 92 = false ∧ ∀ fs, Try.prog.underlying 92 = some (.struct fs) → (fs.toList.all fun f => f.name != "_") = true := ⟨by kernel_rfl, by kernel_rfl, fun fs h => by rw [Try.underlying92] at h; first | (injection h with h; injection h with h; subst h; rfl) | cases h⟩

theorem types_ok : Types Try.prog tinfo := by
  refine ⟨fun t i h => ?_, fun t i h hs => ?_⟩
  · unfold tinfo at h
    split at h <;> first | (injection h with h; subst h; first | exact tok2 | exact tok3 | exact tok4 | exact tok5 | exact tok9 | exact tok21 | exact tok22 | exact tok23 | exact tok24 | exact tok25 | exact tok26 | exact tok27 | exact tok32 | exact tok35 | exact tok36 | exact tok37 | exact tok50 | exact tok51 | exact tok54 | exact tok55 | exact tok58 | exact tok80 | exact tok81 | exact tok82 | exact tok92) | cases h
  · unfold tinfo at h
    split at h <;> first | (injection h with h; subst h; first | exact absurd (show false = true from hs) (by decide) | exact tcmp24 | exact tcmp25 | exact tcmp50 | exact tcmp51 | exact tcmp54 | exact tcmp55 | exact tcmp80 | exact tcmp81 | exact tcmp92) | cases h
theorem sizes_ok : Sizes tinfo := by
  refine ⟨fun t i h hb => ?_, fun t i fs h hk off ft j hm hj => ?_⟩
  · unfold tinfo at h
    split at h <;> first | (injection h with h; subst h; first | rfl | cases hb) | cases h
  · unfold tinfo at h
    split at h
    · injection h with h; subst h; cases hk
    · injection h with h; subst h; cases hk
    · injection h with h; subst h; cases hk
    · injection h with h; subst h; cases hk
    · injection h with h; subst h; cases hk
    · injection h with h; subst h; cases hk
    · injection h with h; subst h; cases hk
    · injection h with h; subst h; cases hk
    · injection h with h; subst h; injection hk with hk; subst hk
      simp only [List.mem_cons, List.not_mem_nil, or_false, Prod.mk.injEq] at hm
      rcases hm with ⟨rfl, rfl⟩ | ⟨rfl, rfl⟩ | ⟨rfl, rfl⟩ | ⟨rfl, rfl⟩ | ⟨rfl, rfl⟩ | ⟨rfl, rfl⟩
      all_goals (simp only [tinfo, Option.some.injEq] at hj; subst hj; simp)
    · injection h with h; subst h; injection hk with hk; subst hk
      simp only [List.mem_cons, List.not_mem_nil, or_false, Prod.mk.injEq] at hm
      rcases hm with ⟨rfl, rfl⟩ | ⟨rfl, rfl⟩ | ⟨rfl, rfl⟩ | ⟨rfl, rfl⟩ | ⟨rfl, rfl⟩ | ⟨rfl, rfl⟩
      all_goals (simp only [tinfo, Option.some.injEq] at hj; subst hj; simp)
    · injection h with h; subst h; cases hk
    · injection h with h; subst h; cases hk
    · injection h with h; subst h; cases hk
    · injection h with h; subst h; cases hk
    · injection h with h; subst h; cases hk
    · injection h with h; subst h; cases hk
    · injection h with h; subst h; injection hk with hk; subst hk
      simp only [List.mem_cons, List.not_mem_nil, or_false, Prod.mk.injEq] at hm
      rcases hm with ⟨rfl, rfl⟩ | ⟨rfl, rfl⟩ | ⟨rfl, rfl⟩ | ⟨rfl, rfl⟩ | ⟨rfl, rfl⟩
      all_goals (simp only [tinfo, Option.some.injEq] at hj; subst hj; simp)
    · injection h with h; subst h; injection hk with hk; subst hk
      simp only [List.mem_cons, List.not_mem_nil, or_false, Prod.mk.injEq] at hm
      rcases hm with ⟨rfl, rfl⟩ | ⟨rfl, rfl⟩ | ⟨rfl, rfl⟩ | ⟨rfl, rfl⟩ | ⟨rfl, rfl⟩
      all_goals (simp only [tinfo, Option.some.injEq] at hj; subst hj; simp)
    · injection h with h; subst h; injection hk with hk; subst hk
      simp only [List.mem_cons, List.not_mem_nil, or_false, Prod.mk.injEq] at hm
      rcases hm with ⟨rfl, rfl⟩ | ⟨rfl, rfl⟩ | ⟨rfl, rfl⟩ | ⟨rfl, rfl⟩ | ⟨rfl, rfl⟩
      all_goals (simp only [tinfo, Option.some.injEq] at hj; subst hj; simp)
    · injection h with h; subst h; injection hk with hk; subst hk
      simp only [List.mem_cons, List.not_mem_nil, or_false, Prod.mk.injEq] at hm
      rcases hm with ⟨rfl, rfl⟩ | ⟨rfl, rfl⟩ | ⟨rfl, rfl⟩ | ⟨rfl, rfl⟩ | ⟨rfl, rfl⟩
      all_goals (simp only [tinfo, Option.some.injEq] at hj; subst hj; simp)
    · injection h with h; subst h; cases hk
    · injection h with h; subst h; injection hk with hk; subst hk
      simp only [List.mem_cons, List.not_mem_nil, or_false, Prod.mk.injEq] at hm
      rcases hm with ⟨rfl, rfl⟩ | ⟨rfl, rfl⟩
      all_goals (simp only [tinfo, Option.some.injEq] at hj; subst hj; simp)
    · injection h with h; subst h; injection hk with hk; subst hk
      simp only [List.mem_cons, List.not_mem_nil, or_false, Prod.mk.injEq] at hm
      rcases hm with ⟨rfl, rfl⟩ | ⟨rfl, rfl⟩
      all_goals (simp only [tinfo, Option.some.injEq] at hj; subst hj; simp)
    · injection h with h; subst h; cases hk
    · injection h with h; subst h; cases hk
    · cases h
theorem closed_ok : Closed tinfo := by
  refine ⟨fun t i fs h hk q hq => ?_⟩
  unfold tinfo at h
  split at h
  · injection h with h; subst h; cases hk
  · injection h with h; subst h; cases hk
  · injection h with h; subst h; cases hk
  · injection h with h; subst h; cases hk
  · injection h with h; subst h; cases hk
  · injection h with h; subst h; cases hk
  · injection h with h; subst h; cases hk
  · injection h with h; subst h; cases hk
  · injection h with h; subst h; injection hk with hk; subst hk
    simp only [List.mem_cons, List.not_mem_nil, or_false] at hq
    rcases hq with rfl | rfl | rfl | rfl | rfl | rfl
    all_goals exact ⟨_, rfl⟩
  · injection h with h; subst h; injection hk with hk; subst hk
    simp only [List.mem_cons, List.not_mem_nil, or_false] at hq
    rcases hq with rfl | rfl | rfl | rfl | rfl | rfl
    all_goals exact ⟨_, rfl⟩
  · injection h with h; subst h; cases hk
  · injection h with h; subst h; cases hk
  · injection h with h; subst h; cases hk
  · injection h with h; subst h; cases hk
  · injection h with h; subst h; cases hk
  · injection h with h; subst h; cases hk
  · injection h with h; subst h; injection hk with hk; subst hk
    simp only [List.mem_cons, List.not_mem_nil, or_false] at hq
    rcases hq with rfl | rfl | rfl | rfl | rfl
    all_goals exact ⟨_, rfl⟩
  · injection h with h; subst h; injection hk with hk; subst hk
    simp only [List.mem_cons, List.not_mem_nil, or_false] at hq
    rcases hq with rfl | rfl | rfl | rfl | rfl
    all_goals exact ⟨_, rfl⟩
  · injection h with h; subst h; injection hk with hk; subst hk
    simp only [List.mem_cons, List.not_mem_nil, or_false] at hq
    rcases hq with rfl | rfl | rfl | rfl | rfl
    all_goals exact ⟨_, rfl⟩
  · injection h with h; subst h; injection hk with hk; subst hk
    simp only [List.mem_cons, List.not_mem_nil, or_false] at hq
    rcases hq with rfl | rfl | rfl | rfl | rfl
    all_goals exact ⟨_, rfl⟩
  · injection h with h; subst h; cases hk
  · injection h with h; subst h; injection hk with hk; subst hk
    simp only [List.mem_cons, List.not_mem_nil, or_false] at hq
    rcases hq with rfl | rfl
    all_goals exact ⟨_, rfl⟩
  · injection h with h; subst h; injection hk with hk; subst hk
    simp only [List.mem_cons, List.not_mem_nil, or_false] at hq
    rcases hq with rfl | rfl
    all_goals exact ⟨_, rfl⟩
  · injection h with h; subst h; cases hk
  · injection h with h; subst h; cases hk
  · cases h
theorem tab : Tab Try.prog tinfo := ⟨types_ok, sizes_ok, closed_ok, fun t i h d => by
  unfold tinfo at h
  split at h <;> first | (injection h with h; subst h; rfl) | cases h⟩
theorem mixed : Try.prog.follows .mixedOrders = true := by kernel_rfl

/-- A contract over this seat's program, behind one name. -/
structure Good (f : Nat) (c : CT) : Prop where
  h : ACall Try.prog tinfo f c
theorem good_call : ∀ f c, (fun f c => Good f c) f c → ACall Try.prog tinfo f c := fun _ _ h => h.h
/-- A contract of a function over data. -/
abbrev pu (args : List SV) (r : SV) : CT := ⟨args, none, r, .any, .no⟩
/-- A contract of a function over data that gives something new, named 1 in the result. -/
abbrev nu (args : List SV) (r : SV) (b : Blk) : CT := ⟨args, none, r, .any, b⟩
/-- A contract of a function that is lent a variable by its first argument. -/
abbrev le (t : Nat) (x : SV) (args : List SV) (r : SV) (y : SV) : CT := ⟨.ptr 0 0 :: args, some (t, x), r, y, .no⟩
abbrev leN (t : Nat) (x : SV) (args : List SV) (r : SV) (y : SV) (b : Blk) : CT := ⟨.ptr 0 0 :: args, some (t, x), r, y, b⟩
theorem Good.of {f : FuncId} {fn : Func} {c : Code} {ct : CT} (hf : Try.prog.funcs[f]? = some fn) (hb : fn.body = some c)
    (hn : (fn.name == "runtime.NumGoroutine") = false) (hok : codeOk c = true)
    (h : swp (fun t => tinfo t) (fun f c => Good f c) c (start fn.ntmps ct) ⟨fun s => retQ (fun t => tinfo t) fn.resultTypes.toList fn.results.toList s ct, fun s => retQ (fun t => tinfo t) fn.resultTypes.toList fn.results.toList s ct, fun _ _ => False⟩) (hni : isSeq ct = false := by rfl) : Good f ct :=
  ⟨contract tab good_call mixed hf hb hn hok hni h⟩
end Go.Proofs.Ytjhicdoigllblaa
/- What the operations on lists and numbers are. -/
namespace Go.Proofs.Ytjhicdoigllblaa
set_option linter.unusedVariables false
set_option linter.unusedSimpArgs false
theorem oln (l : List SV) : O.ln l = l.length := O.hln l
theorem otk (n : Int) (l : List SV) : O.tk n l = l.take n.toNat := O.htk n l
theorem odr (n : Int) (l : List SV) : O.dr n l = l.drop n.toNat := O.hdr n l
theorem oap (l k : List SV) : O.ap l k = l ++ k := O.hap l k
theorem ost (l : List SV) (i : Nat) (y : SV) : O.st l i y = l.set i y := O.hst l i y
theorem orp (n : Int) (x : SV) : O.rp n x = List.replicate n.toNat x := O.hrp n x
theorem ocp (l : List SV) (a n : Nat) (ys : List SV) : O.cp l a n ys = l.take a ++ ys.take n ++ l.drop (a + min ys.length n) := O.hcp l a n ys
theorem osg (l : List SV) (a n : Nat) : O.sg l a n = (l.drop a).take n := O.hsg l a n
theorem otn (n : Int) : O.tn n = n.toNat := O.htn n
theorem oad (a : Nat) (n : Int) : O.ad a n = a + n.toNat := O.had a n
theorem osb (a : Nat) (n : Int) : O.sb a n = a - n.toNat := O.hsb a n
theorem osi (a n : Int) : O.si a n = a.toNat - n.toNat := O.hsi a n
theorem oby (s : ByteArray) : O.by' s = s.data.toList.map fun b => SV.int .u8 b.toNat := O.hby s
theorem pln (l : List SV) : (Classical.choice lo_ex).ln l = l.length := O.hln l
theorem ptk (n : Int) (l : List SV) : (Classical.choice lo_ex).tk n l = l.take n.toNat := O.htk n l
theorem pdr (n : Int) (l : List SV) : (Classical.choice lo_ex).dr n l = l.drop n.toNat := O.hdr n l
theorem pap (l k : List SV) : (Classical.choice lo_ex).ap l k = l ++ k := O.hap l k
theorem pst (l : List SV) (i : Nat) (y : SV) : (Classical.choice lo_ex).st l i y = l.set i y := O.hst l i y
theorem prp (n : Int) (x : SV) : (Classical.choice lo_ex).rp n x = List.replicate n.toNat x := O.hrp n x
theorem pcp (l : List SV) (a n : Nat) (ys : List SV) : (Classical.choice lo_ex).cp l a n ys = l.take a ++ ys.take n ++ l.drop (a + min ys.length n) := O.hcp l a n ys
theorem psg (l : List SV) (a n : Nat) : (Classical.choice lo_ex).sg l a n = (l.drop a).take n := O.hsg l a n
theorem ptn (n : Int) : (Classical.choice lo_ex).tn n = n.toNat := O.htn n
theorem pad (a : Nat) (n : Int) : (Classical.choice lo_ex).ad a n = a + n.toNat := O.had a n
theorem psb (a : Nat) (n : Int) : (Classical.choice lo_ex).sb a n = a - n.toNat := O.hsb a n
theorem psi (a n : Int) : (Classical.choice lo_ex).si a n = a.toNat - n.toNat := O.hsi a n
theorem pby (s : ByteArray) : (Classical.choice lo_ex).by' s = s.data.toList.map fun b => SV.int .u8 b.toNat := O.hby s
theorem cst (n : Nat) : @NatCast.natCast Int _ n = @Nat.cast Int _ n := rfl
theorem qv {A : Type} {p k : A → Prop} (z : A) (h : p z) (g : k z) : QV p k := ⟨⟨z, h, g⟩⟩
/-- A list of whole numbers, as values. -/
def ints (k : IntKind) (l : List Int) : List SV := l.map (SV.int k)
theorem ints_len (k : IntKind) (l : List Int) : (ints k l).length = l.length := by simp [ints]
/-- All of them. -/
theorem sm : (∀ l, O.ln l = l.length) ∧ (∀ n l, O.tk n l = l.take n.toNat) ∧ (∀ n l, O.dr n l = l.drop n.toNat) ∧ (∀ l k, O.ap l k = l ++ k) ∧ (∀ l i x, O.st l i x = l.set i x) ∧ (∀ n x, O.rp n x = List.replicate n.toNat x) ∧
    (∀ l a n ys, O.cp l a n ys = l.take a ++ ys.take n ++ l.drop (a + min ys.length n)) ∧ (∀ l a n, O.sg l a n = (l.drop a).take n) ∧ (∀ n, O.tn n = n.toNat) ∧ (∀ a n, O.ad a n = a + n.toNat) ∧ (∀ a n, O.sb a n = a - n.toNat) ∧ (∀ a n, O.si a n = a.toNat - n.toNat) ∧
    (∀ s, O.by' s = s.data.toList.map fun b => SV.int .u8 b.toNat) ∧
    (∀ l, (Classical.choice lo_ex).ln l = l.length) ∧ (∀ n l, (Classical.choice lo_ex).tk n l = l.take n.toNat) ∧ (∀ n l, (Classical.choice lo_ex).dr n l = l.drop n.toNat) ∧ (∀ l k, (Classical.choice lo_ex).ap l k = l ++ k) ∧ (∀ l i x, (Classical.choice lo_ex).st l i x = l.set i x) ∧
    (∀ n x, (Classical.choice lo_ex).rp n x = List.replicate n.toNat x) ∧ (∀ l a n ys, (Classical.choice lo_ex).cp l a n ys = l.take a ++ ys.take n ++ l.drop (a + min ys.length n)) ∧ (∀ l a n, (Classical.choice lo_ex).sg l a n = (l.drop a).take n) ∧ (∀ n, (Classical.choice lo_ex).tn n = n.toNat) ∧
    (∀ a n, (Classical.choice lo_ex).ad a n = a + n.toNat) ∧ (∀ a n, (Classical.choice lo_ex).sb a n = a - n.toNat) ∧ (∀ a n, (Classical.choice lo_ex).si a n = a.toNat - n.toNat) ∧ (∀ s, (Classical.choice lo_ex).by' s = s.data.toList.map fun b => SV.int .u8 b.toNat) ∧
    (∀ n : Nat, @NatCast.natCast Int _ n = @Nat.cast Int _ n) ∧ (∀ k l, (ints k l).length = l.length) ∧
    (∀ (A : Type) (n : Nat) (l : List A), (l.take n).length = min n l.length) ∧ (∀ (A : Type) (n : Nat) (l : List A), (l.drop n).length = l.length - n) ∧ (∀ (A : Type) (l k : List A), (l ++ k).length = l.length + k.length) ∧ (∀ (A : Type) (l : List A) (n : Nat) (x : A), (l.set n x).length = l.length) ∧
    (∀ (A : Type) (n : Nat) (x : A), (List.replicate n x).length = n) ∧ (∀ (A : Type) (x : A) (l : List A), (x :: l).length = l.length + 1) ∧ (∀ (A : Type), ([] : List A).length = 0) :=
  ⟨oln, otk, odr, oap, ost, orp, ocp, osg, otn, oad, osb, osi, oby, pln, ptk, pdr, pap, pst, prp, pcp, psg, ptn, pad, psb, psi, pby, cst, ints_len, fun _ _ _ => List.length_take, fun _ _ _ => List.length_drop, fun _ _ _ => List.length_append, fun _ _ _ _ => List.length_set, fun _ _ _ => List.length_replicate, fun _ _ _ => List.length_cons, fun _ => List.length_nil⟩
theorem ints_get {k : IntKind} {l : List Int} {i : Nat} {v : Int} (h : l[i]? = some v) : (ints k l)[i]? = some (SV.int k v) := by simp [ints, h]
theorem ints_at {k : IntKind} {l : List Int} (i : Nat) (h : i < l.length) : (ints k l)[i]? = some (SV.int k (l.getD i 0)) := by simp [ints, h]
theorem getD_mem {l : List Int} {i : Nat} (h : i < l.length) : l.getD i 0 ∈ l := by simp [List.getD, h]
theorem ints_app (k : IntKind) (l m : List Int) : ints k l ++ ints k m = ints k (l ++ m) := by simp [ints]
theorem ints_take (k : IntKind) (l : List Int) (n : Nat) : (ints k l).take n = ints k (l.take n) := by simp [ints]
theorem ints_drop (k : IntKind) (l : List Int) (n : Nat) : (ints k l).drop n = ints k (l.drop n) := by simp [ints]
theorem ints_set (k : IntKind) (l : List Int) (n : Nat) (v : Int) : (ints k l).set n (.int k v) = ints k (l.set n v) := by simp [ints, List.map_set]
theorem ints_rep (k : IntKind) (n : Nat) (v : Int) : List.replicate n (SV.int k v) = ints k (List.replicate n v) := by simp [ints]
end Go.Proofs.Ytjhicdoigllblaa
/- Contracts of the maker's tape. -/
namespace Go.Proofs.Ytjhicdoigllblaa
set_option linter.unusedVariables false
set_option linter.unusedSimpArgs false
set_option maxHeartbeats 1000000
set_option linter.unusedSimpArgs false
theorem new_c (L R : List SV) (hR : R = L.take 400) : Good 10 (nu [.lst none L] (.ptr 1 0) (.chunk 81 (.agg [.lst none R, .int .i64 0]))) := by
  refine Good.of Try.func10 rfl (by rfl) (by kernel_rfl) ?_
  cbv
  (repeat' (first
    | (refine q1 (by first | exact trivial | omega | (dsimp only; omega) | exact pow62 _ (by omega) | exact mul9 (by omega) (by omega) | (simp only [sm] at *; omega)) (fun z hz => ?_); (try simp only at hz); cbv)
    | (refine rq (by first | exact trivial | omega | (dsimp only; omega) | (simp only [sm] at *; omega)) ?_; cbv)
    | (refine QC.tt (by first | omega | (dsimp only; omega) | exact rfl | (simp only [sm] at *; omega)) ?_; cbv)
    | (refine QC.tt ?_ ?_; (focus (simp only [decide_true, Bool.and_true, Bool.and_self] <;> fail)); cbv)
    | (refine QC.ff ?_ ?_; (focus (simp only [decide_true, Bool.and_true, Bool.and_self, decide_false, Bool.false_and, reduceCtorEq, not_false_eq_true] <;> fail)); cbv)
    | (refine QC.ff (by first | omega | (dsimp only; omega) | (simp only [sm] at *; omega)) ?_; cbv)
    | (refine QC.mk (fun hc => ?_) (fun hc => ?_) <;> (try dsimp only at hc) <;> cbv)
    | (refine br_mk2 (fun hb => ?_) (fun hb => ?_) <;> (try subst hb) <;> cbv)))
  · refine ⟨rfl, ?_, rfl⟩
    rw [hR]
    simp only [sm]
    rfl
  · refine ⟨rfl, ?_, rfl⟩
    rw [hR]
    simp only [sm] at hz
    rw [List.take_of_length_le (by omega)]

def tapeV (L : List SV) (a : Int) : SV := .agg [.lst none L, .int .i64 a]
theorem mod_c (v n : Int) (hv : -9223372036854775808 ≤ v ∧ v ≤ 9223372036854775807) (hn : 1 ≤ n ∧ n ≤ 1000000) : Good 23 (pu [.int .i64 v, .int .i64 n] (.int .i64 (v % n))) := by
  have h1 := Int.tmod_lt_of_pos v (show 0 < n by omega)
  have h2 := Int.lt_tmod_of_pos v (show 0 < n by omega)
  have h3 : v % n = if v.tmod n < 0 then v.tmod n + n else v.tmod n := by
    have e : v % n = v.tmod n % n := by
      conv => lhs; rw [← Int.tmod_add_mul_tdiv v n]
      rw [Int.add_mul_emod_self_left]
    rw [e]
    split
    · rw [← Int.add_emod_right]
      exact Int.emod_eq_of_lt (by omega) (by omega)
    · exact Int.emod_eq_of_lt (by omega) (by omega)
  generalize hr : v % n = r at *
  refine Good.of Try.func23 rfl (by rfl) (by kernel_rfl) ?_
  cbv
  (repeat' (first
    | (refine q1 (by first | exact trivial | omega | (dsimp only; omega) | exact pow62 _ (by omega) | exact mul9 (by omega) (by omega) | (simp only [sm] at *; omega)) (fun z hz => ?_); (try simp only at hz); cbv)
    | (refine rq (by first | exact trivial | omega | (dsimp only; omega) | (simp only [sm] at *; omega)) ?_; cbv)
    | (refine QC.tt (by first | omega | (dsimp only; omega) | exact rfl | (simp only [sm] at *; omega)) ?_; cbv)
    | (refine QC.tt ?_ ?_; (focus (simp only [decide_true, Bool.and_true, Bool.and_self] <;> fail)); cbv)
    | (refine QC.ff ?_ ?_; (focus (simp only [decide_true, Bool.and_true, Bool.and_self, decide_false, Bool.false_and, reduceCtorEq, not_false_eq_true] <;> fail)); cbv)
    | (refine QC.ff (by first | omega | (dsimp only; omega) | (simp only [sm] at *; omega)) ?_; cbv)
    | (refine QC.mk (fun hc => ?_) (fun hc => ?_) <;> (try dsimp only at hc) <;> cbv)
    | (refine br_mk2 (fun hb => ?_) (fun hb => ?_) <;> (try subst hb) <;> cbv)))
  all_goals refine ⟨?_, rfl, rfl⟩
  · rw [h3, if_pos (by omega), hz]; rename_i y hy; rw [hy.1]
  · rw [h3, if_neg (by omega), hz.1]

/-- The next number of a tape. -/
def nextT (l : List Int) (a n : Int) : Int := if l.length ≤ a then 0 else (l.getD a.toNat 0) % n
def nextA (l : List Int) (a : Int) : Int := if l.length ≤ a then a else a + 1
theorem next_c (L : List SV) (l : List Int) (hL : L = ints .i64 l) (hl : ∀ v ∈ l, -9223372036854775808 ≤ v ∧ v ≤ 9223372036854775807) (h400 : l.length ≤ 400) (a n r b : Int) (ha : 0 ≤ a ∧ a ≤ 400) (hn : 1 ≤ n ∧ n ≤ 1000000) (hr : r = nextT l a n) (hb : b = nextA l a) :
    Good 12 (le 81 (.agg [.lst none L, .int .i64 a]) [.int .i64 n] (.int .i64 r) (.agg [.lst none L, .int .i64 b])) := by
  refine Good.of Try.func12 rfl (by rfl) (by kernel_rfl) ?_
  cbv
  have hlen : L.length = l.length := by rw [hL, ints_len]
  (repeat' (first
    | (refine q1 (by first | exact trivial | omega | (dsimp only; omega) | exact pow62 _ (by omega) | exact mul9 (by omega) (by omega) | (simp only [sm] at *; omega)) (fun z hz => ?_); (try simp only at hz); cbv)
    | (refine rq (by first | exact trivial | omega | (dsimp only; omega) | (simp only [sm] at *; omega)) ?_; cbv)
    | (refine QC.tt (by first | omega | (dsimp only; omega) | exact rfl | (simp only [sm] at *; omega)) ?_; cbv)
    | (refine QC.tt ?_ ?_; (focus (simp only [decide_true, Bool.and_true, Bool.and_self] <;> fail)); cbv)
    | (refine QC.ff ?_ ?_; (focus (simp only [decide_true, Bool.and_true, Bool.and_self, decide_false, Bool.false_and, reduceCtorEq, not_false_eq_true] <;> fail)); cbv)
    | (refine QC.ff (by first | omega | (dsimp only; omega) | (simp only [sm] at *; omega)) ?_; cbv)
    | (refine QC.mk (fun hc => ?_) (fun hc => ?_) <;> (try dsimp only at hc) <;> cbv)
    | (refine br_mk2 (fun hb => ?_) (fun hb => ?_) <;> (try subst hb) <;> cbv)))
  · have hz' : z = l.length := by rw [hz, oln, hlen]
    refine ⟨?_, rfl, ?_⟩
    · rw [hr, nextT, if_pos (by omega)]
    · rw [hb, nextA, if_pos (by omega)]
  · have hz' : z = l.length := by rw [hz, oln, hlen]
    have hlt : a.toNat < l.length := by omega
    have hv := hl _ (getD_mem hlt)
    have hr' : r = l.getD a.toNat 0 % n := by rw [hr, nextT, if_neg (by omega)]
    have hb' : b = a + 1 := by rw [hb, nextA, if_neg (by omega)]
    refine qv (a.toNat, .int .i64 (l.getD a.toNat 0)) ⟨?_, ?_⟩ ?_
    · show a = (a.toNat : Int); omega
    · rw [hL]; exact ints_at _ hlt
    generalize l.getD a.toNat 0 = v at *
    have h1 := Int.tmod_lt_of_pos v (show 0 < n by omega)
    have h2 := Int.lt_tmod_of_pos v (show 0 < n by omega)
    have h3 : v % n = if v.tmod n < 0 then v.tmod n + n else v.tmod n := by
      have e : v % n = v.tmod n % n := by
        conv => lhs; rw [← Int.tmod_add_mul_tdiv v n]
        rw [Int.add_mul_emod_self_left]
      rw [e]
      split
      · rw [← Int.add_emod_right]
        exact Int.emod_eq_of_lt (by omega) (by omega)
      · exact Int.emod_eq_of_lt (by omega) (by omega)
    clear hz hr hb
    cbv
    (repeat' (first
    | (refine q1 (by first | exact trivial | omega | (dsimp only; omega) | exact pow62 _ (by omega) | exact mul9 (by omega) (by omega) | (simp only [sm] at *; omega)) (fun z hz => ?_); (try simp only at hz); cbv)
    | (refine rq (by first | exact trivial | omega | (dsimp only; omega) | (simp only [sm] at *; omega)) ?_; cbv)
    | (refine QC.tt (by first | omega | (dsimp only; omega) | exact rfl | (simp only [sm] at *; omega)) ?_; cbv)
    | (refine QC.tt ?_ ?_; (focus (simp only [decide_true, Bool.and_true, Bool.and_self] <;> fail)); cbv)
    | (refine QC.ff ?_ ?_; (focus (simp only [decide_true, Bool.and_true, Bool.and_self, decide_false, Bool.false_and, reduceCtorEq, not_false_eq_true] <;> fail)); cbv)
    | (refine QC.ff (by first | omega | (dsimp only; omega) | (simp only [sm] at *; omega)) ?_; cbv)
    | (refine QC.mk (fun hc => ?_) (fun hc => ?_) <;> (try dsimp only at hc) <;> cbv)
    | (refine br_mk2 (fun hb => ?_) (fun hb => ?_) <;> (try subst hb) <;> cbv)))
    · rename_i y hy _ _
      refine ⟨?_, rfl, ?_⟩
      · rw [hr', h3, if_pos (by omega), ← hy.1, hz]
      · subst_vars; rfl
    · rename_i y hy
      refine ⟨?_, rfl, ?_⟩
      · rw [hr', h3, if_neg (by omega), ← hy.1]
      · subst_vars; rfl
theorem bool_c (L : List SV) (l : List Int) (hL : L = ints .i64 l) (hl : ∀ v ∈ l, -9223372036854775808 ≤ v ∧ v ≤ 9223372036854775807) (h400 : l.length ≤ 400) (a n b : Int) (r : Bool) (ha : 0 ≤ a ∧ a ≤ 400) (hn : 1 ≤ n ∧ n ≤ 1000000) (hr : r = decide (nextT l a n = n - 1)) (hb : b = nextA l a) :
    Good 30 (le 81 (.agg [.lst none L, .int .i64 a]) [.int .i64 n] (.bool r) (.agg [.lst none L, .int .i64 b])) := by
  have h1 := next_c L l hL hl h400 a n _ _ ha hn rfl hb
  generalize nextT l a n = x at *
  refine Good.of Try.func30 rfl (by rfl) (by kernel_rfl) ?_
  cbv
  (repeat' (first
    | (refine q1 (by first | exact trivial | omega | (dsimp only; omega) | exact pow62 _ (by omega) | exact mul9 (by omega) (by omega) | (simp only [sm] at *; omega)) (fun z hz => ?_); (try simp only at hz); cbv)
    | (refine rq (by first | exact trivial | omega | (dsimp only; omega) | (simp only [sm] at *; omega)) ?_; cbv)
    | (refine QC.tt (by first | omega | (dsimp only; omega) | exact rfl | (simp only [sm] at *; omega)) ?_; cbv)
    | (refine QC.tt ?_ ?_; (focus (simp only [decide_true, Bool.and_true, Bool.and_self] <;> fail)); cbv)
    | (refine QC.ff ?_ ?_; (focus (simp only [decide_true, Bool.and_true, Bool.and_self, decide_false, Bool.false_and, reduceCtorEq, not_false_eq_true] <;> fail)); cbv)
    | (refine QC.ff (by first | omega | (dsimp only; omega) | (simp only [sm] at *; omega)) ?_; cbv)
    | (refine QC.mk (fun hc => ?_) (fun hc => ?_) <;> (try dsimp only at hc) <;> cbv)
    | (refine br_mk2 (fun hb => ?_) (fun hb => ?_) <;> (try subst hb) <;> cbv)))
  refine callq h1 rfl rfl ?_
  cbv
  (repeat' (first
    | (refine q1 (by first | exact trivial | omega | (dsimp only; omega) | exact pow62 _ (by omega) | exact mul9 (by omega) (by omega) | (simp only [sm] at *; omega)) (fun z hz => ?_); (try simp only at hz); cbv)
    | (refine rq (by first | exact trivial | omega | (dsimp only; omega) | (simp only [sm] at *; omega)) ?_; cbv)
    | (refine QC.tt (by first | omega | (dsimp only; omega) | exact rfl | (simp only [sm] at *; omega)) ?_; cbv)
    | (refine QC.tt ?_ ?_; (focus (simp only [decide_true, Bool.and_true, Bool.and_self] <;> fail)); cbv)
    | (refine QC.ff ?_ ?_; (focus (simp only [decide_true, Bool.and_true, Bool.and_self, decide_false, Bool.false_and, reduceCtorEq, not_false_eq_true] <;> fail)); cbv)
    | (refine QC.ff (by first | omega | (dsimp only; omega) | (simp only [sm] at *; omega)) ?_; cbv)
    | (refine QC.mk (fun hc => ?_) (fun hc => ?_) <;> (try dsimp only at hc) <;> cbv)
    | (refine br_mk2 (fun hb => ?_) (fun hb => ?_) <;> (try subst hb) <;> cbv)))
  · refine ⟨?_, rfl, rfl⟩
    rw [hr, decide_eq_true (by omega)]
  · refine ⟨?_, rfl, rfl⟩
    rw [hr, decide_eq_false (by omega)]

/-- A tape. -/
def Tp (L : List SV) (a : Int) : Prop := (∃ l, L = ints .i64 l ∧ (∀ v ∈ l, -9223372036854775808 ≤ v ∧ v ≤ 9223372036854775807) ∧ l.length ≤ 400) ∧ 0 ≤ a ∧ a ≤ 400
theorem next_e {L : List SV} {a : Int} (h : Tp L a) (n : Int) (hn : 1 ≤ n ∧ n ≤ 1000000) : ∃ r b, 0 ≤ r ∧ r < n ∧ Tp L b ∧ Good 12 (le 81 (.agg [.lst none L, .int .i64 a]) [.int .i64 n] (.int .i64 r) (.agg [.lst none L, .int .i64 b])) := by
  obtain ⟨⟨l, h1, h2, h3⟩, h4⟩ := h
  refine ⟨_, _, ?_, ?_, ⟨⟨l, h1, h2, h3⟩, ?_⟩, next_c L l h1 h2 h3 a n _ _ h4 hn rfl rfl⟩
  · unfold nextT; split
    · omega
    · exact Int.emod_nonneg _ (by omega)
  · unfold nextT; split
    · omega
    · exact Int.emod_lt_of_pos _ (by omega)
  · unfold nextA; split <;> omega
/-- A tape's numbers, by where it stands. -/
theorem next_f {L : List SV} {a0 : Int} (h0 : Tp L a0) : ∃ (N : Int → Int → Int) (B : Int → Int), ∀ a n, Tp L a → 1 ≤ n ∧ n ≤ 1000000 → 0 ≤ N a n ∧ N a n < n ∧ Tp L (B a) ∧
    Good 12 (le 81 (.agg [.lst none L, .int .i64 a]) [.int .i64 n] (.int .i64 (N a n)) (.agg [.lst none L, .int .i64 (B a)])) := by
  obtain ⟨⟨l, h1, h2, h3⟩, _⟩ := h0
  refine ⟨nextT l, nextA l, fun a n ha hn => ?_⟩
  obtain ⟨_, h4⟩ := ha
  refine ⟨?_, ?_, ⟨⟨l, h1, h2, h3⟩, ?_⟩, next_c L l h1 h2 h3 a n _ _ h4 hn rfl rfl⟩
  · unfold nextT; split
    · omega
    · exact Int.emod_nonneg _ (by omega)
  · unfold nextT; split
    · omega
    · exact Int.emod_lt_of_pos _ (by omega)
  · unfold nextA; split <;> omega
theorem bool_e {L : List SV} {a : Int} (h : Tp L a) (n : Int) (hn : 1 ≤ n ∧ n ≤ 1000000) : ∃ r b, Tp L b ∧ Good 30 (le 81 (.agg [.lst none L, .int .i64 a]) [.int .i64 n] (.bool r) (.agg [.lst none L, .int .i64 b])) := by
  obtain ⟨⟨l, h1, h2, h3⟩, h4⟩ := h
  refine ⟨_, _, ⟨⟨l, h1, h2, h3⟩, ?_⟩, bool_c L l h1 h2 h3 a n _ _ h4 hn rfl rfl⟩
  unfold nextA; split <;> omega

/-- The fill of a tape's bytes. -/
theorem fillG (n : Nat) (f : Nat → Int) (a : SV) (ha : a = .int .u8 0) : ∃ G : Nat → List SV, G 0 = O.rp (n : Int) a ∧ (∀ i, (G i).length = n) ∧ (∀ i, i < n → O.st (G i) i (.int .u8 (f i)) = G (i + 1)) ∧ G n = ints .u8 ((List.range n).map f) := by
  subst ha
  refine ⟨fun i => ints .u8 (((List.range n).map f).take i ++ List.replicate (n - i) 0), ?_, ?_, ?_, ?_⟩
  · simp only [orp]; simp [ints]
  · intro i; simp [ints]; omega
  · intro i hi
    simp only [ost, ints_set]
    congr 1
    apply List.ext_getElem
    · simp; omega
    · intro k h1 h2
      simp only [List.getElem_set, List.getElem_append, List.length_take, List.length_map, List.length_range, List.getElem_take, List.getElem_map, List.getElem_range, List.getElem_replicate]
      split
      · subst_vars; split
        · rfl
        · omega
      · split <;> split <;> first | rfl | omega
  · simp [List.take_of_length_le]
theorem fill_e {L : List SV} {a : Int} (h : Tp L a) (n : Int) (hn : 0 ≤ n ∧ n ≤ 1000000) : ∃ R bs b, R = ints .u8 bs ∧ (bs.length : Int) = n ∧ (∀ v ∈ bs, 0 ≤ v ∧ v ≤ 255) ∧ Tp L b ∧
    Good 27 (leN 81 (.agg [.lst none L, .int .i64 a]) [.int .i64 n] (.row 1) (.agg [.lst none L, .int .i64 b]) (.row none 5 R)) := by
  obtain ⟨x1, b1, p1, u1, t1, g1⟩ := next_e h 256 (by omega)
  obtain ⟨x2, b2, p2, u2, t2, g2⟩ := next_e t1 256 (by omega)
  obtain ⟨x3, b3, p3, u3, t3, g3⟩ := next_e t2 256 (by omega)
  obtain ⟨m, hm⟩ := Int.eq_ofNat_of_zero_le hn.1
  obtain ⟨F, hF⟩ : ∃ F : Nat → Int, ∀ i, F i = ([x1, x2, 0, x3, 7].getD (i % 5) 0 + (i / 5 : Nat)) % 256 := ⟨_, fun i => rfl⟩
  obtain ⟨G, G0, Gl, Gs, Gn⟩ := fillG m F (.int .u8 0) rfl
  have hFb : ∀ i, 0 ≤ F i ∧ F i ≤ 255 := fun i => by rw [hF]; omega
  refine ⟨_, (List.range m).map F, b3, rfl, by simp [hm], fun v hv => by simp at hv; obtain ⟨i, _, rfl⟩ := hv; exact hFb i, t3, ?_⟩
  rw [← hm] at G0
  rw [← Gn]
  generalize hR : G m = R
  refine Good.of Try.func27 rfl (by rfl) (by kernel_rfl) ?_
  cbv
  (repeat' (first
    | (refine q1 (by first | exact trivial | omega | (dsimp only; omega) | exact pow62 _ (by omega) | exact mul9 (by omega) (by omega) | (simp only [sm] at *; omega)) (fun z hz => ?_); (try simp only at hz); cbv)
    | (refine rq (by first | exact trivial | omega | (dsimp only; omega) | (simp only [sm] at *; omega)) ?_; cbv)
    | (refine QC.tt (by first | omega | (dsimp only; omega) | exact rfl | (simp only [sm] at *; omega)) ?_; cbv)
    | (refine QC.tt ?_ ?_; (focus (simp only [decide_true, Bool.and_true, Bool.and_self] <;> fail)); cbv)
    | (refine QC.ff ?_ ?_; (focus (simp only [decide_true, Bool.and_true, Bool.and_self, decide_false, Bool.false_and, reduceCtorEq, not_false_eq_true] <;> fail)); cbv)
    | (refine QC.ff (by first | omega | (dsimp only; omega) | (simp only [sm] at *; omega)) ?_; cbv)
    | (refine QC.mk (fun hc => ?_) (fun hc => ?_) <;> (try dsimp only at hc) <;> cbv)
    | (refine br_mk2 (fun hb => ?_) (fun hb => ?_) <;> (try subst hb) <;> cbv)))
  (refine callq (g1) rfl rfl ?_; cbv; (repeat' (first
    | (refine q1 (by first | exact trivial | omega | (dsimp only; omega) | exact pow62 _ (by omega) | exact mul9 (by omega) (by omega) | (simp only [sm] at *; omega)) (fun z hz => ?_); (try simp only at hz); cbv)
    | (refine rq (by first | exact trivial | omega | (dsimp only; omega) | (simp only [sm] at *; omega)) ?_; cbv)
    | (refine QC.tt (by first | omega | (dsimp only; omega) | exact rfl | (simp only [sm] at *; omega)) ?_; cbv)
    | (refine QC.tt ?_ ?_; (focus (simp only [decide_true, Bool.and_true, Bool.and_self] <;> fail)); cbv)
    | (refine QC.ff ?_ ?_; (focus (simp only [decide_true, Bool.and_true, Bool.and_self, decide_false, Bool.false_and, reduceCtorEq, not_false_eq_true] <;> fail)); cbv)
    | (refine QC.ff (by first | omega | (dsimp only; omega) | (simp only [sm] at *; omega)) ?_; cbv)
    | (refine QC.mk (fun hc => ?_) (fun hc => ?_) <;> (try dsimp only at hc) <;> cbv)
    | (refine br_mk2 (fun hb => ?_) (fun hb => ?_) <;> (try subst hb) <;> cbv))))
  (refine callq (g2) rfl rfl ?_; cbv; (repeat' (first
    | (refine q1 (by first | exact trivial | omega | (dsimp only; omega) | exact pow62 _ (by omega) | exact mul9 (by omega) (by omega) | (simp only [sm] at *; omega)) (fun z hz => ?_); (try simp only at hz); cbv)
    | (refine rq (by first | exact trivial | omega | (dsimp only; omega) | (simp only [sm] at *; omega)) ?_; cbv)
    | (refine QC.tt (by first | omega | (dsimp only; omega) | exact rfl | (simp only [sm] at *; omega)) ?_; cbv)
    | (refine QC.tt ?_ ?_; (focus (simp only [decide_true, Bool.and_true, Bool.and_self] <;> fail)); cbv)
    | (refine QC.ff ?_ ?_; (focus (simp only [decide_true, Bool.and_true, Bool.and_self, decide_false, Bool.false_and, reduceCtorEq, not_false_eq_true] <;> fail)); cbv)
    | (refine QC.ff (by first | omega | (dsimp only; omega) | (simp only [sm] at *; omega)) ?_; cbv)
    | (refine QC.mk (fun hc => ?_) (fun hc => ?_) <;> (try dsimp only at hc) <;> cbv)
    | (refine br_mk2 (fun hb => ?_) (fun hb => ?_) <;> (try subst hb) <;> cbv))))
  (refine callq (g3) rfl rfl ?_; cbv; (repeat' (first
    | (refine q1 (by first | exact trivial | omega | (dsimp only; omega) | exact pow62 _ (by omega) | exact mul9 (by omega) (by omega) | (simp only [sm] at *; omega)) (fun z hz => ?_); (try simp only at hz); cbv)
    | (refine rq (by first | exact trivial | omega | (dsimp only; omega) | (simp only [sm] at *; omega)) ?_; cbv)
    | (refine QC.tt (by first | omega | (dsimp only; omega) | exact rfl | (simp only [sm] at *; omega)) ?_; cbv)
    | (refine QC.tt ?_ ?_; (focus (simp only [decide_true, Bool.and_true, Bool.and_self] <;> fail)); cbv)
    | (refine QC.ff ?_ ?_; (focus (simp only [decide_true, Bool.and_true, Bool.and_self, decide_false, Bool.false_and, reduceCtorEq, not_false_eq_true] <;> fail)); cbv)
    | (refine QC.ff (by first | omega | (dsimp only; omega) | (simp only [sm] at *; omega)) ?_; cbv)
    | (refine QC.mk (fun hc => ?_) (fun hc => ?_) <;> (try dsimp only at hc) <;> cbv)
    | (refine br_mk2 (fun hb => ?_) (fun hb => ?_) <;> (try subst hb) <;> cbv))))
  refine loopQ (A := Nat × Int) (fun p => p.2 = p.1 ∧ p.1 ≤ m) (fun p => m - p.1) (fun p => [(6, .row 6), (7, .int .i64 p.2)]) (fun p => [(6, .row none 5 (G p.1))]) (0, 0) ⟨rfl, Nat.zero_le _⟩ ?_ ?_
  · cbv
    rw [G0]
    exact ⟨rfl, trivial⟩
  · intro ⟨i, j⟩ h
    have hj : j = (i : Int) := h.1
    have hi : i ≤ m := h.2
    clear h
    have hF' := hF i
    have hl := Gl i
    cbv
    (repeat' (first
    | (refine q1 (by first | exact trivial | omega | (dsimp only; omega) | exact pow62 _ (by omega) | exact mul9 (by omega) (by omega) | (simp only [sm] at *; omega)) (fun z hz => ?_); (try simp only at hz); cbv)
    | (refine rq (by first | exact trivial | omega | (dsimp only; omega) | (simp only [sm] at *; omega)) ?_; cbv)
    | (refine QC.tt (by first | omega | (dsimp only; omega) | exact rfl | (simp only [sm] at *; omega)) ?_; cbv)
    | (refine QC.tt ?_ ?_; (focus (simp only [decide_true, Bool.and_true, Bool.and_self] <;> fail)); cbv)
    | (refine QC.ff ?_ ?_; (focus (simp only [decide_true, Bool.and_true, Bool.and_self, decide_false, Bool.false_and, reduceCtorEq, not_false_eq_true] <;> fail)); cbv)
    | (refine QC.ff (by first | omega | (dsimp only; omega) | (simp only [sm] at *; omega)) ?_; cbv)
    | (refine QC.mk (fun hc => ?_) (fun hc => ?_) <;> (try dsimp only at hc) <;> cbv)
    | (refine br_mk2 (fun hb => ?_) (fun hb => ?_) <;> (try subst hb) <;> cbv)))
    · have hjm : i < m := by (first | omega | (simp only [cst] at *; omega) | (simp only [sm] at *; omega))
      rcases (show i % 5 = 0 ∨ i % 5 = 1 ∨ i % 5 = 2 ∨ i % 5 = 3 ∨ i % 5 = 4 by omega) with e | e | e | e | e
      all_goals rw [e] at hF'
      all_goals first
        | refine qv 0 (by (first | omega | (simp only [cst] at *; omega) | (simp only [sm] at *; omega))) ?_
        | refine qv 1 (by (first | omega | (simp only [cst] at *; omega) | (simp only [sm] at *; omega))) ?_
        | refine qv 2 (by (first | omega | (simp only [cst] at *; omega) | (simp only [sm] at *; omega))) ?_
        | refine qv 3 (by (first | omega | (simp only [cst] at *; omega) | (simp only [sm] at *; omega))) ?_
        | refine qv 4 (by (first | omega | (simp only [cst] at *; omega) | (simp only [sm] at *; omega))) ?_
      all_goals cbv
      all_goals (repeat' (first
    | (refine q1 (by first | exact trivial | omega | (dsimp only; omega) | exact pow62 _ (by omega) | exact mul9 (by omega) (by omega) | (simp only [sm] at *; omega)) (fun z hz => ?_); (try simp only at hz); cbv)
    | (refine rq (by first | exact trivial | omega | (dsimp only; omega) | (simp only [sm] at *; omega)) ?_; cbv)
    | (refine QC.tt (by first | omega | (dsimp only; omega) | exact rfl | (simp only [sm] at *; omega)) ?_; cbv)
    | (refine QC.tt ?_ ?_; (focus (simp only [decide_true, Bool.and_true, Bool.and_self] <;> fail)); cbv)
    | (refine QC.ff ?_ ?_; (focus (simp only [decide_true, Bool.and_true, Bool.and_self, decide_false, Bool.false_and, reduceCtorEq, not_false_eq_true] <;> fail)); cbv)
    | (refine QC.ff (by first | omega | (dsimp only; omega) | (simp only [sm] at *; omega)) ?_; cbv)
    | (refine QC.mk (fun hc => ?_) (fun hc => ?_) <;> (try dsimp only at hc) <;> cbv)
    | (refine br_mk2 (fun hb => ?_) (fun hb => ?_) <;> (try subst hb) <;> cbv)))
      all_goals refine qv i (by (first | omega | (simp only [cst] at *; omega) | (simp only [sm] at *; omega))) ?_
      all_goals cbv
      all_goals (repeat' (first
    | (refine q1 (by first | exact trivial | omega | (dsimp only; omega) | exact pow62 _ (by omega) | exact mul9 (by omega) (by omega) | (simp only [sm] at *; omega)) (fun z hz => ?_); (try simp only at hz); cbv)
    | (refine rq (by first | exact trivial | omega | (dsimp only; omega) | (simp only [sm] at *; omega)) ?_; cbv)
    | (refine QC.tt (by first | omega | (dsimp only; omega) | exact rfl | (simp only [sm] at *; omega)) ?_; cbv)
    | (refine QC.tt ?_ ?_; (focus (simp only [decide_true, Bool.and_true, Bool.and_self] <;> fail)); cbv)
    | (refine QC.ff ?_ ?_; (focus (simp only [decide_true, Bool.and_true, Bool.and_self, decide_false, Bool.false_and, reduceCtorEq, not_false_eq_true] <;> fail)); cbv)
    | (refine QC.ff (by first | omega | (dsimp only; omega) | (simp only [sm] at *; omega)) ?_; cbv)
    | (refine QC.mk (fun hc => ?_) (fun hc => ?_) <;> (try dsimp only at hc) <;> cbv)
    | (refine br_mk2 (fun hb => ?_) (fun hb => ?_) <;> (try subst hb) <;> cbv)))
      all_goals rename_i z hz
      all_goals refine ⟨(i + 1, z), ⟨by (first | omega | (simp only [cst] at *; omega) | (simp only [sm] at *; omega)), by omega⟩, by (first | omega | (simp only [cst] at *; omega) | (simp only [sm] at *; omega)), ?_⟩
      all_goals cbv
      all_goals refine ⟨?_, trivial⟩
      all_goals show Blk.row none 5 (O.st (G i) i (.int .u8 _)) = .row none 5 (G (i + 1))
      all_goals rw [← Gs i hjm]
      all_goals congr 3
      all_goals rw [hF']
      all_goals simp only [List.getD_cons_zero, List.getD_cons_succ]
      all_goals (first | omega | (simp only [cst] at *; omega) | (simp only [sm] at *; omega))
    · have e : i = m := by (first | omega | (simp only [cst] at *; omega) | (simp only [sm] at *; omega))
      subst e
      exact ⟨rfl, by rw [← hR], rfl⟩
end Go.Proofs.Ytjhicdoigllblaa
/- Bytes and numbers: the plain law of octets.Append and octets.Uint. -/
namespace Go.Proofs.Ytjhicdoigllblaa
set_option linter.unusedVariables false
set_option linter.unusedSimpArgs false
open Go.RowKit
/-- A list of bytes, as values. -/
def u8l (l : List UInt8) : List SV := l.map fun b => SV.int .u8 b.toNat
theorem u8l_len (l : List UInt8) : (u8l l).length = l.length := by simp [u8l]
theorem u8l_at {l : List UInt8} (i : Nat) (h : i < l.length) : (u8l l)[i]? = some (SV.int .u8 (l.getD i 0).toNat) := by simp [u8l, h]
theorem u8l_app (l m : List UInt8) : u8l l ++ u8l m = u8l (l ++ m) := by simp [u8l]
theorem u8l_take (l : List UInt8) (n : Nat) : (u8l l).take n = u8l (l.take n) := by simp [u8l]
theorem u8l_drop (l : List UInt8) (n : Nat) : (u8l l).drop n = u8l (l.drop n) := by simp [u8l]
theorem u8l_set (l : List UInt8) (n : Nat) (v : UInt8) : (u8l l).set n (.int .u8 v.toNat) = u8l (l.set n v) := by simp [u8l, List.map_set]
theorem u8l_rep (n : Nat) : List.replicate n (SV.int .u8 0) = u8l (List.replicate n 0) := by simp [u8l]
theorem u8l_nil : [] = u8l [] := rfl
/-- Whole numbers within a byte are bytes. -/
theorem u8l_of (l : List Int) (h : ∀ v ∈ l, 0 ≤ v ∧ v ≤ 255) : ∃ bs : List UInt8, ints .u8 l = u8l bs ∧ bs.length = l.length := by
  refine ⟨l.map fun v => UInt8.ofNat v.toNat, ?_, by simp⟩
  simp only [ints, u8l, List.map_map]
  apply List.map_congr_left
  intro v hv
  have := h v hv
  simp only [Function.comp_def, UInt8.toNat_ofNat']
  congr 1
  omega

/-- What Append returns. -/
def digit (v : Int) (n i : Nat) : UInt8 := UInt8.ofNat (v / 2 ^ (8 * (n - 1 - i)) % 256).toNat
def bytesOf (v : Int) (n : Nat) : List UInt8 := (List.range n).map (digit v n)
theorem digit_val (v : Int) (n i : Nat) : ((digit v n i).toNat : Int) = v / 2 ^ (8 * (n - 1 - i)) % 256 := by
  have h0 := Int.emod_nonneg (v / 2 ^ (8 * (n - 1 - i))) (show (256 : Int) ≠ 0 by omega)
  have h1 := Int.emod_lt_of_pos (v / 2 ^ (8 * (n - 1 - i))) (show (0 : Int) < 256 by omega)
  unfold digit
  generalize v / 2 ^ (8 * (n - 1 - i)) % 256 = x at *
  simp only [UInt8.toNat_ofNat']
  omega
theorem bytesOf_length (v : Int) (n : Nat) : (bytesOf v n).length = n := by simp [bytesOf]
theorem bytesOf_get (v : Int) (n k : Nat) (h : k < n) : (bytesOf v n)[k]? = some (digit v n k) := by simp [bytesOf, h]
def appRow (bs : List UInt8) (v : Int) (n k : Nat) : List UInt8 := bs ++ ((bytesOf v n).take k ++ List.replicate (n - k) 0)
theorem appRow_zero (bs : List UInt8) (v : Int) (n : Nat) : appRow bs v n 0 = bs ++ List.replicate n 0 := by simp [appRow]
theorem appRow_full (bs : List UInt8) (v : Int) (n : Nat) : appRow bs v n n = bs ++ bytesOf v n := by
  simp [appRow, List.take_of_length_le (Nat.le_of_eq (bytesOf_length v n))]
theorem appRow_get (bs : List UInt8) (v : Int) (n k : Nat) (h : k < n) : (appRow bs v n k)[bs.length + k]? = some 0 := by
  unfold appRow
  rw [List.getElem?_append_right (by omega), List.getElem?_append_right (by rw [List.length_take, bytesOf_length]; omega)]
  have : bs.length + k - bs.length - ((bytesOf v n).take k).length = 0 := by rw [List.length_take, bytesOf_length]; omega
  rw [this, show n - k = (n - (k + 1)) + 1 by omega, List.replicate_succ]
  rfl
theorem appRow_set (bs : List UInt8) (v : Int) (n k : Nat) (h : k < n) : (appRow bs v n k).set (bs.length + k) (digit v n k) = appRow bs v n (k + 1) := by
  unfold appRow
  have hl : ((bytesOf v n).take k).length = k := by rw [List.length_take, bytesOf_length]; omega
  have e : List.take (k + 1) (bytesOf v n) = List.take k (bytesOf v n) ++ [digit v n k] := by
    rw [List.take_add_one, bytesOf_get v n k h]; rfl
  rw [List.set_append_right _ _ (by omega), List.set_append_right _ _ (by omega), hl, e]
  have : bs.length + k - bs.length - k = 0 := by omega
  rw [this, show n - k = (n - (k + 1)) + 1 by omega, List.replicate_succ, List.set_cons_zero, List.append_assoc, List.singleton_append]

/-- The number that bytes are, the most significant one first. -/
def be (bs : List UInt8) : Nat := bs.foldl (fun a b => a * 256 + b.toNat) 0
theorem be_snoc (bs : List UInt8) (b : UInt8) : be (bs ++ [b]) = be bs * 256 + b.toNat := by simp [be]
theorem be_lt (bs : List UInt8) : be bs < 256 ^ bs.length := by
  have key : ∀ (k : Nat) (l : List UInt8), l.length = k → be l < 256 ^ k := by
    intro k
    induction k with
    | zero => intro l hl; rw [List.eq_nil_of_length_eq_zero hl]; simp [be]
    | succ k ih =>
      intro l hl
      have e : l = l.take k ++ [l[k]] := by
        have := List.take_add_one (l := l) (i := k)
        rw [List.getElem?_eq_getElem (by omega), List.take_of_length_le (by omega)] at this
        exact this
      rw [e, be_snoc, Nat.pow_succ]
      have h1 := ih (l.take k) (by simp; omega)
      have h2 := (l[k]).toNat_lt
      omega
  exact key _ _ rfl
theorem be_bytesOf (n : Nat) : ∀ u : Nat, be (bytesOf u n) = u % 256 ^ n := by
  induction n with
  | zero => intro u; simp [bytesOf, be, Nat.mod_one]
  | succ n ih =>
    intro u
    have e : bytesOf (u : Int) (n + 1) = bytesOf ((u / 256 : Nat) : Int) n ++ [digit u (n + 1) n] := by
      unfold bytesOf
      rw [List.range_succ, List.map_append]
      congr 1
      refine List.map_congr_left fun i hi => ?_
      have hi' : i < n := by simpa using hi
      unfold digit
      have e2 : n + 1 - 1 - i = (n - 1 - i) + 1 := by omega
      have e4 : (u : Int) / 2 ^ (8 * (n - 1 - i + 1)) = ((u / 256 : Nat) : Int) / 2 ^ (8 * (n - 1 - i)) := by
        have e5 : (u : Int) / 2 ^ (8 * (n - 1 - i + 1)) = ((u / 2 ^ (8 * (n - 1 - i + 1)) : Nat) : Int) := by simp
        have e6 : ((u / 256 : Nat) : Int) / 2 ^ (8 * (n - 1 - i)) = ((u / 256 / 2 ^ (8 * (n - 1 - i)) : Nat) : Int) := by simp
        rw [e5, e6, Nat.div_div_eq_div_mul, Nat.mul_add, Nat.pow_add, Nat.mul_comm]
      rw [e2, e4]
    have e3 : (digit (u : Int) (n + 1) n).toNat = u % 256 := by
      have := digit_val (u : Int) (n + 1) n
      simp at this
      omega
    rw [e, be_snoc, ih, e3, Nat.pow_succ, Nat.mul_comm (256 ^ n) 256, Nat.mod_mul]
    omega
theorem wrap_shift (v : Int) (k : Nat) (hv : 0 ≤ v ∧ v < 18446744073709551616) (h1 : 1 ≤ k) (h8 : k ≤ 8) :
    ((be (bytesOf v k) : Nat) : Int) = IntKind.u64.wrap (v * 2 ^ (64 - 8 * k)) / 2 ^ (64 - 8 * k) := by
  obtain ⟨u, rfl⟩ := Int.eq_ofNat_of_zero_le hv.1
  rw [be_bytesOf, IntKind.wrap_u64]
  have hk : k = 1 ∨ k = 2 ∨ k = 3 ∨ k = 4 ∨ k = 5 ∨ k = 6 ∨ k = 7 ∨ k = 8 := by omega
  rcases hk with rfl | rfl | rfl | rfl | rfl | rfl | rfl | rfl <;> simp <;> omega
theorem or_byte (a b : Nat) (hb : b < 256) : a * 256 ||| b = a * 256 + b := by
  have := Nat.two_pow_add_eq_or_of_lt (i := 8) (b := b) (by omega) a
  rw [show 2 ^ 8 * a = a * 256 from by omega] at this
  exact this.symm
theorem take_snoc_u8 (bs : List UInt8) (k : Nat) (h : k < bs.length) : bs.take (k + 1) = bs.take k ++ [bs[k]] := by
  rw [List.take_add_one, List.getElem?_eq_getElem h]; rfl

end Go.Proofs.Ytjhicdoigllblaa
/- Senders, receivers, pieces: the plain words. -/
namespace Go.Proofs.Ytjhicdoigllblaa
set_option linter.unusedVariables false
set_option linter.unusedSimpArgs false
open Go.RowKit
def rowsB (l : List (List UInt8)) : List SV := l.map fun b => .lst none (u8l b)
theorem rowsB_len (l : List (List UInt8)) : (rowsB l).length = l.length := by simp [rowsB]
theorem rowsB_at {l : List (List UInt8)} {R : List SV} (hR : R = rowsB l) (i : Nat) (hi : i < l.length) : ∃ b B, l[i]? = some b ∧ B = u8l b ∧ R[i]? = some (.lst none B) :=
  ⟨l[i], _, List.getElem?_eq_getElem hi, rfl, by rw [hR]; simp [rowsB, hi]⟩
/-- The bits of the numbers that f says yes to, below n. -/
def bm (f : Nat → Bool) : Nat → Nat
  | 0 => 0
  | n + 1 => bm f n + if f n then 2 ^ n else 0
theorem bm_lt (f : Nat → Bool) : ∀ n, bm f n < 2 ^ n
  | 0 => by simp [bm]
  | n + 1 => by
    have := bm_lt f n
    rw [bm, Nat.pow_succ]
    split <;> omega
theorem bm_or (f : Nat → Bool) (n : Nat) (h : f n = true) : bm f n ||| 2 ^ n = bm f (n + 1) := by
  rw [bm, if_pos h, Nat.or_comm, Nat.add_comm]
  have := Nat.two_pow_add_eq_or_of_lt (bm_lt f n) 1
  simpa using this.symm
theorem bm_bit (f : Nat → Bool) : ∀ n i, (bm f n).testBit i = (decide (i < n) && f i)
  | 0, i => by simp [bm]
  | n + 1, i => by
    rw [bm]
    by_cases h : f n = true
    · rw [if_pos h]
      have := Nat.two_pow_add_eq_or_of_lt (bm_lt f n) 1
      rw [Nat.add_comm, show 2 ^ n = 2 ^ n * 1 by omega, this, Nat.testBit_or, bm_bit f n i]
      simp only [Nat.mul_one, Nat.testBit_two_pow]
      by_cases hi : i = n
      · subst hi; simp [h]
      · have e1 : decide (n = i) = false := decide_eq_false (by omega)
        rw [e1, Bool.false_or]
        congr 1
        exact decide_eq_decide.2 (by omega)
    · rw [if_neg h, Nat.add_zero, bm_bit f n i]
      by_cases hi : i = n
      · subst hi; simp at h; simp [h]
      · congr 1
        exact decide_eq_decide.2 (by omega)
theorem bm_full (f : Nat → Bool) (n : Nat) : bm f n = 2 ^ n - 1 ↔ ∀ i, i < n → f i = true := by
  constructor
  · intro h i hi
    have := bm_bit f n i
    rw [h, Nat.testBit_two_pow_sub_one] at this
    simpa [hi] using this.symm
  · intro h
    apply Nat.eq_of_testBit_eq
    intro i
    rw [bm_bit, Nat.testBit_two_pow_sub_one]
    by_cases hi : i < n
    · simp [hi, h i hi]
    · simp [hi]
def hasN (ps : List (List UInt8)) (n : Nat) : Nat := bm (fun i => decide (0 < (ps.getD i []).length)) n
structure Snd where
  st : Int
  tag : Int
  ps : List (List UInt8)
  ak : Int
  rd : Int
  un : Int
def Snd.v (s : Snd) : SV := .agg [.int .i64 s.st, .int .u8 s.tag, .lst none (rowsB s.ps), .int .u32 s.ak, .int .i64 s.rd, .int .i64 s.un]
/-- The bitmap of n pieces. -/
def allI (n : Nat) : Int := 2 ^ n - 1
theorem allI_nat (n : Nat) : allI n = ((2 ^ n - 1 : Nat) : Int) := by
  have : 1 ≤ 2 ^ n := Nat.one_le_two_pow
  rw [allI]
  rw [Int.natCast_sub this]
  simp
theorem allI_b {n : Nat} (h : n ≤ 32) : 0 ≤ allI n ∧ allI n ≤ 4294967295 := by
  have h1 : (2 : Nat) ^ n ≤ 2 ^ 32 := Nat.pow_le_pow_right (by omega) h
  have h2 : 1 ≤ 2 ^ n := Nat.one_le_two_pow
  rw [allI_nat]
  omega
/-- A sender. -/
structure VS (s : Snd) : Prop where
  n1 : 1 ≤ s.ps.length
  n2 : s.ps.length ≤ 32
  ne : ∀ p ∈ s.ps, p ≠ []
  ak : s.ak ≤ allI s.ps.length
  r1 : 0 ≤ s.rd
  r2 : s.rd ≤ 8
  u1 : 0 ≤ s.un
  u2 : s.un ≤ 1099511627776
  d : s.ak = allI s.ps.length → s.st = 2
  a : s.ak ≠ allI s.ps.length → s.st = 1 ∨ s.st = 3
/-- The fields' ranges. -/
structure Snd.fits (s : Snd) : Prop where
  st : -9223372036854775808 ≤ s.st ∧ s.st ≤ 9223372036854775807
  tag : 0 ≤ s.tag ∧ s.tag ≤ 255
  ak : 0 ≤ s.ak ∧ s.ak ≤ 4294967295
  rd : -9223372036854775808 ≤ s.rd ∧ s.rd ≤ 9223372036854775807
  un : -9223372036854775808 ≤ s.un ∧ s.un ≤ 9223372036854775807
  n : s.ps.length ≤ 5864062014805
  b : ∀ p ∈ s.ps, p.length ≤ 140737488351232
end Go.Proofs.Ytjhicdoigllblaa
/- Contracts: cloned, clonedPieces, copied, all, has. -/
namespace Go.Proofs.Ytjhicdoigllblaa
set_option linter.unusedVariables false
set_option linter.unusedSimpArgs false
open Go.RowKit
set_option maxHeartbeats 4000000
theorem cloned_c (b : List UInt8) (B : List SV) (hB : B = u8l b) (hb : b.length ≤ 140737488351232) : Good 53 (pu [.lst none B] (.lst none B)) := by
  have hl : B.length = b.length := by rw [hB, u8l_len]
  refine Good.of Try.func53 rfl (by rfl) (by kernel_rfl) ?_
  cbv
  (repeat' (first
    | (refine q1 (by first | exact trivial | omega | (dsimp only; omega) | exact pow62 _ (by omega) | exact mul9 (by omega) (by omega) | (simp only [sm] at *; omega)) (fun z hz => ?_); (try simp only at hz); cbv)
    | (refine rq (by first | exact trivial | omega | (dsimp only; omega) | (simp only [sm] at *; omega)) ?_; cbv)
    | (refine QC.tt (by first | omega | (dsimp only; omega) | exact rfl | (simp only [sm] at *; omega)) ?_; cbv)
    | (refine QC.tt ?_ ?_; (focus (simp only [decide_true, Bool.and_true, Bool.and_self] <;> fail)); cbv)
    | (refine QC.ff ?_ ?_; (focus (simp only [decide_true, Bool.and_true, Bool.and_self, decide_false, Bool.false_and, reduceCtorEq, not_false_eq_true] <;> fail)); cbv)
    | (refine QC.ff (by first | omega | (dsimp only; omega) | (simp only [sm] at *; omega)) ?_; cbv)
    | (refine QC.mk (fun hc => ?_) (fun hc => ?_) <;> (try dsimp only at hc) <;> cbv)
    | (refine br_mk2 (fun hb => ?_) (fun hb => ?_) <;> (try subst hb) <;> cbv)))
  refine ⟨?_, rfl, rfl⟩
  simp only [sm]
  rename_i z0 hz0
  have e : z0.toNat = B.length := by (first | omega | (simp only [cst] at *; omega) | (simp only [sm] at *; omega))
  rw [e]
  simp
theorem all_c (n : Nat) (N A : Int) (hN : N = n) (hn : n ≤ 32) (hA : A = allI n) : Good 57 (pu [.int .i64 N] (.int .u32 A)) := by
  have hb := allI_b hn
  refine Good.of Try.func57 rfl (by rfl) (by kernel_rfl) ?_
  cbv
  (repeat' (first
    | (refine q1 (by first | exact trivial | omega | (dsimp only; omega) | exact pow62 _ (by omega) | exact mul9 (by omega) (by omega) | (simp only [sm] at *; omega)) (fun z hz => ?_); (try simp only at hz); cbv)
    | (refine rq (by first | exact trivial | omega | (dsimp only; omega) | (simp only [sm] at *; omega)) ?_; cbv)
    | (refine QC.tt (by first | omega | (dsimp only; omega) | exact rfl | (simp only [sm] at *; omega)) ?_; cbv)
    | (refine QC.tt ?_ ?_; (focus (simp only [decide_true, Bool.and_true, Bool.and_self] <;> fail)); cbv)
    | (refine QC.ff ?_ ?_; (focus (simp only [decide_true, Bool.and_true, Bool.and_self, decide_false, Bool.false_and, reduceCtorEq, not_false_eq_true] <;> fail)); cbv)
    | (refine QC.ff (by first | omega | (dsimp only; omega) | (simp only [sm] at *; omega)) ?_; cbv)
    | (refine QC.mk (fun hc => ?_) (fun hc => ?_) <;> (try dsimp only at hc) <;> cbv)
    | (refine br_mk2 (fun hb => ?_) (fun hb => ?_) <;> (try subst hb) <;> cbv)))
  rename_i z1 h1 z2 h2
  have e0 : N.toNat = n := by (first | omega | (simp only [cst] at *; omega) | (simp only [sm] at *; omega))
  rw [e0] at h1
  have e1 : (2 : Int) ^ n = allI n + 1 := by rw [allI]; omega
  rw [e1] at h1
  refine ⟨?_, rfl, rfl⟩
  have : z = A := by omega
  rw [this]
theorem rall_c (n : Nat) (N A : Int) (hN : N = n) (hn : n ≤ 32) (hA : A = allI n) : Good 58 (pu [.int .i64 N] (.int .u32 A)) := by
  have hb := allI_b hn
  refine Good.of Try.func58 rfl (by rfl) (by kernel_rfl) ?_
  cbv
  (repeat' (first
    | (refine q1 (by first | exact trivial | omega | (dsimp only; omega) | exact pow62 _ (by omega) | exact mul9 (by omega) (by omega) | (simp only [sm] at *; omega)) (fun z hz => ?_); (try simp only at hz); cbv)
    | (refine rq (by first | exact trivial | omega | (dsimp only; omega) | (simp only [sm] at *; omega)) ?_; cbv)
    | (refine QC.tt (by first | omega | (dsimp only; omega) | exact rfl | (simp only [sm] at *; omega)) ?_; cbv)
    | (refine QC.tt ?_ ?_; (focus (simp only [decide_true, Bool.and_true, Bool.and_self] <;> fail)); cbv)
    | (refine QC.ff ?_ ?_; (focus (simp only [decide_true, Bool.and_true, Bool.and_self, decide_false, Bool.false_and, reduceCtorEq, not_false_eq_true] <;> fail)); cbv)
    | (refine QC.ff (by first | omega | (dsimp only; omega) | (simp only [sm] at *; omega)) ?_; cbv)
    | (refine QC.mk (fun hc => ?_) (fun hc => ?_) <;> (try dsimp only at hc) <;> cbv)
    | (refine br_mk2 (fun hb => ?_) (fun hb => ?_) <;> (try subst hb) <;> cbv)))
  rename_i z0 h0 z1 h1 z2 h2
  have e0 : z0.toNat = n := by (first | omega | (simp only [cst] at *; omega) | (simp only [sm] at *; omega))
  rw [e0] at h1
  have e1 : (2 : Int) ^ n = allI n + 1 := by rw [allI]; omega
  rw [e1] at h1
  refine ⟨?_, rfl, rfl⟩
  have : z = A := by omega
  rw [this]
theorem has_c (ps : List (List UInt8)) (R : List SV) (hR : R = rowsB ps) (hn : ps.length ≤ 32) (hb : ∀ p ∈ ps, p.length ≤ 140737488351232) (h : Int) (hh : h = hasN ps ps.length) : Good 59 (pu [.lst none R] (.int .u32 h)) := by
  have hRl : R.length = ps.length := by rw [hR, rowsB_len]
  have hE := fun i hi => rowsB_at hR i hi
  obtain ⟨H, hH⟩ : ∃ H : Nat → Int, ∀ i, H i = hasN ps i := ⟨_, fun _ => rfl⟩
  have hHb : ∀ i, i ≤ 32 → 0 ≤ H i ∧ H i ≤ 4294967295 := fun i hi => by
    have h1 := bm_lt (fun i => decide (0 < (ps.getD i []).length)) i
    have h2 : (2 : Nat) ^ i ≤ 2 ^ 32 := Nat.pow_le_pow_right (by omega) hi
    rw [hH, hasN]
    omega
  have hHs : ∀ i b, ps[i]? = some b → (0 < b.length → (((H i).toNat ||| (2 ^ i : Nat) : Nat) : Int) = H (i + 1)) ∧ (¬ 0 < b.length → H i = H (i + 1)) := fun i b hib => by
    have hg : ps.getD i [] = b := by rw [List.getD_eq_getElem?_getD, hib]; rfl
    refine ⟨fun hp => ?_, fun hp => ?_⟩
    · rw [hH, hH, hasN, hasN, Int.toNat_natCast, bm_or _ _ (by rw [hg]; simpa using hp)]
    · rw [hH, hH, hasN, hasN, bm, if_neg (by rw [hg]; simpa using hp), Nat.add_zero]
  have hH0 : (0 : Int) = H 0 := by rw [hH]; rfl
  rw [← hH] at hh
  clear hH
  refine Good.of Try.func59 rfl (by rfl) (by kernel_rfl) ?_
  cbv
  (repeat' (first
    | (refine q1 (by first | exact trivial | omega | (dsimp only; omega) | exact pow62 _ (by omega) | exact mul9 (by omega) (by omega) | (simp only [sm] at *; omega)) (fun z hz => ?_); (try simp only at hz); cbv)
    | (refine rq (by first | exact trivial | omega | (dsimp only; omega) | (simp only [sm] at *; omega)) ?_; cbv)
    | (refine QC.tt (by first | omega | (dsimp only; omega) | exact rfl | (simp only [sm] at *; omega)) ?_; cbv)
    | (refine QC.tt ?_ ?_; (focus (simp only [decide_true, Bool.and_true, Bool.and_self] <;> fail)); cbv)
    | (refine QC.ff ?_ ?_; (focus (simp only [decide_true, Bool.and_true, Bool.and_self, decide_false, Bool.false_and, reduceCtorEq, not_false_eq_true] <;> fail)); cbv)
    | (refine QC.ff (by first | omega | (dsimp only; omega) | (simp only [sm] at *; omega)) ?_; cbv)
    | (refine QC.mk (fun hc => ?_) (fun hc => ?_) <;> (try dsimp only at hc) <;> cbv)
    | (refine br_mk2 (fun hb => ?_) (fun hb => ?_) <;> (try subst hb) <;> cbv)))
  refine loopQ (A := Nat × Int × Int) (fun p => p.2.1 = p.1 ∧ p.1 ≤ ps.length ∧ p.2.2 = H p.1) (fun p => ps.length - p.1) (fun p => [(8, .int .i64 p.2.1), (3, .int .u32 p.2.2)]) (fun p => []) (0, 0, 0) ⟨rfl, Nat.zero_le _, hH0⟩ ?_ ?_
  · cbv
  · intro ⟨i, j, x⟩ hi0
    have hj : j = (i : Int) := hi0.1
    have hi : i ≤ ps.length := hi0.2.1
    have hx : x = H i := hi0.2.2
    clear hi0
    have hmk : True := trivial
    have hHi := hHb i (by omega)
    cbv
    (repeat' (first
    | (refine q1 (by first | exact trivial | omega | (dsimp only; omega) | exact pow62 _ (by omega) | exact mul9 (by omega) (by omega) | (simp only [sm] at *; omega)) (fun z hz => ?_); (try simp only at hz); cbv)
    | (refine rq (by first | exact trivial | omega | (dsimp only; omega) | (simp only [sm] at *; omega)) ?_; cbv)
    | (refine QC.tt (by first | omega | (dsimp only; omega) | exact rfl | (simp only [sm] at *; omega)) ?_; cbv)
    | (refine QC.tt ?_ ?_; (focus (simp only [decide_true, Bool.and_true, Bool.and_self] <;> fail)); cbv)
    | (refine QC.ff ?_ ?_; (focus (simp only [decide_true, Bool.and_true, Bool.and_self, decide_false, Bool.false_and, reduceCtorEq, not_false_eq_true] <;> fail)); cbv)
    | (refine QC.ff (by first | omega | (dsimp only; omega) | (simp only [sm] at *; omega)) ?_; cbv)
    | (refine QC.mk (fun hc => ?_) (fun hc => ?_) <;> (try dsimp only at hc) <;> cbv)
    | (refine br_mk2 (fun hb => ?_) (fun hb => ?_) <;> (try subst hb) <;> cbv)))
    · have hlt : i < ps.length := by (first | omega | (simp only [cst] at *; omega) | (simp only [sm] at *; omega))
      obtain ⟨b, B, hbi, hB, hEi⟩ := hE i hlt
      have hBl : B.length = b.length := by rw [hB, u8l_len]
      have hs := hHs i b hbi
      have hbl := hb b (List.mem_of_getElem? hbi)
      (refine qv (i, _) ⟨hj, hEi⟩ ?_; cbv; (repeat' (first
    | (refine q1 (by first | exact trivial | omega | (dsimp only; omega) | exact pow62 _ (by omega) | exact mul9 (by omega) (by omega) | (simp only [sm] at *; omega)) (fun z hz => ?_); (try simp only at hz); cbv)
    | (refine rq (by first | exact trivial | omega | (dsimp only; omega) | (simp only [sm] at *; omega)) ?_; cbv)
    | (refine QC.tt (by first | omega | (dsimp only; omega) | exact rfl | (simp only [sm] at *; omega)) ?_; cbv)
    | (refine QC.tt ?_ ?_; (focus (simp only [decide_true, Bool.and_true, Bool.and_self] <;> fail)); cbv)
    | (refine QC.ff ?_ ?_; (focus (simp only [decide_true, Bool.and_true, Bool.and_self, decide_false, Bool.false_and, reduceCtorEq, not_false_eq_true] <;> fail)); cbv)
    | (refine QC.ff (by first | omega | (dsimp only; omega) | (simp only [sm] at *; omega)) ?_; cbv)
    | (refine QC.mk (fun hc => ?_) (fun hc => ?_) <;> (try dsimp only at hc) <;> cbv)
    | (refine br_mk2 (fun hb => ?_) (fun hb => ?_) <;> (try subst hb) <;> cbv))))
      · rename_i zs hzs zo hzo
        have hp : 0 < b.length := by (first | omega | (simp only [cst] at *; omega) | (simp only [sm] at *; omega))
        have ej : j.toNat = i := by (first | omega | (simp only [cst] at *; omega) | (simp only [sm] at *; omega))
        have e2 : (2 : Nat) ^ i < 4294967296 := by
          have : (2 : Nat) ^ i ≤ 2 ^ 31 := Nat.pow_le_pow_right (by omega) (by omega)
          omega
        have e3 : zs = ((2 ^ i : Nat) : Int) := by
          rw [hzs, ej, Int.one_mul]
          have : (2 : Int) ^ i = ((2 ^ i : Nat) : Int) := by simp
          have e5 : ∀ p : Nat, p < 4294967296 → (p : Int) % 4294967296 = p := fun p hp => by omega
          rw [this]
          exact e5 _ e2
        have e4 : zo = H (i + 1) := by
          rw [hzo, hx, e3, Int.toNat_natCast]
          exact hs.1 hp
        refine ⟨(i + 1, z, zo), ⟨by show z = ((i + 1 : Nat) : Int); (first | omega | (simp only [cst] at *; omega) | (simp only [sm] at *; omega)), by show i + 1 ≤ ps.length; omega, e4⟩, by show ps.length - (i + 1) < ps.length - i; omega, ?_⟩
        cbv
      · have hp : ¬ 0 < b.length := by (first | omega | (simp only [cst] at *; omega) | (simp only [sm] at *; omega))
        refine ⟨(i + 1, z, x), ⟨by show z = ((i + 1 : Nat) : Int); (first | omega | (simp only [cst] at *; omega) | (simp only [sm] at *; omega)), by show i + 1 ≤ ps.length; omega, by show x = H (i + 1); rw [hx]; exact hs.2 hp⟩, by show ps.length - (i + 1) < ps.length - i; omega, ?_⟩
        cbv
    · have e : i = ps.length := by (first | omega | (simp only [cst] at *; omega) | (simp only [sm] at *; omega))
      refine ⟨?_, rfl, rfl⟩
      rw [hx, hh, e]
theorem clonedPieces_c (ps : List (List UInt8)) (R : List SV) (hR : R = rowsB ps) (hn : ps.length ≤ 5864062014805) (hb : ∀ p ∈ ps, p.length ≤ 140737488351232) : Good 51 (pu [.lst none R] (.lst none R)) := by
  have hRl : R.length = ps.length := by rw [hR, rowsB_len]
  have hE := fun i hi => rowsB_at hR i hi
  obtain ⟨H, hH⟩ : ∃ H : Nat → List SV, ∀ i, H i = R.take i ++ List.replicate (R.length - i) .nil := ⟨_, fun _ => rfl⟩
  have hH0 : List.replicate R.length SV.nil = H 0 := by rw [hH]; simp
  have hHl : ∀ i, i ≤ R.length → (H i).length = R.length := fun i hi => by rw [hH]; simp; omega
  have hHs : ∀ i y, R[i]? = some y → (H i).set i y = H (i + 1) := fun i y hy => by
    obtain ⟨h1, h2⟩ := List.getElem?_eq_some_iff.1 hy
    rw [hH, hH]
    apply List.ext_getElem?
    intro k
    rw [List.getElem?_set]
    by_cases hk : i = k
    · subst hk
      rw [if_pos rfl, if_pos (by simp; omega), List.getElem?_append_left (by simp; omega), List.getElem?_take, if_pos (by omega), hy]
    · rw [if_neg hk]
      by_cases h3 : k < i
      · rw [List.getElem?_append_left (by simp; omega), List.getElem?_append_left (by simp; omega), List.getElem?_take, List.getElem?_take, if_pos h3, if_pos (by omega)]
      · rw [List.getElem?_append_right (by simp; omega), List.getElem?_append_right (by simp; omega), List.getElem?_replicate, List.getElem?_replicate]
        simp only [List.length_take]
        by_cases h4 : k < R.length
        · rw [if_pos (by omega), if_pos (by omega)]
        · rw [if_neg (by omega), if_neg (by omega)]
  have hHn : H R.length = R := by rw [hH]; simp
  clear hH
  refine Good.of Try.func51 rfl (by rfl) (by kernel_rfl) ?_
  cbv
  (repeat' (first
    | (refine q1 (by first | exact trivial | omega | (dsimp only; omega) | exact pow62 _ (by omega) | exact mul9 (by omega) (by omega) | (simp only [sm] at *; omega)) (fun z hz => ?_); (try simp only at hz); cbv)
    | (refine rq (by first | exact trivial | omega | (dsimp only; omega) | (simp only [sm] at *; omega)) ?_; cbv)
    | (refine QC.tt (by first | omega | (dsimp only; omega) | exact rfl | (simp only [sm] at *; omega)) ?_; cbv)
    | (refine QC.tt ?_ ?_; (focus (simp only [decide_true, Bool.and_true, Bool.and_self] <;> fail)); cbv)
    | (refine QC.ff ?_ ?_; (focus (simp only [decide_true, Bool.and_true, Bool.and_self, decide_false, Bool.false_and, reduceCtorEq, not_false_eq_true] <;> fail)); cbv)
    | (refine QC.ff (by first | omega | (dsimp only; omega) | (simp only [sm] at *; omega)) ?_; cbv)
    | (refine QC.mk (fun hc => ?_) (fun hc => ?_) <;> (try dsimp only at hc) <;> cbv)
    | (refine br_mk2 (fun hb => ?_) (fun hb => ?_) <;> (try subst hb) <;> cbv)))
  refine loopQ (A := Nat × Int) (fun p => p.2 = p.1 ∧ p.1 ≤ ps.length) (fun p => ps.length - p.1) (fun p => [(11, .int .i64 p.2), (3, .row 8)]) (fun p => [(8, .row none 26 (H p.1))]) (0, 0) ⟨rfl, Nat.zero_le _⟩ ?_ ?_
  · cbv
    rename_i z0 hz0
    refine ⟨?_, trivial⟩
    show Blk.row none 26 (O.rp z0 .nil) = .row none 26 (H 0)
    rw [orp, ← hH0, show z0.toNat = R.length by (first | omega | (simp only [cst] at *; omega) | (simp only [sm] at *; omega))]
  · intro ⟨i, j⟩ hi0
    have hj : j = (i : Int) := hi0.1
    have hi : i ≤ ps.length := hi0.2
    clear hi0
    have hmk : True := trivial
    have hli := hHl i (by omega)
    cbv
    (repeat' (first
    | (refine q1 (by first | exact trivial | omega | (dsimp only; omega) | exact pow62 _ (by omega) | exact mul9 (by omega) (by omega) | (simp only [sm] at *; omega)) (fun z hz => ?_); (try simp only at hz); cbv)
    | (refine rq (by first | exact trivial | omega | (dsimp only; omega) | (simp only [sm] at *; omega)) ?_; cbv)
    | (refine QC.tt (by first | omega | (dsimp only; omega) | exact rfl | (simp only [sm] at *; omega)) ?_; cbv)
    | (refine QC.tt ?_ ?_; (focus (simp only [decide_true, Bool.and_true, Bool.and_self] <;> fail)); cbv)
    | (refine QC.ff ?_ ?_; (focus (simp only [decide_true, Bool.and_true, Bool.and_self, decide_false, Bool.false_and, reduceCtorEq, not_false_eq_true] <;> fail)); cbv)
    | (refine QC.ff (by first | omega | (dsimp only; omega) | (simp only [sm] at *; omega)) ?_; cbv)
    | (refine QC.mk (fun hc => ?_) (fun hc => ?_) <;> (try dsimp only at hc) <;> cbv)
    | (refine br_mk2 (fun hb => ?_) (fun hb => ?_) <;> (try subst hb) <;> cbv)))
    · have hlt : i < ps.length := by (first | omega | (simp only [cst] at *; omega) | (simp only [sm] at *; omega))
      obtain ⟨b, B, hbi, hB, hEi⟩ := hE i hlt
      have hbl := hb b (List.mem_of_getElem? hbi)
      have g1 := cloned_c b B hB hbl
      have hs := hHs i _ hEi
      (refine qv (i, _) ⟨hj, hEi⟩ ?_; cbv; (repeat' (first
    | (refine q1 (by first | exact trivial | omega | (dsimp only; omega) | exact pow62 _ (by omega) | exact mul9 (by omega) (by omega) | (simp only [sm] at *; omega)) (fun z hz => ?_); (try simp only at hz); cbv)
    | (refine rq (by first | exact trivial | omega | (dsimp only; omega) | (simp only [sm] at *; omega)) ?_; cbv)
    | (refine QC.tt (by first | omega | (dsimp only; omega) | exact rfl | (simp only [sm] at *; omega)) ?_; cbv)
    | (refine QC.tt ?_ ?_; (focus (simp only [decide_true, Bool.and_true, Bool.and_self] <;> fail)); cbv)
    | (refine QC.ff ?_ ?_; (focus (simp only [decide_true, Bool.and_true, Bool.and_self, decide_false, Bool.false_and, reduceCtorEq, not_false_eq_true] <;> fail)); cbv)
    | (refine QC.ff (by first | omega | (dsimp only; omega) | (simp only [sm] at *; omega)) ?_; cbv)
    | (refine QC.mk (fun hc => ?_) (fun hc => ?_) <;> (try dsimp only at hc) <;> cbv)
    | (refine br_mk2 (fun hb => ?_) (fun hb => ?_) <;> (try subst hb) <;> cbv))))
      (refine callq (g1) rfl rfl ?_; cbv; (repeat' (first
    | (refine q1 (by first | exact trivial | omega | (dsimp only; omega) | exact pow62 _ (by omega) | exact mul9 (by omega) (by omega) | (simp only [sm] at *; omega)) (fun z hz => ?_); (try simp only at hz); cbv)
    | (refine rq (by first | exact trivial | omega | (dsimp only; omega) | (simp only [sm] at *; omega)) ?_; cbv)
    | (refine QC.tt (by first | omega | (dsimp only; omega) | exact rfl | (simp only [sm] at *; omega)) ?_; cbv)
    | (refine QC.tt ?_ ?_; (focus (simp only [decide_true, Bool.and_true, Bool.and_self] <;> fail)); cbv)
    | (refine QC.ff ?_ ?_; (focus (simp only [decide_true, Bool.and_true, Bool.and_self, decide_false, Bool.false_and, reduceCtorEq, not_false_eq_true] <;> fail)); cbv)
    | (refine QC.ff (by first | omega | (dsimp only; omega) | (simp only [sm] at *; omega)) ?_; cbv)
    | (refine QC.mk (fun hc => ?_) (fun hc => ?_) <;> (try dsimp only at hc) <;> cbv)
    | (refine br_mk2 (fun hb => ?_) (fun hb => ?_) <;> (try subst hb) <;> cbv))))
      refine qv i ⟨hj, by show i < O.ln (H i); rw [oln]; omega⟩ ?_
      cbv
      (repeat' (first
    | (refine q1 (by first | exact trivial | omega | (dsimp only; omega) | exact pow62 _ (by omega) | exact mul9 (by omega) (by omega) | (simp only [sm] at *; omega)) (fun z hz => ?_); (try simp only at hz); cbv)
    | (refine rq (by first | exact trivial | omega | (dsimp only; omega) | (simp only [sm] at *; omega)) ?_; cbv)
    | (refine QC.tt (by first | omega | (dsimp only; omega) | exact rfl | (simp only [sm] at *; omega)) ?_; cbv)
    | (refine QC.tt ?_ ?_; (focus (simp only [decide_true, Bool.and_true, Bool.and_self] <;> fail)); cbv)
    | (refine QC.ff ?_ ?_; (focus (simp only [decide_true, Bool.and_true, Bool.and_self, decide_false, Bool.false_and, reduceCtorEq, not_false_eq_true] <;> fail)); cbv)
    | (refine QC.ff (by first | omega | (dsimp only; omega) | (simp only [sm] at *; omega)) ?_; cbv)
    | (refine QC.mk (fun hc => ?_) (fun hc => ?_) <;> (try dsimp only at hc) <;> cbv)
    | (refine br_mk2 (fun hb => ?_) (fun hb => ?_) <;> (try subst hb) <;> cbv)))
      refine ⟨(i + 1, z), ⟨by show z = ((i + 1 : Nat) : Int); (first | omega | (simp only [cst] at *; omega) | (simp only [sm] at *; omega)), by show i + 1 ≤ ps.length; omega⟩, by show ps.length - (i + 1) < ps.length - i; omega, ?_⟩
      cbv
      refine ⟨?_, trivial⟩
      show Blk.row none 26 (O.st (H i) i (.lst none B)) = .row none 26 (H (i + 1))
      rw [ost, hs]
    · have e : i = ps.length := by (first | omega | (simp only [cst] at *; omega) | (simp only [sm] at *; omega))
      refine ⟨?_, rfl, rfl⟩
      show SV.lst none (H i) = _
      rw [e, ← hRl, hHn]
theorem copied_c (ps : List (List UInt8)) (R : List SV) (hR : R = rowsB ps) (hn : ps.length ≤ 5864062014805) (hb : ∀ p ∈ ps, p.length ≤ 140737488351232) : Good 55 (pu [.lst none R] (.lst none R)) := by
  have hRl : R.length = ps.length := by rw [hR, rowsB_len]
  have hE := fun i hi => rowsB_at hR i hi
  obtain ⟨H, hH⟩ : ∃ H : Nat → List SV, ∀ i, H i = R.take i := ⟨_, fun _ => rfl⟩
  have hH0 : [] = H 0 := by rw [hH]; simp
  have hHl : ∀ i, i ≤ R.length → (H i).length = i := fun i hi => by rw [hH]; simp; omega
  have hHs : ∀ i y, R[i]? = some y → H i ++ [y] = H (i + 1) := fun i y hy => by
    obtain ⟨h1, h2⟩ := List.getElem?_eq_some_iff.1 hy
    rw [hH, hH, ← h2, List.take_append_getElem h1]
  have hHn : H R.length = R := by rw [hH]; simp
  clear hH
  refine Good.of Try.func55 rfl (by rfl) (by kernel_rfl) ?_
  cbv
  (repeat' (first
    | (refine q1 (by first | exact trivial | omega | (dsimp only; omega) | exact pow62 _ (by omega) | exact mul9 (by omega) (by omega) | (simp only [sm] at *; omega)) (fun z hz => ?_); (try simp only at hz); cbv)
    | (refine rq (by first | exact trivial | omega | (dsimp only; omega) | (simp only [sm] at *; omega)) ?_; cbv)
    | (refine QC.tt (by first | omega | (dsimp only; omega) | exact rfl | (simp only [sm] at *; omega)) ?_; cbv)
    | (refine QC.tt ?_ ?_; (focus (simp only [decide_true, Bool.and_true, Bool.and_self] <;> fail)); cbv)
    | (refine QC.ff ?_ ?_; (focus (simp only [decide_true, Bool.and_true, Bool.and_self, decide_false, Bool.false_and, reduceCtorEq, not_false_eq_true] <;> fail)); cbv)
    | (refine QC.ff (by first | omega | (dsimp only; omega) | (simp only [sm] at *; omega)) ?_; cbv)
    | (refine QC.mk (fun hc => ?_) (fun hc => ?_) <;> (try dsimp only at hc) <;> cbv)
    | (refine br_mk2 (fun hb => ?_) (fun hb => ?_) <;> (try subst hb) <;> cbv)))
  refine loopQ (A := Nat × Int) (fun p => p.2 = p.1 ∧ p.1 ≤ ps.length) (fun p => ps.length - p.1) (fun p => [(4, .int .i64 p.2), (3, .row 3)]) (fun p => [(3, .row none 26 (H p.1))]) (0, 0) ⟨rfl, Nat.zero_le _⟩ ?_ ?_
  · cbv
    refine ⟨?_, trivial⟩
    show Blk.row none 26 [] = .row none 26 (H 0)
    rw [← hH0]
  · intro ⟨i, j⟩ hi0
    have hj : j = (i : Int) := hi0.1
    have hi : i ≤ ps.length := hi0.2
    clear hi0
    have hmk : True := trivial
    have hli := hHl i (by omega)
    cbv
    (repeat' (first
    | (refine q1 (by first | exact trivial | omega | (dsimp only; omega) | exact pow62 _ (by omega) | exact mul9 (by omega) (by omega) | (simp only [sm] at *; omega)) (fun z hz => ?_); (try simp only at hz); cbv)
    | (refine rq (by first | exact trivial | omega | (dsimp only; omega) | (simp only [sm] at *; omega)) ?_; cbv)
    | (refine QC.tt (by first | omega | (dsimp only; omega) | exact rfl | (simp only [sm] at *; omega)) ?_; cbv)
    | (refine QC.tt ?_ ?_; (focus (simp only [decide_true, Bool.and_true, Bool.and_self] <;> fail)); cbv)
    | (refine QC.ff ?_ ?_; (focus (simp only [decide_true, Bool.and_true, Bool.and_self, decide_false, Bool.false_and, reduceCtorEq, not_false_eq_true] <;> fail)); cbv)
    | (refine QC.ff (by first | omega | (dsimp only; omega) | (simp only [sm] at *; omega)) ?_; cbv)
    | (refine QC.mk (fun hc => ?_) (fun hc => ?_) <;> (try dsimp only at hc) <;> cbv)
    | (refine br_mk2 (fun hb => ?_) (fun hb => ?_) <;> (try subst hb) <;> cbv)))
    · have hlt : i < ps.length := by (first | omega | (simp only [cst] at *; omega) | (simp only [sm] at *; omega))
      obtain ⟨b, B, hbi, hB, hEi⟩ := hE i hlt
      have hbl := hb b (List.mem_of_getElem? hbi)
      have hBl : B.length = b.length := by rw [hB, u8l_len]
      have hs := hHs i _ hEi
      (refine qv (i, _) ⟨hj, hEi⟩ ?_; cbv; (repeat' (first
    | (refine q1 (by first | exact trivial | omega | (dsimp only; omega) | exact pow62 _ (by omega) | exact mul9 (by omega) (by omega) | (simp only [sm] at *; omega)) (fun z hz => ?_); (try simp only at hz); cbv)
    | (refine rq (by first | exact trivial | omega | (dsimp only; omega) | (simp only [sm] at *; omega)) ?_; cbv)
    | (refine QC.tt (by first | omega | (dsimp only; omega) | exact rfl | (simp only [sm] at *; omega)) ?_; cbv)
    | (refine QC.tt ?_ ?_; (focus (simp only [decide_true, Bool.and_true, Bool.and_self] <;> fail)); cbv)
    | (refine QC.ff ?_ ?_; (focus (simp only [decide_true, Bool.and_true, Bool.and_self, decide_false, Bool.false_and, reduceCtorEq, not_false_eq_true] <;> fail)); cbv)
    | (refine QC.ff (by first | omega | (dsimp only; omega) | (simp only [sm] at *; omega)) ?_; cbv)
    | (refine QC.mk (fun hc => ?_) (fun hc => ?_) <;> (try dsimp only at hc) <;> cbv)
    | (refine br_mk2 (fun hb => ?_) (fun hb => ?_) <;> (try subst hb) <;> cbv))))
      refine ⟨(i + 1, z), ⟨by show z = ((i + 1 : Nat) : Int); (first | omega | (simp only [cst] at *; omega) | (simp only [sm] at *; omega)), by show i + 1 ≤ ps.length; omega⟩, by show ps.length - (i + 1) < ps.length - i; omega, ?_⟩
      cbv
      refine ⟨?_, trivial⟩
      show Blk.row none 26 (apL (H i) [.lst none B]) = .row none 26 (H (i + 1))
      rw [apL_eq, hs]
    · have e : i = ps.length := by (first | omega | (simp only [cst] at *; omega) | (simp only [sm] at *; omega))
      refine ⟨?_, rfl, rfl⟩
      show SV.lst none (H i) = _
      rw [e, ← hRl, hHn]
end Go.Proofs.Ytjhicdoigllblaa
/- Contracts: ValidSender of the program and of the document. -/
namespace Go.Proofs.Ytjhicdoigllblaa
set_option linter.unusedVariables false
set_option linter.unusedSimpArgs false
open Go.RowKit
set_option maxHeartbeats 8000000
theorem xor_zero (a b : Nat) : a ^^^ b = 0 ↔ a = b := by
  constructor
  · intro h
    apply Nat.eq_of_testBit_eq
    intro i
    have h1 : (a ^^^ b).testBit i = false := by rw [h]; simp
    rw [Nat.testBit_xor] at h1
    cases h2 : a.testBit i <;> cases h3 : b.testBit i <;> simp_all
  · rintro rfl; exact Nat.xor_self a
theorem andNot_all (a : Int) (n : Nat) (h0 : 0 ≤ a) : (a.toNat ^^^ (a.toNat &&& (allI n).toNat) = 0 ↔ a ≤ allI n) := by
  have e : (allI n).toNat = 2 ^ n - 1 := by rw [allI_nat, Int.toNat_natCast]
  have h1 : 1 ≤ 2 ^ n := Nat.one_le_two_pow
  rw [e, Nat.and_two_pow_sub_one_eq_mod, xor_zero, allI_nat]
  constructor
  · intro h
    have := Nat.mod_lt a.toNat (show 0 < 2 ^ n by omega)
    omega
  · intro h
    exact (Nat.mod_eq_of_lt (by omega)).symm
theorem hasN_full (ps : List (List UInt8)) : ((hasN ps ps.length : Nat) : Int) = allI ps.length ↔ ∀ p ∈ ps, p ≠ [] := by
  rw [allI_nat]
  constructor
  · intro h p hp
    obtain ⟨i, hi, rfl⟩ := List.mem_iff_getElem.1 hp
    have := (bm_full _ _).1 (show hasN ps ps.length = 2 ^ ps.length - 1 by omega) i hi
    simp only [List.getD_eq_getElem?_getD, List.getElem?_eq_getElem hi, Option.getD_some, decide_eq_true_eq] at this
    intro e; rw [e] at this; simp at this
  · intro h
    have := (bm_full (fun i => decide (0 < (ps.getD i []).length)) ps.length).2 (fun i hi => by
      simp only [List.getD_eq_getElem?_getD, List.getElem?_eq_getElem hi, Option.getD_some, decide_eq_true_eq]
      have := h ps[i] (List.getElem_mem hi)
      cases hq : ps[i] with
      | nil => exact absurd hq this
      | cons a l => simp)
    exact congrArg _ this
theorem vsender_c (st tag ak rd un : Int) (ps : List (List UInt8)) (R : List SV) (hR : R = rowsB ps) (hf : Snd.fits ⟨st, tag, ps, ak, rd, un⟩) (b : Bool) (hb : b = true ↔ VS ⟨st, tag, ps, ak, rd, un⟩) :
    Good 19 (pu [.agg [.int .i64 st, .int .u8 tag, .lst none R, .int .u32 ak, .int .i64 rd, .int .i64 un]] (.bool b)) := by
  have hRl : R.length = ps.length := by rw [hR, rowsB_len]
  have hfb := hf.b
  have hak := hf.ak
  have hfull := hasN_full ps
  have han := andNot_all ak ps.length hf.ak.1
  have g1 : ps.length ≤ 32 → Good 59 (pu [.lst none R] (.int .u32 (hasN ps ps.length))) := fun hn => has_c ps R hR hn hfb _ rfl
  have g2 : ∀ N : Int, N = ps.length → ps.length ≤ 32 → Good 57 (pu [.int .i64 N] (.int .u32 (allI ps.length))) := fun N hN hn => all_c ps.length N _ hN hn rfl
  have hAb := fun hn => allI_b (n := ps.length) hn
  obtain ⟨h, hh⟩ : ∃ h : Int, h = hasN ps ps.length := ⟨_, rfl⟩
  obtain ⟨A, hA⟩ : ∃ A : Int, A = allI ps.length := ⟨_, rfl⟩
  rw [← hh] at hfull g1
  rw [← hA] at hfull han hAb g2
  refine Good.of Try.func19 rfl (by rfl) (by kernel_rfl) ?_
  cbv
  have hmk : True := trivial
  (repeat' (first
    | (refine q1 (by first | exact trivial | omega | (dsimp only; omega) | exact pow62 _ (by omega) | exact mul9 (by omega) (by omega) | (simp only [sm] at *; omega)) (fun z hz => ?_); (try simp only at hz); cbv)
    | (refine rq (by first | exact trivial | omega | (dsimp only; omega) | (simp only [sm] at *; omega)) ?_; cbv)
    | (refine QC.tt (by first | omega | (dsimp only; omega) | exact rfl | (simp only [sm] at *; omega)) ?_; cbv)
    | (refine QC.tt ?_ ?_; (focus (simp only [decide_true, Bool.and_true, Bool.and_self] <;> fail)); cbv)
    | (refine QC.ff ?_ ?_; (focus (simp only [decide_true, Bool.and_true, Bool.and_self, decide_false, Bool.false_and, reduceCtorEq, not_false_eq_true] <;> fail)); cbv)
    | (refine QC.ff (by first | omega | (dsimp only; omega) | (simp only [sm] at *; omega)) ?_; cbv)
    | (refine QC.mk (fun hc => ?_) (fun hc => ?_) <;> (try dsimp only at hc) <;> cbv)
    | (refine br_mk2 (fun hb => ?_) (fun hb => ?_) <;> (try subst hb) <;> cbv)))
  all_goals first
    | (refine Fin.mk ?_ rfl rfl
       have : b = false := by
         cases hb0 : b
         · rfl
         · exfalso
           have v := hb.1 hb0
           have n1 := v.n1
           have n2 := v.n2
           have ne := hfull.2 v.ne
           have ak := v.ak
           have r1 := v.r1
           have r2 := v.r2
           have u1 := v.u1
           have u2 := v.u2
           have d := v.d
           have a := v.a
           clear hb v
           dsimp only at *
           (first | omega | (simp only [cst] at *; omega) | (simp only [sm] at *; omega))
       rw [this]; done)
    | (refine Fin.mk ?_ rfl rfl
       have : b = true := hb.2 ⟨by dsimp only; (first | omega | (simp only [cst] at *; omega) | (simp only [sm] at *; omega)), by dsimp only; (first | omega | (simp only [cst] at *; omega) | (simp only [sm] at *; omega)), hfull.1 (by (first | omega | (simp only [cst] at *; omega) | (simp only [sm] at *; omega))), by dsimp only; (first | omega | (simp only [cst] at *; omega) | (simp only [sm] at *; omega)), by dsimp only; (first | omega | (simp only [cst] at *; omega) | (simp only [sm] at *; omega)), by dsimp only; (first | omega | (simp only [cst] at *; omega) | (simp only [sm] at *; omega)), by dsimp only; (first | omega | (simp only [cst] at *; omega) | (simp only [sm] at *; omega)), by dsimp only; (first | omega | (simp only [cst] at *; omega) | (simp only [sm] at *; omega)), by dsimp only; intro h0; (first | omega | (simp only [cst] at *; omega) | (simp only [sm] at *; omega)), by dsimp only; intro h0; (first | omega | (simp only [cst] at *; omega) | (simp only [sm] at *; omega))⟩
       rw [this]; done)
    | skip
  have hn : ps.length ≤ 32 := by (first | omega | (simp only [cst] at *; omega) | (simp only [sm] at *; omega))
  have hAb := hAb hn
  have g1 := g1 hn
  (refine callq (g1) rfl rfl ?_; cbv; (repeat' (first
    | (refine q1 (by first | exact trivial | omega | (dsimp only; omega) | exact pow62 _ (by omega) | exact mul9 (by omega) (by omega) | (simp only [sm] at *; omega)) (fun z hz => ?_); (try simp only at hz); cbv)
    | (refine rq (by first | exact trivial | omega | (dsimp only; omega) | (simp only [sm] at *; omega)) ?_; cbv)
    | (refine QC.tt (by first | omega | (dsimp only; omega) | exact rfl | (simp only [sm] at *; omega)) ?_; cbv)
    | (refine QC.tt ?_ ?_; (focus (simp only [decide_true, Bool.and_true, Bool.and_self] <;> fail)); cbv)
    | (refine QC.ff ?_ ?_; (focus (simp only [decide_true, Bool.and_true, Bool.and_self, decide_false, Bool.false_and, reduceCtorEq, not_false_eq_true] <;> fail)); cbv)
    | (refine QC.ff (by first | omega | (dsimp only; omega) | (simp only [sm] at *; omega)) ?_; cbv)
    | (refine QC.mk (fun hc => ?_) (fun hc => ?_) <;> (try dsimp only at hc) <;> cbv)
    | (refine br_mk2 (fun hb => ?_) (fun hb => ?_) <;> (try subst hb) <;> cbv))))
  have g2 := g2 z (by (first | omega | (simp only [cst] at *; omega) | (simp only [sm] at *; omega))) hn
  (refine callq (g2) rfl rfl ?_; cbv; (repeat' (first
    | (refine q1 (by first | exact trivial | omega | (dsimp only; omega) | exact pow62 _ (by omega) | exact mul9 (by omega) (by omega) | (simp only [sm] at *; omega)) (fun z hz => ?_); (try simp only at hz); cbv)
    | (refine rq (by first | exact trivial | omega | (dsimp only; omega) | (simp only [sm] at *; omega)) ?_; cbv)
    | (refine QC.tt (by first | omega | (dsimp only; omega) | exact rfl | (simp only [sm] at *; omega)) ?_; cbv)
    | (refine QC.tt ?_ ?_; (focus (simp only [decide_true, Bool.and_true, Bool.and_self] <;> fail)); cbv)
    | (refine QC.ff ?_ ?_; (focus (simp only [decide_true, Bool.and_true, Bool.and_self, decide_false, Bool.false_and, reduceCtorEq, not_false_eq_true] <;> fail)); cbv)
    | (refine QC.ff (by first | omega | (dsimp only; omega) | (simp only [sm] at *; omega)) ?_; cbv)
    | (refine QC.mk (fun hc => ?_) (fun hc => ?_) <;> (try dsimp only at hc) <;> cbv)
    | (refine br_mk2 (fun hb => ?_) (fun hb => ?_) <;> (try subst hb) <;> cbv))))
  all_goals first
    | (refine Fin.mk ?_ rfl rfl
       have : b = false := by
         cases hb0 : b
         · rfl
         · exfalso
           have v := hb.1 hb0
           have n1 := v.n1
           have n2 := v.n2
           have ne := hfull.2 v.ne
           have ak := v.ak
           have r1 := v.r1
           have r2 := v.r2
           have u1 := v.u1
           have u2 := v.u2
           have d := v.d
           have a := v.a
           clear hb v
           dsimp only at *
           (first | omega | (simp only [cst] at *; omega) | (simp only [sm] at *; omega))
       rw [this]; done)
    | (refine Fin.mk ?_ rfl rfl
       have : b = true := hb.2 ⟨by dsimp only; (first | omega | (simp only [cst] at *; omega) | (simp only [sm] at *; omega)), by dsimp only; (first | omega | (simp only [cst] at *; omega) | (simp only [sm] at *; omega)), hfull.1 (by (first | omega | (simp only [cst] at *; omega) | (simp only [sm] at *; omega))), by dsimp only; (first | omega | (simp only [cst] at *; omega) | (simp only [sm] at *; omega)), by dsimp only; (first | omega | (simp only [cst] at *; omega) | (simp only [sm] at *; omega)), by dsimp only; (first | omega | (simp only [cst] at *; omega) | (simp only [sm] at *; omega)), by dsimp only; (first | omega | (simp only [cst] at *; omega) | (simp only [sm] at *; omega)), by dsimp only; (first | omega | (simp only [cst] at *; omega) | (simp only [sm] at *; omega)), by dsimp only; intro h0; (first | omega | (simp only [cst] at *; omega) | (simp only [sm] at *; omega)), by dsimp only; intro h0; (first | omega | (simp only [cst] at *; omega) | (simp only [sm] at *; omega))⟩
       rw [this]; done)
    | skip
  (refine callq (g2) rfl rfl ?_; cbv; (repeat' (first
    | (refine q1 (by first | exact trivial | omega | (dsimp only; omega) | exact pow62 _ (by omega) | exact mul9 (by omega) (by omega) | (simp only [sm] at *; omega)) (fun z hz => ?_); (try simp only at hz); cbv)
    | (refine rq (by first | exact trivial | omega | (dsimp only; omega) | (simp only [sm] at *; omega)) ?_; cbv)
    | (refine QC.tt (by first | omega | (dsimp only; omega) | exact rfl | (simp only [sm] at *; omega)) ?_; cbv)
    | (refine QC.tt ?_ ?_; (focus (simp only [decide_true, Bool.and_true, Bool.and_self] <;> fail)); cbv)
    | (refine QC.ff ?_ ?_; (focus (simp only [decide_true, Bool.and_true, Bool.and_self, decide_false, Bool.false_and, reduceCtorEq, not_false_eq_true] <;> fail)); cbv)
    | (refine QC.ff (by first | omega | (dsimp only; omega) | (simp only [sm] at *; omega)) ?_; cbv)
    | (refine QC.mk (fun hc => ?_) (fun hc => ?_) <;> (try dsimp only at hc) <;> cbv)
    | (refine br_mk2 (fun hb => ?_) (fun hb => ?_) <;> (try subst hb) <;> cbv))))
  all_goals first
    | (refine Fin.mk ?_ rfl rfl
       have : b = false := by
         cases hb0 : b
         · rfl
         · exfalso
           have v := hb.1 hb0
           have n1 := v.n1
           have n2 := v.n2
           have ne := hfull.2 v.ne
           have ak := v.ak
           have r1 := v.r1
           have r2 := v.r2
           have u1 := v.u1
           have u2 := v.u2
           have d := v.d
           have a := v.a
           clear hb v
           dsimp only at *
           (first | omega | (simp only [cst] at *; omega) | (simp only [sm] at *; omega))
       rw [this]; done)
    | (refine Fin.mk ?_ rfl rfl
       have : b = true := hb.2 ⟨by dsimp only; (first | omega | (simp only [cst] at *; omega) | (simp only [sm] at *; omega)), by dsimp only; (first | omega | (simp only [cst] at *; omega) | (simp only [sm] at *; omega)), hfull.1 (by (first | omega | (simp only [cst] at *; omega) | (simp only [sm] at *; omega))), by dsimp only; (first | omega | (simp only [cst] at *; omega) | (simp only [sm] at *; omega)), by dsimp only; (first | omega | (simp only [cst] at *; omega) | (simp only [sm] at *; omega)), by dsimp only; (first | omega | (simp only [cst] at *; omega) | (simp only [sm] at *; omega)), by dsimp only; (first | omega | (simp only [cst] at *; omega) | (simp only [sm] at *; omega)), by dsimp only; (first | omega | (simp only [cst] at *; omega) | (simp only [sm] at *; omega)), by dsimp only; intro h0; (first | omega | (simp only [cst] at *; omega) | (simp only [sm] at *; omega)), by dsimp only; intro h0; (first | omega | (simp only [cst] at *; omega) | (simp only [sm] at *; omega))⟩
       rw [this]; done)
    | skip
  (refine callq (g2) rfl rfl ?_; cbv; (repeat' (first
    | (refine q1 (by first | exact trivial | omega | (dsimp only; omega) | exact pow62 _ (by omega) | exact mul9 (by omega) (by omega) | (simp only [sm] at *; omega)) (fun z hz => ?_); (try simp only at hz); cbv)
    | (refine rq (by first | exact trivial | omega | (dsimp only; omega) | (simp only [sm] at *; omega)) ?_; cbv)
    | (refine QC.tt (by first | omega | (dsimp only; omega) | exact rfl | (simp only [sm] at *; omega)) ?_; cbv)
    | (refine QC.tt ?_ ?_; (focus (simp only [decide_true, Bool.and_true, Bool.and_self] <;> fail)); cbv)
    | (refine QC.ff ?_ ?_; (focus (simp only [decide_true, Bool.and_true, Bool.and_self, decide_false, Bool.false_and, reduceCtorEq, not_false_eq_true] <;> fail)); cbv)
    | (refine QC.ff (by first | omega | (dsimp only; omega) | (simp only [sm] at *; omega)) ?_; cbv)
    | (refine QC.mk (fun hc => ?_) (fun hc => ?_) <;> (try dsimp only at hc) <;> cbv)
    | (refine br_mk2 (fun hb => ?_) (fun hb => ?_) <;> (try subst hb) <;> cbv))))
  all_goals first
    | (refine Fin.mk ?_ rfl rfl
       have : b = false := by
         cases hb0 : b
         · rfl
         · exfalso
           have v := hb.1 hb0
           have n1 := v.n1
           have n2 := v.n2
           have ne := hfull.2 v.ne
           have ak := v.ak
           have r1 := v.r1
           have r2 := v.r2
           have u1 := v.u1
           have u2 := v.u2
           have d := v.d
           have a := v.a
           clear hb v
           dsimp only at *
           (first | omega | (simp only [cst] at *; omega) | (simp only [sm] at *; omega))
       rw [this]; done)
    | (refine Fin.mk ?_ rfl rfl
       have : b = true := hb.2 ⟨by dsimp only; (first | omega | (simp only [cst] at *; omega) | (simp only [sm] at *; omega)), by dsimp only; (first | omega | (simp only [cst] at *; omega) | (simp only [sm] at *; omega)), hfull.1 (by (first | omega | (simp only [cst] at *; omega) | (simp only [sm] at *; omega))), by dsimp only; (first | omega | (simp only [cst] at *; omega) | (simp only [sm] at *; omega)), by dsimp only; (first | omega | (simp only [cst] at *; omega) | (simp only [sm] at *; omega)), by dsimp only; (first | omega | (simp only [cst] at *; omega) | (simp only [sm] at *; omega)), by dsimp only; (first | omega | (simp only [cst] at *; omega) | (simp only [sm] at *; omega)), by dsimp only; (first | omega | (simp only [cst] at *; omega) | (simp only [sm] at *; omega)), by dsimp only; intro h0; (first | omega | (simp only [cst] at *; omega) | (simp only [sm] at *; omega)), by dsimp only; intro h0; (first | omega | (simp only [cst] at *; omega) | (simp only [sm] at *; omega))⟩
       rw [this]; done)
    | skip
def timeT (t : Int) : Bool := decide (0 ≤ t ∧ t ≤ 1099511627776)
theorem rtime_c (t : Int) (r : Bool) (hr : r = timeT t) : Good 54 (pu [.int .i64 t] (.bool r)) := by
  unfold timeT at hr
  refine Good.of Try.func54 rfl (by rfl) (by kernel_rfl) ?_
  cbv
  (repeat' (first
    | (refine q1 (by first | exact trivial | omega | (dsimp only; omega) | exact pow62 _ (by omega) | exact mul9 (by omega) (by omega) | (simp only [sm] at *; omega)) (fun z hz => ?_); (try simp only at hz); cbv)
    | (refine rq (by first | exact trivial | omega | (dsimp only; omega) | (simp only [sm] at *; omega)) ?_; cbv)
    | (refine QC.tt (by first | omega | (dsimp only; omega) | exact rfl | (simp only [sm] at *; omega)) ?_; cbv)
    | (refine QC.tt ?_ ?_; (focus (simp only [decide_true, Bool.and_true, Bool.and_self] <;> fail)); cbv)
    | (refine QC.ff ?_ ?_; (focus (simp only [decide_true, Bool.and_true, Bool.and_self, decide_false, Bool.false_and, reduceCtorEq, not_false_eq_true] <;> fail)); cbv)
    | (refine QC.ff (by first | omega | (dsimp only; omega) | (simp only [sm] at *; omega)) ?_; cbv)
    | (refine QC.mk (fun hc => ?_) (fun hc => ?_) <;> (try dsimp only at hc) <;> cbv)
    | (refine br_mk2 (fun hb => ?_) (fun hb => ?_) <;> (try subst hb) <;> cbv)))
  all_goals refine ⟨?_, rfl, rfl⟩
  all_goals rw [hr]
  all_goals first | (rw [decide_eq_true (by omega)]) | (rw [decide_eq_false (by omega)])
theorem rlater_c (t r : Int) (ht : 0 ≤ t ∧ t ≤ 1099511627776) (hr : r = min (t + 8) 1099511627776) : Good 56 (pu [.int .i64 t, .int .i64 8] (.int .i64 r)) := by
  refine Good.of Try.func56 rfl (by rfl) (by kernel_rfl) ?_
  cbv
  (repeat' (first
    | (refine q1 (by first | exact trivial | omega | (dsimp only; omega) | exact pow62 _ (by omega) | exact mul9 (by omega) (by omega) | (simp only [sm] at *; omega)) (fun z hz => ?_); (try simp only at hz); cbv)
    | (refine rq (by first | exact trivial | omega | (dsimp only; omega) | (simp only [sm] at *; omega)) ?_; cbv)
    | (refine QC.tt (by first | omega | (dsimp only; omega) | exact rfl | (simp only [sm] at *; omega)) ?_; cbv)
    | (refine QC.tt ?_ ?_; (focus (simp only [decide_true, Bool.and_true, Bool.and_self] <;> fail)); cbv)
    | (refine QC.ff ?_ ?_; (focus (simp only [decide_true, Bool.and_true, Bool.and_self, decide_false, Bool.false_and, reduceCtorEq, not_false_eq_true] <;> fail)); cbv)
    | (refine QC.ff (by first | omega | (dsimp only; omega) | (simp only [sm] at *; omega)) ?_; cbv)
    | (refine QC.mk (fun hc => ?_) (fun hc => ?_) <;> (try dsimp only at hc) <;> cbv)
    | (refine br_mk2 (fun hb => ?_) (fun hb => ?_) <;> (try subst hb) <;> cbv)))
  refine Fin.mk ?_ rfl rfl
  have : z = r := by omega
  rw [this]
theorem rvsender_c (st tag ak rd un : Int) (ps : List (List UInt8)) (R : List SV) (hR : R = rowsB ps) (hf : Snd.fits ⟨st, tag, ps, ak, rd, un⟩) (b : Bool) (hb : b = true ↔ VS ⟨st, tag, ps, ak, rd, un⟩) :
    Good 20 (pu [.agg [.int .i64 st, .int .u8 tag, .lst none R, .int .u32 ak, .int .i64 rd, .int .i64 un]] (.bool b)) := by
  have hRl : R.length = ps.length := by rw [hR, rowsB_len]
  have hE := fun i hi => rowsB_at hR i hi
  have hfb := hf.b
  have hak := hf.ak
  have han := andNot_all ak ps.length hf.ak.1
  have g2 : ∀ N : Int, N = ps.length → ps.length ≤ 32 → Good 58 (pu [.int .i64 N] (.int .u32 (allI ps.length))) := fun N hN hn => rall_c ps.length N _ hN hn rfl
  have g3 := rtime_c un _ rfl
  have hAb := fun hn => allI_b (n := ps.length) hn
  obtain ⟨A, hA⟩ : ∃ A : Int, A = allI ps.length := ⟨_, rfl⟩
  obtain ⟨h, hfull⟩ : ∃ h : Int, (h = A ↔ ∀ p ∈ ps, p ≠ []) := ⟨_, by rw [hA]; exact hasN_full ps⟩
  obtain ⟨tb, htb⟩ : ∃ tb, tb = timeT un := ⟨_, rfl⟩
  have htb1 : tb = true → 0 ≤ un ∧ un ≤ 1099511627776 := fun h => by rw [htb, timeT] at h; simpa using h
  have htb0 : tb = false → un < 0 ∨ 1099511627776 < un := fun h => by rw [htb, timeT] at h; simp at h; omega
  rw [← htb] at g3
  rw [← hA] at han hAb g2
  have hne : ∀ (i : Nat) (p : List UInt8), ps[i]? = some p → p.length = 0 → h ≠ A := fun i p hip hp e => by
    have := hfull.1 e p (List.mem_of_getElem? hip)
    exact this (List.length_eq_zero_iff.1 hp)
  have hall : (∀ (i : Nat) (p : List UInt8), ps[i]? = some p → p.length ≠ 0) → h = A := fun hh => hfull.2 (fun p hp e => by
    obtain ⟨i, hi, rfl⟩ := List.mem_iff_getElem.1 hp
    exact hh i _ (List.getElem?_eq_getElem hi) (by rw [e]; rfl))
  clear htb
  refine Good.of Try.func20 rfl (by rfl) (by kernel_rfl) ?_
  cbv
  have hmk : True := trivial
  (repeat' (first
    | (refine q1 (by first | exact trivial | omega | (dsimp only; omega) | exact pow62 _ (by omega) | exact mul9 (by omega) (by omega) | (simp only [sm] at *; omega)) (fun z hz => ?_); (try simp only at hz); cbv)
    | (refine rq (by first | exact trivial | omega | (dsimp only; omega) | (simp only [sm] at *; omega)) ?_; cbv)
    | (refine QC.tt (by first | omega | (dsimp only; omega) | exact rfl | (simp only [sm] at *; omega)) ?_; cbv)
    | (refine QC.tt ?_ ?_; (focus (simp only [decide_true, Bool.and_true, Bool.and_self] <;> fail)); cbv)
    | (refine QC.ff ?_ ?_; (focus (simp only [decide_true, Bool.and_true, Bool.and_self, decide_false, Bool.false_and, reduceCtorEq, not_false_eq_true] <;> fail)); cbv)
    | (refine QC.ff (by first | omega | (dsimp only; omega) | (simp only [sm] at *; omega)) ?_; cbv)
    | (refine QC.mk (fun hc => ?_) (fun hc => ?_) <;> (try dsimp only at hc) <;> cbv)
    | (refine br_mk2 (fun hb => ?_) (fun hb => ?_) <;> (try subst hb) <;> cbv)))
  all_goals first
    | (refine Fin.mk ?_ rfl rfl
       have : b = false := by
         cases hb0 : b
         · rfl
         · exfalso
           have v := hb.1 hb0
           have n1 := v.n1
           have n2 := v.n2
           have ne := hfull.2 v.ne
           have ak := v.ak
           have r1 := v.r1
           have r2 := v.r2
           have u1 := v.u1
           have u2 := v.u2
           have d := v.d
           have a := v.a
           clear hb v
           dsimp only at *
           (first | omega | (simp only [cst] at *; omega) | (simp only [sm] at *; omega))
       rw [this]; done)
    | (refine Fin.mk ?_ rfl rfl
       have : b = true := hb.2 ⟨by dsimp only; (first | omega | (simp only [cst] at *; omega) | (simp only [sm] at *; omega)), by dsimp only; (first | omega | (simp only [cst] at *; omega) | (simp only [sm] at *; omega)), hfull.1 (by (first | omega | (simp only [cst] at *; omega) | (simp only [sm] at *; omega))), by dsimp only; (first | omega | (simp only [cst] at *; omega) | (simp only [sm] at *; omega)), by dsimp only; (first | omega | (simp only [cst] at *; omega) | (simp only [sm] at *; omega)), by dsimp only; (first | omega | (simp only [cst] at *; omega) | (simp only [sm] at *; omega)), by dsimp only; (first | omega | (simp only [cst] at *; omega) | (simp only [sm] at *; omega)), by dsimp only; (first | omega | (simp only [cst] at *; omega) | (simp only [sm] at *; omega)), by dsimp only; intro h0; (first | omega | (simp only [cst] at *; omega) | (simp only [sm] at *; omega)), by dsimp only; intro h0; (first | omega | (simp only [cst] at *; omega) | (simp only [sm] at *; omega))⟩
       rw [this]; done)
    | skip
  have hn : ps.length ≤ 32 := by (first | omega | (simp only [cst] at *; omega) | (simp only [sm] at *; omega))
  have hAb := hAb hn
  have g2 := g2 z (by (first | omega | (simp only [cst] at *; omega) | (simp only [sm] at *; omega))) hn
  (refine callq (g2) rfl rfl ?_; cbv; (repeat' (first
    | (refine q1 (by first | exact trivial | omega | (dsimp only; omega) | exact pow62 _ (by omega) | exact mul9 (by omega) (by omega) | (simp only [sm] at *; omega)) (fun z hz => ?_); (try simp only at hz); cbv)
    | (refine rq (by first | exact trivial | omega | (dsimp only; omega) | (simp only [sm] at *; omega)) ?_; cbv)
    | (refine QC.tt (by first | omega | (dsimp only; omega) | exact rfl | (simp only [sm] at *; omega)) ?_; cbv)
    | (refine QC.tt ?_ ?_; (focus (simp only [decide_true, Bool.and_true, Bool.and_self] <;> fail)); cbv)
    | (refine QC.ff ?_ ?_; (focus (simp only [decide_true, Bool.and_true, Bool.and_self, decide_false, Bool.false_and, reduceCtorEq, not_false_eq_true] <;> fail)); cbv)
    | (refine QC.ff (by first | omega | (dsimp only; omega) | (simp only [sm] at *; omega)) ?_; cbv)
    | (refine QC.mk (fun hc => ?_) (fun hc => ?_) <;> (try dsimp only at hc) <;> cbv)
    | (refine br_mk2 (fun hb => ?_) (fun hb => ?_) <;> (try subst hb) <;> cbv))))
  all_goals first
    | (refine Fin.mk ?_ rfl rfl
       have : b = false := by
         cases hb0 : b
         · rfl
         · exfalso
           have v := hb.1 hb0
           have n1 := v.n1
           have n2 := v.n2
           have ne := hfull.2 v.ne
           have ak := v.ak
           have r1 := v.r1
           have r2 := v.r2
           have u1 := v.u1
           have u2 := v.u2
           have d := v.d
           have a := v.a
           clear hb v
           dsimp only at *
           (first | omega | (simp only [cst] at *; omega) | (simp only [sm] at *; omega))
       rw [this]; done)
    | (refine Fin.mk ?_ rfl rfl
       have : b = true := hb.2 ⟨by dsimp only; (first | omega | (simp only [cst] at *; omega) | (simp only [sm] at *; omega)), by dsimp only; (first | omega | (simp only [cst] at *; omega) | (simp only [sm] at *; omega)), hfull.1 (by (first | omega | (simp only [cst] at *; omega) | (simp only [sm] at *; omega))), by dsimp only; (first | omega | (simp only [cst] at *; omega) | (simp only [sm] at *; omega)), by dsimp only; (first | omega | (simp only [cst] at *; omega) | (simp only [sm] at *; omega)), by dsimp only; (first | omega | (simp only [cst] at *; omega) | (simp only [sm] at *; omega)), by dsimp only; (first | omega | (simp only [cst] at *; omega) | (simp only [sm] at *; omega)), by dsimp only; (first | omega | (simp only [cst] at *; omega) | (simp only [sm] at *; omega)), by dsimp only; intro h0; (first | omega | (simp only [cst] at *; omega) | (simp only [sm] at *; omega)), by dsimp only; intro h0; (first | omega | (simp only [cst] at *; omega) | (simp only [sm] at *; omega))⟩
       rw [this]; done)
    | skip
  (refine callq (g3) rfl rfl ?_; cbv; (repeat' (first
    | (refine q1 (by first | exact trivial | omega | (dsimp only; omega) | exact pow62 _ (by omega) | exact mul9 (by omega) (by omega) | (simp only [sm] at *; omega)) (fun z hz => ?_); (try simp only at hz); cbv)
    | (refine rq (by first | exact trivial | omega | (dsimp only; omega) | (simp only [sm] at *; omega)) ?_; cbv)
    | (refine QC.tt (by first | omega | (dsimp only; omega) | exact rfl | (simp only [sm] at *; omega)) ?_; cbv)
    | (refine QC.tt ?_ ?_; (focus (simp only [decide_true, Bool.and_true, Bool.and_self] <;> fail)); cbv)
    | (refine QC.ff ?_ ?_; (focus (simp only [decide_true, Bool.and_true, Bool.and_self, decide_false, Bool.false_and, reduceCtorEq, not_false_eq_true] <;> fail)); cbv)
    | (refine QC.ff (by first | omega | (dsimp only; omega) | (simp only [sm] at *; omega)) ?_; cbv)
    | (refine QC.mk (fun hc => ?_) (fun hc => ?_) <;> (try dsimp only at hc) <;> cbv)
    | (refine br_mk2 (fun hb => ?_) (fun hb => ?_) <;> (try subst hb) <;> cbv))))
  rotate_left
  · have hub := htb0 rfl
    clear htb0 htb1
    skip
    all_goals first
      | (refine Fin.mk ?_ rfl rfl
         have : b = false := by
           cases hb0 : b
           · rfl
           · exfalso
             have v := hb.1 hb0
             have n1 := v.n1
             have n2 := v.n2
             have ne := hfull.2 v.ne
             have ak := v.ak
             have r1 := v.r1
             have r2 := v.r2
             have u1 := v.u1
             have u2 := v.u2
             have d := v.d
             have a := v.a
             clear hb v
             dsimp only at *
             (first | omega | (simp only [cst] at *; omega) | (simp only [sm] at *; omega))
         rw [this]; done)
      | (refine Fin.mk ?_ rfl rfl
         have : b = true := hb.2 ⟨by dsimp only; (first | omega | (simp only [cst] at *; omega) | (simp only [sm] at *; omega)), by dsimp only; (first | omega | (simp only [cst] at *; omega) | (simp only [sm] at *; omega)), hfull.1 (by (first | omega | (simp only [cst] at *; omega) | (simp only [sm] at *; omega))), by dsimp only; (first | omega | (simp only [cst] at *; omega) | (simp only [sm] at *; omega)), by dsimp only; (first | omega | (simp only [cst] at *; omega) | (simp only [sm] at *; omega)), by dsimp only; (first | omega | (simp only [cst] at *; omega) | (simp only [sm] at *; omega)), by dsimp only; (first | omega | (simp only [cst] at *; omega) | (simp only [sm] at *; omega)), by dsimp only; (first | omega | (simp only [cst] at *; omega) | (simp only [sm] at *; omega)), by dsimp only; intro h0; (first | omega | (simp only [cst] at *; omega) | (simp only [sm] at *; omega)), by dsimp only; intro h0; (first | omega | (simp only [cst] at *; omega) | (simp only [sm] at *; omega))⟩
         rw [this]; done)
      | skip
  have hub := htb1 rfl
  clear htb0 htb1
  refine loopQ (A := Nat × Int) (fun p => p.2 = p.1 ∧ p.1 ≤ ps.length ∧ ∀ (i : Nat) (q : List UInt8), i < p.1 → ps[i]? = some q → q.length ≠ 0) (fun p => ps.length - p.1) (fun p => [(4, .int .i64 p.2)]) (fun p => []) (0, 0) ⟨rfl, Nat.zero_le _, fun i q h => absurd h (Nat.not_lt_zero _)⟩ ?_ ?_
  · cbv
  · intro ⟨i, j⟩ hi0
    have hj : j = (i : Int) := hi0.1
    have hi : i ≤ ps.length := hi0.2.1
    have hki : ∀ (k : Nat) (q : List UInt8), k < i → ps[k]? = some q → q.length ≠ 0 := hi0.2.2
    clear hi0
    have hmk : True := trivial
    cbv
    (repeat' (first
    | (refine q1 (by first | exact trivial | omega | (dsimp only; omega) | exact pow62 _ (by omega) | exact mul9 (by omega) (by omega) | (simp only [sm] at *; omega)) (fun z hz => ?_); (try simp only at hz); cbv)
    | (refine rq (by first | exact trivial | omega | (dsimp only; omega) | (simp only [sm] at *; omega)) ?_; cbv)
    | (refine QC.tt (by first | omega | (dsimp only; omega) | exact rfl | (simp only [sm] at *; omega)) ?_; cbv)
    | (refine QC.tt ?_ ?_; (focus (simp only [decide_true, Bool.and_true, Bool.and_self] <;> fail)); cbv)
    | (refine QC.ff ?_ ?_; (focus (simp only [decide_true, Bool.and_true, Bool.and_self, decide_false, Bool.false_and, reduceCtorEq, not_false_eq_true] <;> fail)); cbv)
    | (refine QC.ff (by first | omega | (dsimp only; omega) | (simp only [sm] at *; omega)) ?_; cbv)
    | (refine QC.mk (fun hc => ?_) (fun hc => ?_) <;> (try dsimp only at hc) <;> cbv)
    | (refine br_mk2 (fun hb => ?_) (fun hb => ?_) <;> (try subst hb) <;> cbv)))
    · have hlt : i < ps.length := by (first | omega | (simp only [cst] at *; omega) | (simp only [sm] at *; omega))
      obtain ⟨p, B, hbi, hB, hEi⟩ := hE i hlt
      have hbl := hfb p (List.mem_of_getElem? hbi)
      have hBl : B.length = p.length := by rw [hB, u8l_len]
      have hne := hne i p hbi
      (refine qv (i, _) ⟨hj, hEi⟩ ?_; cbv; (repeat' (first
    | (refine q1 (by first | exact trivial | omega | (dsimp only; omega) | exact pow62 _ (by omega) | exact mul9 (by omega) (by omega) | (simp only [sm] at *; omega)) (fun z hz => ?_); (try simp only at hz); cbv)
    | (refine rq (by first | exact trivial | omega | (dsimp only; omega) | (simp only [sm] at *; omega)) ?_; cbv)
    | (refine QC.tt (by first | omega | (dsimp only; omega) | exact rfl | (simp only [sm] at *; omega)) ?_; cbv)
    | (refine QC.tt ?_ ?_; (focus (simp only [decide_true, Bool.and_true, Bool.and_self] <;> fail)); cbv)
    | (refine QC.ff ?_ ?_; (focus (simp only [decide_true, Bool.and_true, Bool.and_self, decide_false, Bool.false_and, reduceCtorEq, not_false_eq_true] <;> fail)); cbv)
    | (refine QC.ff (by first | omega | (dsimp only; omega) | (simp only [sm] at *; omega)) ?_; cbv)
    | (refine QC.mk (fun hc => ?_) (fun hc => ?_) <;> (try dsimp only at hc) <;> cbv)
    | (refine br_mk2 (fun hb => ?_) (fun hb => ?_) <;> (try subst hb) <;> cbv))))
      · have hh := hne (by (first | omega | (simp only [cst] at *; omega) | (simp only [sm] at *; omega)))
        clear hne hki
        skip
        all_goals first
          | (refine Fin.mk ?_ rfl rfl
             have : b = false := by
               cases hb0 : b
               · rfl
               · exfalso
                 have v := hb.1 hb0
                 have n1 := v.n1
                 have n2 := v.n2
                 have ne := hfull.2 v.ne
                 have ak := v.ak
                 have r1 := v.r1
                 have r2 := v.r2
                 have u1 := v.u1
                 have u2 := v.u2
                 have d := v.d
                 have a := v.a
                 clear hb v
                 dsimp only at *
                 (first | omega | (simp only [cst] at *; omega) | (simp only [sm] at *; omega))
             rw [this]; done)
          | (refine Fin.mk ?_ rfl rfl
             have : b = true := hb.2 ⟨by dsimp only; (first | omega | (simp only [cst] at *; omega) | (simp only [sm] at *; omega)), by dsimp only; (first | omega | (simp only [cst] at *; omega) | (simp only [sm] at *; omega)), hfull.1 (by (first | omega | (simp only [cst] at *; omega) | (simp only [sm] at *; omega))), by dsimp only; (first | omega | (simp only [cst] at *; omega) | (simp only [sm] at *; omega)), by dsimp only; (first | omega | (simp only [cst] at *; omega) | (simp only [sm] at *; omega)), by dsimp only; (first | omega | (simp only [cst] at *; omega) | (simp only [sm] at *; omega)), by dsimp only; (first | omega | (simp only [cst] at *; omega) | (simp only [sm] at *; omega)), by dsimp only; (first | omega | (simp only [cst] at *; omega) | (simp only [sm] at *; omega)), by dsimp only; intro h0; (first | omega | (simp only [cst] at *; omega) | (simp only [sm] at *; omega)), by dsimp only; intro h0; (first | omega | (simp only [cst] at *; omega) | (simp only [sm] at *; omega))⟩
             rw [this]; done)
          | skip
      · have hp : p.length ≠ 0 := by (first | omega | (simp only [cst] at *; omega) | (simp only [sm] at *; omega))
        refine ⟨(i + 1, z), ⟨by show z = ((i + 1 : Nat) : Int); (first | omega | (simp only [cst] at *; omega) | (simp only [sm] at *; omega)), by show i + 1 ≤ ps.length; omega, fun k q hk hq => ?_⟩, by show ps.length - (i + 1) < ps.length - i; omega, ?_⟩
        · by_cases e : k = i
          · subst e
            rw [hbi] at hq
            injection hq with hq
            rw [← hq]; exact hp
          · exact hki k q (by have : k < i + 1 := hk; omega) hq
        · cbv
    · have e : i = ps.length := by (first | omega | (simp only [cst] at *; omega) | (simp only [sm] at *; omega))
      have hh := hall fun k q hq => hki k q (by rw [e]; exact (List.getElem?_eq_some_iff.1 hq).1) hq
      clear hall hki hne
      (refine callq (g2) rfl rfl ?_; cbv; (repeat' (first
    | (refine q1 (by first | exact trivial | omega | (dsimp only; omega) | exact pow62 _ (by omega) | exact mul9 (by omega) (by omega) | (simp only [sm] at *; omega)) (fun z hz => ?_); (try simp only at hz); cbv)
    | (refine rq (by first | exact trivial | omega | (dsimp only; omega) | (simp only [sm] at *; omega)) ?_; cbv)
    | (refine QC.tt (by first | omega | (dsimp only; omega) | exact rfl | (simp only [sm] at *; omega)) ?_; cbv)
    | (refine QC.tt ?_ ?_; (focus (simp only [decide_true, Bool.and_true, Bool.and_self] <;> fail)); cbv)
    | (refine QC.ff ?_ ?_; (focus (simp only [decide_true, Bool.and_true, Bool.and_self, decide_false, Bool.false_and, reduceCtorEq, not_false_eq_true] <;> fail)); cbv)
    | (refine QC.ff (by first | omega | (dsimp only; omega) | (simp only [sm] at *; omega)) ?_; cbv)
    | (refine QC.mk (fun hc => ?_) (fun hc => ?_) <;> (try dsimp only at hc) <;> cbv)
    | (refine br_mk2 (fun hb => ?_) (fun hb => ?_) <;> (try subst hb) <;> cbv))))
      all_goals first
        | (refine Fin.mk ?_ rfl rfl
           have : b = false := by
             cases hb0 : b
             · rfl
             · exfalso
               have v := hb.1 hb0
               have n1 := v.n1
               have n2 := v.n2
               have ne := hfull.2 v.ne
               have ak := v.ak
               have r1 := v.r1
               have r2 := v.r2
               have u1 := v.u1
               have u2 := v.u2
               have d := v.d
               have a := v.a
               clear hb v
               dsimp only at *
               (first | omega | (simp only [cst] at *; omega) | (simp only [sm] at *; omega))
           rw [this]; done)
        | (refine Fin.mk ?_ rfl rfl
           have : b = true := hb.2 ⟨by dsimp only; (first | omega | (simp only [cst] at *; omega) | (simp only [sm] at *; omega)), by dsimp only; (first | omega | (simp only [cst] at *; omega) | (simp only [sm] at *; omega)), hfull.1 (by (first | omega | (simp only [cst] at *; omega) | (simp only [sm] at *; omega))), by dsimp only; (first | omega | (simp only [cst] at *; omega) | (simp only [sm] at *; omega)), by dsimp only; (first | omega | (simp only [cst] at *; omega) | (simp only [sm] at *; omega)), by dsimp only; (first | omega | (simp only [cst] at *; omega) | (simp only [sm] at *; omega)), by dsimp only; (first | omega | (simp only [cst] at *; omega) | (simp only [sm] at *; omega)), by dsimp only; (first | omega | (simp only [cst] at *; omega) | (simp only [sm] at *; omega)), by dsimp only; intro h0; (first | omega | (simp only [cst] at *; omega) | (simp only [sm] at *; omega)), by dsimp only; intro h0; (first | omega | (simp only [cst] at *; omega) | (simp only [sm] at *; omega))⟩
           rw [this]; done)
        | skip
end Go.Proofs.Ytjhicdoigllblaa
/- recovery.missing: an iterator's contract. -/
namespace Go.Proofs.Ytjhicdoigllblaa
set_option linter.unusedVariables false
set_option linter.unusedSimpArgs false
open Go.RowKit Go.Shelf
/-- What has not been acknowledged, with its numbers. -/
def misX (m : Int) : Nat → List SV → List (List SV)
  | _, [] => []
  | i, x :: L => if m / 2 ^ i % 2 = 0 then [.int .i64 i, x] :: misX m (i + 1) L else misX m (i + 1) L
def cntF (m : Int) : Nat → Nat → Nat
  | _, 0 => 0
  | j, i + 1 => (if m / 2 ^ j % 2 = 0 then 1 else 0) + cntF m (j + 1) i
theorem cntF_succ (m : Int) : ∀ (i j : Nat), cntF m j (i + 1) = cntF m j i + (if m / 2 ^ (j + i) % 2 = 0 then 1 else 0)
  | 0, j => by simp [cntF]
  | i + 1, j => by
    rw [cntF, cntF_succ m i (j + 1), cntF]
    have : j + 1 + i = j + (i + 1) := by omega
    rw [this]
    omega
theorem misX_at (m : Int) : ∀ (L : List SV) (j i : Nat) (x : SV), L[i]? = some x → m / 2 ^ (j + i) % 2 = 0 → (misX m j L)[cntF m j i]? = some [.int .i64 ((j + i : Nat) : Int), x]
  | [], j, i, x, h, _ => by simp at h
  | y :: L, j, 0, x, h, hm => by
    simp at h
    subst h
    simp only [Nat.add_zero] at hm ⊢
    simp [misX, cntF, hm]
  | y :: L, j, i + 1, x, h, hm => by
    have e : j + 1 + i = j + (i + 1) := by omega
    have ih := misX_at m L (j + 1) i x (by simpa using h) (by rw [e]; exact hm)
    rw [e] at ih
    simp only [misX, cntF]
    split
    · rw [Nat.add_comm 1]; simpa using ih
    · simpa using ih
theorem misX_len (m : Int) : ∀ (L : List SV) (j : Nat), (misX m j L).length = cntF m j L.length
  | [], j => rfl
  | y :: L, j => by
    simp only [misX, List.length_cons, cntF]
    split
    · rw [List.length_cons, misX_len m L (j + 1)]; omega
    · rw [misX_len m L (j + 1)]; omega
theorem and1 (m : Int) (h : 0 ≤ m ∧ m < 4294967296) (i : Nat) (hi : i < 32) : ((BitVec.ofInt 32 (m / 2 ^ i) &&& 1#32).toNat : Int) = m / 2 ^ i % 2 := by
  have h0 : 0 ≤ m / 2 ^ i := Int.ediv_nonneg h.1 (Int.pow_nonneg (by omega))
  have h1 : m / 2 ^ i ≤ m := Int.ediv_le_self _ h.1
  obtain ⟨k, hk⟩ := Int.eq_ofNat_of_zero_le h0
  rw [hk] at h1 ⊢
  have : (BitVec.ofInt 32 (k : Int)).toNat = k := by rw [BitVec.toNat_ofInt]; omega
  rw [BitVec.toNat_and, this]
  simp only [BitVec.toNat_ofNat]
  have e : (1 : Nat) % 2 ^ 32 = 1 := by decide
  rw [e, Nat.and_one_is_mod]
  omega
theorem and1b (m : Int) (h : 0 ≤ m ∧ m < 4294967296) (i : Nat) (hi : i < 32) : bits .and .u32 (m / 2 ^ i) 1 = m / 2 ^ i % 2 := by
  have := and1 m h i hi
  have h1 := Int.emod_nonneg (m / 2 ^ i) (show (2 : Int) ≠ 0 by omega)
  have h2 := Int.emod_lt_of_pos (m / 2 ^ i) (show (0 : Int) < 2 by omega)
  unfold bits
  show IntKind.u32.wrap ((BitVec.ofInt 32 (m / 2 ^ i) &&& 1#32).toNat : Int) = _
  rw [IntKind.wrap_u32, this]
  omega
attribute [local go_sem] Oper.semAt_some
set_option maxRecDepth 100000 in
set_option maxHeartbeats 4000000 in
theorem missing1_in (l Bs b off len cap : Nat) (m : Int) (hm : 0 ≤ m ∧ m < 4294967296) (hlen : len ≤ 32) (V : Nat → Value) (o : Nat) (Kp : World → Prop) (J : Nat → World → Prop) (Jx : World → Prop)
    (hK : ∀ W, Kp W → W.cell? ⟨Bs, o + 2, none⟩ = some (.slice (some ⟨b, off, none⟩) len cap) ∧ W.cell? ⟨Bs, o + 3, none⟩ = some (.int .u32 m) ∧ ∀ j, j < len → W.cell? ⟨b, off + j, none⟩ = some (V j))
    (hJK : ∀ k W, J k W → Kp W)
    (hY : ∀ i W, i < len → m / 2 ^ i % 2 = 0 → J (cntF m 0 i) W → ∀ q, YieldAt Fence.wide q Try.prog l #[.int .i64 (i : Int), V i] W fun e W' =>
      (e = .returned (.bool true) ∧ J (cntF m 0 i + 1) W') ∨ (e = .returned (.bool false) ∧ Jx W'))
    (W : World) (h0 : J 0 W) (n : Nat) (hn : 1 ≤ n) :
    CallsIn Fence.wide n Try.prog 67 #[.func (.yield l) #[] #[], .pointer (some ⟨Bs, o, none⟩)] W fun e W' => (∃ v, e = .returned v) ∧ (J (cntF m 0 len) W' ∨ Jx W') := by
  refine callsIn_of_wp Try.func67 rfl trivial ?_ rfl
  simp only [Try.ntmps67, List.size_toArray, List.length_cons, List.length_nil, Nat.reduceAdd, Nat.reduceSub, Array.replicate_succ, Array.replicate_zero, List.push_toArray, List.append_toArray, List.nil_append, List.cons_append]
  obtain ⟨hc2, hc3, hcs⟩ := hK W (hJK _ _ h0)
  gi_wp2
  gi_loopw [8] (fun i wr => ∃ k : Nat, k ≤ len ∧ i = .int .i64 k ∧ J (cntF m 0 k) wr) (fun i _ => len - (intOf i).toNat)
  case atStart => exact ⟨0, Nat.zero_le _, rfl, h0⟩
  case round =>
    obtain ⟨k, hk, rfl, hJs⟩ := hrel
    obtain ⟨hd2, hd3, hds⟩ := hK _ (hJK _ _ hJs)
    have hcx := fun h : k < len => hds k h
    by_cases hlt : k < len
    · have hcx' := hcx hlt
      have hk32 : k < 32 := by omega
      have han : bits .and .u32 (m / 2 ^ k) 1 = m / 2 ^ k % 2 := and1b m hm k hk32
      by_cases hbit : m / 2 ^ k % 2 = 0
      · obtain ⟨fn, tmps, assign, body, hy, hR⟩ := hY k wr hlt hbit hJs (n - 1)
        rw [hbit] at han
        gi_wp2
        refine hR.mono ?_
        rintro e W3 (⟨rfl, hJ3⟩ | ⟨rfl, hJx3⟩)
        · gi_wp2
          go_roundw
          case rel => exact ⟨k + 1, by omega, by simp, by rw [cntF_succ, Nat.zero_add, if_pos hbit]; exact hJ3⟩
          case measure => simp [intOf]; omega
        · gi_wp2
          refine bodyPost_ret (results_none rfl _ _ _) rfl ?_
          exact ⟨⟨_, rfl⟩, .inr hJx3⟩
      · have hb1 : m / 2 ^ k % 2 = 1 := by
          have h1 := Int.emod_nonneg (m / 2 ^ k) (show (2 : Int) ≠ 0 by omega)
          have h2 := Int.emod_lt_of_pos (m / 2 ^ k) (show (0 : Int) < 2 by omega)
          omega
        have hcn : cntF m 0 (k + 1) = cntF m 0 k := by rw [cntF_succ, Nat.zero_add, if_neg hbit, Nat.add_zero]
        rw [hb1] at han
        clear hb1 hbit
        gi_wp2
        refine ⟨fun _ h => (by cases h), ?_⟩
        gi_wp2
        go_roundw
        case rel => exact ⟨k + 1, by omega, by simp, by rw [hcn]; exact hJs⟩
        case measure => simp [intOf]; omega
    · obtain rfl : k = len := by omega
      gi_wp2
      go_end0
      exact ⟨⟨_, rfl⟩, .inl hJs⟩
set_option maxRecDepth 100000 in
set_option maxHeartbeats 4000000 in
theorem missing1_nil (l Bs cap : Nat) (ad : Option Addr) (o : Nat) (J : Nat → World → Prop) (W : World) (hc2 : W.cell? ⟨Bs, o + 2, none⟩ = some (.slice ad 0 cap)) (h0 : J 0 W) (n : Nat) (hn : 1 ≤ n) :
    CallsIn Fence.wide n Try.prog 67 #[.func (.yield l) #[] #[], .pointer (some ⟨Bs, o, none⟩)] W fun e W' => (∃ v, e = .returned v) ∧ J 0 W' := by
  refine callsIn_of_wp Try.func67 rfl trivial ?_ rfl
  simp only [Try.ntmps67, List.size_toArray, List.length_cons, List.length_nil, Nat.reduceAdd, Nat.reduceSub, Array.replicate_succ, Array.replicate_zero, List.push_toArray, List.append_toArray, List.nil_append, List.cons_append]
  gi_wp2
  gi_loopw [8] (fun i wr => i = .int .i64 0 ∧ J 0 wr) (fun _ _ => 0)
  case atStart => exact ⟨rfl, h0⟩
  case round =>
    obtain ⟨rfl, hJs⟩ := hrel
    gi_wp2
    go_end0
    exact ⟨⟨_, rfl⟩, hJs⟩
theorem missing1_q (st tag rd un m : Int) (L : List SV) (hm : 0 ≤ m ∧ m < 4294967296) (hl : L.length ≤ 32) :
    Good 67 (seqC [.eptr (some 6) (.agg [.int .i64 st, .int .u8 tag, .lst none L, .int .u32 m, .int .i64 rd, .int .i64 un]) 0] (misX m 0 L)) := by
  refine ⟨⟨⟨Try.f67, Try.func67, rfl, by kernel_rfl⟩, fun _ => ?_, fun h => by simp [isSeq, seqC] at h⟩⟩
  rw [seqC_L]
  refine ⟨fun w Y us hus l J Jx W hJb hJxb hKY hY h0 n => ?_⟩
  obtain ⟨v, rfl⟩ := List.length_eq_one_iff.1 (show us.length = 1 from hus.1.symm)
  have hv := hus.2 0 _ v rfl rfl
  cases hv with
  | eptr _ _ _ _ B o cs hb hx hu hcl hy =>
  rw [valAt_some_full (by rw [hcl]; exact Nat.le_refl _)] at hy
  obtain ⟨cs', e, hd⟩ := Den.agg_iff.1 hy
  injection e with e
  injection e with e
  subst e
  have hcs : cs.length = 6 := hcl
  have hc3 : cs[3]? = some (.int .u32 m) := by
    have h3 : (3 : Nat) < cs.length := by omega
    have := hd.2 3 _ _ rfl (List.getElem?_eq_getElem h3)
    rw [List.getElem?_eq_getElem h3, Den.int_iff.1 this]
  have h2 : (2 : Nat) < cs.length := by omega
  have hc2 := hd.2 2 _ _ rfl (List.getElem?_eq_getElem h2)
  have hu2 := hu 2 _ (List.getElem?_eq_getElem h2)
  have hu3 := hu 3 _ hc3
  have same : ∀ {W1 : World}, KeepY Y w W1 → ∀ {b : Nat}, b < w.heap.size → ¬ Y b → ∀ off, W1.cell? ⟨b, off, none⟩ = w.cell? ⟨b, off, none⟩ := fun hk b hb hy off => World.cell?_of_block (hk.same b hb hy)
  refine (callsIn_wide (n := n)).2 ((callsIn_wide (n := 1)).1 ?_)
  have hk0 := hKY 0 W h0
  generalize hcv : cs[2] = c2 at hc2 hu2
  cases hc2 with
  | lst0 _ _ ad cap =>
    exact (missing1_nil l B cap ad (o + 0) J W (by rw [Nat.add_zero, same hk0 hb hx]; exact hu2) h0 1 (Nat.le_refl _)).mono fun e W' ⟨h1, h2⟩ => ⟨h1, .inl h2⟩
  | lst _ _ _ b off cap us2 hb2 hx2 hc2' hu2' hl2 ho2 hd2 =>
    have hl2' : us2.length = L.length := by simpa [wid] using hl2
    refine (missing1_in l B b off L.length cap m hm hl (fun j => (us2[j]?).getD undef) (o + 0) (fun W1 => KeepY Y w W1) J Jx (fun W1 hk => ⟨?_, ?_, fun j hj => ?_⟩) hKY (fun i W1 hi hbit hJ q => ?_) W h0 1 (Nat.le_refl _)).mono fun e W' ⟨h1, h2⟩ => ⟨h1, ?_⟩
    · rw [Nat.add_zero, same hk hb hx]; exact hu2
    · rw [Nat.add_zero, same hk hb hx]; exact hu3
    · rw [same hk hb2 hx2, hu2' j _ (List.getElem?_eq_getElem (by omega))]
      simp [hl2', hj]
    · have hx := misX_at m L 0 i L[i] (List.getElem?_eq_getElem hi) (by rw [Nat.zero_add]; exact hbit)
      rw [Nat.zero_add] at hx
      refine hY _ _ [.int .i64 (i : Int), (us2[i]?).getD undef] W1 hJ hx ⟨rfl, fun j x u hxx huu => ?_⟩ q
      match j, hxx, huu with
      | 0, hxx, huu => simp at hxx huu; subst hxx; subst huu; exact .int _ _ _
      | 1, hxx, huu => simp at hxx huu; subst hxx; subst huu; exact hd2 i hi
    · rw [misX_len]; exact h2
end Go.Proofs.Ytjhicdoigllblaa
/- What a round sends: the plain words. -/
namespace Go.Proofs.Ytjhicdoigllblaa
set_option linter.unusedVariables false
set_option linter.unusedSimpArgs false
open Go.RowKit
structure Pce where
  tag : Int
  n : Int
  c : Int
  ack : Bool
  d : List UInt8
def Pce.v (p : Pce) : SV := .agg [.int .u8 p.tag, .int .i64 p.n, .int .i64 p.c, .bool p.ack, .lst none (u8l p.d)]
def pcL (l : List Pce) : List SV := l.map Pce.v
theorem pcL_len (l : List Pce) : (pcL l).length = l.length := by simp [pcL]
/-- The numbers, below n, that are not acknowledged. -/
def opn (ak : Int) (n : Nat) : List Nat := (List.range n).filter fun i => decide (ak / 2 ^ i % 2 = 0)
theorem misX_eq (m : Int) : ∀ (L : List SV) (j : Nat), misX m j L = ((List.range L.length).filter fun i => decide (m / 2 ^ (j + i) % 2 = 0)).map fun i => [.int .i64 ((j + i : Nat) : Int), L.getD i .any]
  | [], j => rfl
  | y :: L, j => by
    have ih := misX_eq m L (j + 1)
    have e : ∀ i, j + 1 + i = j + (i + 1) := fun i => by omega
    simp only [e] at ih
    simp only [misX, List.length_cons, List.range_succ_eq_map, List.filter_cons, Nat.add_zero, List.filter_map, ih]
    by_cases h : m / 2 ^ j % 2 = 0
    · rw [if_pos h]
      simp only [h, decide_true, if_true, List.map_cons, List.map_map]
      rfl
    · rw [if_neg h]
      simp only [h, decide_false, Bool.false_eq_true, if_false, List.map_map]
      rfl
/-- The first k pieces that a round sends, none of which asks for an acknowledgement. -/
def pre (tag : Int) (ps : List (List UInt8)) (ak : Int) (k : Nat) : List Pce := ((opn ak ps.length).take k).map fun (i : Nat) => (⟨tag, (i : Int), (ps.length : Int), false, ps.getD i []⟩ : Pce)
/-- .. of which the last one asks for an acknowledgement. -/
def mark : List Pce → List Pce
  | [] => []
  | [p] => [{ p with ack := true }]
  | p :: q :: l => p :: mark (q :: l)
theorem mark_len : ∀ l, (mark l).length = l.length
  | [] => rfl
  | [p] => rfl
  | p :: q :: l => by simp [mark, mark_len (q :: l)]
theorem mark_set : ∀ (l : List Pce) (k : Nat) (p : Pce), l.length = k + 1 → l[k]? = some p → l.set k { p with ack := true } = mark l
  | [], k, p, h, _ => by simp at h
  | [q], 0, p, _, h => by simp at h; subst h; rfl
  | [q], k + 1, p, h, _ => by simp at h
  | q :: r :: l, 0, p, h, _ => by simp at h
  | q :: r :: l, k + 1, p, h, g => by
    rw [List.set_cons_succ, mark_set (r :: l) k p (by simpa using h) (by simpa using g)]
    rfl
theorem pre_len (tag : Int) (ps : List (List UInt8)) (ak : Int) (k : Nat) (h : k ≤ (opn ak ps.length).length) : (pre tag ps ak k).length = k := by simp [pre]; omega
theorem pre_succ (tag : Int) (ps : List (List UInt8)) (ak : Int) (k i : Nat) (h : (opn ak ps.length)[k]? = some i) : pre tag ps ak (k + 1) = pre tag ps ak k ++ [⟨tag, i, ps.length, false, ps.getD i []⟩] := by
  obtain ⟨h1, h2⟩ := List.getElem?_eq_some_iff.1 h
  rw [pre, pre, ← List.take_append_getElem h1, List.map_append, h2]
  rfl
theorem opn_lt {ak : Int} {n k i : Nat} (h : (opn ak n)[k]? = some i) : i < n ∧ ak / 2 ^ i % 2 = 0 := by
  have := List.mem_of_getElem? h
  unfold opn at this
  rw [List.mem_filter, List.mem_range] at this
  exact ⟨this.1, of_decide_eq_true this.2⟩
theorem opn_pos {ak : Int} {n : Nat} (h0 : 0 ≤ ak) (h1 : ak ≤ allI n) (h2 : ak ≠ allI n) : 1 ≤ (opn ak n).length := by
  rcases Nat.eq_zero_or_pos (opn ak n).length with h | h
  · exfalso
    have h3 : ∀ i, i < n → ¬ ak / 2 ^ i % 2 = 0 := fun i hi he => by
      have : i ∈ opn ak n := by unfold opn; rw [List.mem_filter, List.mem_range]; exact ⟨hi, decide_eq_true he⟩
      rw [List.length_eq_zero_iff.1 h] at this
      cases this
    obtain ⟨a, ha⟩ := Int.eq_ofNat_of_zero_le h0
    subst ha
    rw [allI_nat] at h1 h2
    have hp : 1 ≤ 2 ^ n := Nat.one_le_two_pow
    apply h2
    congr 1
    apply Nat.eq_of_testBit_eq
    intro i
    rw [Nat.testBit_two_pow_sub_one]
    by_cases hi : i < n
    · have := h3 i hi
      have e : ((a : Int) / 2 ^ i % 2) = ((a / 2 ^ i % 2 : Nat) : Int) := by simp
      rw [e] at this
      rw [Nat.testBit_eq_decide_div_mod_eq]
      simp only [hi, decide_true, decide_eq_true_eq]
      have := Nat.mod_lt (a / 2 ^ i) (show 0 < 2 by omega)
      omega
    · rw [Nat.testBit_lt_two_pow (Nat.lt_of_lt_of_le (show a < 2 ^ n by omega) (Nat.pow_le_pow_right (by omega) (by omega)))]
      simp [hi]
  · exact h
/-- What Next returns. -/
def nextX (s : Snd) (ok : Bool) (now : Int) : SV × List Pce × Int :=
  if ok = false then (.agg [.int .i64 0, .int .u8 0, .nil, .int .u32 0, .int .i64 0, .int .i64 0], [], 1)
  else if now < 0 ∨ 1099511627776 < now then (.agg [.int .i64 0, .int .u8 0, .nil, .int .u32 0, .int .i64 0, .int .i64 0], [], 2)
  else if s.st ≠ 1 ∨ now < s.un then (s.v, [], 0)
  else if s.rd = 8 then (({ s with st := 3 } : Snd).v, [], 0)
  else (({ s with rd := s.rd + 1, un := min (now + 8) 1099511627776 } : Snd).v, mark (pre s.tag s.ps s.ak (min (opn s.ak s.ps.length).length 8)), 0)
end Go.Proofs.Ytjhicdoigllblaa
/- How the arguments of a law are opened into abstract values: bytes, lists of integers, structs of one-cell fields. -/
namespace Go.Proofs.Ytjhicdoigllblaa
set_option linter.unusedVariables false
set_option linter.unusedSimpArgs false
open Go.ChangeShapes Go.WideShapes Go.ChangeAt Go.RowKit Go.WideElems Go.Deep

theorem prog_own : ownKnob Try.prog.godebug = none := by kernel_rfl
theorem prog_laidOut : laidOutB Try.prog = true := by kernel_rfl
def NoX : Nat → Prop := fun _ => False

/-- What is known of the datum of a slice: how long it is. -/
def SliceDatum {H : Type} (d : DataW H) (l c : Nat) : Prop := (d = .nil ∧ l = 0 ∧ c = 0) ∨ ∃ es sp : List (DataW H), d = .slice es sp ∧ es.length = l ∧ es.length + sp.length = c
theorem SliceDatum.reach {H : Type} {P : Program} {ts : List TypeId} {ds : List (DataW H)} {d : DataW H} {l c : Nat} (h : SliceDatum d l c) (hs : (DataW.weightsEach P ts ds).all (· ≤ reachBytes) = true) {j : Nat} {t e : TypeId}
    (ht : ts[j]? = some t) (hd : ds[j]? = some d) (hu : P.underlying t = some (.slice e)) : c * P.bytesOf e ≤ 140737488351232 := by
  rcases h with ⟨_, _, rfl⟩ | ⟨es, sp, rfl, _, hc⟩
  · omega
  · have := sized_slice hs ht hd hu
    rw [hc] at this
    simpa [reachBytes] using this

section
variable {H : Type} {enc : TypeId × Value → H} {P : Program} {w : World}
theorem block_lt {ad : Addr} {u : Value} (h : w.cell? ad = some u) : ad.block < w.heap.size := World.block_lt_of_cell? w ad h

/-- A slice of integers that came in. -/
theorem open_list {r : Reach} {b0 : Nat} {t e : TypeId} {k : IntKind} {v : Value} {d : DataW H} {p : List MemPlace} (ht : P.underlying t = some (.slice e)) (he : P.underlying e = some (.int k)) (hc : P.cellsOf e = 1)
    (hval : Value.okWide P w r b0 t v) (h : DataW.Trod enc P w 0 (fun _ => true) true t v d p) :
    ∃ (zs : List Int) (c : Nat), Den w NoX noEnv (.lst none (zs.map (SV.int k))) v ∧ zs.length ≤ c ∧ c ≤ maxLen ∧ (∀ n ∈ zs, (Lit.int k n).wf = true) ∧ SliceDatum d zs.length c := by
  obtain ⟨a0, len0, cap0, rfl⟩ := okWide_slice ht hval
  obtain ⟨fuel, hf⟩ := h
  rcases open_ints ht he hc hf with ⟨hcs, hx⟩ | ⟨x, l, c, zs, hcs, _, hl, hm, hz, hx, hcell, hwz⟩
  · simp [Value.cells] at hcs
    obtain ⟨rfl, rfl, rfl⟩ := hcs
    simp only [Prod.mk.injEq] at hx
    exact ⟨[], 0, .lst0 _ _ _ _, Nat.le_refl _, by simp [maxLen], by simp, .inl ⟨hx.1, rfl, rfl⟩⟩
  · simp [Value.cells] at hcs
    obtain ⟨rfl, rfl, rfl⟩ := hcs
    simp only [if_true] at hz
    simp only [Prod.mk.injEq] at hx
    have hlen : (zs.take len0).length = len0 := by rw [List.length_take]; omega
    refine ⟨zs.take len0, cap0, ?_, by omega, hm, fun n hn => hwz n (List.mem_of_mem_take hn), .inr ⟨_, _, hx.1, ?_, ?_⟩⟩
    · by_cases h0 : len0 = 0
      · subst h0
        exact .lst0 _ _ _ _
      · have hspot : x.spot = none := by
          have := hcell 0 (by omega)
          have := World.cell?_spot this
          simpa [Addr.add] using this
        obtain ⟨b, off, spot⟩ := x
        simp only at hspot
        subst hspot
        have e1 : ((zs.take len0).map (SV.int k)).length = len0 := by rw [List.length_map, hlen]
        have e2 : Den w NoX noEnv (.lst none ((zs.take len0).map (SV.int k))) (.slice (some ⟨b, off, none⟩) ((zs.take len0).map (SV.int k)).length cap0) := by
          refine .lst _ _ _ b off cap0 ((zs.take len0).map (Value.int k)) ?_ (fun h => h) (by rw [e1]; omega) (fun j u hu => ?_) (by simp [wid]) (fun u hu => by obtain ⟨z, _, rfl⟩ := List.mem_map.1 hu; rfl) (fun i h1 => ?_)
          · have := block_lt (hcell 0 (by omega))
            exact this
          · obtain ⟨hj, hu⟩ := List.getElem?_eq_some_iff.1 hu
            rw [List.length_map] at hj
            have := hcell j (by omega)
            rw [Addr.add_lit] at this
            rw [this, ← hu]
            simp [List.getD]
            rw [List.getElem?_eq_getElem (by omega)]
            rfl
          · simp only [valAt]
            rw [List.length_map] at h1
            rw [List.getElem?_eq_getElem (by simpa using h1)]
            simp only [List.getElem_map, Option.getD_some]
            exact .int _ _ _
        rw [e1] at e2
        exact e2
    · simp [lits] <;> omega
    · simp [lits] <;> omega

/-- A struct of five one-cell fields that came in. -/
theorem open_agg5 {r : Reach} {b0 : Nat} {t : TypeId} {f0 f1 f2 f3 f4 : Field} {v : Value} {d : DataW H} {p : List MemPlace} {base : Nat} {spare : Nat → Bool} {held : Bool}
    (hs : P.underlying t = some (.struct #[f0, f1, f2, f3, f4])) (hone : oneCellFields P #[f0, f1, f2, f3, f4] = true) (hC : P.cellsOf t = 5)
    (hv : Value.okWide P w r b0 t v) (h : DataW.Trod enc P w base spare held t v d p) :
    ∃ (v0 v1 v2 v3 v4 : Value) (y0 y1 y2 y3 y4 : DataW H × List MemPlace) (n : Nat), v = .agg #[v0, v1, v2, v3, v4] ∧
      DataW.trod enc P w base spare held n f0.type [v0] = some y0 ∧ DataW.trod enc P w base spare held n f1.type [v1] = some y1 ∧ DataW.trod enc P w base spare held n f2.type [v2] = some y2 ∧
      DataW.trod enc P w base spare held n f3.type [v3] = some y3 ∧ DataW.trod enc P w base spare held n f4.type [v4] = some y4 := by
  obtain ⟨cs, rfl, hsz⟩ := okWide_struct hs hv
  have hsz' : cs.size = 5 := hsz.trans hC
  obtain ⟨l⟩ := cs
  match l, hsz' with
  | [c0, c1, c2, c3, c4], _ =>
    obtain ⟨fuel, hf⟩ := h
    obtain ⟨xs, n, _, _, _, hlen, hx⟩ := DataW.trod_struct hs hf
    match xs, hlen with
    | [y0, y1, y2, y3, y4], _ =>
      obtain ⟨o0, k0⟩ := Deep.hone_of hone 0 f0 rfl
      obtain ⟨o1, k1⟩ := Deep.hone_of hone 1 f1 rfl
      obtain ⟨o2, k2⟩ := Deep.hone_of hone 2 f2 rfl
      obtain ⟨o3, k3⟩ := Deep.hone_of hone 3 f3 rfl
      obtain ⟨o4, k4⟩ := Deep.hone_of hone 4 f4 rfl
      exact ⟨c0, c1, c2, c3, c4, y0, y1, y2, y3, y4, n, rfl, by simpa [Value.cells, o0, k0] using hx 0 f0 rfl, by simpa [Value.cells, o1, k1] using hx 1 f1 rfl, by simpa [Value.cells, o2, k2] using hx 2 f2 rfl,
        by simpa [Value.cells, o3, k3] using hx 3 f3 rfl, by simpa [Value.cells, o4, k4] using hx 4 f4 rfl⟩
end
theorem denl_nil {w : World} {X : Nat → Prop} {ρ : Env} : DenL w X ρ [] [] := ⟨rfl, fun i x u h _ => by simp at h⟩
theorem denl_cons {w : World} {X : Nat → Prop} {ρ : Env} {x : SV} {v : Value} {xs : List SV} {vs : List Value} (h : Den w X ρ x v) (g : DenL w X ρ xs vs) : DenL w X ρ (x :: xs) (v :: vs) := by
  refine ⟨by simp [g.1], fun i y u hy hu => ?_⟩
  cases i with
  | zero => simp at hy hu; subst hy; subst hu; exact h
  | succ i => exact g.2 i y u (by simpa using hy) (by simpa using hu)
/-- The package's variables hold what the table says. -/
def GlobsAt (w : World) : Prop := ∀ g x, glob g = some x → plainB x = true ∧ Den w NoX noEnv x (.pointer (some ⟨g, 0, none⟩))
theorem noX_keep {w : World} {f : Nat} {xs : List SV} {b : Bool} : ∀ k, k < w.heap.size → ¬ NoX k → ¬ Forb NoX (inM (pu xs (.bool b))) noEnv k ∧ w.heap[k]? = w.heap[k]? := fun k _ _ => by
  refine ⟨?_, rfl⟩
  rintro (h | ⟨r, v, ho, _⟩)
  · exact h
  · simp [inM, getM, Blk.own] at ho
/-- A call of a law, at the world of the row. -/
theorem Good.rowG {f : Nat} {xs : List SV} {b : Bool} (h : Good f (pu xs (.bool b))) {w : World} (hg : GlobsAt w) {vs : List Value} (hd : DenL w NoX noEnv xs vs) : Calls Try.prog f ⟨vs⟩ w fun e w' => e = .returned (.bool b) ∧ Below w.heap.size w w' := by
  have m : MRep tinfo (fun b => w.heap.size ≤ b) w w NoX (inM (pu xs (.bool b))) noEnv :=
    ⟨fun _ h => h.elim, .refl _ _, fun _ h => h, fun r => by simp [inM, getM, BlkRep, noEnv], fun r r' v v' b h => by simp [inM, getM, Blk.own] at h, fun g x hx => ⟨(hg g x hx).1, (hg g x hx).2.mono (Nat.le_refl _) (noX_keep (f := f))⟩⟩
  refine (h.h.h rfl (fun b => w.heap.size ≤ b) w NoX noEnv vs m ?_).mono fun e w' ⟨v, ρ', he, hm, _, hv⟩ => ⟨by rw [he, Den.bool_iff.1 hv], hm.below.new⟩
  exact ⟨hd.1, fun i x u hx hu => (hd.2 i x u hx hu).mono (Nat.le_refl _) (noX_keep (f := f))⟩
end Go.Proofs.Ytjhicdoigllblaa
