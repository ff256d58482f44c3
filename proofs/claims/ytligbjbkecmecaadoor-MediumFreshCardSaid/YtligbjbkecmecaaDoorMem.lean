/- The memory that a call has of its own: what is known of it; how the operations that read it, and calls, keep it. -/
import Derived.Test.YtligbjbkecmecaaDoorPw
import Derived.Test.YtligbjbkecmecaaDoorGl
namespace Go.Proofs.YtligbjbkecmecaaDoor
set_option linter.unusedVariables false
set_option linter.unusedSimpArgs false
open Go.RowKit
variable {P : Program} {T : Nat → Option TI}

def Blk.own : Blk → Bool
  | .chunk _ _ | .row _ _ _ | .rowx _ _ _ _ | .iter _ _ | .gen _ _ _ | .rown _ _ _ => true
  | _ => false
def vblock : Value → Option Nat
  | .pointer (some a) => some a.block
  | .slice (some a) _ c => if c = 0 then none else some a.block
  | .map (some b) => some b
  | _ => none
def owned (mem : Mem) (ρ : Env) (b : Nat) : Prop := ∃ r v, (getM mem r).own = true ∧ ρ r = some v ∧ vblock v = some b
def Forb (X : Nat → Prop) (mem : Mem) (ρ : Env) (b : Nat) : Prop := X b ∨ owned mem ρ b

/-- Whole numbers of these kinds, as values of either side. -/
inductive KFit : List IntKind → List SV → List Value → Prop
  | nil : KFit [] [] []
  | cons {k : IntKind} {ks : List IntKind} {n : Int} {ys : List SV} {us : List Value} (h : k.min ≤ n ∧ n ≤ k.max) (r : KFit ks ys us) : KFit (k :: ks) (.int k n :: ys) (.int k n :: us)
/-- The block of a thing of the call's own that is looked at through its own operations alone: the bytes of a string (0); a map whose values are all true, as the list of its keys (1). -/
def genRep (tag k : Nat) (l : List SV) (v : Value) (b : Nat) (ob : Obj) : Prop :=
  match tag with
  | 1 => ∃ m, mapT k = some m ∧ v = .map (some b) ∧ ∃ es clock, ob = .map es clock ∧ (∀ x ∈ es.toList, x.val = .bool true ∧ ∃ ys us, KFit m.2.2 ys us ∧ x.key = .agg ⟨us⟩ ∧ SV.agg ys ∈ l) ∧
      (∀ x ∈ l, ∃ ys us e, x = .agg ys ∧ KFit m.2.2 ys us ∧ e ∈ es.toList ∧ e.key = .agg ⟨us⟩)
  | 0 => ∃ cap cur fz, v = .slice (some ⟨b, 0, none⟩) l.length cap ∧ ob = .cells cur k fz ∧ cur.size ≤ fz.1 ∧ l.length ≤ cap ∧ cap ≤ maxLen ∧ cap ≤ cur.size ∧ 0 < cap ∧ (∀ u ∈ cur.toList, u.oneCell' = true) ∧ ∀ (i : Nat) (x : SV), l[i]? = some x → ∃ n : Int, x = .int .u8 n ∧ cur[i]? = some (.int .u8 n)
  | _ => False
def BlkRep (T : Nat → Option TI) (N : Nat → Prop) (w : World) (Y : Nat → Prop) (ρ : Env) : Blk → Option Value → Prop
  | .no, o => o = none
  | .chunk t x, o => ∃ i b us ty, T t = some i ∧ o = some (.pointer (some ⟨b, 0, none⟩)) ∧ N b ∧ w.heap[b]? = some (.cells us ty (0, 0)) ∧ us.size = i.size ∧
      (∀ u ∈ us.toList, u.oneCell' = true) ∧ Den w Y ρ x (valAt i.shape us.toList 0)
  | .row sh e l, o => ∃ v, o = some v ∧ ((∃ a, v = .slice a 0 0 ∧ l = []) ∨ ∃ b off cap cur, v = .slice (some ⟨b, off, none⟩) l.length cap ∧ N b ∧ w.heap[b]? = some (.cells cur e (0, 0)) ∧
      l.length ≤ cap ∧ cap ≤ maxLen ∧ off + cap * wid sh ≤ cur.size ∧ 0 < cap ∧ (∀ u ∈ cur.toList, u.oneCell' = true) ∧ ∀ (i : Nat) (h : i < l.length), Den w Y noEnv l[i] (valAt sh (cur.toList.drop off) i))
  | .frz sh l, o => ∃ v, o = some v ∧ Den w Y noEnv (.lst sh l) v
  | .rowx e l i x, o => ∃ b off cap cur, o = some (.slice (some ⟨b, off, none⟩) l.length cap) ∧ N b ∧ w.heap[b]? = some (.cells cur e (0, 0)) ∧
      l.length ≤ cap ∧ cap ≤ maxLen ∧ off + cap ≤ cur.size ∧ 0 < cap ∧ (∀ u ∈ cur.toList, u.oneCell' = true) ∧ i < l.length ∧ (∀ (j : Nat) (h : j < l.length), j ≠ i → Den w Y noEnv l[j] (valAt none (cur.toList.drop off) j)) ∧
      Den w Y ρ x (valAt none (cur.toList.drop off) i)
  | .rown sh e l, o => ∃ b off cap cur, o = some (.slice (some ⟨b, off, none⟩) l.length cap) ∧ N b ∧ w.heap[b]? = some (.cells cur e (0, 0)) ∧
      l.length ≤ cap ∧ cap ≤ maxLen ∧ off + cap * wid sh ≤ cur.size ∧ 0 < cap ∧ (∀ u ∈ cur.toList, u.oneCell' = true) ∧ ∀ (i : Nat) (h : i < l.length), Den w Y ρ l[i] (valAt sh (cur.toList.drop off) i)
  | .iter s p, o => ∃ b, o = some (.pointer (some ⟨b, 0, none⟩)) ∧ N b ∧ w.heap[b]? = some (.stringIter s p)
  | .gen tag k l, o => ∃ v b ob, o = some v ∧ vblock v = some b ∧ N b ∧ w.heap[b]? = some ob ∧ genRep tag k l v b ob

/-- What may be written (N) aside, the world w' is as w was. -/
structure BelowW (N : Nat → Prop) (w w' : World) : Prop where
  os : w'.os = w.os
  tape : w'.tape = w.tape
  output : w'.output = w.output
  size : w.heap.size ≤ w'.heap.size
  block : ∀ k, k < w.heap.size → ¬ N k → w'.heap[k]? = w.heap[k]?
theorem BelowW.refl (N : Nat → Prop) (w : World) : BelowW N w w := ⟨rfl, rfl, rfl, Nat.le_refl _, fun _ _ _ => rfl⟩
theorem BelowW.trans {N : Nat → Prop} {a b c : World} (h : BelowW N a b) (k : BelowW N b c) : BelowW N a c :=
  ⟨k.os.trans h.os, k.tape.trans h.tape, k.output.trans h.output, Nat.le_trans h.size k.size, fun i hi hn => (k.block i (Nat.lt_of_lt_of_le hi h.size) hn).trans (h.block i hi hn)⟩
theorem BelowW.of {N : Nat → Prop} {w w' : World} (h : Below w.heap.size w w') : BelowW N w w' := ⟨h.os, h.tape, h.output, h.size, fun k hk _ => h.block k hk⟩
theorem BelowW.new {w w' : World} (h : BelowW (fun b => w.heap.size ≤ b) w w') : Below w.heap.size w w' := ⟨h.os, h.tape, h.output, h.size, fun k hk => h.block k hk (by omega)⟩

structure MRep (T : Nat → Option TI) (N : Nat → Prop) (w0 w : World) (X : Nat → Prop) (mem : Mem) (ρ : Env) : Prop where
  low : ∀ b, X b → b < w.heap.size ∧ ¬ N b
  below : BelowW N w0 w
  szN : ∀ b, w.heap.size ≤ b → N b
  blk : ∀ r, BlkRep T N w (Forb X mem ρ) ρ (getM mem r) (ρ r)
  inj : ∀ r r' v v' b, (getM mem r).own = true → (getM mem r').own = true → ρ r = some v → ρ r' = some v' → vblock v = some b → vblock v' = some b → r = r'
  gl : ∀ g x, glob g = some x → plainB x = true ∧ Den w (Forb X mem ρ) noEnv x (.pointer (some ⟨g, 0, none⟩))
theorem gl_mono {w w' : World} {Y Y' : Nat → Prop} (h : ∀ g x, glob g = some x → plainB x = true ∧ Den w Y noEnv x (.pointer (some ⟨g, 0, none⟩))) (hs : w.heap.size ≤ w'.heap.size) (hk : ∀ b, b < w.heap.size → ¬ Y b → ¬ Y' b ∧ w'.heap[b]? = w.heap[b]?) :
    ∀ g x, glob g = some x → plainB x = true ∧ Den w' Y' noEnv x (.pointer (some ⟨g, 0, none⟩)) := fun g x hg => ⟨(h g x hg).1, (h g x hg).2.mono hs hk⟩

theorem heap_lt {w : World} {b : Nat} {o : Obj} (h : w.heap[b]? = some o) : b < w.heap.size := (Array.getElem?_eq_some_iff.1 h).1

theorem MRep.owned_lt {N : Nat → Prop} {w0 w : World} {X : Nat → Prop} {mem : Mem} {ρ : Env} (m : MRep T N w0 w X mem ρ) {b : Nat} (h : owned mem ρ b) : N b ∧ b < w.heap.size := by
  obtain ⟨r, v, ho, hv, hb⟩ := h
  have hr := m.blk r
  cases hm : getM mem r with
  | no => rw [hm] at ho; simp [Blk.own] at ho
  | frz sh l => rw [hm] at ho; simp [Blk.own] at ho
  | rowx e l i x =>
    rw [hm, hv] at hr
    obtain ⟨b', off, cap, cur, e1, hN, hh, _, _, _, h0, _⟩ := hr
    injection e1 with e1
    subst e1
    simp only [vblock] at hb
    rw [if_neg (by omega)] at hb
    injection hb with hb
    subst hb
    exact ⟨hN, heap_lt hh⟩
  | rown sh e l =>
    rw [hm, hv] at hr
    obtain ⟨b', off, cap, cur, e1, hN, hh, _, _, _, h0, _⟩ := hr
    injection e1 with e1
    subst e1
    simp only [vblock] at hb
    rw [if_neg (by omega)] at hb
    injection hb with hb
    subst hb
    exact ⟨hN, heap_lt hh⟩
  | gen tag k l =>
    rw [hm, hv] at hr
    obtain ⟨v', b', ob, e1, e2, hN, hh, _⟩ := hr
    injection e1 with e1
    subst e1
    rw [e2] at hb
    injection hb with hb
    subst hb
    exact ⟨hN, heap_lt hh⟩
  | iter s p =>
    rw [hm, hv] at hr
    obtain ⟨b', e1, hN, hh⟩ := hr
    injection e1 with e1
    subst e1
    simp only [vblock, Option.some.injEq] at hb
    subst hb
    exact ⟨hN, heap_lt hh⟩
  | chunk t x =>
    rw [hm, hv] at hr
    obtain ⟨i, b', us, ty, _, e, hN, hh, _⟩ := hr
    injection e with e
    subst e
    simp only [vblock, Option.some.injEq] at hb
    subst hb
    exact ⟨hN, heap_lt hh⟩
  | row sh e l =>
    rw [hm, hv] at hr
    obtain ⟨v', e1, hr⟩ := hr
    injection e1 with e1
    subst e1
    rcases hr with ⟨_, rfl, _⟩ | ⟨b', off, cap, cur, rfl, hN, hh, _, _, _, h0, _⟩
    · cases ‹Option Addr› <;> simp [vblock] at hb
    · simp only [vblock] at hb
      rw [if_neg (by omega)] at hb
      injection hb with hb
      subst hb
      exact ⟨hN, heap_lt hh⟩

theorem MRep.forb_lt {N : Nat → Prop} {w0 w : World} {X : Nat → Prop} {mem : Mem} {ρ : Env} (m : MRep T N w0 w X mem ρ) {b : Nat} (h : Forb X mem ρ b) : b < w.heap.size := by
  rcases h with h | h
  · exact (m.low b h).1
  · exact (m.owned_lt h).2

/-- Nothing that was there has turned. -/
theorem MRep.grow {N : Nat → Prop} {w0 w w' : World} {X : Nat → Prop} {mem : Mem} {ρ : Env} (m : MRep T N w0 w X mem ρ) (hb : Below w.heap.size w w') : MRep T N w0 w' X mem ρ := by
  have hk : ∀ b, b < w.heap.size → ¬ Forb X mem ρ b → ¬ Forb X mem ρ b ∧ w'.heap[b]? = w.heap[b]? := fun b h1 h2 => ⟨h2, hb.block b h1⟩
  refine ⟨fun b h => ⟨Nat.lt_of_lt_of_le (m.low b h).1 hb.size, (m.low b h).2⟩, m.below.trans (.of hb), fun b h => m.szN b (Nat.le_trans hb.size h), fun r => ?_, m.inj, gl_mono m.gl hb.size hk⟩
  have hr := m.blk r
  cases hm : getM mem r with
  | no => rw [hm] at hr; exact hr
  | frz sh l =>
    rw [hm] at hr
    obtain ⟨v, h1, h2⟩ := hr
    exact ⟨v, h1, h2.mono hb.size hk⟩
  | rowx e l i x =>
    rw [hm] at hr
    obtain ⟨b, off, cap, cur, h2, h3, h4, h5, h6, h7, h0, h9, hi, h8, hx⟩ := hr
    exact ⟨b, off, cap, cur, h2, h3, by rw [hb.block b (heap_lt h4)]; exact h4, h5, h6, h7, h0, h9, hi, fun j h hj => (h8 j h hj).mono hb.size hk, hx.mono hb.size hk⟩
  | rown sh e l =>
    rw [hm] at hr
    obtain ⟨b, off, cap, cur, h2, h3, h4, h5, h6, h7, h0, h9, h8⟩ := hr
    exact ⟨b, off, cap, cur, h2, h3, by rw [hb.block b (heap_lt h4)]; exact h4, h5, h6, h7, h0, h9, fun i h => (h8 i h).mono hb.size hk⟩
  | iter s p =>
    rw [hm] at hr
    obtain ⟨b, h1, h2, h3⟩ := hr
    exact ⟨b, h1, h2, by rw [hb.block b (heap_lt h3)]; exact h3⟩
  | gen tag k l =>
    rw [hm] at hr
    obtain ⟨v, b, ob, h1, h2, h3, h4, h5⟩ := hr
    exact ⟨v, b, ob, h1, h2, h3, by rw [hb.block b (heap_lt h4)]; exact h4, h5⟩
  | chunk t x =>
    rw [hm] at hr
    obtain ⟨i, b, us, ty, h1, h2, h3, h4, h5, h7, h6⟩ := hr
    exact ⟨i, b, us, ty, h1, h2, h3, by rw [hb.block b (heap_lt h4)]; exact h4, h5, h7, h6.mono hb.size hk⟩
  | row sh e l =>
    rw [hm] at hr
    obtain ⟨v, h1, h2⟩ := hr
    refine ⟨v, h1, ?_⟩
    rcases h2 with h2 | ⟨b, off, cap, cur, h2, h3, h4, h5, h6, h7, h0, h9, h8⟩
    · exact .inl h2
    · exact .inr ⟨b, off, cap, cur, h2, h3, by rw [hb.block b (heap_lt h4)]; exact h4, h5, h6, h7, h0, h9, fun i h => (h8 i h).mono hb.size hk⟩

/-- What a step may turn. -/
structure Turn (w : World) (Y : Nat → Prop) (ρ : Env) (w' : World) (Y' : Nat → Prop) (ρ' : Env) (d : Option Nat) : Prop where
  env : ∀ r, ρ' r = none ∨ ρ' r = ρ r ∨ d = some r
  size : w.heap.size ≤ w'.heap.size
  keep : ∀ b, b < w.heap.size → ¬ Y b → ¬ Y' b ∧ w'.heap[b]? = w.heap[b]?

theorem Turn.refl (w : World) (Y : Nat → Prop) (ρ : Env) (d : Option Nat) : Turn w Y ρ w Y ρ d := ⟨fun _ => .inr (.inl rfl), Nat.le_refl _, fun _ _ h => ⟨h, rfl⟩⟩
theorem Turn.den {w w' : World} {Y Y' : Nat → Prop} {ρ ρ' : Env} {d : Option Nat} (t : Turn w Y ρ w' Y' ρ' d) {x : SV} {v : Value} (hn : ∀ r, d = some r → noref r x = true) (h : Den w Y ρ x v) : Den w' Y' ρ' x v := by
  refine (h.mono t.size t.keep).env fun r => ?_
  rcases t.env r with e | e | e
  · exact .inl e
  · exact .inr (.inl e)
  · exact .inr (.inr (hn r e))

/-- An operation, resolved: from memory mem it gives x and leaves mem'. -/
structure Ok (P : Program) (T : Nat → Option TI) (o : Oper) (e : Operand → SV) (mem : Mem) (x : SV) (mem' : Mem) : Prop where
  h : ∀ (a : Act) (N : Nat → Prop) (w0 w : World) (X : Nat → Prop) (ρ : Env), MRep T N w0 w X mem ρ → (∀ y ∈ o.op.operands, Den w (Forb X mem ρ) ρ (e y) (a.eval y)) →
    ∀ (K : Act → World → Prop) (Q : Exit → Act → World → Prop),
      (∀ u w' ρ', MRep T N w0 w' X mem' ρ' → Den w' (Forb X mem' ρ') ρ' x u → Turn w (Forb X mem ρ) ρ w' (Forb X mem' ρ') ρ' none → K (a.put o.dst u) w') → o.wp P a w K Q

theorem Ok.of_run {o : Oper} {e : Operand → SV} {mem : Mem} {x : SV}
    (h : ∀ (a : Act) (N : Nat → Prop) (w0 w : World) (X : Nat → Prop) (ρ : Env), MRep T N w0 w X mem ρ → (∀ y ∈ o.op.operands, Den w (Forb X mem ρ) ρ (e y) (a.eval y)) →
      ∃ u w', (execOp a.eval o).run P w = .ok (.value u) w' ∧ Den w' (Forb X mem ρ) ρ x u ∧ Below w.heap.size w w') : Ok P T o e mem x mem := by
  refine ⟨fun a N w0 w X ρ m hd K Q hK => ?_⟩
  obtain ⟨u, w', hr, hx, hb⟩ := h a N w0 w X ρ m hd
  unfold Oper.wp
  rw [hr]
  exact hK u w' ρ (m.grow hb) hx ⟨fun _ => .inr (.inl rfl), hb.size, fun b h1 h2 => ⟨h2, hb.block b h1⟩⟩

theorem POk.ok {o : Oper} {e : Operand → SV} {x : SV} (h : POk P o.op e x) (mem : Mem) : Ok P T o e mem x mem :=
  .of_run fun a N w0 w X ρ m hd => by
    obtain ⟨u, hr, hx⟩ := h.h o a w (Forb X mem ρ) ρ rfl hd
    exact ⟨u, w, hr, hx, Below.refl _ _⟩

/-! ### Reading -/
theorem run_loadCells_at (w : World) (b o : Nat) (us : List Value) (h : ∀ j u, us[j]? = some u → w.cell? ⟨b, o + j, none⟩ = some u) : (loadCells ⟨b, o, none⟩ us.length).run P w = .ok us.toArray w :=
  run_loadCells_list (P := P) w ⟨b, o, none⟩ us fun j v hv => by rw [addr_add]; exact h j v hv

/-- A load of type t at a place where the cells us lie. -/
theorem run_load_at {t : Nat} {i : TI} (tok : TOk P t i) (h1 : i.kind.aggB = false → i.size = 1) (w : World) (b o : Nat) (us : List Value) (hl : i.size ≤ us.length) (h : ∀ j u, us[j]? = some u → w.cell? ⟨b, o + j, none⟩ = some u) :
    (Instr.loadAt t (.pointer (some ⟨b, o, none⟩))).run P w = .ok (valAt i.shape us 0) w := by
  simp only [Instr.loadAt, Instr.sureAddr, Sem.run_bind, Sem.run_pure, Result.andThen_ok, loadVar, tok.isAgg, TI.shape]
  cases hb : i.kind.aggB
  · have h0 : 0 < us.length := by have := h1 hb; omega
    simp only [Bool.false_eq_true, if_false, valAt]
    have := h 0 _ (List.getElem?_eq_getElem h0)
    simp only [Nat.add_zero] at this
    simp [run_load, this, h0]
  · simp only [if_true, Sem.run_bind, tok.sizeOf, Result.andThen_ok, valAt, Nat.zero_mul, List.drop_zero]
    have hlen : (us.take i.size).length = i.size := by rw [List.length_take]; omega
    have := run_loadCells_at (P := P) w b o (us.take i.size) (fun j u hu => h j u (by
      rw [List.getElem?_take] at hu
      split at hu
      · exact hu
      · cases hu))
    rw [hlen] at this
    rw [this]
    simp
end Go.Proofs.YtligbjbkecmecaaDoor
