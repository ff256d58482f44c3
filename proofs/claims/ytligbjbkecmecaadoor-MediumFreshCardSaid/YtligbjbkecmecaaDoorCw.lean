/- Walks of calls with closed arguments. -/
import Derived.Test.YtligbjbkecmecaaDoorTac
namespace Go.Proofs.YtligbjbkecmecaaDoor
set_option linter.unusedVariables false
set_option linter.unusedSimpArgs false
theorem qvIdx {n : Int} {l : List SV} {k : Nat × SV → Prop} (y : SV) (h : l[n.toNat]? = some y) (hn : 0 ≤ n) (g : k (n.toNat, y)) : QV (fun q : Nat × SV => n = (q.1 : Int) ∧ l[q.1]? = some q.2) k := ⟨⟨(n.toNat, y), ⟨by simp; omega, h⟩, g⟩⟩
theorem qvRow {n : Int} {l : List SV} {k : Nat → Prop} (h : n.toNat < l.length) (hn : 0 ≤ n) (g : k n.toNat) : QV (fun q : Nat => n = (q : Int) ∧ q < O.ln l) k := ⟨⟨n.toNat, ⟨by omega, by rw [oln]; exact h⟩, g⟩⟩
theorem qvArr {n : Int} {m : Nat} {k : Nat → Prop} (h : n.toNat < m) (hn : 0 ≤ n) (g : k n.toNat) : QV (fun q : Nat => n = (q : Int) ∧ q < m) k := ⟨⟨n.toNat, ⟨by omega, h⟩, g⟩⟩
theorem qvSome {l : List SV} {j : Nat} {k : SV → Prop} (y : SV) (h : l[j]? = some y) (g : k y) : QV (fun z => l[j]? = some z) k := ⟨⟨y, h, g⟩⟩
theorem cwn : (∀ l, (Classical.choice lo_ex).ln l = l.length) ∧ (∀ n l, (Classical.choice lo_ex).tk n l = l.take n.toNat) ∧ (∀ n l, (Classical.choice lo_ex).dr n l = l.drop n.toNat) ∧ (∀ l k, (Classical.choice lo_ex).ap l k = l ++ k) ∧ (∀ l i x, (Classical.choice lo_ex).st l i x = l.set i x) ∧
    (∀ n x, (Classical.choice lo_ex).rp n x = List.replicate n.toNat x) ∧ (∀ l a n ys, (Classical.choice lo_ex).cp l a n ys = l.take a ++ ys.take n ++ l.drop (a + min ys.length n)) ∧ (∀ l a n, (Classical.choice lo_ex).sg l a n = (l.drop a).take n) ∧ (∀ n, (Classical.choice lo_ex).tn n = n.toNat) ∧
    (∀ a n, (Classical.choice lo_ex).ad a n = a + n.toNat) ∧ (∀ a n, (Classical.choice lo_ex).sb a n = a - n.toNat) ∧ (∀ a n, (Classical.choice lo_ex).si a n = a.toNat - n.toNat) ∧ (∀ s, (Classical.choice lo_ex).by' s = s.data.toList.map fun b => SV.int .u8 b.toNat) :=
  ⟨pln, ptk, pdr, pap, pst, prp, pcp, psg, ptn, pad, psb, psi, pby⟩
structure Peek (f : Nat) (args : List SV) (lent : Option (Nat × SV)) : Prop where
  h : False
theorem peekq {G : Nat → CT → Prop} {f : Nat} {args : List SV} {lent : Option (Nat × SV)} {κ : Bool → CT → Prop} {alt : Unit → Prop} (h : Peek f args lent) : CallQ G f args lent κ alt := h.h.elim
structure PeekG (f : Nat) (az : List SV) (QS : List (Nat × Nat × Nat × SV)) : Prop where
  h : False
theorem peekgq {G : Nat → CT → Prop} {f : Nat} {az : List SV} {QS : List (Nat × Nat × Nat × SV)} {κ : SV → List SV → Blk → Prop} (h : PeekG f az QS) : GenQ G f az QS κ := h.h.elim
end Go.Proofs.YtligbjbkecmecaaDoor
