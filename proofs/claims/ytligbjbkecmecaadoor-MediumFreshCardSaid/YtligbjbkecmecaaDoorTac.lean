/- What the operations on lists and numbers are. -/
import Derived.Test.YtligbjbkecmecaaDoorTy
namespace Go.Proofs.YtligbjbkecmecaaDoor
set_option linter.unusedVariables false
set_option linter.unusedSimpArgs false
theorem oln (l : List SV) : O.ln l = l.length := O.hln l
theorem otk (n : Int) (l : List SV) : O.tk n l = l.take n.toNat := O.htk n l
theorem odr (n : Int) (l : List SV) : O.dr n l = l.drop n.toNat := O.hdr n l
theorem oap (l k : List SV) : O.ap l k = l ++ k := O.hap l k
theorem ost (l : List SV) (i : Nat) (y : SV) : O.st l i y = l.set i y := O.hst l i y
theorem orp (n : Int) (x : SV) : O.rp n x = List.replicate n.toNat x := O.hrp n x
theorem ocp (l : List SV) (a n : Nat) (ys : List SV) : O.cp l a n ys = l.take a ++ ys.take n ++ l.drop (a + min ys.length n) := O.hcp l a n ys
theorem osg (l : List SV) (a n : Nat) : O.sg l a n = (l.drop a).take n := O.hsg l a n
theorem otn (n : Int) : O.tn n = n.toNat := O.htn n
theorem oad (a : Nat) (n : Int) : O.ad a n = a + n.toNat := O.had a n
theorem osb (a : Nat) (n : Int) : O.sb a n = a - n.toNat := O.hsb a n
theorem osi (a n : Int) : O.si a n = a.toNat - n.toNat := O.hsi a n
theorem oby (s : ByteArray) : O.by' s = s.data.toList.map fun b => SV.int .u8 b.toNat := O.hby s
theorem pln (l : List SV) : (Classical.choice lo_ex).ln l = l.length := O.hln l
theorem ptk (n : Int) (l : List SV) : (Classical.choice lo_ex).tk n l = l.take n.toNat := O.htk n l
theorem pdr (n : Int) (l : List SV) : (Classical.choice lo_ex).dr n l = l.drop n.toNat := O.hdr n l
theorem pap (l k : List SV) : (Classical.choice lo_ex).ap l k = l ++ k := O.hap l k
theorem pst (l : List SV) (i : Nat) (y : SV) : (Classical.choice lo_ex).st l i y = l.set i y := O.hst l i y
theorem prp (n : Int) (x : SV) : (Classical.choice lo_ex).rp n x = List.replicate n.toNat x := O.hrp n x
theorem pcp (l : List SV) (a n : Nat) (ys : List SV) : (Classical.choice lo_ex).cp l a n ys = l.take a ++ ys.take n ++ l.drop (a + min ys.length n) := O.hcp l a n ys
theorem psg (l : List SV) (a n : Nat) : (Classical.choice lo_ex).sg l a n = (l.drop a).take n := O.hsg l a n
theorem ptn (n : Int) : (Classical.choice lo_ex).tn n = n.toNat := O.htn n
theorem pad (a : Nat) (n : Int) : (Classical.choice lo_ex).ad a n = a + n.toNat := O.had a n
theorem psb (a : Nat) (n : Int) : (Classical.choice lo_ex).sb a n = a - n.toNat := O.hsb a n
theorem psi (a n : Int) : (Classical.choice lo_ex).si a n = a.toNat - n.toNat := O.hsi a n
theorem pby (s : ByteArray) : (Classical.choice lo_ex).by' s = s.data.toList.map fun b => SV.int .u8 b.toNat := O.hby s
theorem cst (n : Nat) : @NatCast.natCast Int _ n = @Nat.cast Int _ n := rfl
theorem qv {A : Type} {p k : A → Prop} (z : A) (h : p z) (g : k z) : QV p k := ⟨⟨z, h, g⟩⟩
/-- A list of whole numbers, as values. -/
def ints (k : IntKind) (l : List Int) : List SV := l.map (SV.int k)
theorem ints_len (k : IntKind) (l : List Int) : (ints k l).length = l.length := by simp [ints]
/-- All of them. -/
theorem sm : (∀ l, O.ln l = l.length) ∧ (∀ n l, O.tk n l = l.take n.toNat) ∧ (∀ n l, O.dr n l = l.drop n.toNat) ∧ (∀ l k, O.ap l k = l ++ k) ∧ (∀ l i x, O.st l i x = l.set i x) ∧ (∀ n x, O.rp n x = List.replicate n.toNat x) ∧
    (∀ l a n ys, O.cp l a n ys = l.take a ++ ys.take n ++ l.drop (a + min ys.length n)) ∧ (∀ l a n, O.sg l a n = (l.drop a).take n) ∧ (∀ n, O.tn n = n.toNat) ∧ (∀ a n, O.ad a n = a + n.toNat) ∧ (∀ a n, O.sb a n = a - n.toNat) ∧ (∀ a n, O.si a n = a.toNat - n.toNat) ∧
    (∀ s, O.by' s = s.data.toList.map fun b => SV.int .u8 b.toNat) ∧
    (∀ l, (Classical.choice lo_ex).ln l = l.length) ∧ (∀ n l, (Classical.choice lo_ex).tk n l = l.take n.toNat) ∧ (∀ n l, (Classical.choice lo_ex).dr n l = l.drop n.toNat) ∧ (∀ l k, (Classical.choice lo_ex).ap l k = l ++ k) ∧ (∀ l i x, (Classical.choice lo_ex).st l i x = l.set i x) ∧
    (∀ n x, (Classical.choice lo_ex).rp n x = List.replicate n.toNat x) ∧ (∀ l a n ys, (Classical.choice lo_ex).cp l a n ys = l.take a ++ ys.take n ++ l.drop (a + min ys.length n)) ∧ (∀ l a n, (Classical.choice lo_ex).sg l a n = (l.drop a).take n) ∧ (∀ n, (Classical.choice lo_ex).tn n = n.toNat) ∧
    (∀ a n, (Classical.choice lo_ex).ad a n = a + n.toNat) ∧ (∀ a n, (Classical.choice lo_ex).sb a n = a - n.toNat) ∧ (∀ a n, (Classical.choice lo_ex).si a n = a.toNat - n.toNat) ∧ (∀ s, (Classical.choice lo_ex).by' s = s.data.toList.map fun b => SV.int .u8 b.toNat) ∧
    (∀ n : Nat, @NatCast.natCast Int _ n = @Nat.cast Int _ n) ∧ (∀ k l, (ints k l).length = l.length) ∧
    (∀ (A : Type) (n : Nat) (l : List A), (l.take n).length = min n l.length) ∧ (∀ (A : Type) (n : Nat) (l : List A), (l.drop n).length = l.length - n) ∧ (∀ (A : Type) (l k : List A), (l ++ k).length = l.length + k.length) ∧ (∀ (A : Type) (l : List A) (n : Nat) (x : A), (l.set n x).length = l.length) ∧
    (∀ (A : Type) (n : Nat) (x : A), (List.replicate n x).length = n) ∧ (∀ (A : Type) (x : A) (l : List A), (x :: l).length = l.length + 1) ∧ (∀ (A : Type), ([] : List A).length = 0) :=
  ⟨oln, otk, odr, oap, ost, orp, ocp, osg, otn, oad, osb, osi, oby, pln, ptk, pdr, pap, pst, prp, pcp, psg, ptn, pad, psb, psi, pby, cst, ints_len, fun _ _ _ => List.length_take, fun _ _ _ => List.length_drop, fun _ _ _ => List.length_append, fun _ _ _ _ => List.length_set, fun _ _ _ => List.length_replicate, fun _ _ _ => List.length_cons, fun _ => List.length_nil⟩
theorem q1w {req : Unit → Prop} {p k : Int → Prop} (g : ∀ z, p z → k z) (h : req () := by first | exact trivial | omega | (dsimp only; omega) | exact pow62 _ (by omega) | exact mul9 (by omega) (by omega) | (simp only [sm] at *; omega)) : Q1 req p k := q1 h g
theorem rqw {p : Unit → Prop} {A : Prop} (g : A) (h : p () := by first | exact trivial | omega | (dsimp only; omega) | (simp only [sm] at *; omega)) : Rq p (fun _ => A) := rq h g
theorem QC.tw {p : Unit → Prop} {k : Bool → Prop} (g : k true) (h : p () := by first | omega | (dsimp only; omega) | exact rfl | (simp only [sm] at *; omega)) : QC p k := QC.tt h g
theorem QC.fw {p : Unit → Prop} {k : Bool → Prop} (g : k false) (h : ¬ p () := by first | omega | (dsimp only; omega) | (simp only [sm] at *; omega)) : QC p k := QC.ff h g
theorem rqk {p : Unit → Prop} {A : Prop} (g : A) (h : p () := by (show kfitQ _ _; simp [kfitQ, IntKind.min, IntKind.max, IntKind.signed, IntKind.bits]; omega)) : Rq p (fun _ => A) := rq h g
theorem QC.t3 {p : Unit → Prop} {k : Bool → Prop} (g : k true) (h : p () := by (simp only [decide_true, Bool.and_true, Bool.and_self] <;> fail)) : QC p k := QC.tt h g
theorem QC.f3 {p : Unit → Prop} {k : Bool → Prop} (g : k false) (h : ¬ p () := by (simp only [decide_true, Bool.and_true, Bool.and_self, decide_false, Bool.false_and, reduceCtorEq, not_false_eq_true] <;> fail)) : QC p k := QC.ff h g
theorem ints_get {k : IntKind} {l : List Int} {i : Nat} {v : Int} (h : l[i]? = some v) : (ints k l)[i]? = some (SV.int k v) := by simp [ints, h]
theorem ints_at {k : IntKind} {l : List Int} (i : Nat) (h : i < l.length) : (ints k l)[i]? = some (SV.int k (l.getD i 0)) := by simp [ints, h]
theorem getD_mem {l : List Int} {i : Nat} (h : i < l.length) : l.getD i 0 ∈ l := by simp [List.getD, h]
theorem ints_app (k : IntKind) (l m : List Int) : ints k l ++ ints k m = ints k (l ++ m) := by simp [ints]
theorem ints_take (k : IntKind) (l : List Int) (n : Nat) : (ints k l).take n = ints k (l.take n) := by simp [ints]
theorem ints_drop (k : IntKind) (l : List Int) (n : Nat) : (ints k l).drop n = ints k (l.drop n) := by simp [ints]
theorem ints_set (k : IntKind) (l : List Int) (n : Nat) (v : Int) : (ints k l).set n (.int k v) = ints k (l.set n v) := by simp [ints, List.map_set]
theorem ints_rep (k : IntKind) (n : Nat) (v : Int) : List.replicate n (SV.int k v) = ints k (List.replicate n v) := by simp [ints]
end Go.Proofs.YtligbjbkecmecaaDoor
