/- Contract of recent.Valid. -/
import Derived.Test.YticojcjoikhkmaaDoorRB
namespace Go.Proofs.YticojcjoikhkmaaDoor
set_option linter.unusedVariables false
set_option linter.unusedSimpArgs false
open Go.RowKit
set_option maxHeartbeats 4000000
theorem vsource_c (m s e : Int) (r : Bool) (hr : r = someA m s e) : Good 24 (pu [.agg [.int .i64 m, .int .u16 s, .int .u64 e]] (.bool r)) := by
  obtain ⟨b, hb⟩ : ∃ b, b = decide ((m = 0 ∧ s = 0 ∧ e = 0) ∨ (m = 2 ∧ e = 0) ∨ (m = 3 ∧ s = 0)) := ⟨_, rfl⟩
  have h1 := avalid_c m s e b hb
  unfold someA at hr
  refine Good.of Tryd.func24 rfl (by rfl) (by kernel_rfl) ?_
  cbv
  (repeat' (first
    | (refine q1 (by first | exact trivial | omega | (dsimp only; omega) | exact pow62 _ (by omega) | exact mul9 (by omega) (by omega) | (simp only [oln, otk, odr, oap, ost, orp, ocp, osg, otn, oad, osb, osi, oby, pln, ptk, pdr, pap, pst, prp, pcp, psg, ptn, pad, psb, psi, pby, cst, ints_len, List.length_take, List.length_drop, List.length_append, List.length_set, List.length_replicate, List.length_cons, List.length_nil] at *; omega)) (fun z hz => ?_); (try simp only at hz); cbv)
    | (refine rq (by first | exact trivial | omega | (dsimp only; omega) | (simp only [oln, otk, odr, oap, ost, orp, ocp, osg, otn, oad, osb, osi, oby, pln, ptk, pdr, pap, pst, prp, pcp, psg, ptn, pad, psb, psi, pby, cst, ints_len, List.length_take, List.length_drop, List.length_append, List.length_set, List.length_replicate, List.length_cons, List.length_nil] at *; omega)) ?_; cbv)
    | (refine QC.tt (by first | omega | (dsimp only; omega) | exact rfl | (simp only [oln, otk, odr, oap, ost, orp, ocp, osg, otn, oad, osb, osi, oby, pln, ptk, pdr, pap, pst, prp, pcp, psg, ptn, pad, psb, psi, pby, cst, ints_len, List.length_take, List.length_drop, List.length_append, List.length_set, List.length_replicate, List.length_cons, List.length_nil] at *; omega)) ?_; cbv)
    | (refine QC.tt ?_ ?_; (focus (simp only [decide_true, Bool.and_true, Bool.and_self] <;> fail)); cbv)
    | (refine QC.ff ?_ ?_; (focus (simp only [decide_true, Bool.and_true, Bool.and_self, decide_false, Bool.false_and, reduceCtorEq, not_false_eq_true] <;> fail)); cbv)
    | (refine QC.ff (by first | omega | (dsimp only; omega) | (simp only [oln, otk, odr, oap, ost, orp, ocp, osg, otn, oad, osb, osi, oby, pln, ptk, pdr, pap, pst, prp, pcp, psg, ptn, pad, psb, psi, pby, cst, ints_len, List.length_take, List.length_drop, List.length_append, List.length_set, List.length_replicate, List.length_cons, List.length_nil] at *; omega)) ?_; cbv)
    | (refine QC.mk (fun hc => ?_) (fun hc => ?_) <;> (try dsimp only at hc) <;> cbv)
    | (refine br_mk2 (fun hb => ?_) (fun hb => ?_) <;> (try subst hb) <;> cbv)))
  (refine callq (h1) rfl rfl ?_; cbv; (repeat' (first
    | (refine q1 (by first | exact trivial | omega | (dsimp only; omega) | exact pow62 _ (by omega) | exact mul9 (by omega) (by omega) | (simp only [oln, otk, odr, oap, ost, orp, ocp, osg, otn, oad, osb, osi, oby, pln, ptk, pdr, pap, pst, prp, pcp, psg, ptn, pad, psb, psi, pby, cst, ints_len, List.length_take, List.length_drop, List.length_append, List.length_set, List.length_replicate, List.length_cons, List.length_nil] at *; omega)) (fun z hz => ?_); (try simp only at hz); cbv)
    | (refine rq (by first | exact trivial | omega | (dsimp only; omega) | (simp only [oln, otk, odr, oap, ost, orp, ocp, osg, otn, oad, osb, osi, oby, pln, ptk, pdr, pap, pst, prp, pcp, psg, ptn, pad, psb, psi, pby, cst, ints_len, List.length_take, List.length_drop, List.length_append, List.length_set, List.length_replicate, List.length_cons, List.length_nil] at *; omega)) ?_; cbv)
    | (refine QC.tt (by first | omega | (dsimp only; omega) | exact rfl | (simp only [oln, otk, odr, oap, ost, orp, ocp, osg, otn, oad, osb, osi, oby, pln, ptk, pdr, pap, pst, prp, pcp, psg, ptn, pad, psb, psi, pby, cst, ints_len, List.length_take, List.length_drop, List.length_append, List.length_set, List.length_replicate, List.length_cons, List.length_nil] at *; omega)) ?_; cbv)
    | (refine QC.tt ?_ ?_; (focus (simp only [decide_true, Bool.and_true, Bool.and_self] <;> fail)); cbv)
    | (refine QC.ff ?_ ?_; (focus (simp only [decide_true, Bool.and_true, Bool.and_self, decide_false, Bool.false_and, reduceCtorEq, not_false_eq_true] <;> fail)); cbv)
    | (refine QC.ff (by first | omega | (dsimp only; omega) | (simp only [oln, otk, odr, oap, ost, orp, ocp, osg, otn, oad, osb, osi, oby, pln, ptk, pdr, pap, pst, prp, pcp, psg, ptn, pad, psb, psi, pby, cst, ints_len, List.length_take, List.length_drop, List.length_append, List.length_set, List.length_replicate, List.length_cons, List.length_nil] at *; omega)) ?_; cbv)
    | (refine QC.mk (fun hc => ?_) (fun hc => ?_) <;> (try dsimp only at hc) <;> cbv)
    | (refine br_mk2 (fun hb => ?_) (fun hb => ?_) <;> (try subst hb) <;> cbv))))
  all_goals (first | have hb := of_decide_eq_true hb.symm | have hb := of_decide_eq_false hb.symm)
  all_goals refine ⟨?_, rfl, rfl⟩
  all_goals rw [hr]
  all_goals first | (rw [decide_eq_true (by omega)]) | (rw [decide_eq_false (by omega)])
def timeT (t : Int) : Bool := decide (0 ≤ t ∧ t ≤ 1099511627776)
theorem vtime_c (t : Int) (r : Bool) (hr : r = timeT t) : Good 25 (pu [.int .i64 t] (.bool r)) := by
  unfold timeT at hr
  refine Good.of Tryd.func25 rfl (by rfl) (by kernel_rfl) ?_
  cbv
  (repeat' (first
    | (refine q1 (by first | exact trivial | omega | (dsimp only; omega) | exact pow62 _ (by omega) | exact mul9 (by omega) (by omega) | (simp only [oln, otk, odr, oap, ost, orp, ocp, osg, otn, oad, osb, osi, oby, pln, ptk, pdr, pap, pst, prp, pcp, psg, ptn, pad, psb, psi, pby, cst, ints_len, List.length_take, List.length_drop, List.length_append, List.length_set, List.length_replicate, List.length_cons, List.length_nil] at *; omega)) (fun z hz => ?_); (try simp only at hz); cbv)
    | (refine rq (by first | exact trivial | omega | (dsimp only; omega) | (simp only [oln, otk, odr, oap, ost, orp, ocp, osg, otn, oad, osb, osi, oby, pln, ptk, pdr, pap, pst, prp, pcp, psg, ptn, pad, psb, psi, pby, cst, ints_len, List.length_take, List.length_drop, List.length_append, List.length_set, List.length_replicate, List.length_cons, List.length_nil] at *; omega)) ?_; cbv)
    | (refine QC.tt (by first | omega | (dsimp only; omega) | exact rfl | (simp only [oln, otk, odr, oap, ost, orp, ocp, osg, otn, oad, osb, osi, oby, pln, ptk, pdr, pap, pst, prp, pcp, psg, ptn, pad, psb, psi, pby, cst, ints_len, List.length_take, List.length_drop, List.length_append, List.length_set, List.length_replicate, List.length_cons, List.length_nil] at *; omega)) ?_; cbv)
    | (refine QC.tt ?_ ?_; (focus (simp only [decide_true, Bool.and_true, Bool.and_self] <;> fail)); cbv)
    | (refine QC.ff ?_ ?_; (focus (simp only [decide_true, Bool.and_true, Bool.and_self, decide_false, Bool.false_and, reduceCtorEq, not_false_eq_true] <;> fail)); cbv)
    | (refine QC.ff (by first | omega | (dsimp only; omega) | (simp only [oln, otk, odr, oap, ost, orp, ocp, osg, otn, oad, osb, osi, oby, pln, ptk, pdr, pap, pst, prp, pcp, psg, ptn, pad, psb, psi, pby, cst, ints_len, List.length_take, List.length_drop, List.length_append, List.length_set, List.length_replicate, List.length_cons, List.length_nil] at *; omega)) ?_; cbv)
    | (refine QC.mk (fun hc => ?_) (fun hc => ?_) <;> (try dsimp only at hc) <;> cbv)
    | (refine br_mk2 (fun hb => ?_) (fun hb => ?_) <;> (try subst hb) <;> cbv)))
  all_goals refine ⟨?_, rfl, rfl⟩
  all_goals rw [hr]
  all_goals first | (rw [decide_eq_true (by omega)]) | (rw [decide_eq_false (by omega)])
/-- Is the entry number i of a valid list as it must be? -/
def ok1 (l : List Sn) (i : Nat) (x : Sn) : Bool := someA x.m x.s x.e && timeT x.u && !((l.take i).any (hitS x.m x.s x.e x.q))
def VS (l : List Sn) : Prop := l.length ≤ 32 ∧ ∀ (i : Nat) (x : Sn), l[i]? = some x → ok1 l i x = true
theorem valid_c (l : List Sn) (L : List SV) (hL : L = snL l) (hl : l.length ≤ 3600000000000) (b : Bool) (hb : b = true ↔ VS l) : Good 18 (pu [.lst (some 5) L] (.bool b)) := by
  have hLl : L.length = l.length := by rw [hL, snL_len]
  have hE := fun i hi => snL_at hL i hi
  have hlong : 32 < l.length → b = false := fun h => by
    cases b with
    | false => rfl
    | true => have := (hb.1 rfl).1; omega
  have hbad : ∀ (i : Nat) (x : Sn), l[i]? = some x → ok1 l i x = false → b = false := fun i x hx h => by
    cases b with
    | false => rfl
    | true => have := (hb.1 rfl).2 i x hx; rw [h] at this; cases this
  have hgood : l.length ≤ 32 → (∀ (i : Nat) (x : Sn), l[i]? = some x → ok1 l i x = true) → b = true := fun h1 h2 => hb.2 ⟨h1, h2⟩
  have W : Wrap ((32 < l.length → b = false) ∧ (∀ (i : Nat) (x : Sn), l[i]? = some x → ok1 l i x = false → b = false) ∧ (l.length ≤ 32 → (∀ (i : Nat) (x : Sn), l[i]? = some x → ok1 l i x = true) → b = true)) := ⟨hlong, hbad, hgood⟩
  clear hlong hbad hgood hb
  refine Good.of Tryd.func18 rfl (by rfl) (by kernel_rfl) ?_
  cbv
  (repeat' (first
    | (refine q1 (by first | exact trivial | omega | (dsimp only; omega) | exact pow62 _ (by omega) | exact mul9 (by omega) (by omega) | (simp only [oln, otk, odr, oap, ost, orp, ocp, osg, otn, oad, osb, osi, oby, pln, ptk, pdr, pap, pst, prp, pcp, psg, ptn, pad, psb, psi, pby, cst, ints_len, List.length_take, List.length_drop, List.length_append, List.length_set, List.length_replicate, List.length_cons, List.length_nil] at *; omega)) (fun z hz => ?_); (try simp only at hz); cbv)
    | (refine rq (by first | exact trivial | omega | (dsimp only; omega) | (simp only [oln, otk, odr, oap, ost, orp, ocp, osg, otn, oad, osb, osi, oby, pln, ptk, pdr, pap, pst, prp, pcp, psg, ptn, pad, psb, psi, pby, cst, ints_len, List.length_take, List.length_drop, List.length_append, List.length_set, List.length_replicate, List.length_cons, List.length_nil] at *; omega)) ?_; cbv)
    | (refine QC.tt (by first | omega | (dsimp only; omega) | exact rfl | (simp only [oln, otk, odr, oap, ost, orp, ocp, osg, otn, oad, osb, osi, oby, pln, ptk, pdr, pap, pst, prp, pcp, psg, ptn, pad, psb, psi, pby, cst, ints_len, List.length_take, List.length_drop, List.length_append, List.length_set, List.length_replicate, List.length_cons, List.length_nil] at *; omega)) ?_; cbv)
    | (refine QC.tt ?_ ?_; (focus (simp only [decide_true, Bool.and_true, Bool.and_self] <;> fail)); cbv)
    | (refine QC.ff ?_ ?_; (focus (simp only [decide_true, Bool.and_true, Bool.and_self, decide_false, Bool.false_and, reduceCtorEq, not_false_eq_true] <;> fail)); cbv)
    | (refine QC.ff (by first | omega | (dsimp only; omega) | (simp only [oln, otk, odr, oap, ost, orp, ocp, osg, otn, oad, osb, osi, oby, pln, ptk, pdr, pap, pst, prp, pcp, psg, ptn, pad, psb, psi, pby, cst, ints_len, List.length_take, List.length_drop, List.length_append, List.length_set, List.length_replicate, List.length_cons, List.length_nil] at *; omega)) ?_; cbv)
    | (refine QC.mk (fun hc => ?_) (fun hc => ?_) <;> (try dsimp only at hc) <;> cbv)
    | (refine br_mk2 (fun hb => ?_) (fun hb => ?_) <;> (try subst hb) <;> cbv)))
  · refine ⟨?_, rfl, rfl⟩
    rw [W.h.1 (by (first | omega | (simp only [cst] at *; omega) | (simp only [oln, otk, odr, oap, ost, orp, ocp, osg, otn, oad, osb, osi, oby, pln, ptk, pdr, pap, pst, prp, pcp, psg, ptn, pad, psb, psi, pby, cst, ints_len, List.length_take, List.length_drop, List.length_append, List.length_set, List.length_replicate, List.length_cons, List.length_nil] at *; omega)))]
  refine loopQ (A := Nat × Int) (fun p => p.2 = p.1 ∧ p.1 ≤ l.length ∧ ∀ (k : Nat) (y : Sn), l[k]? = some y → k < p.1 → ok1 l k y = true) (fun p => l.length - p.1) (fun p => [(10, .int .i64 p.2)]) (fun p => [(4, .no)]) (0, 0) ⟨rfl, Nat.zero_le _, fun k y _ h => absurd h (Nat.not_lt_zero k)⟩ ?_ ?_
  · cbv
  · intro ⟨i, j⟩ hh
    have hj : j = (i : Int) := hh.1
    have hi : i ≤ l.length := hh.2.1
    have hk := hh.2.2
    dsimp only at hk
    clear hh
    have hmk : True := trivial
    cbv
    (repeat' (first
    | (refine q1 (by first | exact trivial | omega | (dsimp only; omega) | exact pow62 _ (by omega) | exact mul9 (by omega) (by omega) | (simp only [oln, otk, odr, oap, ost, orp, ocp, osg, otn, oad, osb, osi, oby, pln, ptk, pdr, pap, pst, prp, pcp, psg, ptn, pad, psb, psi, pby, cst, ints_len, List.length_take, List.length_drop, List.length_append, List.length_set, List.length_replicate, List.length_cons, List.length_nil] at *; omega)) (fun z hz => ?_); (try simp only at hz); cbv)
    | (refine rq (by first | exact trivial | omega | (dsimp only; omega) | (simp only [oln, otk, odr, oap, ost, orp, ocp, osg, otn, oad, osb, osi, oby, pln, ptk, pdr, pap, pst, prp, pcp, psg, ptn, pad, psb, psi, pby, cst, ints_len, List.length_take, List.length_drop, List.length_append, List.length_set, List.length_replicate, List.length_cons, List.length_nil] at *; omega)) ?_; cbv)
    | (refine QC.tt (by first | omega | (dsimp only; omega) | exact rfl | (simp only [oln, otk, odr, oap, ost, orp, ocp, osg, otn, oad, osb, osi, oby, pln, ptk, pdr, pap, pst, prp, pcp, psg, ptn, pad, psb, psi, pby, cst, ints_len, List.length_take, List.length_drop, List.length_append, List.length_set, List.length_replicate, List.length_cons, List.length_nil] at *; omega)) ?_; cbv)
    | (refine QC.tt ?_ ?_; (focus (simp only [decide_true, Bool.and_true, Bool.and_self] <;> fail)); cbv)
    | (refine QC.ff ?_ ?_; (focus (simp only [decide_true, Bool.and_true, Bool.and_self, decide_false, Bool.false_and, reduceCtorEq, not_false_eq_true] <;> fail)); cbv)
    | (refine QC.ff (by first | omega | (dsimp only; omega) | (simp only [oln, otk, odr, oap, ost, orp, ocp, osg, otn, oad, osb, osi, oby, pln, ptk, pdr, pap, pst, prp, pcp, psg, ptn, pad, psb, psi, pby, cst, ints_len, List.length_take, List.length_drop, List.length_append, List.length_set, List.length_replicate, List.length_cons, List.length_nil] at *; omega)) ?_; cbv)
    | (refine QC.mk (fun hc => ?_) (fun hc => ?_) <;> (try dsimp only at hc) <;> cbv)
    | (refine br_mk2 (fun hb => ?_) (fun hb => ?_) <;> (try subst hb) <;> cbv)))
    · have hlt : i < l.length := by (first | omega | (simp only [cst] at *; omega) | (simp only [oln, otk, odr, oap, ost, orp, ocp, osg, otn, oad, osb, osi, oby, pln, ptk, pdr, pap, pst, prp, pcp, psg, ptn, pad, psb, psi, pby, cst, ints_len, List.length_take, List.length_drop, List.length_append, List.length_set, List.length_replicate, List.length_cons, List.length_nil] at *; omega))
      obtain ⟨m2, s2, e2, q2, u2, hx, hx', hLi⟩ := hE i hlt
      obtain ⟨b1, hb1⟩ : ∃ b, b = someA m2 s2 e2 := ⟨_, rfl⟩
      obtain ⟨b2, hb2⟩ : ∃ b, b = timeT u2 := ⟨_, rfl⟩
      obtain ⟨b3, hb3⟩ : ∃ b, b = (l.take i).any (hitS m2 s2 e2 q2) := ⟨_, rfl⟩
      have g1 := vsource_c m2 s2 e2 b1 hb1
      have g2 := vtime_c u2 b2 hb2
      have g3 := is_c m2 s2 e2 q2
      have hok : ok1 l i ⟨m2, s2, e2, q2, u2⟩ = (b1 && b2 && !b3) := by rw [hb1, hb2, hb3]; rfl
      (refine qv (i, _) ⟨hj, hLi⟩ ?_; cbv; (repeat' (first
    | (refine q1 (by first | exact trivial | omega | (dsimp only; omega) | exact pow62 _ (by omega) | exact mul9 (by omega) (by omega) | (simp only [oln, otk, odr, oap, ost, orp, ocp, osg, otn, oad, osb, osi, oby, pln, ptk, pdr, pap, pst, prp, pcp, psg, ptn, pad, psb, psi, pby, cst, ints_len, List.length_take, List.length_drop, List.length_append, List.length_set, List.length_replicate, List.length_cons, List.length_nil] at *; omega)) (fun z hz => ?_); (try simp only at hz); cbv)
    | (refine rq (by first | exact trivial | omega | (dsimp only; omega) | (simp only [oln, otk, odr, oap, ost, orp, ocp, osg, otn, oad, osb, osi, oby, pln, ptk, pdr, pap, pst, prp, pcp, psg, ptn, pad, psb, psi, pby, cst, ints_len, List.length_take, List.length_drop, List.length_append, List.length_set, List.length_replicate, List.length_cons, List.length_nil] at *; omega)) ?_; cbv)
    | (refine QC.tt (by first | omega | (dsimp only; omega) | exact rfl | (simp only [oln, otk, odr, oap, ost, orp, ocp, osg, otn, oad, osb, osi, oby, pln, ptk, pdr, pap, pst, prp, pcp, psg, ptn, pad, psb, psi, pby, cst, ints_len, List.length_take, List.length_drop, List.length_append, List.length_set, List.length_replicate, List.length_cons, List.length_nil] at *; omega)) ?_; cbv)
    | (refine QC.tt ?_ ?_; (focus (simp only [decide_true, Bool.and_true, Bool.and_self] <;> fail)); cbv)
    | (refine QC.ff ?_ ?_; (focus (simp only [decide_true, Bool.and_true, Bool.and_self, decide_false, Bool.false_and, reduceCtorEq, not_false_eq_true] <;> fail)); cbv)
    | (refine QC.ff (by first | omega | (dsimp only; omega) | (simp only [oln, otk, odr, oap, ost, orp, ocp, osg, otn, oad, osb, osi, oby, pln, ptk, pdr, pap, pst, prp, pcp, psg, ptn, pad, psb, psi, pby, cst, ints_len, List.length_take, List.length_drop, List.length_append, List.length_set, List.length_replicate, List.length_cons, List.length_nil] at *; omega)) ?_; cbv)
    | (refine QC.mk (fun hc => ?_) (fun hc => ?_) <;> (try dsimp only at hc) <;> cbv)
    | (refine br_mk2 (fun hb => ?_) (fun hb => ?_) <;> (try subst hb) <;> cbv))))
      (refine callq (g1) rfl rfl ?_; cbv; (repeat' (first
    | (refine q1 (by first | exact trivial | omega | (dsimp only; omega) | exact pow62 _ (by omega) | exact mul9 (by omega) (by omega) | (simp only [oln, otk, odr, oap, ost, orp, ocp, osg, otn, oad, osb, osi, oby, pln, ptk, pdr, pap, pst, prp, pcp, psg, ptn, pad, psb, psi, pby, cst, ints_len, List.length_take, List.length_drop, List.length_append, List.length_set, List.length_replicate, List.length_cons, List.length_nil] at *; omega)) (fun z hz => ?_); (try simp only at hz); cbv)
    | (refine rq (by first | exact trivial | omega | (dsimp only; omega) | (simp only [oln, otk, odr, oap, ost, orp, ocp, osg, otn, oad, osb, osi, oby, pln, ptk, pdr, pap, pst, prp, pcp, psg, ptn, pad, psb, psi, pby, cst, ints_len, List.length_take, List.length_drop, List.length_append, List.length_set, List.length_replicate, List.length_cons, List.length_nil] at *; omega)) ?_; cbv)
    | (refine QC.tt (by first | omega | (dsimp only; omega) | exact rfl | (simp only [oln, otk, odr, oap, ost, orp, ocp, osg, otn, oad, osb, osi, oby, pln, ptk, pdr, pap, pst, prp, pcp, psg, ptn, pad, psb, psi, pby, cst, ints_len, List.length_take, List.length_drop, List.length_append, List.length_set, List.length_replicate, List.length_cons, List.length_nil] at *; omega)) ?_; cbv)
    | (refine QC.tt ?_ ?_; (focus (simp only [decide_true, Bool.and_true, Bool.and_self] <;> fail)); cbv)
    | (refine QC.ff ?_ ?_; (focus (simp only [decide_true, Bool.and_true, Bool.and_self, decide_false, Bool.false_and, reduceCtorEq, not_false_eq_true] <;> fail)); cbv)
    | (refine QC.ff (by first | omega | (dsimp only; omega) | (simp only [oln, otk, odr, oap, ost, orp, ocp, osg, otn, oad, osb, osi, oby, pln, ptk, pdr, pap, pst, prp, pcp, psg, ptn, pad, psb, psi, pby, cst, ints_len, List.length_take, List.length_drop, List.length_append, List.length_set, List.length_replicate, List.length_cons, List.length_nil] at *; omega)) ?_; cbv)
    | (refine QC.mk (fun hc => ?_) (fun hc => ?_) <;> (try dsimp only at hc) <;> cbv)
    | (refine br_mk2 (fun hb => ?_) (fun hb => ?_) <;> (try subst hb) <;> cbv))))
      · (refine callq (g2) rfl rfl ?_; cbv; (repeat' (first
    | (refine q1 (by first | exact trivial | omega | (dsimp only; omega) | exact pow62 _ (by omega) | exact mul9 (by omega) (by omega) | (simp only [oln, otk, odr, oap, ost, orp, ocp, osg, otn, oad, osb, osi, oby, pln, ptk, pdr, pap, pst, prp, pcp, psg, ptn, pad, psb, psi, pby, cst, ints_len, List.length_take, List.length_drop, List.length_append, List.length_set, List.length_replicate, List.length_cons, List.length_nil] at *; omega)) (fun z hz => ?_); (try simp only at hz); cbv)
    | (refine rq (by first | exact trivial | omega | (dsimp only; omega) | (simp only [oln, otk, odr, oap, ost, orp, ocp, osg, otn, oad, osb, osi, oby, pln, ptk, pdr, pap, pst, prp, pcp, psg, ptn, pad, psb, psi, pby, cst, ints_len, List.length_take, List.length_drop, List.length_append, List.length_set, List.length_replicate, List.length_cons, List.length_nil] at *; omega)) ?_; cbv)
    | (refine QC.tt (by first | omega | (dsimp only; omega) | exact rfl | (simp only [oln, otk, odr, oap, ost, orp, ocp, osg, otn, oad, osb, osi, oby, pln, ptk, pdr, pap, pst, prp, pcp, psg, ptn, pad, psb, psi, pby, cst, ints_len, List.length_take, List.length_drop, List.length_append, List.length_set, List.length_replicate, List.length_cons, List.length_nil] at *; omega)) ?_; cbv)
    | (refine QC.tt ?_ ?_; (focus (simp only [decide_true, Bool.and_true, Bool.and_self] <;> fail)); cbv)
    | (refine QC.ff ?_ ?_; (focus (simp only [decide_true, Bool.and_true, Bool.and_self, decide_false, Bool.false_and, reduceCtorEq, not_false_eq_true] <;> fail)); cbv)
    | (refine QC.ff (by first | omega | (dsimp only; omega) | (simp only [oln, otk, odr, oap, ost, orp, ocp, osg, otn, oad, osb, osi, oby, pln, ptk, pdr, pap, pst, prp, pcp, psg, ptn, pad, psb, psi, pby, cst, ints_len, List.length_take, List.length_drop, List.length_append, List.length_set, List.length_replicate, List.length_cons, List.length_nil] at *; omega)) ?_; cbv)
    | (refine QC.mk (fun hc => ?_) (fun hc => ?_) <;> (try dsimp only at hc) <;> cbv)
    | (refine br_mk2 (fun hb => ?_) (fun hb => ?_) <;> (try subst hb) <;> cbv))))
        · (refine callq (g3) rfl rfl ?_; cbv; (repeat' (first
    | (refine q1 (by first | exact trivial | omega | (dsimp only; omega) | exact pow62 _ (by omega) | exact mul9 (by omega) (by omega) | (simp only [oln, otk, odr, oap, ost, orp, ocp, osg, otn, oad, osb, osi, oby, pln, ptk, pdr, pap, pst, prp, pcp, psg, ptn, pad, psb, psi, pby, cst, ints_len, List.length_take, List.length_drop, List.length_append, List.length_set, List.length_replicate, List.length_cons, List.length_nil] at *; omega)) (fun z hz => ?_); (try simp only at hz); cbv)
    | (refine rq (by first | exact trivial | omega | (dsimp only; omega) | (simp only [oln, otk, odr, oap, ost, orp, ocp, osg, otn, oad, osb, osi, oby, pln, ptk, pdr, pap, pst, prp, pcp, psg, ptn, pad, psb, psi, pby, cst, ints_len, List.length_take, List.length_drop, List.length_append, List.length_set, List.length_replicate, List.length_cons, List.length_nil] at *; omega)) ?_; cbv)
    | (refine QC.tt (by first | omega | (dsimp only; omega) | exact rfl | (simp only [oln, otk, odr, oap, ost, orp, ocp, osg, otn, oad, osb, osi, oby, pln, ptk, pdr, pap, pst, prp, pcp, psg, ptn, pad, psb, psi, pby, cst, ints_len, List.length_take, List.length_drop, List.length_append, List.length_set, List.length_replicate, List.length_cons, List.length_nil] at *; omega)) ?_; cbv)
    | (refine QC.tt ?_ ?_; (focus (simp only [decide_true, Bool.and_true, Bool.and_self] <;> fail)); cbv)
    | (refine QC.ff ?_ ?_; (focus (simp only [decide_true, Bool.and_true, Bool.and_self, decide_false, Bool.false_and, reduceCtorEq, not_false_eq_true] <;> fail)); cbv)
    | (refine QC.ff (by first | omega | (dsimp only; omega) | (simp only [oln, otk, odr, oap, ost, orp, ocp, osg, otn, oad, osb, osi, oby, pln, ptk, pdr, pap, pst, prp, pcp, psg, ptn, pad, psb, psi, pby, cst, ints_len, List.length_take, List.length_drop, List.length_append, List.length_set, List.length_replicate, List.length_cons, List.length_nil] at *; omega)) ?_; cbv)
    | (refine QC.mk (fun hc => ?_) (fun hc => ?_) <;> (try dsimp only at hc) <;> cbv)
    | (refine br_mk2 (fun hb => ?_) (fun hb => ?_) <;> (try subst hb) <;> cbv))))
          have g4 := contains_c (l.take i) (O.tk j L) (by rw [otk, hL, snL, snL, ← List.map_take]; congr 2; (first | omega | (simp only [cst] at *; omega) | (simp only [oln, otk, odr, oap, ost, orp, ocp, osg, otn, oad, osb, osi, oby, pln, ptk, pdr, pap, pst, prp, pcp, psg, ptn, pad, psb, psi, pby, cst, ints_len, List.length_take, List.length_drop, List.length_append, List.length_set, List.length_replicate, List.length_cons, List.length_nil] at *; omega))) (by rw [List.length_take]; (first | omega | (simp only [cst] at *; omega) | (simp only [oln, otk, odr, oap, ost, orp, ocp, osg, otn, oad, osb, osi, oby, pln, ptk, pdr, pap, pst, prp, pcp, psg, ptn, pad, psb, psi, pby, cst, ints_len, List.length_take, List.length_drop, List.length_append, List.length_set, List.length_replicate, List.length_cons, List.length_nil] at *; omega))) m2 s2 e2 q2 b3 hb3
          (refine callq (g4) rfl rfl ?_; cbv; (repeat' (first
    | (refine q1 (by first | exact trivial | omega | (dsimp only; omega) | exact pow62 _ (by omega) | exact mul9 (by omega) (by omega) | (simp only [oln, otk, odr, oap, ost, orp, ocp, osg, otn, oad, osb, osi, oby, pln, ptk, pdr, pap, pst, prp, pcp, psg, ptn, pad, psb, psi, pby, cst, ints_len, List.length_take, List.length_drop, List.length_append, List.length_set, List.length_replicate, List.length_cons, List.length_nil] at *; omega)) (fun z hz => ?_); (try simp only at hz); cbv)
    | (refine rq (by first | exact trivial | omega | (dsimp only; omega) | (simp only [oln, otk, odr, oap, ost, orp, ocp, osg, otn, oad, osb, osi, oby, pln, ptk, pdr, pap, pst, prp, pcp, psg, ptn, pad, psb, psi, pby, cst, ints_len, List.length_take, List.length_drop, List.length_append, List.length_set, List.length_replicate, List.length_cons, List.length_nil] at *; omega)) ?_; cbv)
    | (refine QC.tt (by first | omega | (dsimp only; omega) | exact rfl | (simp only [oln, otk, odr, oap, ost, orp, ocp, osg, otn, oad, osb, osi, oby, pln, ptk, pdr, pap, pst, prp, pcp, psg, ptn, pad, psb, psi, pby, cst, ints_len, List.length_take, List.length_drop, List.length_append, List.length_set, List.length_replicate, List.length_cons, List.length_nil] at *; omega)) ?_; cbv)
    | (refine QC.tt ?_ ?_; (focus (simp only [decide_true, Bool.and_true, Bool.and_self] <;> fail)); cbv)
    | (refine QC.ff ?_ ?_; (focus (simp only [decide_true, Bool.and_true, Bool.and_self, decide_false, Bool.false_and, reduceCtorEq, not_false_eq_true] <;> fail)); cbv)
    | (refine QC.ff (by first | omega | (dsimp only; omega) | (simp only [oln, otk, odr, oap, ost, orp, ocp, osg, otn, oad, osb, osi, oby, pln, ptk, pdr, pap, pst, prp, pcp, psg, ptn, pad, psb, psi, pby, cst, ints_len, List.length_take, List.length_drop, List.length_append, List.length_set, List.length_replicate, List.length_cons, List.length_nil] at *; omega)) ?_; cbv)
    | (refine QC.mk (fun hc => ?_) (fun hc => ?_) <;> (try dsimp only at hc) <;> cbv)
    | (refine br_mk2 (fun hb => ?_) (fun hb => ?_) <;> (try subst hb) <;> cbv))))
          · refine ⟨?_, rfl, rfl⟩
            rw [W.h.2.1 i _ hx' (by rw [hok]; rfl)]
          · refine ⟨(i + 1, z), ⟨by show z = ((i + 1 : Nat) : Int); (first | omega | (simp only [cst] at *; omega) | (simp only [oln, otk, odr, oap, ost, orp, ocp, osg, otn, oad, osb, osi, oby, pln, ptk, pdr, pap, pst, prp, pcp, psg, ptn, pad, psb, psi, pby, cst, ints_len, List.length_take, List.length_drop, List.length_append, List.length_set, List.length_replicate, List.length_cons, List.length_nil] at *; omega)), by show i + 1 ≤ l.length; omega, fun k y hy hki => ?_⟩, by show l.length - (i + 1) < l.length - i; omega, ?_⟩
            · by_cases e1 : k = i
              · subst e1
                rw [hx'] at hy
                injection hy with hy
                rw [← hy, hok]; rfl
              · have hki : k < i + 1 := hki
                exact hk k y hy (by omega)
            · cbv
        · refine ⟨?_, rfl, rfl⟩
          rw [W.h.2.1 i _ hx' (by rw [hok]; rfl)]
      · refine ⟨?_, rfl, rfl⟩
        rw [W.h.2.1 i _ hx' (by rw [hok]; rfl)]
    · refine ⟨?_, rfl, rfl⟩
      rw [W.h.2.2 (by (first | omega | (simp only [cst] at *; omega) | (simp only [oln, otk, odr, oap, ost, orp, ocp, osg, otn, oad, osb, osi, oby, pln, ptk, pdr, pap, pst, prp, pcp, psg, ptn, pad, psb, psi, pby, cst, ints_len, List.length_take, List.length_drop, List.length_append, List.length_set, List.length_replicate, List.length_cons, List.length_nil] at *; omega))) fun k y hy => hk k y hy (by have := (List.getElem?_eq_some_iff.1 hy).1; (first | omega | (simp only [cst] at *; omega) | (simp only [oln, otk, odr, oap, ost, orp, ocp, osg, otn, oad, osb, osi, oby, pln, ptk, pdr, pap, pst, prp, pcp, psg, ptn, pad, psb, psi, pby, cst, ints_len, List.length_take, List.length_drop, List.length_append, List.length_set, List.length_replicate, List.length_cons, List.length_nil] at *; omega)))]
end Go.Proofs.YticojcjoikhkmaaDoor
