/- Contracts of link addresses. -/
import Derived.Test.YticojcjoikhkmaaDoorTac
namespace Go.Proofs.YticojcjoikhkmaaDoor
set_option linter.unusedVariables false
set_option linter.unusedSimpArgs false
open Go.RowKit
set_option maxHeartbeats 4000000
def someA (m s e : Int) : Bool := decide ((m = 2 ∧ e = 0) ∨ (m = 3 ∧ s = 0))
theorem avalid_c (m s e : Int) (r : Bool) (hr : r = decide ((m = 0 ∧ s = 0 ∧ e = 0) ∨ (m = 2 ∧ e = 0) ∨ (m = 3 ∧ s = 0))) : Good 34 (pu [.agg [.int .i64 m, .int .u16 s, .int .u64 e]] (.bool r)) := by
  refine Good.of Tryd.func34 rfl (by rfl) (by kernel_rfl) ?_
  cbv
  (repeat' (first
    | (refine q1 (by first | exact trivial | omega | (dsimp only; omega) | exact pow62 _ (by omega) | exact mul9 (by omega) (by omega) | (simp only [oln, otk, odr, oap, ost, orp, ocp, osg, otn, oad, osb, osi, oby, pln, ptk, pdr, pap, pst, prp, pcp, psg, ptn, pad, psb, psi, pby, cst, ints_len, List.length_take, List.length_drop, List.length_append, List.length_set, List.length_replicate, List.length_cons, List.length_nil] at *; omega)) (fun z hz => ?_); (try simp only at hz); cbv)
    | (refine rq (by first | exact trivial | omega | (dsimp only; omega) | (simp only [oln, otk, odr, oap, ost, orp, ocp, osg, otn, oad, osb, osi, oby, pln, ptk, pdr, pap, pst, prp, pcp, psg, ptn, pad, psb, psi, pby, cst, ints_len, List.length_take, List.length_drop, List.length_append, List.length_set, List.length_replicate, List.length_cons, List.length_nil] at *; omega)) ?_; cbv)
    | (refine QC.tt (by first | omega | (dsimp only; omega) | exact rfl | (simp only [oln, otk, odr, oap, ost, orp, ocp, osg, otn, oad, osb, osi, oby, pln, ptk, pdr, pap, pst, prp, pcp, psg, ptn, pad, psb, psi, pby, cst, ints_len, List.length_take, List.length_drop, List.length_append, List.length_set, List.length_replicate, List.length_cons, List.length_nil] at *; omega)) ?_; cbv)
    | (refine QC.tt ?_ ?_; (focus (simp only [decide_true, Bool.and_true, Bool.and_self] <;> fail)); cbv)
    | (refine QC.ff ?_ ?_; (focus (simp only [decide_true, Bool.and_true, Bool.and_self, decide_false, Bool.false_and, reduceCtorEq, not_false_eq_true] <;> fail)); cbv)
    | (refine QC.ff (by first | omega | (dsimp only; omega) | (simp only [oln, otk, odr, oap, ost, orp, ocp, osg, otn, oad, osb, osi, oby, pln, ptk, pdr, pap, pst, prp, pcp, psg, ptn, pad, psb, psi, pby, cst, ints_len, List.length_take, List.length_drop, List.length_append, List.length_set, List.length_replicate, List.length_cons, List.length_nil] at *; omega)) ?_; cbv)
    | (refine QC.mk (fun hc => ?_) (fun hc => ?_) <;> (try dsimp only at hc) <;> cbv)
    | (refine br_mk2 (fun hb => ?_) (fun hb => ?_) <;> (try subst hb) <;> cbv)))
  all_goals (try simp only [Bool.and_eq_true, decide_eq_true_eq, and_true] at hc)
  all_goals refine ⟨?_, rfl, rfl⟩
  all_goals rw [hr]
  all_goals first | (rw [decide_eq_true (by omega)]) | (rw [decide_eq_false (by omega)])
theorem rvalidA_c (m s e : Int) (r : Bool) (hr : r = decide ((m = 0 ∧ s = 0 ∧ e = 0) ∨ (m = 2 ∧ e = 0) ∨ (m = 3 ∧ s = 0))) : Good 38 (pu [.agg [.int .i64 m, .int .u16 s, .int .u64 e]] (.bool r)) := by
  refine Good.of Tryd.func38 rfl (by rfl) (by kernel_rfl) ?_
  cbv
  (repeat' (first
    | (refine q1 (by first | exact trivial | omega | (dsimp only; omega) | exact pow62 _ (by omega) | exact mul9 (by omega) (by omega) | (simp only [oln, otk, odr, oap, ost, orp, ocp, osg, otn, oad, osb, osi, oby, pln, ptk, pdr, pap, pst, prp, pcp, psg, ptn, pad, psb, psi, pby, cst, ints_len, List.length_take, List.length_drop, List.length_append, List.length_set, List.length_replicate, List.length_cons, List.length_nil] at *; omega)) (fun z hz => ?_); (try simp only at hz); cbv)
    | (refine rq (by first | exact trivial | omega | (dsimp only; omega) | (simp only [oln, otk, odr, oap, ost, orp, ocp, osg, otn, oad, osb, osi, oby, pln, ptk, pdr, pap, pst, prp, pcp, psg, ptn, pad, psb, psi, pby, cst, ints_len, List.length_take, List.length_drop, List.length_append, List.length_set, List.length_replicate, List.length_cons, List.length_nil] at *; omega)) ?_; cbv)
    | (refine QC.tt (by first | omega | (dsimp only; omega) | exact rfl | (simp only [oln, otk, odr, oap, ost, orp, ocp, osg, otn, oad, osb, osi, oby, pln, ptk, pdr, pap, pst, prp, pcp, psg, ptn, pad, psb, psi, pby, cst, ints_len, List.length_take, List.length_drop, List.length_append, List.length_set, List.length_replicate, List.length_cons, List.length_nil] at *; omega)) ?_; cbv)
    | (refine QC.tt ?_ ?_; (focus (simp only [decide_true, Bool.and_true, Bool.and_self] <;> fail)); cbv)
    | (refine QC.ff ?_ ?_; (focus (simp only [decide_true, Bool.and_true, Bool.and_self, decide_false, Bool.false_and, reduceCtorEq, not_false_eq_true] <;> fail)); cbv)
    | (refine QC.ff (by first | omega | (dsimp only; omega) | (simp only [oln, otk, odr, oap, ost, orp, ocp, osg, otn, oad, osb, osi, oby, pln, ptk, pdr, pap, pst, prp, pcp, psg, ptn, pad, psb, psi, pby, cst, ints_len, List.length_take, List.length_drop, List.length_append, List.length_set, List.length_replicate, List.length_cons, List.length_nil] at *; omega)) ?_; cbv)
    | (refine QC.mk (fun hc => ?_) (fun hc => ?_) <;> (try dsimp only at hc) <;> cbv)
    | (refine br_mk2 (fun hb => ?_) (fun hb => ?_) <;> (try subst hb) <;> cbv)))
  all_goals (try simp only [Bool.and_eq_true, decide_eq_true_eq, and_true] at hc)
  all_goals refine ⟨?_, rfl, rfl⟩
  all_goals rw [hr]
  all_goals first | (rw [decide_eq_true (by omega)]) | (rw [decide_eq_false (by omega)])
theorem some_c (m s e : Int) (r : Bool) (hr : r = someA m s e) : Good 30 (pu [.agg [.int .i64 m, .int .u16 s, .int .u64 e]] (.bool r)) := by
  obtain ⟨b, hb⟩ : ∃ b, b = decide ((m = 0 ∧ s = 0 ∧ e = 0) ∨ (m = 2 ∧ e = 0) ∨ (m = 3 ∧ s = 0)) := ⟨_, rfl⟩
  have h1 := rvalidA_c m s e b hb
  unfold someA at hr
  refine Good.of Tryd.func30 rfl (by rfl) (by kernel_rfl) ?_
  cbv
  (repeat' (first
    | (refine q1 (by first | exact trivial | omega | (dsimp only; omega) | exact pow62 _ (by omega) | exact mul9 (by omega) (by omega) | (simp only [oln, otk, odr, oap, ost, orp, ocp, osg, otn, oad, osb, osi, oby, pln, ptk, pdr, pap, pst, prp, pcp, psg, ptn, pad, psb, psi, pby, cst, ints_len, List.length_take, List.length_drop, List.length_append, List.length_set, List.length_replicate, List.length_cons, List.length_nil] at *; omega)) (fun z hz => ?_); (try simp only at hz); cbv)
    | (refine rq (by first | exact trivial | omega | (dsimp only; omega) | (simp only [oln, otk, odr, oap, ost, orp, ocp, osg, otn, oad, osb, osi, oby, pln, ptk, pdr, pap, pst, prp, pcp, psg, ptn, pad, psb, psi, pby, cst, ints_len, List.length_take, List.length_drop, List.length_append, List.length_set, List.length_replicate, List.length_cons, List.length_nil] at *; omega)) ?_; cbv)
    | (refine QC.tt (by first | omega | (dsimp only; omega) | exact rfl | (simp only [oln, otk, odr, oap, ost, orp, ocp, osg, otn, oad, osb, osi, oby, pln, ptk, pdr, pap, pst, prp, pcp, psg, ptn, pad, psb, psi, pby, cst, ints_len, List.length_take, List.length_drop, List.length_append, List.length_set, List.length_replicate, List.length_cons, List.length_nil] at *; omega)) ?_; cbv)
    | (refine QC.tt ?_ ?_; (focus (simp only [decide_true, Bool.and_true, Bool.and_self] <;> fail)); cbv)
    | (refine QC.ff ?_ ?_; (focus (simp only [decide_true, Bool.and_true, Bool.and_self, decide_false, Bool.false_and, reduceCtorEq, not_false_eq_true] <;> fail)); cbv)
    | (refine QC.ff (by first | omega | (dsimp only; omega) | (simp only [oln, otk, odr, oap, ost, orp, ocp, osg, otn, oad, osb, osi, oby, pln, ptk, pdr, pap, pst, prp, pcp, psg, ptn, pad, psb, psi, pby, cst, ints_len, List.length_take, List.length_drop, List.length_append, List.length_set, List.length_replicate, List.length_cons, List.length_nil] at *; omega)) ?_; cbv)
    | (refine QC.mk (fun hc => ?_) (fun hc => ?_) <;> (try dsimp only at hc) <;> cbv)
    | (refine br_mk2 (fun hb => ?_) (fun hb => ?_) <;> (try subst hb) <;> cbv)))
  (refine callq (h1) rfl rfl ?_; cbv; (repeat' (first
    | (refine q1 (by first | exact trivial | omega | (dsimp only; omega) | exact pow62 _ (by omega) | exact mul9 (by omega) (by omega) | (simp only [oln, otk, odr, oap, ost, orp, ocp, osg, otn, oad, osb, osi, oby, pln, ptk, pdr, pap, pst, prp, pcp, psg, ptn, pad, psb, psi, pby, cst, ints_len, List.length_take, List.length_drop, List.length_append, List.length_set, List.length_replicate, List.length_cons, List.length_nil] at *; omega)) (fun z hz => ?_); (try simp only at hz); cbv)
    | (refine rq (by first | exact trivial | omega | (dsimp only; omega) | (simp only [oln, otk, odr, oap, ost, orp, ocp, osg, otn, oad, osb, osi, oby, pln, ptk, pdr, pap, pst, prp, pcp, psg, ptn, pad, psb, psi, pby, cst, ints_len, List.length_take, List.length_drop, List.length_append, List.length_set, List.length_replicate, List.length_cons, List.length_nil] at *; omega)) ?_; cbv)
    | (refine QC.tt (by first | omega | (dsimp only; omega) | exact rfl | (simp only [oln, otk, odr, oap, ost, orp, ocp, osg, otn, oad, osb, osi, oby, pln, ptk, pdr, pap, pst, prp, pcp, psg, ptn, pad, psb, psi, pby, cst, ints_len, List.length_take, List.length_drop, List.length_append, List.length_set, List.length_replicate, List.length_cons, List.length_nil] at *; omega)) ?_; cbv)
    | (refine QC.tt ?_ ?_; (focus (simp only [decide_true, Bool.and_true, Bool.and_self] <;> fail)); cbv)
    | (refine QC.ff ?_ ?_; (focus (simp only [decide_true, Bool.and_true, Bool.and_self, decide_false, Bool.false_and, reduceCtorEq, not_false_eq_true] <;> fail)); cbv)
    | (refine QC.ff (by first | omega | (dsimp only; omega) | (simp only [oln, otk, odr, oap, ost, orp, ocp, osg, otn, oad, osb, osi, oby, pln, ptk, pdr, pap, pst, prp, pcp, psg, ptn, pad, psb, psi, pby, cst, ints_len, List.length_take, List.length_drop, List.length_append, List.length_set, List.length_replicate, List.length_cons, List.length_nil] at *; omega)) ?_; cbv)
    | (refine QC.mk (fun hc => ?_) (fun hc => ?_) <;> (try dsimp only at hc) <;> cbv)
    | (refine br_mk2 (fun hb => ?_) (fun hb => ?_) <;> (try subst hb) <;> cbv))))
  all_goals (first | have hb := of_decide_eq_true hb.symm | have hb := of_decide_eq_false hb.symm)
  all_goals (try simp only [Bool.and_eq_true, decide_eq_true_eq, and_true] at hc)
  all_goals refine ⟨?_, rfl, rfl⟩
  all_goals rw [hr]
  all_goals first | (rw [decide_eq_true (by omega)]) | (rw [decide_eq_false (by omega)])
end Go.Proofs.YticojcjoikhkmaaDoor
