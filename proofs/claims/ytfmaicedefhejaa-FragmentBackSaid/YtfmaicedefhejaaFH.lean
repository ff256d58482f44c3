/- Contract of fragment.Encode. -/
import Derived.Test.YtfmaicedefhejaaFG
namespace Go.Proofs.Ytfmaicedefhejaa
set_option linter.unusedVariables false
set_option linter.unusedSimpArgs false
open Go.RowKit
set_option maxHeartbeats 4000000
/-- The bytes of a fragment. -/
def encF (n tag a : Int) (bs : List UInt8) : List UInt8 := bytesOf ((if a > 0 then 57344 else 49152) + n) 2 ++ bytesOf tag 2 ++ (if a > 0 then bytesOf (a / 8) 1 else []) ++ bs
theorem encode_c (bs : List UInt8) (X R : List SV) (n tag a : Int) (hX : X = u8l bs) (hv : validF n a bs.length = true) (ht : 0 ≤ tag ∧ tag ≤ 65535) (hR : R = u8l (encF n tag a bs)) :
    Good 23 (pu [.agg [.int .i64 n, .int .u16 tag, .int .i64 a, .lst none X]] (.tup [.lst none R, .int .i64 0])) := by
  have hv' := of_decide_eq_true hv
  have hl : X.length = bs.length := by rw [hX, u8l_len]
  have hvc := valid_c X n tag a bs.length true hl (by omega) (by omega) (by omega) hv.symm
  by_cases ha : a > 0
  · obtain ⟨m, hm⟩ : ∃ m : Int, m = 57344 + n := ⟨_, rfl⟩
    obtain ⟨q, hq⟩ : ∃ m : Int, m = a / 8 := ⟨_, rfl⟩
    have h1 := append_c [] [] _ m 2 2 rfl rfl (by omega) (by omega) (by simp) rfl
    have h2 := append_c ([] ++ bytesOf m 2) _ _ tag 2 2 rfl rfl (by omega) (by omega) (by simp [bytesOf_length]) rfl
    have h3 := append_c ([] ++ bytesOf m 2 ++ bytesOf tag 2) _ _ q 1 1 rfl rfl (by omega) (by omega) (by simp [bytesOf_length]) rfl
    have hR' : R = u8l ([] ++ bytesOf m 2 ++ bytesOf tag 2 ++ bytesOf q 1) ++ X := by
      rw [hR, hX, u8l_app, encF, if_pos ha, if_pos ha, hm, hq]; rfl
    have hlen : (u8l ([] ++ bytesOf m 2 ++ bytesOf tag 2 ++ bytesOf q 1)).length = 5 := by simp [u8l_len, bytesOf_length]
    generalize u8l ([] ++ bytesOf m 2 ++ bytesOf tag 2 ++ bytesOf q 1) = R3 at *
    generalize u8l ([] ++ bytesOf m 2 ++ bytesOf tag 2) = R2 at *
    generalize u8l ([] ++ bytesOf m 2) = R1 at *
    refine Good.of Try.func23 rfl (by rfl) (by kernel_rfl) ?_
    cbv
    (repeat' (first
    | (refine q1 (by first | exact trivial | omega | (dsimp only; omega) | exact pow62 _ (by omega) | exact mul9 (by omega) (by omega) | (simp only [oln, otk, odr, oap, ost, orp, ocp, osg, otn, oad, osb, osi, oby, pln, ptk, pdr, pap, pst, prp, pcp, psg, ptn, pad, psb, psi, pby, cst, ints_len, List.length_take, List.length_drop, List.length_append, List.length_set, List.length_replicate, List.length_cons, List.length_nil] at *; omega)) (fun z hz => ?_); (try simp only at hz); cbv)
    | (refine rq (by first | exact trivial | omega | (dsimp only; omega) | (simp only [oln, otk, odr, oap, ost, orp, ocp, osg, otn, oad, osb, osi, oby, pln, ptk, pdr, pap, pst, prp, pcp, psg, ptn, pad, psb, psi, pby, cst, ints_len, List.length_take, List.length_drop, List.length_append, List.length_set, List.length_replicate, List.length_cons, List.length_nil] at *; omega)) ?_; cbv)
    | (refine QC.tt (by first | omega | (dsimp only; omega) | exact rfl | (simp only [oln, otk, odr, oap, ost, orp, ocp, osg, otn, oad, osb, osi, oby, pln, ptk, pdr, pap, pst, prp, pcp, psg, ptn, pad, psb, psi, pby, cst, ints_len, List.length_take, List.length_drop, List.length_append, List.length_set, List.length_replicate, List.length_cons, List.length_nil] at *; omega)) ?_; cbv)
    | (refine QC.tt ?_ ?_; (focus (simp only [decide_true, Bool.and_true, Bool.and_self] <;> fail)); cbv)
    | (refine QC.ff ?_ ?_; (focus (simp only [decide_true, Bool.and_true, Bool.and_self, decide_false, Bool.false_and, reduceCtorEq, not_false_eq_true] <;> fail)); cbv)
    | (refine QC.ff (by first | omega | (dsimp only; omega) | (simp only [oln, otk, odr, oap, ost, orp, ocp, osg, otn, oad, osb, osi, oby, pln, ptk, pdr, pap, pst, prp, pcp, psg, ptn, pad, psb, psi, pby, cst, ints_len, List.length_take, List.length_drop, List.length_append, List.length_set, List.length_replicate, List.length_cons, List.length_nil] at *; omega)) ?_; cbv)
    | (refine QC.mk (fun hc => ?_) (fun hc => ?_) <;> (try dsimp only at hc) <;> cbv)
    | (refine br_mk2 (fun hb => ?_) (fun hb => ?_) <;> (try subst hb) <;> cbv)))
    (refine callq (hvc) rfl rfl ?_; cbv; (repeat' (first
    | (refine q1 (by first | exact trivial | omega | (dsimp only; omega) | exact pow62 _ (by omega) | exact mul9 (by omega) (by omega) | (simp only [oln, otk, odr, oap, ost, orp, ocp, osg, otn, oad, osb, osi, oby, pln, ptk, pdr, pap, pst, prp, pcp, psg, ptn, pad, psb, psi, pby, cst, ints_len, List.length_take, List.length_drop, List.length_append, List.length_set, List.length_replicate, List.length_cons, List.length_nil] at *; omega)) (fun z hz => ?_); (try simp only at hz); cbv)
    | (refine rq (by first | exact trivial | omega | (dsimp only; omega) | (simp only [oln, otk, odr, oap, ost, orp, ocp, osg, otn, oad, osb, osi, oby, pln, ptk, pdr, pap, pst, prp, pcp, psg, ptn, pad, psb, psi, pby, cst, ints_len, List.length_take, List.length_drop, List.length_append, List.length_set, List.length_replicate, List.length_cons, List.length_nil] at *; omega)) ?_; cbv)
    | (refine QC.tt (by first | omega | (dsimp only; omega) | exact rfl | (simp only [oln, otk, odr, oap, ost, orp, ocp, osg, otn, oad, osb, osi, oby, pln, ptk, pdr, pap, pst, prp, pcp, psg, ptn, pad, psb, psi, pby, cst, ints_len, List.length_take, List.length_drop, List.length_append, List.length_set, List.length_replicate, List.length_cons, List.length_nil] at *; omega)) ?_; cbv)
    | (refine QC.tt ?_ ?_; (focus (simp only [decide_true, Bool.and_true, Bool.and_self] <;> fail)); cbv)
    | (refine QC.ff ?_ ?_; (focus (simp only [decide_true, Bool.and_true, Bool.and_self, decide_false, Bool.false_and, reduceCtorEq, not_false_eq_true] <;> fail)); cbv)
    | (refine QC.ff (by first | omega | (dsimp only; omega) | (simp only [oln, otk, odr, oap, ost, orp, ocp, osg, otn, oad, osb, osi, oby, pln, ptk, pdr, pap, pst, prp, pcp, psg, ptn, pad, psb, psi, pby, cst, ints_len, List.length_take, List.length_drop, List.length_append, List.length_set, List.length_replicate, List.length_cons, List.length_nil] at *; omega)) ?_; cbv)
    | (refine QC.mk (fun hc => ?_) (fun hc => ?_) <;> (try dsimp only at hc) <;> cbv)
    | (refine br_mk2 (fun hb => ?_) (fun hb => ?_) <;> (try subst hb) <;> cbv))))
    have e : z = m := by (first | omega | (simp only [cst] at *; omega) | (simp only [oln, otk, odr, oap, ost, orp, ocp, osg, otn, oad, osb, osi, oby, pln, ptk, pdr, pap, pst, prp, pcp, psg, ptn, pad, psb, psi, pby, cst, ints_len, List.length_take, List.length_drop, List.length_append, List.length_set, List.length_replicate, List.length_cons, List.length_nil] at *; omega))
    subst e
    (refine callq (h1) rfl rfl ?_; cbv; (repeat' (first
    | (refine q1 (by first | exact trivial | omega | (dsimp only; omega) | exact pow62 _ (by omega) | exact mul9 (by omega) (by omega) | (simp only [oln, otk, odr, oap, ost, orp, ocp, osg, otn, oad, osb, osi, oby, pln, ptk, pdr, pap, pst, prp, pcp, psg, ptn, pad, psb, psi, pby, cst, ints_len, List.length_take, List.length_drop, List.length_append, List.length_set, List.length_replicate, List.length_cons, List.length_nil] at *; omega)) (fun z hz => ?_); (try simp only at hz); cbv)
    | (refine rq (by first | exact trivial | omega | (dsimp only; omega) | (simp only [oln, otk, odr, oap, ost, orp, ocp, osg, otn, oad, osb, osi, oby, pln, ptk, pdr, pap, pst, prp, pcp, psg, ptn, pad, psb, psi, pby, cst, ints_len, List.length_take, List.length_drop, List.length_append, List.length_set, List.length_replicate, List.length_cons, List.length_nil] at *; omega)) ?_; cbv)
    | (refine QC.tt (by first | omega | (dsimp only; omega) | exact rfl | (simp only [oln, otk, odr, oap, ost, orp, ocp, osg, otn, oad, osb, osi, oby, pln, ptk, pdr, pap, pst, prp, pcp, psg, ptn, pad, psb, psi, pby, cst, ints_len, List.length_take, List.length_drop, List.length_append, List.length_set, List.length_replicate, List.length_cons, List.length_nil] at *; omega)) ?_; cbv)
    | (refine QC.tt ?_ ?_; (focus (simp only [decide_true, Bool.and_true, Bool.and_self] <;> fail)); cbv)
    | (refine QC.ff ?_ ?_; (focus (simp only [decide_true, Bool.and_true, Bool.and_self, decide_false, Bool.false_and, reduceCtorEq, not_false_eq_true] <;> fail)); cbv)
    | (refine QC.ff (by first | omega | (dsimp only; omega) | (simp only [oln, otk, odr, oap, ost, orp, ocp, osg, otn, oad, osb, osi, oby, pln, ptk, pdr, pap, pst, prp, pcp, psg, ptn, pad, psb, psi, pby, cst, ints_len, List.length_take, List.length_drop, List.length_append, List.length_set, List.length_replicate, List.length_cons, List.length_nil] at *; omega)) ?_; cbv)
    | (refine QC.mk (fun hc => ?_) (fun hc => ?_) <;> (try dsimp only at hc) <;> cbv)
    | (refine br_mk2 (fun hb => ?_) (fun hb => ?_) <;> (try subst hb) <;> cbv))))
    have e : z = tag := by (first | omega | (simp only [cst] at *; omega) | (simp only [oln, otk, odr, oap, ost, orp, ocp, osg, otn, oad, osb, osi, oby, pln, ptk, pdr, pap, pst, prp, pcp, psg, ptn, pad, psb, psi, pby, cst, ints_len, List.length_take, List.length_drop, List.length_append, List.length_set, List.length_replicate, List.length_cons, List.length_nil] at *; omega))
    subst e
    (refine callq (h2) rfl rfl ?_; cbv; (repeat' (first
    | (refine q1 (by first | exact trivial | omega | (dsimp only; omega) | exact pow62 _ (by omega) | exact mul9 (by omega) (by omega) | (simp only [oln, otk, odr, oap, ost, orp, ocp, osg, otn, oad, osb, osi, oby, pln, ptk, pdr, pap, pst, prp, pcp, psg, ptn, pad, psb, psi, pby, cst, ints_len, List.length_take, List.length_drop, List.length_append, List.length_set, List.length_replicate, List.length_cons, List.length_nil] at *; omega)) (fun z hz => ?_); (try simp only at hz); cbv)
    | (refine rq (by first | exact trivial | omega | (dsimp only; omega) | (simp only [oln, otk, odr, oap, ost, orp, ocp, osg, otn, oad, osb, osi, oby, pln, ptk, pdr, pap, pst, prp, pcp, psg, ptn, pad, psb, psi, pby, cst, ints_len, List.length_take, List.length_drop, List.length_append, List.length_set, List.length_replicate, List.length_cons, List.length_nil] at *; omega)) ?_; cbv)
    | (refine QC.tt (by first | omega | (dsimp only; omega) | exact rfl | (simp only [oln, otk, odr, oap, ost, orp, ocp, osg, otn, oad, osb, osi, oby, pln, ptk, pdr, pap, pst, prp, pcp, psg, ptn, pad, psb, psi, pby, cst, ints_len, List.length_take, List.length_drop, List.length_append, List.length_set, List.length_replicate, List.length_cons, List.length_nil] at *; omega)) ?_; cbv)
    | (refine QC.tt ?_ ?_; (focus (simp only [decide_true, Bool.and_true, Bool.and_self] <;> fail)); cbv)
    | (refine QC.ff ?_ ?_; (focus (simp only [decide_true, Bool.and_true, Bool.and_self, decide_false, Bool.false_and, reduceCtorEq, not_false_eq_true] <;> fail)); cbv)
    | (refine QC.ff (by first | omega | (dsimp only; omega) | (simp only [oln, otk, odr, oap, ost, orp, ocp, osg, otn, oad, osb, osi, oby, pln, ptk, pdr, pap, pst, prp, pcp, psg, ptn, pad, psb, psi, pby, cst, ints_len, List.length_take, List.length_drop, List.length_append, List.length_set, List.length_replicate, List.length_cons, List.length_nil] at *; omega)) ?_; cbv)
    | (refine QC.mk (fun hc => ?_) (fun hc => ?_) <;> (try dsimp only at hc) <;> cbv)
    | (refine br_mk2 (fun hb => ?_) (fun hb => ?_) <;> (try subst hb) <;> cbv))))
    have e : z = q := by (first | omega | (simp only [cst] at *; omega) | (simp only [oln, otk, odr, oap, ost, orp, ocp, osg, otn, oad, osb, osi, oby, pln, ptk, pdr, pap, pst, prp, pcp, psg, ptn, pad, psb, psi, pby, cst, ints_len, List.length_take, List.length_drop, List.length_append, List.length_set, List.length_replicate, List.length_cons, List.length_nil] at *; omega))
    subst e
    (refine callq (h3) rfl rfl ?_; cbv; (repeat' (first
    | (refine q1 (by first | exact trivial | omega | (dsimp only; omega) | exact pow62 _ (by omega) | exact mul9 (by omega) (by omega) | (simp only [oln, otk, odr, oap, ost, orp, ocp, osg, otn, oad, osb, osi, oby, pln, ptk, pdr, pap, pst, prp, pcp, psg, ptn, pad, psb, psi, pby, cst, ints_len, List.length_take, List.length_drop, List.length_append, List.length_set, List.length_replicate, List.length_cons, List.length_nil] at *; omega)) (fun z hz => ?_); (try simp only at hz); cbv)
    | (refine rq (by first | exact trivial | omega | (dsimp only; omega) | (simp only [oln, otk, odr, oap, ost, orp, ocp, osg, otn, oad, osb, osi, oby, pln, ptk, pdr, pap, pst, prp, pcp, psg, ptn, pad, psb, psi, pby, cst, ints_len, List.length_take, List.length_drop, List.length_append, List.length_set, List.length_replicate, List.length_cons, List.length_nil] at *; omega)) ?_; cbv)
    | (refine QC.tt (by first | omega | (dsimp only; omega) | exact rfl | (simp only [oln, otk, odr, oap, ost, orp, ocp, osg, otn, oad, osb, osi, oby, pln, ptk, pdr, pap, pst, prp, pcp, psg, ptn, pad, psb, psi, pby, cst, ints_len, List.length_take, List.length_drop, List.length_append, List.length_set, List.length_replicate, List.length_cons, List.length_nil] at *; omega)) ?_; cbv)
    | (refine QC.tt ?_ ?_; (focus (simp only [decide_true, Bool.and_true, Bool.and_self] <;> fail)); cbv)
    | (refine QC.ff ?_ ?_; (focus (simp only [decide_true, Bool.and_true, Bool.and_self, decide_false, Bool.false_and, reduceCtorEq, not_false_eq_true] <;> fail)); cbv)
    | (refine QC.ff (by first | omega | (dsimp only; omega) | (simp only [oln, otk, odr, oap, ost, orp, ocp, osg, otn, oad, osb, osi, oby, pln, ptk, pdr, pap, pst, prp, pcp, psg, ptn, pad, psb, psi, pby, cst, ints_len, List.length_take, List.length_drop, List.length_append, List.length_set, List.length_replicate, List.length_cons, List.length_nil] at *; omega)) ?_; cbv)
    | (refine QC.mk (fun hc => ?_) (fun hc => ?_) <;> (try dsimp only at hc) <;> cbv)
    | (refine br_mk2 (fun hb => ?_) (fun hb => ?_) <;> (try subst hb) <;> cbv))))
    refine ⟨?_, rfl, rfl⟩
    rw [hR', ← apL_eq]
    rfl
  · obtain ⟨m, hm⟩ : ∃ m : Int, m = 49152 + n := ⟨_, rfl⟩
    have h1 := append_c [] [] _ m 2 2 rfl rfl (by omega) (by omega) (by simp) rfl
    have h2 := append_c ([] ++ bytesOf m 2) _ _ tag 2 2 rfl rfl (by omega) (by omega) (by simp [bytesOf_length]) rfl
    have hR' : R = u8l ([] ++ bytesOf m 2 ++ bytesOf tag 2) ++ X := by
      rw [hR, hX, u8l_app, encF, if_neg ha, if_neg ha, hm, List.append_nil]; rfl
    have hlen : (u8l ([] ++ bytesOf m 2 ++ bytesOf tag 2)).length = 4 := by simp [u8l_len, bytesOf_length]
    generalize u8l ([] ++ bytesOf m 2 ++ bytesOf tag 2) = R2 at *
    generalize u8l ([] ++ bytesOf m 2) = R1 at *
    refine Good.of Try.func23 rfl (by rfl) (by kernel_rfl) ?_
    cbv
    (repeat' (first
    | (refine q1 (by first | exact trivial | omega | (dsimp only; omega) | exact pow62 _ (by omega) | exact mul9 (by omega) (by omega) | (simp only [oln, otk, odr, oap, ost, orp, ocp, osg, otn, oad, osb, osi, oby, pln, ptk, pdr, pap, pst, prp, pcp, psg, ptn, pad, psb, psi, pby, cst, ints_len, List.length_take, List.length_drop, List.length_append, List.length_set, List.length_replicate, List.length_cons, List.length_nil] at *; omega)) (fun z hz => ?_); (try simp only at hz); cbv)
    | (refine rq (by first | exact trivial | omega | (dsimp only; omega) | (simp only [oln, otk, odr, oap, ost, orp, ocp, osg, otn, oad, osb, osi, oby, pln, ptk, pdr, pap, pst, prp, pcp, psg, ptn, pad, psb, psi, pby, cst, ints_len, List.length_take, List.length_drop, List.length_append, List.length_set, List.length_replicate, List.length_cons, List.length_nil] at *; omega)) ?_; cbv)
    | (refine QC.tt (by first | omega | (dsimp only; omega) | exact rfl | (simp only [oln, otk, odr, oap, ost, orp, ocp, osg, otn, oad, osb, osi, oby, pln, ptk, pdr, pap, pst, prp, pcp, psg, ptn, pad, psb, psi, pby, cst, ints_len, List.length_take, List.length_drop, List.length_append, List.length_set, List.length_replicate, List.length_cons, List.length_nil] at *; omega)) ?_; cbv)
    | (refine QC.tt ?_ ?_; (focus (simp only [decide_true, Bool.and_true, Bool.and_self] <;> fail)); cbv)
    | (refine QC.ff ?_ ?_; (focus (simp only [decide_true, Bool.and_true, Bool.and_self, decide_false, Bool.false_and, reduceCtorEq, not_false_eq_true] <;> fail)); cbv)
    | (refine QC.ff (by first | omega | (dsimp only; omega) | (simp only [oln, otk, odr, oap, ost, orp, ocp, osg, otn, oad, osb, osi, oby, pln, ptk, pdr, pap, pst, prp, pcp, psg, ptn, pad, psb, psi, pby, cst, ints_len, List.length_take, List.length_drop, List.length_append, List.length_set, List.length_replicate, List.length_cons, List.length_nil] at *; omega)) ?_; cbv)
    | (refine QC.mk (fun hc => ?_) (fun hc => ?_) <;> (try dsimp only at hc) <;> cbv)
    | (refine br_mk2 (fun hb => ?_) (fun hb => ?_) <;> (try subst hb) <;> cbv)))
    (refine callq (hvc) rfl rfl ?_; cbv; (repeat' (first
    | (refine q1 (by first | exact trivial | omega | (dsimp only; omega) | exact pow62 _ (by omega) | exact mul9 (by omega) (by omega) | (simp only [oln, otk, odr, oap, ost, orp, ocp, osg, otn, oad, osb, osi, oby, pln, ptk, pdr, pap, pst, prp, pcp, psg, ptn, pad, psb, psi, pby, cst, ints_len, List.length_take, List.length_drop, List.length_append, List.length_set, List.length_replicate, List.length_cons, List.length_nil] at *; omega)) (fun z hz => ?_); (try simp only at hz); cbv)
    | (refine rq (by first | exact trivial | omega | (dsimp only; omega) | (simp only [oln, otk, odr, oap, ost, orp, ocp, osg, otn, oad, osb, osi, oby, pln, ptk, pdr, pap, pst, prp, pcp, psg, ptn, pad, psb, psi, pby, cst, ints_len, List.length_take, List.length_drop, List.length_append, List.length_set, List.length_replicate, List.length_cons, List.length_nil] at *; omega)) ?_; cbv)
    | (refine QC.tt (by first | omega | (dsimp only; omega) | exact rfl | (simp only [oln, otk, odr, oap, ost, orp, ocp, osg, otn, oad, osb, osi, oby, pln, ptk, pdr, pap, pst, prp, pcp, psg, ptn, pad, psb, psi, pby, cst, ints_len, List.length_take, List.length_drop, List.length_append, List.length_set, List.length_replicate, List.length_cons, List.length_nil] at *; omega)) ?_; cbv)
    | (refine QC.tt ?_ ?_; (focus (simp only [decide_true, Bool.and_true, Bool.and_self] <;> fail)); cbv)
    | (refine QC.ff ?_ ?_; (focus (simp only [decide_true, Bool.and_true, Bool.and_self, decide_false, Bool.false_and, reduceCtorEq, not_false_eq_true] <;> fail)); cbv)
    | (refine QC.ff (by first | omega | (dsimp only; omega) | (simp only [oln, otk, odr, oap, ost, orp, ocp, osg, otn, oad, osb, osi, oby, pln, ptk, pdr, pap, pst, prp, pcp, psg, ptn, pad, psb, psi, pby, cst, ints_len, List.length_take, List.length_drop, List.length_append, List.length_set, List.length_replicate, List.length_cons, List.length_nil] at *; omega)) ?_; cbv)
    | (refine QC.mk (fun hc => ?_) (fun hc => ?_) <;> (try dsimp only at hc) <;> cbv)
    | (refine br_mk2 (fun hb => ?_) (fun hb => ?_) <;> (try subst hb) <;> cbv))))
    have e : z = m := by (first | omega | (simp only [cst] at *; omega) | (simp only [oln, otk, odr, oap, ost, orp, ocp, osg, otn, oad, osb, osi, oby, pln, ptk, pdr, pap, pst, prp, pcp, psg, ptn, pad, psb, psi, pby, cst, ints_len, List.length_take, List.length_drop, List.length_append, List.length_set, List.length_replicate, List.length_cons, List.length_nil] at *; omega))
    subst e
    (refine callq (h1) rfl rfl ?_; cbv; (repeat' (first
    | (refine q1 (by first | exact trivial | omega | (dsimp only; omega) | exact pow62 _ (by omega) | exact mul9 (by omega) (by omega) | (simp only [oln, otk, odr, oap, ost, orp, ocp, osg, otn, oad, osb, osi, oby, pln, ptk, pdr, pap, pst, prp, pcp, psg, ptn, pad, psb, psi, pby, cst, ints_len, List.length_take, List.length_drop, List.length_append, List.length_set, List.length_replicate, List.length_cons, List.length_nil] at *; omega)) (fun z hz => ?_); (try simp only at hz); cbv)
    | (refine rq (by first | exact trivial | omega | (dsimp only; omega) | (simp only [oln, otk, odr, oap, ost, orp, ocp, osg, otn, oad, osb, osi, oby, pln, ptk, pdr, pap, pst, prp, pcp, psg, ptn, pad, psb, psi, pby, cst, ints_len, List.length_take, List.length_drop, List.length_append, List.length_set, List.length_replicate, List.length_cons, List.length_nil] at *; omega)) ?_; cbv)
    | (refine QC.tt (by first | omega | (dsimp only; omega) | exact rfl | (simp only [oln, otk, odr, oap, ost, orp, ocp, osg, otn, oad, osb, osi, oby, pln, ptk, pdr, pap, pst, prp, pcp, psg, ptn, pad, psb, psi, pby, cst, ints_len, List.length_take, List.length_drop, List.length_append, List.length_set, List.length_replicate, List.length_cons, List.length_nil] at *; omega)) ?_; cbv)
    | (refine QC.tt ?_ ?_; (focus (simp only [decide_true, Bool.and_true, Bool.and_self] <;> fail)); cbv)
    | (refine QC.ff ?_ ?_; (focus (simp only [decide_true, Bool.and_true, Bool.and_self, decide_false, Bool.false_and, reduceCtorEq, not_false_eq_true] <;> fail)); cbv)
    | (refine QC.ff (by first | omega | (dsimp only; omega) | (simp only [oln, otk, odr, oap, ost, orp, ocp, osg, otn, oad, osb, osi, oby, pln, ptk, pdr, pap, pst, prp, pcp, psg, ptn, pad, psb, psi, pby, cst, ints_len, List.length_take, List.length_drop, List.length_append, List.length_set, List.length_replicate, List.length_cons, List.length_nil] at *; omega)) ?_; cbv)
    | (refine QC.mk (fun hc => ?_) (fun hc => ?_) <;> (try dsimp only at hc) <;> cbv)
    | (refine br_mk2 (fun hb => ?_) (fun hb => ?_) <;> (try subst hb) <;> cbv))))
    have e : z = tag := by (first | omega | (simp only [cst] at *; omega) | (simp only [oln, otk, odr, oap, ost, orp, ocp, osg, otn, oad, osb, osi, oby, pln, ptk, pdr, pap, pst, prp, pcp, psg, ptn, pad, psb, psi, pby, cst, ints_len, List.length_take, List.length_drop, List.length_append, List.length_set, List.length_replicate, List.length_cons, List.length_nil] at *; omega))
    subst e
    (refine callq (h2) rfl rfl ?_; cbv; (repeat' (first
    | (refine q1 (by first | exact trivial | omega | (dsimp only; omega) | exact pow62 _ (by omega) | exact mul9 (by omega) (by omega) | (simp only [oln, otk, odr, oap, ost, orp, ocp, osg, otn, oad, osb, osi, oby, pln, ptk, pdr, pap, pst, prp, pcp, psg, ptn, pad, psb, psi, pby, cst, ints_len, List.length_take, List.length_drop, List.length_append, List.length_set, List.length_replicate, List.length_cons, List.length_nil] at *; omega)) (fun z hz => ?_); (try simp only at hz); cbv)
    | (refine rq (by first | exact trivial | omega | (dsimp only; omega) | (simp only [oln, otk, odr, oap, ost, orp, ocp, osg, otn, oad, osb, osi, oby, pln, ptk, pdr, pap, pst, prp, pcp, psg, ptn, pad, psb, psi, pby, cst, ints_len, List.length_take, List.length_drop, List.length_append, List.length_set, List.length_replicate, List.length_cons, List.length_nil] at *; omega)) ?_; cbv)
    | (refine QC.tt (by first | omega | (dsimp only; omega) | exact rfl | (simp only [oln, otk, odr, oap, ost, orp, ocp, osg, otn, oad, osb, osi, oby, pln, ptk, pdr, pap, pst, prp, pcp, psg, ptn, pad, psb, psi, pby, cst, ints_len, List.length_take, List.length_drop, List.length_append, List.length_set, List.length_replicate, List.length_cons, List.length_nil] at *; omega)) ?_; cbv)
    | (refine QC.tt ?_ ?_; (focus (simp only [decide_true, Bool.and_true, Bool.and_self] <;> fail)); cbv)
    | (refine QC.ff ?_ ?_; (focus (simp only [decide_true, Bool.and_true, Bool.and_self, decide_false, Bool.false_and, reduceCtorEq, not_false_eq_true] <;> fail)); cbv)
    | (refine QC.ff (by first | omega | (dsimp only; omega) | (simp only [oln, otk, odr, oap, ost, orp, ocp, osg, otn, oad, osb, osi, oby, pln, ptk, pdr, pap, pst, prp, pcp, psg, ptn, pad, psb, psi, pby, cst, ints_len, List.length_take, List.length_drop, List.length_append, List.length_set, List.length_replicate, List.length_cons, List.length_nil] at *; omega)) ?_; cbv)
    | (refine QC.mk (fun hc => ?_) (fun hc => ?_) <;> (try dsimp only at hc) <;> cbv)
    | (refine br_mk2 (fun hb => ?_) (fun hb => ?_) <;> (try subst hb) <;> cbv))))
    refine ⟨?_, rfl, rfl⟩
    rw [hR', ← apL_eq]
    rfl
theorem encode_no (X : List SV) (n tag a : Int) (len : Nat) (hX : X.length = len) (hl : len ≤ 140737488355328) (hn : -9223372036854775808 ≤ n ∧ n ≤ 9223372036854775807) (ha : -9223372036854775808 ≤ a ∧ a ≤ 9223372036854775807) (hv : validF n a len = false) :
    Good 23 (pu [.agg [.int .i64 n, .int .u16 tag, .int .i64 a, .lst none X]] (.tup [.lst none [], .int .i64 1])) := by
  have hvc := valid_c X n tag a len false hX hl hn ha hv.symm
  refine Good.of Try.func23 rfl (by rfl) (by kernel_rfl) ?_
  cbv
  (repeat' (first
    | (refine q1 (by first | exact trivial | omega | (dsimp only; omega) | exact pow62 _ (by omega) | exact mul9 (by omega) (by omega) | (simp only [oln, otk, odr, oap, ost, orp, ocp, osg, otn, oad, osb, osi, oby, pln, ptk, pdr, pap, pst, prp, pcp, psg, ptn, pad, psb, psi, pby, cst, ints_len, List.length_take, List.length_drop, List.length_append, List.length_set, List.length_replicate, List.length_cons, List.length_nil] at *; omega)) (fun z hz => ?_); (try simp only at hz); cbv)
    | (refine rq (by first | exact trivial | omega | (dsimp only; omega) | (simp only [oln, otk, odr, oap, ost, orp, ocp, osg, otn, oad, osb, osi, oby, pln, ptk, pdr, pap, pst, prp, pcp, psg, ptn, pad, psb, psi, pby, cst, ints_len, List.length_take, List.length_drop, List.length_append, List.length_set, List.length_replicate, List.length_cons, List.length_nil] at *; omega)) ?_; cbv)
    | (refine QC.tt (by first | omega | (dsimp only; omega) | exact rfl | (simp only [oln, otk, odr, oap, ost, orp, ocp, osg, otn, oad, osb, osi, oby, pln, ptk, pdr, pap, pst, prp, pcp, psg, ptn, pad, psb, psi, pby, cst, ints_len, List.length_take, List.length_drop, List.length_append, List.length_set, List.length_replicate, List.length_cons, List.length_nil] at *; omega)) ?_; cbv)
    | (refine QC.tt ?_ ?_; (focus (simp only [decide_true, Bool.and_true, Bool.and_self] <;> fail)); cbv)
    | (refine QC.ff ?_ ?_; (focus (simp only [decide_true, Bool.and_true, Bool.and_self, decide_false, Bool.false_and, reduceCtorEq, not_false_eq_true] <;> fail)); cbv)
    | (refine QC.ff (by first | omega | (dsimp only; omega) | (simp only [oln, otk, odr, oap, ost, orp, ocp, osg, otn, oad, osb, osi, oby, pln, ptk, pdr, pap, pst, prp, pcp, psg, ptn, pad, psb, psi, pby, cst, ints_len, List.length_take, List.length_drop, List.length_append, List.length_set, List.length_replicate, List.length_cons, List.length_nil] at *; omega)) ?_; cbv)
    | (refine QC.mk (fun hc => ?_) (fun hc => ?_) <;> (try dsimp only at hc) <;> cbv)
    | (refine br_mk2 (fun hb => ?_) (fun hb => ?_) <;> (try subst hb) <;> cbv)))
  (refine callq (hvc) rfl rfl ?_; cbv; (repeat' (first
    | (refine q1 (by first | exact trivial | omega | (dsimp only; omega) | exact pow62 _ (by omega) | exact mul9 (by omega) (by omega) | (simp only [oln, otk, odr, oap, ost, orp, ocp, osg, otn, oad, osb, osi, oby, pln, ptk, pdr, pap, pst, prp, pcp, psg, ptn, pad, psb, psi, pby, cst, ints_len, List.length_take, List.length_drop, List.length_append, List.length_set, List.length_replicate, List.length_cons, List.length_nil] at *; omega)) (fun z hz => ?_); (try simp only at hz); cbv)
    | (refine rq (by first | exact trivial | omega | (dsimp only; omega) | (simp only [oln, otk, odr, oap, ost, orp, ocp, osg, otn, oad, osb, osi, oby, pln, ptk, pdr, pap, pst, prp, pcp, psg, ptn, pad, psb, psi, pby, cst, ints_len, List.length_take, List.length_drop, List.length_append, List.length_set, List.length_replicate, List.length_cons, List.length_nil] at *; omega)) ?_; cbv)
    | (refine QC.tt (by first | omega | (dsimp only; omega) | exact rfl | (simp only [oln, otk, odr, oap, ost, orp, ocp, osg, otn, oad, osb, osi, oby, pln, ptk, pdr, pap, pst, prp, pcp, psg, ptn, pad, psb, psi, pby, cst, ints_len, List.length_take, List.length_drop, List.length_append, List.length_set, List.length_replicate, List.length_cons, List.length_nil] at *; omega)) ?_; cbv)
    | (refine QC.tt ?_ ?_; (focus (simp only [decide_true, Bool.and_true, Bool.and_self] <;> fail)); cbv)
    | (refine QC.ff ?_ ?_; (focus (simp only [decide_true, Bool.and_true, Bool.and_self, decide_false, Bool.false_and, reduceCtorEq, not_false_eq_true] <;> fail)); cbv)
    | (refine QC.ff (by first | omega | (dsimp only; omega) | (simp only [oln, otk, odr, oap, ost, orp, ocp, osg, otn, oad, osb, osi, oby, pln, ptk, pdr, pap, pst, prp, pcp, psg, ptn, pad, psb, psi, pby, cst, ints_len, List.length_take, List.length_drop, List.length_append, List.length_set, List.length_replicate, List.length_cons, List.length_nil] at *; omega)) ?_; cbv)
    | (refine QC.mk (fun hc => ?_) (fun hc => ?_) <;> (try dsimp only at hc) <;> cbv)
    | (refine br_mk2 (fun hb => ?_) (fun hb => ?_) <;> (try subst hb) <;> cbv))))
  exact ⟨rfl, rfl, rfl⟩
end Go.Proofs.Ytfmaicedefhejaa
