/- The walk of the law Reads. -/
import Derived.Test.YtfmaicedefhejaaFY
namespace Go.Proofs.Ytfmaicedefhejaa
set_option linter.unusedVariables false
set_option linter.unusedSimpArgs false
open Go.RowKit
set_option maxHeartbeats 8000000
theorem reads_c (bs : List UInt8) (zs : List Int) (at' by' cut : Int) (hb : bs.length ≤ 140737488351232) (hz : ∀ v ∈ zs, -9223372036854775808 ≤ v ∧ v ≤ 9223372036854775807) (ha : -9223372036854775808 ≤ at' ∧ at' ≤ 9223372036854775807) (hy : 0 ≤ by' ∧ by' ≤ 255) (hc : -9223372036854775808 ≤ cut ∧ cut ≤ 9223372036854775807) :
    Good 7 (pu [.lst none (u8l bs), .lst none (ints .i64 zs), .int .i64 at', .int .u8 by', .int .i64 cut] (.bool true)) := by
  obtain ⟨L, hL⟩ : ∃ L, L = (ints .i64 zs).take 400 := ⟨_, rfl⟩
  have g0 := new_c (ints .i64 zs) L hL
  have t0 : Tp L 0 := hL ▸ tape0 zs hz
  obtain ⟨f1, W1, b1, o1, l1, m1, e1, t1, g1⟩ := fragments_e t0
  have hWl : W1.length = f1.length := by rw [e1]; simp [frL]
  obtain ⟨r2, b2, p2, u2, t2, g2⟩ := next_e t1 f1.length (by omega)
  obtain ⟨len, hlen⟩ : ∃ len : Int, len = f1.length := ⟨_, rfl⟩
  rw [← hlen] at g2 u2
  have hr2 : r2.toNat < f1.length := by omega
  obtain ⟨f, hfe⟩ : ∃ f, f = f1[r2.toNat] := ⟨_, rfl⟩
  have hff := o1 f (hfe ▸ List.getElem_mem hr2)
  have hfv := of_decide_eq_true (show validF f.n f.a f.b.length = true from hff.2.1)
  obtain ⟨n, t, a, b⟩ := f
  dsimp only at hfv
  obtain ⟨X, hX⟩ : ∃ X, X = u8l b := ⟨_, rfl⟩
  have hWi : W1[r2.toNat]? = some (.agg [.int .i64 n, .int .u16 t, .int .i64 a, .lst none X]) := by
    rw [e1]; simp only [frL, List.getElem?_map, List.getElem?_eq_getElem hr2, ← hfe, Option.map_some, Fr.v, hX]
  obtain ⟨rs, hrs⟩ : ∃ rs, rs = encF n t a b := ⟨_, rfl⟩
  have h60 : n ≤ 60 := hff.2.2
  have hrl : 5 ≤ rs.length ∧ rs.length ≤ 65 := by rw [hrs, encF_len]; split <;> omega
  obtain ⟨R, hR⟩ : ∃ R, R = u8l rs := ⟨_, rfl⟩
  have hRl : R.length = rs.length := by rw [hR, u8l_len]
  have g3 := rencode_c b X R n t a hX hff.2.1 hff.1.t (by rw [hR, hrs])
  have hk := known_c
  have k0 := lsame_c bs _ rfl (by omega)
  have k1 := lsame_c rs R hR (by omega)
  have hRi : ∀ q, q < rs.length → ∃ x : Int, R[q]? = some (.int .u8 x) ∧ 0 ≤ x ∧ x ≤ 255 := fun q hq => by
    have := (rs.getD q 0).toNat_lt
    exact ⟨_, by rw [hR]; exact u8l_at q hq, by omega, by omega⟩
  have hst : ∀ (q : Nat) (z : Int), 0 ≤ z ∧ z ≤ 255 → ∃ cs : List UInt8, O.st R q (.int .u8 z) = u8l cs ∧ cs.length = rs.length := fun q z hz => by
    have : (.int .u8 z : SV) = .int .u8 ((UInt8.ofNat z.toNat).toNat : Int) := by
      congr 1
      simp only [UInt8.toNat_ofNat']
      omega
    exact ⟨rs.set q (UInt8.ofNat z.toNat), by rw [ost, this, hR, u8l_set], by simp⟩
  clear hfe e1 hrs hR
  generalize ints .i64 zs = Z at *
  obtain ⟨X0, hX0⟩ : ∃ X, X = u8l bs := ⟨_, rfl⟩
  have hX0l : X0.length = bs.length := by rw [hX0, u8l_len]
  rw [← hX0] at k0 ⊢
  have hmk : True := trivial
  refine Good.of Try.func7 rfl (by rfl) (by kernel_rfl) ?_
  cbv
  (repeat' (first
    | (refine q1 (by first | exact trivial | omega | (dsimp only; omega) | exact pow62 _ (by omega) | exact mul9 (by omega) (by omega) | (simp only [oln, otk, odr, oap, ost, orp, ocp, osg, otn, oad, osb, osi, oby, pln, ptk, pdr, pap, pst, prp, pcp, psg, ptn, pad, psb, psi, pby, cst, ints_len, List.length_take, List.length_drop, List.length_append, List.length_set, List.length_replicate, List.length_cons, List.length_nil] at *; omega)) (fun z hz => ?_); (try simp only at hz); cbv)
    | (refine rq (by first | exact trivial | omega | (dsimp only; omega) | (simp only [oln, otk, odr, oap, ost, orp, ocp, osg, otn, oad, osb, osi, oby, pln, ptk, pdr, pap, pst, prp, pcp, psg, ptn, pad, psb, psi, pby, cst, ints_len, List.length_take, List.length_drop, List.length_append, List.length_set, List.length_replicate, List.length_cons, List.length_nil] at *; omega)) ?_; cbv)
    | (refine QC.tt (by first | omega | (dsimp only; omega) | exact rfl | (simp only [oln, otk, odr, oap, ost, orp, ocp, osg, otn, oad, osb, osi, oby, pln, ptk, pdr, pap, pst, prp, pcp, psg, ptn, pad, psb, psi, pby, cst, ints_len, List.length_take, List.length_drop, List.length_append, List.length_set, List.length_replicate, List.length_cons, List.length_nil] at *; omega)) ?_; cbv)
    | (refine QC.tt ?_ ?_; (focus (simp only [decide_true, Bool.and_true, Bool.and_self] <;> fail)); cbv)
    | (refine QC.ff ?_ ?_; (focus (simp only [decide_true, Bool.and_true, Bool.and_self, decide_false, Bool.false_and, reduceCtorEq, not_false_eq_true] <;> fail)); cbv)
    | (refine QC.ff (by first | omega | (dsimp only; omega) | (simp only [oln, otk, odr, oap, ost, orp, ocp, osg, otn, oad, osb, osi, oby, pln, ptk, pdr, pap, pst, prp, pcp, psg, ptn, pad, psb, psi, pby, cst, ints_len, List.length_take, List.length_drop, List.length_append, List.length_set, List.length_replicate, List.length_cons, List.length_nil] at *; omega)) ?_; cbv)
    | (refine QC.mk (fun hc => ?_) (fun hc => ?_) <;> (try dsimp only at hc) <;> cbv)
    | (refine br_mk2 (fun hb => ?_) (fun hb => ?_) <;> (try subst hb) <;> cbv)))
  (refine callq (g0) rfl rfl ?_; cbv; (repeat' (first
    | (refine q1 (by first | exact trivial | omega | (dsimp only; omega) | exact pow62 _ (by omega) | exact mul9 (by omega) (by omega) | (simp only [oln, otk, odr, oap, ost, orp, ocp, osg, otn, oad, osb, osi, oby, pln, ptk, pdr, pap, pst, prp, pcp, psg, ptn, pad, psb, psi, pby, cst, ints_len, List.length_take, List.length_drop, List.length_append, List.length_set, List.length_replicate, List.length_cons, List.length_nil] at *; omega)) (fun z hz => ?_); (try simp only at hz); cbv)
    | (refine rq (by first | exact trivial | omega | (dsimp only; omega) | (simp only [oln, otk, odr, oap, ost, orp, ocp, osg, otn, oad, osb, osi, oby, pln, ptk, pdr, pap, pst, prp, pcp, psg, ptn, pad, psb, psi, pby, cst, ints_len, List.length_take, List.length_drop, List.length_append, List.length_set, List.length_replicate, List.length_cons, List.length_nil] at *; omega)) ?_; cbv)
    | (refine QC.tt (by first | omega | (dsimp only; omega) | exact rfl | (simp only [oln, otk, odr, oap, ost, orp, ocp, osg, otn, oad, osb, osi, oby, pln, ptk, pdr, pap, pst, prp, pcp, psg, ptn, pad, psb, psi, pby, cst, ints_len, List.length_take, List.length_drop, List.length_append, List.length_set, List.length_replicate, List.length_cons, List.length_nil] at *; omega)) ?_; cbv)
    | (refine QC.tt ?_ ?_; (focus (simp only [decide_true, Bool.and_true, Bool.and_self] <;> fail)); cbv)
    | (refine QC.ff ?_ ?_; (focus (simp only [decide_true, Bool.and_true, Bool.and_self, decide_false, Bool.false_and, reduceCtorEq, not_false_eq_true] <;> fail)); cbv)
    | (refine QC.ff (by first | omega | (dsimp only; omega) | (simp only [oln, otk, odr, oap, ost, orp, ocp, osg, otn, oad, osb, osi, oby, pln, ptk, pdr, pap, pst, prp, pcp, psg, ptn, pad, psb, psi, pby, cst, ints_len, List.length_take, List.length_drop, List.length_append, List.length_set, List.length_replicate, List.length_cons, List.length_nil] at *; omega)) ?_; cbv)
    | (refine QC.mk (fun hc => ?_) (fun hc => ?_) <;> (try dsimp only at hc) <;> cbv)
    | (refine br_mk2 (fun hb => ?_) (fun hb => ?_) <;> (try subst hb) <;> cbv))))
  (refine callq (g1) rfl rfl ?_; cbv; (repeat' (first
    | (refine q1 (by first | exact trivial | omega | (dsimp only; omega) | exact pow62 _ (by omega) | exact mul9 (by omega) (by omega) | (simp only [oln, otk, odr, oap, ost, orp, ocp, osg, otn, oad, osb, osi, oby, pln, ptk, pdr, pap, pst, prp, pcp, psg, ptn, pad, psb, psi, pby, cst, ints_len, List.length_take, List.length_drop, List.length_append, List.length_set, List.length_replicate, List.length_cons, List.length_nil] at *; omega)) (fun z hz => ?_); (try simp only at hz); cbv)
    | (refine rq (by first | exact trivial | omega | (dsimp only; omega) | (simp only [oln, otk, odr, oap, ost, orp, ocp, osg, otn, oad, osb, osi, oby, pln, ptk, pdr, pap, pst, prp, pcp, psg, ptn, pad, psb, psi, pby, cst, ints_len, List.length_take, List.length_drop, List.length_append, List.length_set, List.length_replicate, List.length_cons, List.length_nil] at *; omega)) ?_; cbv)
    | (refine QC.tt (by first | omega | (dsimp only; omega) | exact rfl | (simp only [oln, otk, odr, oap, ost, orp, ocp, osg, otn, oad, osb, osi, oby, pln, ptk, pdr, pap, pst, prp, pcp, psg, ptn, pad, psb, psi, pby, cst, ints_len, List.length_take, List.length_drop, List.length_append, List.length_set, List.length_replicate, List.length_cons, List.length_nil] at *; omega)) ?_; cbv)
    | (refine QC.tt ?_ ?_; (focus (simp only [decide_true, Bool.and_true, Bool.and_self] <;> fail)); cbv)
    | (refine QC.ff ?_ ?_; (focus (simp only [decide_true, Bool.and_true, Bool.and_self, decide_false, Bool.false_and, reduceCtorEq, not_false_eq_true] <;> fail)); cbv)
    | (refine QC.ff (by first | omega | (dsimp only; omega) | (simp only [oln, otk, odr, oap, ost, orp, ocp, osg, otn, oad, osb, osi, oby, pln, ptk, pdr, pap, pst, prp, pcp, psg, ptn, pad, psb, psi, pby, cst, ints_len, List.length_take, List.length_drop, List.length_append, List.length_set, List.length_replicate, List.length_cons, List.length_nil] at *; omega)) ?_; cbv)
    | (refine QC.mk (fun hc => ?_) (fun hc => ?_) <;> (try dsimp only at hc) <;> cbv)
    | (refine br_mk2 (fun hb => ?_) (fun hb => ?_) <;> (try subst hb) <;> cbv))))
  have e : z = len := by (first | omega | (simp only [cst] at *; omega) | (simp only [oln, otk, odr, oap, ost, orp, ocp, osg, otn, oad, osb, osi, oby, pln, ptk, pdr, pap, pst, prp, pcp, psg, ptn, pad, psb, psi, pby, cst, ints_len, List.length_take, List.length_drop, List.length_append, List.length_set, List.length_replicate, List.length_cons, List.length_nil] at *; omega))
  subst e
  (refine callq (g2) rfl rfl ?_; cbv; (repeat' (first
    | (refine q1 (by first | exact trivial | omega | (dsimp only; omega) | exact pow62 _ (by omega) | exact mul9 (by omega) (by omega) | (simp only [oln, otk, odr, oap, ost, orp, ocp, osg, otn, oad, osb, osi, oby, pln, ptk, pdr, pap, pst, prp, pcp, psg, ptn, pad, psb, psi, pby, cst, ints_len, List.length_take, List.length_drop, List.length_append, List.length_set, List.length_replicate, List.length_cons, List.length_nil] at *; omega)) (fun z hz => ?_); (try simp only at hz); cbv)
    | (refine rq (by first | exact trivial | omega | (dsimp only; omega) | (simp only [oln, otk, odr, oap, ost, orp, ocp, osg, otn, oad, osb, osi, oby, pln, ptk, pdr, pap, pst, prp, pcp, psg, ptn, pad, psb, psi, pby, cst, ints_len, List.length_take, List.length_drop, List.length_append, List.length_set, List.length_replicate, List.length_cons, List.length_nil] at *; omega)) ?_; cbv)
    | (refine QC.tt (by first | omega | (dsimp only; omega) | exact rfl | (simp only [oln, otk, odr, oap, ost, orp, ocp, osg, otn, oad, osb, osi, oby, pln, ptk, pdr, pap, pst, prp, pcp, psg, ptn, pad, psb, psi, pby, cst, ints_len, List.length_take, List.length_drop, List.length_append, List.length_set, List.length_replicate, List.length_cons, List.length_nil] at *; omega)) ?_; cbv)
    | (refine QC.tt ?_ ?_; (focus (simp only [decide_true, Bool.and_true, Bool.and_self] <;> fail)); cbv)
    | (refine QC.ff ?_ ?_; (focus (simp only [decide_true, Bool.and_true, Bool.and_self, decide_false, Bool.false_and, reduceCtorEq, not_false_eq_true] <;> fail)); cbv)
    | (refine QC.ff (by first | omega | (dsimp only; omega) | (simp only [oln, otk, odr, oap, ost, orp, ocp, osg, otn, oad, osb, osi, oby, pln, ptk, pdr, pap, pst, prp, pcp, psg, ptn, pad, psb, psi, pby, cst, ints_len, List.length_take, List.length_drop, List.length_append, List.length_set, List.length_replicate, List.length_cons, List.length_nil] at *; omega)) ?_; cbv)
    | (refine QC.mk (fun hc => ?_) (fun hc => ?_) <;> (try dsimp only at hc) <;> cbv)
    | (refine br_mk2 (fun hb => ?_) (fun hb => ?_) <;> (try subst hb) <;> cbv))))
  (refine qv (r2.toNat, _) ⟨(by (first | omega | (simp only [cst] at *; omega) | (simp only [oln, otk, odr, oap, ost, orp, ocp, osg, otn, oad, osb, osi, oby, pln, ptk, pdr, pap, pst, prp, pcp, psg, ptn, pad, psb, psi, pby, cst, ints_len, List.length_take, List.length_drop, List.length_append, List.length_set, List.length_replicate, List.length_cons, List.length_nil] at *; omega))), hWi⟩ ?_; cbv; (repeat' (first
    | (refine q1 (by first | exact trivial | omega | (dsimp only; omega) | exact pow62 _ (by omega) | exact mul9 (by omega) (by omega) | (simp only [oln, otk, odr, oap, ost, orp, ocp, osg, otn, oad, osb, osi, oby, pln, ptk, pdr, pap, pst, prp, pcp, psg, ptn, pad, psb, psi, pby, cst, ints_len, List.length_take, List.length_drop, List.length_append, List.length_set, List.length_replicate, List.length_cons, List.length_nil] at *; omega)) (fun z hz => ?_); (try simp only at hz); cbv)
    | (refine rq (by first | exact trivial | omega | (dsimp only; omega) | (simp only [oln, otk, odr, oap, ost, orp, ocp, osg, otn, oad, osb, osi, oby, pln, ptk, pdr, pap, pst, prp, pcp, psg, ptn, pad, psb, psi, pby, cst, ints_len, List.length_take, List.length_drop, List.length_append, List.length_set, List.length_replicate, List.length_cons, List.length_nil] at *; omega)) ?_; cbv)
    | (refine QC.tt (by first | omega | (dsimp only; omega) | exact rfl | (simp only [oln, otk, odr, oap, ost, orp, ocp, osg, otn, oad, osb, osi, oby, pln, ptk, pdr, pap, pst, prp, pcp, psg, ptn, pad, psb, psi, pby, cst, ints_len, List.length_take, List.length_drop, List.length_append, List.length_set, List.length_replicate, List.length_cons, List.length_nil] at *; omega)) ?_; cbv)
    | (refine QC.tt ?_ ?_; (focus (simp only [decide_true, Bool.and_true, Bool.and_self] <;> fail)); cbv)
    | (refine QC.ff ?_ ?_; (focus (simp only [decide_true, Bool.and_true, Bool.and_self, decide_false, Bool.false_and, reduceCtorEq, not_false_eq_true] <;> fail)); cbv)
    | (refine QC.ff (by first | omega | (dsimp only; omega) | (simp only [oln, otk, odr, oap, ost, orp, ocp, osg, otn, oad, osb, osi, oby, pln, ptk, pdr, pap, pst, prp, pcp, psg, ptn, pad, psb, psi, pby, cst, ints_len, List.length_take, List.length_drop, List.length_append, List.length_set, List.length_replicate, List.length_cons, List.length_nil] at *; omega)) ?_; cbv)
    | (refine QC.mk (fun hc => ?_) (fun hc => ?_) <;> (try dsimp only at hc) <;> cbv)
    | (refine br_mk2 (fun hb => ?_) (fun hb => ?_) <;> (try subst hb) <;> cbv))))
  (refine callq (g3) rfl rfl ?_; cbv; (repeat' (first
    | (refine q1 (by first | exact trivial | omega | (dsimp only; omega) | exact pow62 _ (by omega) | exact mul9 (by omega) (by omega) | (simp only [oln, otk, odr, oap, ost, orp, ocp, osg, otn, oad, osb, osi, oby, pln, ptk, pdr, pap, pst, prp, pcp, psg, ptn, pad, psb, psi, pby, cst, ints_len, List.length_take, List.length_drop, List.length_append, List.length_set, List.length_replicate, List.length_cons, List.length_nil] at *; omega)) (fun z hz => ?_); (try simp only at hz); cbv)
    | (refine rq (by first | exact trivial | omega | (dsimp only; omega) | (simp only [oln, otk, odr, oap, ost, orp, ocp, osg, otn, oad, osb, osi, oby, pln, ptk, pdr, pap, pst, prp, pcp, psg, ptn, pad, psb, psi, pby, cst, ints_len, List.length_take, List.length_drop, List.length_append, List.length_set, List.length_replicate, List.length_cons, List.length_nil] at *; omega)) ?_; cbv)
    | (refine QC.tt (by first | omega | (dsimp only; omega) | exact rfl | (simp only [oln, otk, odr, oap, ost, orp, ocp, osg, otn, oad, osb, osi, oby, pln, ptk, pdr, pap, pst, prp, pcp, psg, ptn, pad, psb, psi, pby, cst, ints_len, List.length_take, List.length_drop, List.length_append, List.length_set, List.length_replicate, List.length_cons, List.length_nil] at *; omega)) ?_; cbv)
    | (refine QC.tt ?_ ?_; (focus (simp only [decide_true, Bool.and_true, Bool.and_self] <;> fail)); cbv)
    | (refine QC.ff ?_ ?_; (focus (simp only [decide_true, Bool.and_true, Bool.and_self, decide_false, Bool.false_and, reduceCtorEq, not_false_eq_true] <;> fail)); cbv)
    | (refine QC.ff (by first | omega | (dsimp only; omega) | (simp only [oln, otk, odr, oap, ost, orp, ocp, osg, otn, oad, osb, osi, oby, pln, ptk, pdr, pap, pst, prp, pcp, psg, ptn, pad, psb, psi, pby, cst, ints_len, List.length_take, List.length_drop, List.length_append, List.length_set, List.length_replicate, List.length_cons, List.length_nil] at *; omega)) ?_; cbv)
    | (refine QC.mk (fun hc => ?_) (fun hc => ?_) <;> (try dsimp only at hc) <;> cbv)
    | (refine br_mk2 (fun hb => ?_) (fun hb => ?_) <;> (try subst hb) <;> cbv))))
  obtain ⟨r5, p5, u5, g5⟩ := mod_e at' z ha (by (first | omega | (simp only [cst] at *; omega) | (simp only [oln, otk, odr, oap, ost, orp, ocp, osg, otn, oad, osb, osi, oby, pln, ptk, pdr, pap, pst, prp, pcp, psg, ptn, pad, psb, psi, pby, cst, ints_len, List.length_take, List.length_drop, List.length_append, List.length_set, List.length_replicate, List.length_cons, List.length_nil] at *; omega)))
  (refine callq (g5) rfl rfl ?_; cbv; (repeat' (first
    | (refine q1 (by first | exact trivial | omega | (dsimp only; omega) | exact pow62 _ (by omega) | exact mul9 (by omega) (by omega) | (simp only [oln, otk, odr, oap, ost, orp, ocp, osg, otn, oad, osb, osi, oby, pln, ptk, pdr, pap, pst, prp, pcp, psg, ptn, pad, psb, psi, pby, cst, ints_len, List.length_take, List.length_drop, List.length_append, List.length_set, List.length_replicate, List.length_cons, List.length_nil] at *; omega)) (fun z hz => ?_); (try simp only at hz); cbv)
    | (refine rq (by first | exact trivial | omega | (dsimp only; omega) | (simp only [oln, otk, odr, oap, ost, orp, ocp, osg, otn, oad, osb, osi, oby, pln, ptk, pdr, pap, pst, prp, pcp, psg, ptn, pad, psb, psi, pby, cst, ints_len, List.length_take, List.length_drop, List.length_append, List.length_set, List.length_replicate, List.length_cons, List.length_nil] at *; omega)) ?_; cbv)
    | (refine QC.tt (by first | omega | (dsimp only; omega) | exact rfl | (simp only [oln, otk, odr, oap, ost, orp, ocp, osg, otn, oad, osb, osi, oby, pln, ptk, pdr, pap, pst, prp, pcp, psg, ptn, pad, psb, psi, pby, cst, ints_len, List.length_take, List.length_drop, List.length_append, List.length_set, List.length_replicate, List.length_cons, List.length_nil] at *; omega)) ?_; cbv)
    | (refine QC.tt ?_ ?_; (focus (simp only [decide_true, Bool.and_true, Bool.and_self] <;> fail)); cbv)
    | (refine QC.ff ?_ ?_; (focus (simp only [decide_true, Bool.and_true, Bool.and_self, decide_false, Bool.false_and, reduceCtorEq, not_false_eq_true] <;> fail)); cbv)
    | (refine QC.ff (by first | omega | (dsimp only; omega) | (simp only [oln, otk, odr, oap, ost, orp, ocp, osg, otn, oad, osb, osi, oby, pln, ptk, pdr, pap, pst, prp, pcp, psg, ptn, pad, psb, psi, pby, cst, ints_len, List.length_take, List.length_drop, List.length_append, List.length_set, List.length_replicate, List.length_cons, List.length_nil] at *; omega)) ?_; cbv)
    | (refine QC.mk (fun hc => ?_) (fun hc => ?_) <;> (try dsimp only at hc) <;> cbv)
    | (refine br_mk2 (fun hb => ?_) (fun hb => ?_) <;> (try subst hb) <;> cbv))))
  obtain ⟨q, hq⟩ := Int.eq_ofNat_of_zero_le p5
  obtain ⟨x, hx, hx0, hx1⟩ := hRi q (by (first | omega | (simp only [cst] at *; omega) | (simp only [oln, otk, odr, oap, ost, orp, ocp, osg, otn, oad, osb, osi, oby, pln, ptk, pdr, pap, pst, prp, pcp, psg, ptn, pad, psb, psi, pby, cst, ints_len, List.length_take, List.length_drop, List.length_append, List.length_set, List.length_replicate, List.length_cons, List.length_nil] at *; omega)))
  (refine qv (q) (by (first | omega | (simp only [cst] at *; omega) | (simp only [oln, otk, odr, oap, ost, orp, ocp, osg, otn, oad, osb, osi, oby, pln, ptk, pdr, pap, pst, prp, pcp, psg, ptn, pad, psb, psi, pby, cst, ints_len, List.length_take, List.length_drop, List.length_append, List.length_set, List.length_replicate, List.length_cons, List.length_nil] at *; omega))) ?_; cbv; (repeat' (first
    | (refine q1 (by first | exact trivial | omega | (dsimp only; omega) | exact pow62 _ (by omega) | exact mul9 (by omega) (by omega) | (simp only [oln, otk, odr, oap, ost, orp, ocp, osg, otn, oad, osb, osi, oby, pln, ptk, pdr, pap, pst, prp, pcp, psg, ptn, pad, psb, psi, pby, cst, ints_len, List.length_take, List.length_drop, List.length_append, List.length_set, List.length_replicate, List.length_cons, List.length_nil] at *; omega)) (fun z hz => ?_); (try simp only at hz); cbv)
    | (refine rq (by first | exact trivial | omega | (dsimp only; omega) | (simp only [oln, otk, odr, oap, ost, orp, ocp, osg, otn, oad, osb, osi, oby, pln, ptk, pdr, pap, pst, prp, pcp, psg, ptn, pad, psb, psi, pby, cst, ints_len, List.length_take, List.length_drop, List.length_append, List.length_set, List.length_replicate, List.length_cons, List.length_nil] at *; omega)) ?_; cbv)
    | (refine QC.tt (by first | omega | (dsimp only; omega) | exact rfl | (simp only [oln, otk, odr, oap, ost, orp, ocp, osg, otn, oad, osb, osi, oby, pln, ptk, pdr, pap, pst, prp, pcp, psg, ptn, pad, psb, psi, pby, cst, ints_len, List.length_take, List.length_drop, List.length_append, List.length_set, List.length_replicate, List.length_cons, List.length_nil] at *; omega)) ?_; cbv)
    | (refine QC.tt ?_ ?_; (focus (simp only [decide_true, Bool.and_true, Bool.and_self] <;> fail)); cbv)
    | (refine QC.ff ?_ ?_; (focus (simp only [decide_true, Bool.and_true, Bool.and_self, decide_false, Bool.false_and, reduceCtorEq, not_false_eq_true] <;> fail)); cbv)
    | (refine QC.ff (by first | omega | (dsimp only; omega) | (simp only [oln, otk, odr, oap, ost, orp, ocp, osg, otn, oad, osb, osi, oby, pln, ptk, pdr, pap, pst, prp, pcp, psg, ptn, pad, psb, psi, pby, cst, ints_len, List.length_take, List.length_drop, List.length_append, List.length_set, List.length_replicate, List.length_cons, List.length_nil] at *; omega)) ?_; cbv)
    | (refine QC.mk (fun hc => ?_) (fun hc => ?_) <;> (try dsimp only at hc) <;> cbv)
    | (refine br_mk2 (fun hb => ?_) (fun hb => ?_) <;> (try subst hb) <;> cbv))))
  (refine qv _ (hx) ?_; cbv; (repeat' (first
    | (refine q1 (by first | exact trivial | omega | (dsimp only; omega) | exact pow62 _ (by omega) | exact mul9 (by omega) (by omega) | (simp only [oln, otk, odr, oap, ost, orp, ocp, osg, otn, oad, osb, osi, oby, pln, ptk, pdr, pap, pst, prp, pcp, psg, ptn, pad, psb, psi, pby, cst, ints_len, List.length_take, List.length_drop, List.length_append, List.length_set, List.length_replicate, List.length_cons, List.length_nil] at *; omega)) (fun z hz => ?_); (try simp only at hz); cbv)
    | (refine rq (by first | exact trivial | omega | (dsimp only; omega) | (simp only [oln, otk, odr, oap, ost, orp, ocp, osg, otn, oad, osb, osi, oby, pln, ptk, pdr, pap, pst, prp, pcp, psg, ptn, pad, psb, psi, pby, cst, ints_len, List.length_take, List.length_drop, List.length_append, List.length_set, List.length_replicate, List.length_cons, List.length_nil] at *; omega)) ?_; cbv)
    | (refine QC.tt (by first | omega | (dsimp only; omega) | exact rfl | (simp only [oln, otk, odr, oap, ost, orp, ocp, osg, otn, oad, osb, osi, oby, pln, ptk, pdr, pap, pst, prp, pcp, psg, ptn, pad, psb, psi, pby, cst, ints_len, List.length_take, List.length_drop, List.length_append, List.length_set, List.length_replicate, List.length_cons, List.length_nil] at *; omega)) ?_; cbv)
    | (refine QC.tt ?_ ?_; (focus (simp only [decide_true, Bool.and_true, Bool.and_self] <;> fail)); cbv)
    | (refine QC.ff ?_ ?_; (focus (simp only [decide_true, Bool.and_true, Bool.and_self, decide_false, Bool.false_and, reduceCtorEq, not_false_eq_true] <;> fail)); cbv)
    | (refine QC.ff (by first | omega | (dsimp only; omega) | (simp only [oln, otk, odr, oap, ost, orp, ocp, osg, otn, oad, osb, osi, oby, pln, ptk, pdr, pap, pst, prp, pcp, psg, ptn, pad, psb, psi, pby, cst, ints_len, List.length_take, List.length_drop, List.length_append, List.length_set, List.length_replicate, List.length_cons, List.length_nil] at *; omega)) ?_; cbv)
    | (refine QC.mk (fun hc => ?_) (fun hc => ?_) <;> (try dsimp only at hc) <;> cbv)
    | (refine br_mk2 (fun hb => ?_) (fun hb => ?_) <;> (try subst hb) <;> cbv))))
  (refine qv (q) (by (first | omega | (simp only [cst] at *; omega) | (simp only [oln, otk, odr, oap, ost, orp, ocp, osg, otn, oad, osb, osi, oby, pln, ptk, pdr, pap, pst, prp, pcp, psg, ptn, pad, psb, psi, pby, cst, ints_len, List.length_take, List.length_drop, List.length_append, List.length_set, List.length_replicate, List.length_cons, List.length_nil] at *; omega))) ?_; cbv; (repeat' (first
    | (refine q1 (by first | exact trivial | omega | (dsimp only; omega) | exact pow62 _ (by omega) | exact mul9 (by omega) (by omega) | (simp only [oln, otk, odr, oap, ost, orp, ocp, osg, otn, oad, osb, osi, oby, pln, ptk, pdr, pap, pst, prp, pcp, psg, ptn, pad, psb, psi, pby, cst, ints_len, List.length_take, List.length_drop, List.length_append, List.length_set, List.length_replicate, List.length_cons, List.length_nil] at *; omega)) (fun z hz => ?_); (try simp only at hz); cbv)
    | (refine rq (by first | exact trivial | omega | (dsimp only; omega) | (simp only [oln, otk, odr, oap, ost, orp, ocp, osg, otn, oad, osb, osi, oby, pln, ptk, pdr, pap, pst, prp, pcp, psg, ptn, pad, psb, psi, pby, cst, ints_len, List.length_take, List.length_drop, List.length_append, List.length_set, List.length_replicate, List.length_cons, List.length_nil] at *; omega)) ?_; cbv)
    | (refine QC.tt (by first | omega | (dsimp only; omega) | exact rfl | (simp only [oln, otk, odr, oap, ost, orp, ocp, osg, otn, oad, osb, osi, oby, pln, ptk, pdr, pap, pst, prp, pcp, psg, ptn, pad, psb, psi, pby, cst, ints_len, List.length_take, List.length_drop, List.length_append, List.length_set, List.length_replicate, List.length_cons, List.length_nil] at *; omega)) ?_; cbv)
    | (refine QC.tt ?_ ?_; (focus (simp only [decide_true, Bool.and_true, Bool.and_self] <;> fail)); cbv)
    | (refine QC.ff ?_ ?_; (focus (simp only [decide_true, Bool.and_true, Bool.and_self, decide_false, Bool.false_and, reduceCtorEq, not_false_eq_true] <;> fail)); cbv)
    | (refine QC.ff (by first | omega | (dsimp only; omega) | (simp only [oln, otk, odr, oap, ost, orp, ocp, osg, otn, oad, osb, osi, oby, pln, ptk, pdr, pap, pst, prp, pcp, psg, ptn, pad, psb, psi, pby, cst, ints_len, List.length_take, List.length_drop, List.length_append, List.length_set, List.length_replicate, List.length_cons, List.length_nil] at *; omega)) ?_; cbv)
    | (refine QC.mk (fun hc => ?_) (fun hc => ?_) <;> (try dsimp only at hc) <;> cbv)
    | (refine br_mk2 (fun hb => ?_) (fun hb => ?_) <;> (try subst hb) <;> cbv))))
  have hzb : 0 ≤ z ∧ z ≤ 255 := by
    rw [hz]
    have : x.toNat ^^^ by'.toNat < 2 ^ 8 := Nat.xor_lt_two_pow (by omega) (by omega)
    (first | omega | (simp only [cst] at *; omega) | (simp only [oln, otk, odr, oap, ost, orp, ocp, osg, otn, oad, osb, osi, oby, pln, ptk, pdr, pap, pst, prp, pcp, psg, ptn, pad, psb, psi, pby, cst, ints_len, List.length_take, List.length_drop, List.length_append, List.length_set, List.length_replicate, List.length_cons, List.length_nil] at *; omega))
  obtain ⟨cs, hcs, hcl⟩ := hst q z hzb
  have k2 := lsame_c cs _ hcs (by omega)
  (refine callq (hk) rfl rfl ?_; cbv; (repeat' (first
    | (refine q1 (by first | exact trivial | omega | (dsimp only; omega) | exact pow62 _ (by omega) | exact mul9 (by omega) (by omega) | (simp only [oln, otk, odr, oap, ost, orp, ocp, osg, otn, oad, osb, osi, oby, pln, ptk, pdr, pap, pst, prp, pcp, psg, ptn, pad, psb, psi, pby, cst, ints_len, List.length_take, List.length_drop, List.length_append, List.length_set, List.length_replicate, List.length_cons, List.length_nil] at *; omega)) (fun z hz => ?_); (try simp only at hz); cbv)
    | (refine rq (by first | exact trivial | omega | (dsimp only; omega) | (simp only [oln, otk, odr, oap, ost, orp, ocp, osg, otn, oad, osb, osi, oby, pln, ptk, pdr, pap, pst, prp, pcp, psg, ptn, pad, psb, psi, pby, cst, ints_len, List.length_take, List.length_drop, List.length_append, List.length_set, List.length_replicate, List.length_cons, List.length_nil] at *; omega)) ?_; cbv)
    | (refine QC.tt (by first | omega | (dsimp only; omega) | exact rfl | (simp only [oln, otk, odr, oap, ost, orp, ocp, osg, otn, oad, osb, osi, oby, pln, ptk, pdr, pap, pst, prp, pcp, psg, ptn, pad, psb, psi, pby, cst, ints_len, List.length_take, List.length_drop, List.length_append, List.length_set, List.length_replicate, List.length_cons, List.length_nil] at *; omega)) ?_; cbv)
    | (refine QC.tt ?_ ?_; (focus (simp only [decide_true, Bool.and_true, Bool.and_self] <;> fail)); cbv)
    | (refine QC.ff ?_ ?_; (focus (simp only [decide_true, Bool.and_true, Bool.and_self, decide_false, Bool.false_and, reduceCtorEq, not_false_eq_true] <;> fail)); cbv)
    | (refine QC.ff (by first | omega | (dsimp only; omega) | (simp only [oln, otk, odr, oap, ost, orp, ocp, osg, otn, oad, osb, osi, oby, pln, ptk, pdr, pap, pst, prp, pcp, psg, ptn, pad, psb, psi, pby, cst, ints_len, List.length_take, List.length_drop, List.length_append, List.length_set, List.length_replicate, List.length_cons, List.length_nil] at *; omega)) ?_; cbv)
    | (refine QC.mk (fun hc => ?_) (fun hc => ?_) <;> (try dsimp only at hc) <;> cbv)
    | (refine br_mk2 (fun hb => ?_) (fun hb => ?_) <;> (try subst hb) <;> cbv))))
  (refine callq (k0) rfl rfl ?_; cbv; (repeat' (first
    | (refine q1 (by first | exact trivial | omega | (dsimp only; omega) | exact pow62 _ (by omega) | exact mul9 (by omega) (by omega) | (simp only [oln, otk, odr, oap, ost, orp, ocp, osg, otn, oad, osb, osi, oby, pln, ptk, pdr, pap, pst, prp, pcp, psg, ptn, pad, psb, psi, pby, cst, ints_len, List.length_take, List.length_drop, List.length_append, List.length_set, List.length_replicate, List.length_cons, List.length_nil] at *; omega)) (fun z hz => ?_); (try simp only at hz); cbv)
    | (refine rq (by first | exact trivial | omega | (dsimp only; omega) | (simp only [oln, otk, odr, oap, ost, orp, ocp, osg, otn, oad, osb, osi, oby, pln, ptk, pdr, pap, pst, prp, pcp, psg, ptn, pad, psb, psi, pby, cst, ints_len, List.length_take, List.length_drop, List.length_append, List.length_set, List.length_replicate, List.length_cons, List.length_nil] at *; omega)) ?_; cbv)
    | (refine QC.tt (by first | omega | (dsimp only; omega) | exact rfl | (simp only [oln, otk, odr, oap, ost, orp, ocp, osg, otn, oad, osb, osi, oby, pln, ptk, pdr, pap, pst, prp, pcp, psg, ptn, pad, psb, psi, pby, cst, ints_len, List.length_take, List.length_drop, List.length_append, List.length_set, List.length_replicate, List.length_cons, List.length_nil] at *; omega)) ?_; cbv)
    | (refine QC.tt ?_ ?_; (focus (simp only [decide_true, Bool.and_true, Bool.and_self] <;> fail)); cbv)
    | (refine QC.ff ?_ ?_; (focus (simp only [decide_true, Bool.and_true, Bool.and_self, decide_false, Bool.false_and, reduceCtorEq, not_false_eq_true] <;> fail)); cbv)
    | (refine QC.ff (by first | omega | (dsimp only; omega) | (simp only [oln, otk, odr, oap, ost, orp, ocp, osg, otn, oad, osb, osi, oby, pln, ptk, pdr, pap, pst, prp, pcp, psg, ptn, pad, psb, psi, pby, cst, ints_len, List.length_take, List.length_drop, List.length_append, List.length_set, List.length_replicate, List.length_cons, List.length_nil] at *; omega)) ?_; cbv)
    | (refine QC.mk (fun hc => ?_) (fun hc => ?_) <;> (try dsimp only at hc) <;> cbv)
    | (refine br_mk2 (fun hb => ?_) (fun hb => ?_) <;> (try subst hb) <;> cbv))))
  (refine callq (k1) rfl rfl ?_; cbv; (repeat' (first
    | (refine q1 (by first | exact trivial | omega | (dsimp only; omega) | exact pow62 _ (by omega) | exact mul9 (by omega) (by omega) | (simp only [oln, otk, odr, oap, ost, orp, ocp, osg, otn, oad, osb, osi, oby, pln, ptk, pdr, pap, pst, prp, pcp, psg, ptn, pad, psb, psi, pby, cst, ints_len, List.length_take, List.length_drop, List.length_append, List.length_set, List.length_replicate, List.length_cons, List.length_nil] at *; omega)) (fun z hz => ?_); (try simp only at hz); cbv)
    | (refine rq (by first | exact trivial | omega | (dsimp only; omega) | (simp only [oln, otk, odr, oap, ost, orp, ocp, osg, otn, oad, osb, osi, oby, pln, ptk, pdr, pap, pst, prp, pcp, psg, ptn, pad, psb, psi, pby, cst, ints_len, List.length_take, List.length_drop, List.length_append, List.length_set, List.length_replicate, List.length_cons, List.length_nil] at *; omega)) ?_; cbv)
    | (refine QC.tt (by first | omega | (dsimp only; omega) | exact rfl | (simp only [oln, otk, odr, oap, ost, orp, ocp, osg, otn, oad, osb, osi, oby, pln, ptk, pdr, pap, pst, prp, pcp, psg, ptn, pad, psb, psi, pby, cst, ints_len, List.length_take, List.length_drop, List.length_append, List.length_set, List.length_replicate, List.length_cons, List.length_nil] at *; omega)) ?_; cbv)
    | (refine QC.tt ?_ ?_; (focus (simp only [decide_true, Bool.and_true, Bool.and_self] <;> fail)); cbv)
    | (refine QC.ff ?_ ?_; (focus (simp only [decide_true, Bool.and_true, Bool.and_self, decide_false, Bool.false_and, reduceCtorEq, not_false_eq_true] <;> fail)); cbv)
    | (refine QC.ff (by first | omega | (dsimp only; omega) | (simp only [oln, otk, odr, oap, ost, orp, ocp, osg, otn, oad, osb, osi, oby, pln, ptk, pdr, pap, pst, prp, pcp, psg, ptn, pad, psb, psi, pby, cst, ints_len, List.length_take, List.length_drop, List.length_append, List.length_set, List.length_replicate, List.length_cons, List.length_nil] at *; omega)) ?_; cbv)
    | (refine QC.mk (fun hc => ?_) (fun hc => ?_) <;> (try dsimp only at hc) <;> cbv)
    | (refine br_mk2 (fun hb => ?_) (fun hb => ?_) <;> (try subst hb) <;> cbv))))
  (refine callq (k2) rfl rfl ?_; cbv; (repeat' (first
    | (refine q1 (by first | exact trivial | omega | (dsimp only; omega) | exact pow62 _ (by omega) | exact mul9 (by omega) (by omega) | (simp only [oln, otk, odr, oap, ost, orp, ocp, osg, otn, oad, osb, osi, oby, pln, ptk, pdr, pap, pst, prp, pcp, psg, ptn, pad, psb, psi, pby, cst, ints_len, List.length_take, List.length_drop, List.length_append, List.length_set, List.length_replicate, List.length_cons, List.length_nil] at *; omega)) (fun z hz => ?_); (try simp only at hz); cbv)
    | (refine rq (by first | exact trivial | omega | (dsimp only; omega) | (simp only [oln, otk, odr, oap, ost, orp, ocp, osg, otn, oad, osb, osi, oby, pln, ptk, pdr, pap, pst, prp, pcp, psg, ptn, pad, psb, psi, pby, cst, ints_len, List.length_take, List.length_drop, List.length_append, List.length_set, List.length_replicate, List.length_cons, List.length_nil] at *; omega)) ?_; cbv)
    | (refine QC.tt (by first | omega | (dsimp only; omega) | exact rfl | (simp only [oln, otk, odr, oap, ost, orp, ocp, osg, otn, oad, osb, osi, oby, pln, ptk, pdr, pap, pst, prp, pcp, psg, ptn, pad, psb, psi, pby, cst, ints_len, List.length_take, List.length_drop, List.length_append, List.length_set, List.length_replicate, List.length_cons, List.length_nil] at *; omega)) ?_; cbv)
    | (refine QC.tt ?_ ?_; (focus (simp only [decide_true, Bool.and_true, Bool.and_self] <;> fail)); cbv)
    | (refine QC.ff ?_ ?_; (focus (simp only [decide_true, Bool.and_true, Bool.and_self, decide_false, Bool.false_and, reduceCtorEq, not_false_eq_true] <;> fail)); cbv)
    | (refine QC.ff (by first | omega | (dsimp only; omega) | (simp only [oln, otk, odr, oap, ost, orp, ocp, osg, otn, oad, osb, osi, oby, pln, ptk, pdr, pap, pst, prp, pcp, psg, ptn, pad, psb, psi, pby, cst, ints_len, List.length_take, List.length_drop, List.length_append, List.length_set, List.length_replicate, List.length_cons, List.length_nil] at *; omega)) ?_; cbv)
    | (refine QC.mk (fun hc => ?_) (fun hc => ?_) <;> (try dsimp only at hc) <;> cbv)
    | (refine br_mk2 (fun hb => ?_) (fun hb => ?_) <;> (try subst hb) <;> cbv))))
  rename_i zz hzz _ _
  have hlc : (O.st R q (.int .u8 zz)).length = rs.length := by rw [hcs, u8l_len, hcl]
  obtain ⟨r6, p6, u6, g6⟩ := mod_e cut z hc (by (first | omega | (simp only [cst] at *; omega) | (simp only [oln, otk, odr, oap, ost, orp, ocp, osg, otn, oad, osb, osi, oby, pln, ptk, pdr, pap, pst, prp, pcp, psg, ptn, pad, psb, psi, pby, cst, ints_len, List.length_take, List.length_drop, List.length_append, List.length_set, List.length_replicate, List.length_cons, List.length_nil] at *; omega)))
  (refine callq (g6) rfl rfl ?_; cbv; (repeat' (first
    | (refine q1 (by first | exact trivial | omega | (dsimp only; omega) | exact pow62 _ (by omega) | exact mul9 (by omega) (by omega) | (simp only [oln, otk, odr, oap, ost, orp, ocp, osg, otn, oad, osb, osi, oby, pln, ptk, pdr, pap, pst, prp, pcp, psg, ptn, pad, psb, psi, pby, cst, ints_len, List.length_take, List.length_drop, List.length_append, List.length_set, List.length_replicate, List.length_cons, List.length_nil] at *; omega)) (fun z hz => ?_); (try simp only at hz); cbv)
    | (refine rq (by first | exact trivial | omega | (dsimp only; omega) | (simp only [oln, otk, odr, oap, ost, orp, ocp, osg, otn, oad, osb, osi, oby, pln, ptk, pdr, pap, pst, prp, pcp, psg, ptn, pad, psb, psi, pby, cst, ints_len, List.length_take, List.length_drop, List.length_append, List.length_set, List.length_replicate, List.length_cons, List.length_nil] at *; omega)) ?_; cbv)
    | (refine QC.tt (by first | omega | (dsimp only; omega) | exact rfl | (simp only [oln, otk, odr, oap, ost, orp, ocp, osg, otn, oad, osb, osi, oby, pln, ptk, pdr, pap, pst, prp, pcp, psg, ptn, pad, psb, psi, pby, cst, ints_len, List.length_take, List.length_drop, List.length_append, List.length_set, List.length_replicate, List.length_cons, List.length_nil] at *; omega)) ?_; cbv)
    | (refine QC.tt ?_ ?_; (focus (simp only [decide_true, Bool.and_true, Bool.and_self] <;> fail)); cbv)
    | (refine QC.ff ?_ ?_; (focus (simp only [decide_true, Bool.and_true, Bool.and_self, decide_false, Bool.false_and, reduceCtorEq, not_false_eq_true] <;> fail)); cbv)
    | (refine QC.ff (by first | omega | (dsimp only; omega) | (simp only [oln, otk, odr, oap, ost, orp, ocp, osg, otn, oad, osb, osi, oby, pln, ptk, pdr, pap, pst, prp, pcp, psg, ptn, pad, psb, psi, pby, cst, ints_len, List.length_take, List.length_drop, List.length_append, List.length_set, List.length_replicate, List.length_cons, List.length_nil] at *; omega)) ?_; cbv)
    | (refine QC.mk (fun hc => ?_) (fun hc => ?_) <;> (try dsimp only at hc) <;> cbv)
    | (refine br_mk2 (fun hb => ?_) (fun hb => ?_) <;> (try subst hb) <;> cbv))))
  have hc1 : cs.length ≤ 65 := hcl ▸ hrl.2
  have hc2 : (cs.take r6.toNat).length ≤ 140737488351900 := by rw [List.length_take]; exact Nat.le_trans (Nat.min_le_right _ _) (Nat.le_trans hc1 (by decide))
  have hc3 : (cs ++ bs).length ≤ 140737488351900 := by rw [List.length_append]; exact Nat.le_trans (Nat.add_le_add hc1 hb) (by decide)
  have k3 := lsame_c (cs.take r6.toNat) (O.sg (O.st R q (.int .u8 zz)) 0 (O.tn r6)) (by rw [osg, otn, List.drop_zero, hcs, u8l_take]) hc2
  (refine callq (k3) rfl rfl ?_; cbv; (repeat' (first
    | (refine q1 (by first | exact trivial | omega | (dsimp only; omega) | exact pow62 _ (by omega) | exact mul9 (by omega) (by omega) | (simp only [oln, otk, odr, oap, ost, orp, ocp, osg, otn, oad, osb, osi, oby, pln, ptk, pdr, pap, pst, prp, pcp, psg, ptn, pad, psb, psi, pby, cst, ints_len, List.length_take, List.length_drop, List.length_append, List.length_set, List.length_replicate, List.length_cons, List.length_nil] at *; omega)) (fun z hz => ?_); (try simp only at hz); cbv)
    | (refine rq (by first | exact trivial | omega | (dsimp only; omega) | (simp only [oln, otk, odr, oap, ost, orp, ocp, osg, otn, oad, osb, osi, oby, pln, ptk, pdr, pap, pst, prp, pcp, psg, ptn, pad, psb, psi, pby, cst, ints_len, List.length_take, List.length_drop, List.length_append, List.length_set, List.length_replicate, List.length_cons, List.length_nil] at *; omega)) ?_; cbv)
    | (refine QC.tt (by first | omega | (dsimp only; omega) | exact rfl | (simp only [oln, otk, odr, oap, ost, orp, ocp, osg, otn, oad, osb, osi, oby, pln, ptk, pdr, pap, pst, prp, pcp, psg, ptn, pad, psb, psi, pby, cst, ints_len, List.length_take, List.length_drop, List.length_append, List.length_set, List.length_replicate, List.length_cons, List.length_nil] at *; omega)) ?_; cbv)
    | (refine QC.tt ?_ ?_; (focus (simp only [decide_true, Bool.and_true, Bool.and_self] <;> fail)); cbv)
    | (refine QC.ff ?_ ?_; (focus (simp only [decide_true, Bool.and_true, Bool.and_self, decide_false, Bool.false_and, reduceCtorEq, not_false_eq_true] <;> fail)); cbv)
    | (refine QC.ff (by first | omega | (dsimp only; omega) | (simp only [oln, otk, odr, oap, ost, orp, ocp, osg, otn, oad, osb, osi, oby, pln, ptk, pdr, pap, pst, prp, pcp, psg, ptn, pad, psb, psi, pby, cst, ints_len, List.length_take, List.length_drop, List.length_append, List.length_set, List.length_replicate, List.length_cons, List.length_nil] at *; omega)) ?_; cbv)
    | (refine QC.mk (fun hc => ?_) (fun hc => ?_) <;> (try dsimp only at hc) <;> cbv)
    | (refine br_mk2 (fun hb => ?_) (fun hb => ?_) <;> (try subst hb) <;> cbv))))
  have k4 := lsame_c (cs ++ bs) (apL (O.st R q (.int .u8 zz)) X0) (by rw [apL_eq, hcs, hX0, u8l_app]) hc3
  (refine callq (k4) rfl rfl ?_; cbv; (repeat' (first
    | (refine q1 (by first | exact trivial | omega | (dsimp only; omega) | exact pow62 _ (by omega) | exact mul9 (by omega) (by omega) | (simp only [oln, otk, odr, oap, ost, orp, ocp, osg, otn, oad, osb, osi, oby, pln, ptk, pdr, pap, pst, prp, pcp, psg, ptn, pad, psb, psi, pby, cst, ints_len, List.length_take, List.length_drop, List.length_append, List.length_set, List.length_replicate, List.length_cons, List.length_nil] at *; omega)) (fun z hz => ?_); (try simp only at hz); cbv)
    | (refine rq (by first | exact trivial | omega | (dsimp only; omega) | (simp only [oln, otk, odr, oap, ost, orp, ocp, osg, otn, oad, osb, osi, oby, pln, ptk, pdr, pap, pst, prp, pcp, psg, ptn, pad, psb, psi, pby, cst, ints_len, List.length_take, List.length_drop, List.length_append, List.length_set, List.length_replicate, List.length_cons, List.length_nil] at *; omega)) ?_; cbv)
    | (refine QC.tt (by first | omega | (dsimp only; omega) | exact rfl | (simp only [oln, otk, odr, oap, ost, orp, ocp, osg, otn, oad, osb, osi, oby, pln, ptk, pdr, pap, pst, prp, pcp, psg, ptn, pad, psb, psi, pby, cst, ints_len, List.length_take, List.length_drop, List.length_append, List.length_set, List.length_replicate, List.length_cons, List.length_nil] at *; omega)) ?_; cbv)
    | (refine QC.tt ?_ ?_; (focus (simp only [decide_true, Bool.and_true, Bool.and_self] <;> fail)); cbv)
    | (refine QC.ff ?_ ?_; (focus (simp only [decide_true, Bool.and_true, Bool.and_self, decide_false, Bool.false_and, reduceCtorEq, not_false_eq_true] <;> fail)); cbv)
    | (refine QC.ff (by first | omega | (dsimp only; omega) | (simp only [oln, otk, odr, oap, ost, orp, ocp, osg, otn, oad, osb, osi, oby, pln, ptk, pdr, pap, pst, prp, pcp, psg, ptn, pad, psb, psi, pby, cst, ints_len, List.length_take, List.length_drop, List.length_append, List.length_set, List.length_replicate, List.length_cons, List.length_nil] at *; omega)) ?_; cbv)
    | (refine QC.mk (fun hc => ?_) (fun hc => ?_) <;> (try dsimp only at hc) <;> cbv)
    | (refine br_mk2 (fun hb => ?_) (fun hb => ?_) <;> (try subst hb) <;> cbv))))
  exact ⟨rfl, rfl, rfl⟩
end Go.Proofs.Ytfmaicedefhejaa
