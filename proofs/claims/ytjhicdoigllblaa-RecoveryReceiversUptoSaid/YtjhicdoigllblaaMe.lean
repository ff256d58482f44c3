/- Texts put together: VV VX VY VZ VZr WA WB XJ XK Lf XLa XLb. -/
import Derived.Test.YtjhicdoigllblaaMd
namespace Go.Proofs.Ytjhicdoigllblaa
set_option linter.unusedVariables false
set_option linter.unusedSimpArgs false
open Go.RowKit
set_option maxHeartbeats 8000000
set_option maxRecDepth 4000 in
theorem recv_n (tag cnt hv : Int) (dn : Bool) (ps : List (List UInt8)) (R : List SV) (hR : R = rowsB ps) (hf : Rcv.fits ⟨tag, cnt, ps, hv, dn⟩) (hv1 : VRc tag cnt ps hv dn) (hz0 : zeroB tag cnt ps.length hv dn = false)
    (n : Int) (k : Bool) (d : List UInt8) (D : List SV) (hD : D = u8l d) (hd : d.length ≤ 140737488351232) (hp : valP n cnt d.length = true)
    (R' : List SV) (hR' : R' = rowsB (putP ps n.toNat d)) (h' : Int) (hh' : h' = hasN (putP ps n.toNat d) (putP ps n.toNat d).length) (b' : Bool) (hb' : b' = true ↔ h' = allI ps.length) :
    Good 31 (pu [.agg [.int .u8 tag, .int .i64 cnt, .lst none R, .int .u32 hv, .bool dn], .agg [.int .u8 tag, .int .i64 n, .int .i64 cnt, .bool k, .lst none D]] (.tup [.agg [.int .u8 tag, .int .i64 cnt, .lst none R', .int .u32 h', .bool b'], .int .u32 (if k = true then h' else 0), .bool k, .int .i64 0])) := by
  have hRl : R.length = ps.length := by rw [hR, rowsB_len]
  have hDl : D.length = d.length := by rw [hD, u8l_len]
  have hpv := of_decide_eq_true hp
  have hcn : (ps.length : Int) = cnt := by
    rcases hv1 with h | h
    · rw [hz0] at h; cases h
    · exact h.2.2.1
  have g1 := vreceiver_c tag cnt hv dn ps R hR hf true ⟨fun _ => hv1, fun _ => rfl⟩
  have g2 := valid_c tag n cnt k D d.length true hDl hp.symm
  have g3 := zero_c tag cnt hv dn R ps.length hRl false hz0.symm
  have g4 := clonedRow_c ps R hR hf.n hf.b
  have g5 := cloned_c d D hD hd
  obtain ⟨q, hq⟩ : ∃ q, q = putP ps n.toNat d := ⟨_, rfl⟩
  have hql : q.length = ps.length := by rw [hq, putP_len]
  have hqb : ∀ p ∈ q, p.length ≤ 140737488351232 := fun p h => by
    rw [hq, putP] at h
    split at h
    · rcases List.mem_or_eq_of_mem_set h with h | h
      · exact hf.b p h
      · rw [h]; exact hd
    · exact hf.b p h
  rw [← hq] at hR' hh'
  have g6 := has_c q R' hR' (by omega) hqb h' hh'
  have g7 : ∀ N : Int, N = ps.length → Good 57 (pu [.int .i64 N] (.int .u32 (allI ps.length))) := fun N hN => all_c ps.length N _ hN (by omega) rfl
  have g7 := g7 cnt hcn.symm
  obtain ⟨A, hA⟩ : ∃ A : Int, A = allI ps.length := ⟨_, rfl⟩
  rw [← hA] at g7 hb'
  have hnl : n.toNat < ps.length := by omega
  obtain ⟨bb, B, e1, e2, e3⟩ := rowsB_at hR n.toNat hnl
  have hBl : B.length = bb.length := by rw [e2, u8l_len]
  have hj : n = (n.toNat : Int) := by omega
  obtain ⟨i, hi⟩ : ∃ i, i = n.toNat := ⟨_, rfl⟩
  rw [← hi] at hj hnl e3
  have hput : (bb.length = 0 → R.set i (.lst none D) = R') ∧ (¬ bb.length = 0 → R = R') := by
    have hg : ps.getD n.toNat [] = bb := by rw [List.getD_eq_getElem?_getD, e1]; rfl
    rw [hR', hq, putP, hg, hi]
    refine ⟨fun h => ?_, fun h => ?_⟩
    · rw [if_pos h, hR, hD, rowsB_set]
    · rw [if_neg h, hR]
  have hbl : bb.length ≤ 140737488351232 := hf.b bb (List.mem_of_getElem? e1)
  clear hv1 hz0 hp hR hR' hh' hq hf e1 e2 hD hA
  have hmk : True := trivial
  cases k
  · skip
    refine Good.of Try.func31 rfl (by rfl) (by kernel_rfl) ?_
    cbv
    (repeat' (first
    | (refine q1 (by first | exact trivial | omega | (dsimp only; omega) | exact pow62 _ (by omega) | exact mul9 (by omega) (by omega) | (simp only [sm] at *; omega)) (fun z hz => ?_); (try simp only at hz); cbv)
    | (refine rq (by first | exact trivial | omega | (dsimp only; omega) | (simp only [sm] at *; omega)) ?_; cbv)
    | (refine QC.tt (by first | omega | (dsimp only; omega) | exact rfl | (simp only [sm] at *; omega)) ?_; cbv)
    | (refine QC.tt ?_ ?_; (focus (simp only [decide_true, Bool.and_true, Bool.and_self] <;> fail)); cbv)
    | (refine QC.ff ?_ ?_; (focus (simp only [decide_true, Bool.and_true, Bool.and_self, decide_false, Bool.false_and, reduceCtorEq, not_false_eq_true] <;> fail)); cbv)
    | (refine QC.ff (by first | omega | (dsimp only; omega) | (simp only [sm] at *; omega)) ?_; cbv)
    | (refine QC.mk (fun hc => ?_) (fun hc => ?_) <;> (try dsimp only at hc) <;> cbv)
    | (refine br_mk2 (fun hb => ?_) (fun hb => ?_) <;> (try subst hb) <;> cbv)))
    (refine callq (g1) rfl rfl ?_; cbv; (repeat' (first
    | (refine q1 (by first | exact trivial | omega | (dsimp only; omega) | exact pow62 _ (by omega) | exact mul9 (by omega) (by omega) | (simp only [sm] at *; omega)) (fun z hz => ?_); (try simp only at hz); cbv)
    | (refine rq (by first | exact trivial | omega | (dsimp only; omega) | (simp only [sm] at *; omega)) ?_; cbv)
    | (refine QC.tt (by first | omega | (dsimp only; omega) | exact rfl | (simp only [sm] at *; omega)) ?_; cbv)
    | (refine QC.tt ?_ ?_; (focus (simp only [decide_true, Bool.and_true, Bool.and_self] <;> fail)); cbv)
    | (refine QC.ff ?_ ?_; (focus (simp only [decide_true, Bool.and_true, Bool.and_self, decide_false, Bool.false_and, reduceCtorEq, not_false_eq_true] <;> fail)); cbv)
    | (refine QC.ff (by first | omega | (dsimp only; omega) | (simp only [sm] at *; omega)) ?_; cbv)
    | (refine QC.mk (fun hc => ?_) (fun hc => ?_) <;> (try dsimp only at hc) <;> cbv)
    | (refine br_mk2 (fun hb => ?_) (fun hb => ?_) <;> (try subst hb) <;> cbv))))
    (refine callq (g2) rfl rfl ?_; cbv; (repeat' (first
    | (refine q1 (by first | exact trivial | omega | (dsimp only; omega) | exact pow62 _ (by omega) | exact mul9 (by omega) (by omega) | (simp only [sm] at *; omega)) (fun z hz => ?_); (try simp only at hz); cbv)
    | (refine rq (by first | exact trivial | omega | (dsimp only; omega) | (simp only [sm] at *; omega)) ?_; cbv)
    | (refine QC.tt (by first | omega | (dsimp only; omega) | exact rfl | (simp only [sm] at *; omega)) ?_; cbv)
    | (refine QC.tt ?_ ?_; (focus (simp only [decide_true, Bool.and_true, Bool.and_self] <;> fail)); cbv)
    | (refine QC.ff ?_ ?_; (focus (simp only [decide_true, Bool.and_true, Bool.and_self, decide_false, Bool.false_and, reduceCtorEq, not_false_eq_true] <;> fail)); cbv)
    | (refine QC.ff (by first | omega | (dsimp only; omega) | (simp only [sm] at *; omega)) ?_; cbv)
    | (refine QC.mk (fun hc => ?_) (fun hc => ?_) <;> (try dsimp only at hc) <;> cbv)
    | (refine br_mk2 (fun hb => ?_) (fun hb => ?_) <;> (try subst hb) <;> cbv))))
    (refine callq (g3) rfl rfl ?_; cbv; (repeat' (first
    | (refine q1 (by first | exact trivial | omega | (dsimp only; omega) | exact pow62 _ (by omega) | exact mul9 (by omega) (by omega) | (simp only [sm] at *; omega)) (fun z hz => ?_); (try simp only at hz); cbv)
    | (refine rq (by first | exact trivial | omega | (dsimp only; omega) | (simp only [sm] at *; omega)) ?_; cbv)
    | (refine QC.tt (by first | omega | (dsimp only; omega) | exact rfl | (simp only [sm] at *; omega)) ?_; cbv)
    | (refine QC.tt ?_ ?_; (focus (simp only [decide_true, Bool.and_true, Bool.and_self] <;> fail)); cbv)
    | (refine QC.ff ?_ ?_; (focus (simp only [decide_true, Bool.and_true, Bool.and_self, decide_false, Bool.false_and, reduceCtorEq, not_false_eq_true] <;> fail)); cbv)
    | (refine QC.ff (by first | omega | (dsimp only; omega) | (simp only [sm] at *; omega)) ?_; cbv)
    | (refine QC.mk (fun hc => ?_) (fun hc => ?_) <;> (try dsimp only at hc) <;> cbv)
    | (refine br_mk2 (fun hb => ?_) (fun hb => ?_) <;> (try subst hb) <;> cbv))))
    (refine callq (g4) rfl rfl ?_; cbv; (repeat' (first
    | (refine q1 (by first | exact trivial | omega | (dsimp only; omega) | exact pow62 _ (by omega) | exact mul9 (by omega) (by omega) | (simp only [sm] at *; omega)) (fun z hz => ?_); (try simp only at hz); cbv)
    | (refine rq (by first | exact trivial | omega | (dsimp only; omega) | (simp only [sm] at *; omega)) ?_; cbv)
    | (refine QC.tt (by first | omega | (dsimp only; omega) | exact rfl | (simp only [sm] at *; omega)) ?_; cbv)
    | (refine QC.tt ?_ ?_; (focus (simp only [decide_true, Bool.and_true, Bool.and_self] <;> fail)); cbv)
    | (refine QC.ff ?_ ?_; (focus (simp only [decide_true, Bool.and_true, Bool.and_self, decide_false, Bool.false_and, reduceCtorEq, not_false_eq_true] <;> fail)); cbv)
    | (refine QC.ff (by first | omega | (dsimp only; omega) | (simp only [sm] at *; omega)) ?_; cbv)
    | (refine QC.mk (fun hc => ?_) (fun hc => ?_) <;> (try dsimp only at hc) <;> cbv)
    | (refine br_mk2 (fun hb => ?_) (fun hb => ?_) <;> (try subst hb) <;> cbv))))
    (refine qv (i) (by (first | omega | (simp only [cst] at *; omega) | (simp only [sm] at *; omega))) ?_; cbv; (repeat' (first
    | (refine q1 (by first | exact trivial | omega | (dsimp only; omega) | exact pow62 _ (by omega) | exact mul9 (by omega) (by omega) | (simp only [sm] at *; omega)) (fun z hz => ?_); (try simp only at hz); cbv)
    | (refine rq (by first | exact trivial | omega | (dsimp only; omega) | (simp only [sm] at *; omega)) ?_; cbv)
    | (refine QC.tt (by first | omega | (dsimp only; omega) | exact rfl | (simp only [sm] at *; omega)) ?_; cbv)
    | (refine QC.tt ?_ ?_; (focus (simp only [decide_true, Bool.and_true, Bool.and_self] <;> fail)); cbv)
    | (refine QC.ff ?_ ?_; (focus (simp only [decide_true, Bool.and_true, Bool.and_self, decide_false, Bool.false_and, reduceCtorEq, not_false_eq_true] <;> fail)); cbv)
    | (refine QC.ff (by first | omega | (dsimp only; omega) | (simp only [sm] at *; omega)) ?_; cbv)
    | (refine QC.mk (fun hc => ?_) (fun hc => ?_) <;> (try dsimp only at hc) <;> cbv)
    | (refine br_mk2 (fun hb => ?_) (fun hb => ?_) <;> (try subst hb) <;> cbv))))
    (refine qv _ (e3) ?_; cbv; (repeat' (first
    | (refine q1 (by first | exact trivial | omega | (dsimp only; omega) | exact pow62 _ (by omega) | exact mul9 (by omega) (by omega) | (simp only [sm] at *; omega)) (fun z hz => ?_); (try simp only at hz); cbv)
    | (refine rq (by first | exact trivial | omega | (dsimp only; omega) | (simp only [sm] at *; omega)) ?_; cbv)
    | (refine QC.tt (by first | omega | (dsimp only; omega) | exact rfl | (simp only [sm] at *; omega)) ?_; cbv)
    | (refine QC.tt ?_ ?_; (focus (simp only [decide_true, Bool.and_true, Bool.and_self] <;> fail)); cbv)
    | (refine QC.ff ?_ ?_; (focus (simp only [decide_true, Bool.and_true, Bool.and_self, decide_false, Bool.false_and, reduceCtorEq, not_false_eq_true] <;> fail)); cbv)
    | (refine QC.ff (by first | omega | (dsimp only; omega) | (simp only [sm] at *; omega)) ?_; cbv)
    | (refine QC.mk (fun hc => ?_) (fun hc => ?_) <;> (try dsimp only at hc) <;> cbv)
    | (refine br_mk2 (fun hb => ?_) (fun hb => ?_) <;> (try subst hb) <;> cbv))))
    · have hS : O.st R i (.lst none D) = R' := by rw [ost]; exact hput.1 (by (first | omega | (simp only [cst] at *; omega) | (simp only [sm] at *; omega)))
      rw [← hS] at g6
      (refine callq (g5) rfl rfl ?_; cbv; (repeat' (first
    | (refine q1 (by first | exact trivial | omega | (dsimp only; omega) | exact pow62 _ (by omega) | exact mul9 (by omega) (by omega) | (simp only [sm] at *; omega)) (fun z hz => ?_); (try simp only at hz); cbv)
    | (refine rq (by first | exact trivial | omega | (dsimp only; omega) | (simp only [sm] at *; omega)) ?_; cbv)
    | (refine QC.tt (by first | omega | (dsimp only; omega) | exact rfl | (simp only [sm] at *; omega)) ?_; cbv)
    | (refine QC.tt ?_ ?_; (focus (simp only [decide_true, Bool.and_true, Bool.and_self] <;> fail)); cbv)
    | (refine QC.ff ?_ ?_; (focus (simp only [decide_true, Bool.and_true, Bool.and_self, decide_false, Bool.false_and, reduceCtorEq, not_false_eq_true] <;> fail)); cbv)
    | (refine QC.ff (by first | omega | (dsimp only; omega) | (simp only [sm] at *; omega)) ?_; cbv)
    | (refine QC.mk (fun hc => ?_) (fun hc => ?_) <;> (try dsimp only at hc) <;> cbv)
    | (refine br_mk2 (fun hb => ?_) (fun hb => ?_) <;> (try subst hb) <;> cbv))))
      (refine qv (i) (by (first | omega | (simp only [cst] at *; omega) | (simp only [sm] at *; omega))) ?_; cbv; (repeat' (first
    | (refine q1 (by first | exact trivial | omega | (dsimp only; omega) | exact pow62 _ (by omega) | exact mul9 (by omega) (by omega) | (simp only [sm] at *; omega)) (fun z hz => ?_); (try simp only at hz); cbv)
    | (refine rq (by first | exact trivial | omega | (dsimp only; omega) | (simp only [sm] at *; omega)) ?_; cbv)
    | (refine QC.tt (by first | omega | (dsimp only; omega) | exact rfl | (simp only [sm] at *; omega)) ?_; cbv)
    | (refine QC.tt ?_ ?_; (focus (simp only [decide_true, Bool.and_true, Bool.and_self] <;> fail)); cbv)
    | (refine QC.ff ?_ ?_; (focus (simp only [decide_true, Bool.and_true, Bool.and_self, decide_false, Bool.false_and, reduceCtorEq, not_false_eq_true] <;> fail)); cbv)
    | (refine QC.ff (by first | omega | (dsimp only; omega) | (simp only [sm] at *; omega)) ?_; cbv)
    | (refine QC.mk (fun hc => ?_) (fun hc => ?_) <;> (try dsimp only at hc) <;> cbv)
    | (refine br_mk2 (fun hb => ?_) (fun hb => ?_) <;> (try subst hb) <;> cbv))))
      (refine callq (g6) rfl rfl ?_; cbv; (repeat' (first
    | (refine q1 (by first | exact trivial | omega | (dsimp only; omega) | exact pow62 _ (by omega) | exact mul9 (by omega) (by omega) | (simp only [sm] at *; omega)) (fun z hz => ?_); (try simp only at hz); cbv)
    | (refine rq (by first | exact trivial | omega | (dsimp only; omega) | (simp only [sm] at *; omega)) ?_; cbv)
    | (refine QC.tt (by first | omega | (dsimp only; omega) | exact rfl | (simp only [sm] at *; omega)) ?_; cbv)
    | (refine QC.tt ?_ ?_; (focus (simp only [decide_true, Bool.and_true, Bool.and_self] <;> fail)); cbv)
    | (refine QC.ff ?_ ?_; (focus (simp only [decide_true, Bool.and_true, Bool.and_self, decide_false, Bool.false_and, reduceCtorEq, not_false_eq_true] <;> fail)); cbv)
    | (refine QC.ff (by first | omega | (dsimp only; omega) | (simp only [sm] at *; omega)) ?_; cbv)
    | (refine QC.mk (fun hc => ?_) (fun hc => ?_) <;> (try dsimp only at hc) <;> cbv)
    | (refine br_mk2 (fun hb => ?_) (fun hb => ?_) <;> (try subst hb) <;> cbv))))
      (refine callq (g7) rfl rfl ?_; cbv; (repeat' (first
    | (refine q1 (by first | exact trivial | omega | (dsimp only; omega) | exact pow62 _ (by omega) | exact mul9 (by omega) (by omega) | (simp only [sm] at *; omega)) (fun z hz => ?_); (try simp only at hz); cbv)
    | (refine rq (by first | exact trivial | omega | (dsimp only; omega) | (simp only [sm] at *; omega)) ?_; cbv)
    | (refine QC.tt (by first | omega | (dsimp only; omega) | exact rfl | (simp only [sm] at *; omega)) ?_; cbv)
    | (refine QC.tt ?_ ?_; (focus (simp only [decide_true, Bool.and_true, Bool.and_self] <;> fail)); cbv)
    | (refine QC.ff ?_ ?_; (focus (simp only [decide_true, Bool.and_true, Bool.and_self, decide_false, Bool.false_and, reduceCtorEq, not_false_eq_true] <;> fail)); cbv)
    | (refine QC.ff (by first | omega | (dsimp only; omega) | (simp only [sm] at *; omega)) ?_; cbv)
    | (refine QC.mk (fun hc => ?_) (fun hc => ?_) <;> (try dsimp only at hc) <;> cbv)
    | (refine br_mk2 (fun hb => ?_) (fun hb => ?_) <;> (try subst hb) <;> cbv))))
      · have eb : b' = true := hb'.2 hc
        refine Fin.mk ?_ rfl rfl
        rw [eb, ← hS]
        try rfl
      · have eb : b' = false := by
          cases hbb : b'
          · rfl
          · exact absurd (hb'.1 hbb) hc
        refine Fin.mk ?_ rfl rfl
        rw [eb, ← hS]
        try rfl
    · have hS : R = R' := hput.2 (by (first | omega | (simp only [cst] at *; omega) | (simp only [sm] at *; omega)))
      rw [← hS] at g6
      (refine callq (g6) rfl rfl ?_; cbv; (repeat' (first
    | (refine q1 (by first | exact trivial | omega | (dsimp only; omega) | exact pow62 _ (by omega) | exact mul9 (by omega) (by omega) | (simp only [sm] at *; omega)) (fun z hz => ?_); (try simp only at hz); cbv)
    | (refine rq (by first | exact trivial | omega | (dsimp only; omega) | (simp only [sm] at *; omega)) ?_; cbv)
    | (refine QC.tt (by first | omega | (dsimp only; omega) | exact rfl | (simp only [sm] at *; omega)) ?_; cbv)
    | (refine QC.tt ?_ ?_; (focus (simp only [decide_true, Bool.and_true, Bool.and_self] <;> fail)); cbv)
    | (refine QC.ff ?_ ?_; (focus (simp only [decide_true, Bool.and_true, Bool.and_self, decide_false, Bool.false_and, reduceCtorEq, not_false_eq_true] <;> fail)); cbv)
    | (refine QC.ff (by first | omega | (dsimp only; omega) | (simp only [sm] at *; omega)) ?_; cbv)
    | (refine QC.mk (fun hc => ?_) (fun hc => ?_) <;> (try dsimp only at hc) <;> cbv)
    | (refine br_mk2 (fun hb => ?_) (fun hb => ?_) <;> (try subst hb) <;> cbv))))
      (refine callq (g7) rfl rfl ?_; cbv; (repeat' (first
    | (refine q1 (by first | exact trivial | omega | (dsimp only; omega) | exact pow62 _ (by omega) | exact mul9 (by omega) (by omega) | (simp only [sm] at *; omega)) (fun z hz => ?_); (try simp only at hz); cbv)
    | (refine rq (by first | exact trivial | omega | (dsimp only; omega) | (simp only [sm] at *; omega)) ?_; cbv)
    | (refine QC.tt (by first | omega | (dsimp only; omega) | exact rfl | (simp only [sm] at *; omega)) ?_; cbv)
    | (refine QC.tt ?_ ?_; (focus (simp only [decide_true, Bool.and_true, Bool.and_self] <;> fail)); cbv)
    | (refine QC.ff ?_ ?_; (focus (simp only [decide_true, Bool.and_true, Bool.and_self, decide_false, Bool.false_and, reduceCtorEq, not_false_eq_true] <;> fail)); cbv)
    | (refine QC.ff (by first | omega | (dsimp only; omega) | (simp only [sm] at *; omega)) ?_; cbv)
    | (refine QC.mk (fun hc => ?_) (fun hc => ?_) <;> (try dsimp only at hc) <;> cbv)
    | (refine br_mk2 (fun hb => ?_) (fun hb => ?_) <;> (try subst hb) <;> cbv))))
      · have eb : b' = true := hb'.2 hc
        refine Fin.mk ?_ rfl rfl
        rw [eb, ← hS]
        try rfl
      · have eb : b' = false := by
          cases hbb : b'
          · rfl
          · exact absurd (hb'.1 hbb) hc
        refine Fin.mk ?_ rfl rfl
        rw [eb, ← hS]
        try rfl
  · skip
    refine Good.of Try.func31 rfl (by rfl) (by kernel_rfl) ?_
    cbv
    (repeat' (first
    | (refine q1 (by first | exact trivial | omega | (dsimp only; omega) | exact pow62 _ (by omega) | exact mul9 (by omega) (by omega) | (simp only [sm] at *; omega)) (fun z hz => ?_); (try simp only at hz); cbv)
    | (refine rq (by first | exact trivial | omega | (dsimp only; omega) | (simp only [sm] at *; omega)) ?_; cbv)
    | (refine QC.tt (by first | omega | (dsimp only; omega) | exact rfl | (simp only [sm] at *; omega)) ?_; cbv)
    | (refine QC.tt ?_ ?_; (focus (simp only [decide_true, Bool.and_true, Bool.and_self] <;> fail)); cbv)
    | (refine QC.ff ?_ ?_; (focus (simp only [decide_true, Bool.and_true, Bool.and_self, decide_false, Bool.false_and, reduceCtorEq, not_false_eq_true] <;> fail)); cbv)
    | (refine QC.ff (by first | omega | (dsimp only; omega) | (simp only [sm] at *; omega)) ?_; cbv)
    | (refine QC.mk (fun hc => ?_) (fun hc => ?_) <;> (try dsimp only at hc) <;> cbv)
    | (refine br_mk2 (fun hb => ?_) (fun hb => ?_) <;> (try subst hb) <;> cbv)))
    (refine callq (g1) rfl rfl ?_; cbv; (repeat' (first
    | (refine q1 (by first | exact trivial | omega | (dsimp only; omega) | exact pow62 _ (by omega) | exact mul9 (by omega) (by omega) | (simp only [sm] at *; omega)) (fun z hz => ?_); (try simp only at hz); cbv)
    | (refine rq (by first | exact trivial | omega | (dsimp only; omega) | (simp only [sm] at *; omega)) ?_; cbv)
    | (refine QC.tt (by first | omega | (dsimp only; omega) | exact rfl | (simp only [sm] at *; omega)) ?_; cbv)
    | (refine QC.tt ?_ ?_; (focus (simp only [decide_true, Bool.and_true, Bool.and_self] <;> fail)); cbv)
    | (refine QC.ff ?_ ?_; (focus (simp only [decide_true, Bool.and_true, Bool.and_self, decide_false, Bool.false_and, reduceCtorEq, not_false_eq_true] <;> fail)); cbv)
    | (refine QC.ff (by first | omega | (dsimp only; omega) | (simp only [sm] at *; omega)) ?_; cbv)
    | (refine QC.mk (fun hc => ?_) (fun hc => ?_) <;> (try dsimp only at hc) <;> cbv)
    | (refine br_mk2 (fun hb => ?_) (fun hb => ?_) <;> (try subst hb) <;> cbv))))
    (refine callq (g2) rfl rfl ?_; cbv; (repeat' (first
    | (refine q1 (by first | exact trivial | omega | (dsimp only; omega) | exact pow62 _ (by omega) | exact mul9 (by omega) (by omega) | (simp only [sm] at *; omega)) (fun z hz => ?_); (try simp only at hz); cbv)
    | (refine rq (by first | exact trivial | omega | (dsimp only; omega) | (simp only [sm] at *; omega)) ?_; cbv)
    | (refine QC.tt (by first | omega | (dsimp only; omega) | exact rfl | (simp only [sm] at *; omega)) ?_; cbv)
    | (refine QC.tt ?_ ?_; (focus (simp only [decide_true, Bool.and_true, Bool.and_self] <;> fail)); cbv)
    | (refine QC.ff ?_ ?_; (focus (simp only [decide_true, Bool.and_true, Bool.and_self, decide_false, Bool.false_and, reduceCtorEq, not_false_eq_true] <;> fail)); cbv)
    | (refine QC.ff (by first | omega | (dsimp only; omega) | (simp only [sm] at *; omega)) ?_; cbv)
    | (refine QC.mk (fun hc => ?_) (fun hc => ?_) <;> (try dsimp only at hc) <;> cbv)
    | (refine br_mk2 (fun hb => ?_) (fun hb => ?_) <;> (try subst hb) <;> cbv))))
    (refine callq (g3) rfl rfl ?_; cbv; (repeat' (first
    | (refine q1 (by first | exact trivial | omega | (dsimp only; omega) | exact pow62 _ (by omega) | exact mul9 (by omega) (by omega) | (simp only [sm] at *; omega)) (fun z hz => ?_); (try simp only at hz); cbv)
    | (refine rq (by first | exact trivial | omega | (dsimp only; omega) | (simp only [sm] at *; omega)) ?_; cbv)
    | (refine QC.tt (by first | omega | (dsimp only; omega) | exact rfl | (simp only [sm] at *; omega)) ?_; cbv)
    | (refine QC.tt ?_ ?_; (focus (simp only [decide_true, Bool.and_true, Bool.and_self] <;> fail)); cbv)
    | (refine QC.ff ?_ ?_; (focus (simp only [decide_true, Bool.and_true, Bool.and_self, decide_false, Bool.false_and, reduceCtorEq, not_false_eq_true] <;> fail)); cbv)
    | (refine QC.ff (by first | omega | (dsimp only; omega) | (simp only [sm] at *; omega)) ?_; cbv)
    | (refine QC.mk (fun hc => ?_) (fun hc => ?_) <;> (try dsimp only at hc) <;> cbv)
    | (refine br_mk2 (fun hb => ?_) (fun hb => ?_) <;> (try subst hb) <;> cbv))))
    (refine callq (g4) rfl rfl ?_; cbv; (repeat' (first
    | (refine q1 (by first | exact trivial | omega | (dsimp only; omega) | exact pow62 _ (by omega) | exact mul9 (by omega) (by omega) | (simp only [sm] at *; omega)) (fun z hz => ?_); (try simp only at hz); cbv)
    | (refine rq (by first | exact trivial | omega | (dsimp only; omega) | (simp only [sm] at *; omega)) ?_; cbv)
    | (refine QC.tt (by first | omega | (dsimp only; omega) | exact rfl | (simp only [sm] at *; omega)) ?_; cbv)
    | (refine QC.tt ?_ ?_; (focus (simp only [decide_true, Bool.and_true, Bool.and_self] <;> fail)); cbv)
    | (refine QC.ff ?_ ?_; (focus (simp only [decide_true, Bool.and_true, Bool.and_self, decide_false, Bool.false_and, reduceCtorEq, not_false_eq_true] <;> fail)); cbv)
    | (refine QC.ff (by first | omega | (dsimp only; omega) | (simp only [sm] at *; omega)) ?_; cbv)
    | (refine QC.mk (fun hc => ?_) (fun hc => ?_) <;> (try dsimp only at hc) <;> cbv)
    | (refine br_mk2 (fun hb => ?_) (fun hb => ?_) <;> (try subst hb) <;> cbv))))
    (refine qv (i) (by (first | omega | (simp only [cst] at *; omega) | (simp only [sm] at *; omega))) ?_; cbv; (repeat' (first
    | (refine q1 (by first | exact trivial | omega | (dsimp only; omega) | exact pow62 _ (by omega) | exact mul9 (by omega) (by omega) | (simp only [sm] at *; omega)) (fun z hz => ?_); (try simp only at hz); cbv)
    | (refine rq (by first | exact trivial | omega | (dsimp only; omega) | (simp only [sm] at *; omega)) ?_; cbv)
    | (refine QC.tt (by first | omega | (dsimp only; omega) | exact rfl | (simp only [sm] at *; omega)) ?_; cbv)
    | (refine QC.tt ?_ ?_; (focus (simp only [decide_true, Bool.and_true, Bool.and_self] <;> fail)); cbv)
    | (refine QC.ff ?_ ?_; (focus (simp only [decide_true, Bool.and_true, Bool.and_self, decide_false, Bool.false_and, reduceCtorEq, not_false_eq_true] <;> fail)); cbv)
    | (refine QC.ff (by first | omega | (dsimp only; omega) | (simp only [sm] at *; omega)) ?_; cbv)
    | (refine QC.mk (fun hc => ?_) (fun hc => ?_) <;> (try dsimp only at hc) <;> cbv)
    | (refine br_mk2 (fun hb => ?_) (fun hb => ?_) <;> (try subst hb) <;> cbv))))
    (refine qv _ (e3) ?_; cbv; (repeat' (first
    | (refine q1 (by first | exact trivial | omega | (dsimp only; omega) | exact pow62 _ (by omega) | exact mul9 (by omega) (by omega) | (simp only [sm] at *; omega)) (fun z hz => ?_); (try simp only at hz); cbv)
    | (refine rq (by first | exact trivial | omega | (dsimp only; omega) | (simp only [sm] at *; omega)) ?_; cbv)
    | (refine QC.tt (by first | omega | (dsimp only; omega) | exact rfl | (simp only [sm] at *; omega)) ?_; cbv)
    | (refine QC.tt ?_ ?_; (focus (simp only [decide_true, Bool.and_true, Bool.and_self] <;> fail)); cbv)
    | (refine QC.ff ?_ ?_; (focus (simp only [decide_true, Bool.and_true, Bool.and_self, decide_false, Bool.false_and, reduceCtorEq, not_false_eq_true] <;> fail)); cbv)
    | (refine QC.ff (by first | omega | (dsimp only; omega) | (simp only [sm] at *; omega)) ?_; cbv)
    | (refine QC.mk (fun hc => ?_) (fun hc => ?_) <;> (try dsimp only at hc) <;> cbv)
    | (refine br_mk2 (fun hb => ?_) (fun hb => ?_) <;> (try subst hb) <;> cbv))))
    · have hS : O.st R i (.lst none D) = R' := by rw [ost]; exact hput.1 (by (first | omega | (simp only [cst] at *; omega) | (simp only [sm] at *; omega)))
      rw [← hS] at g6
      (refine callq (g5) rfl rfl ?_; cbv; (repeat' (first
    | (refine q1 (by first | exact trivial | omega | (dsimp only; omega) | exact pow62 _ (by omega) | exact mul9 (by omega) (by omega) | (simp only [sm] at *; omega)) (fun z hz => ?_); (try simp only at hz); cbv)
    | (refine rq (by first | exact trivial | omega | (dsimp only; omega) | (simp only [sm] at *; omega)) ?_; cbv)
    | (refine QC.tt (by first | omega | (dsimp only; omega) | exact rfl | (simp only [sm] at *; omega)) ?_; cbv)
    | (refine QC.tt ?_ ?_; (focus (simp only [decide_true, Bool.and_true, Bool.and_self] <;> fail)); cbv)
    | (refine QC.ff ?_ ?_; (focus (simp only [decide_true, Bool.and_true, Bool.and_self, decide_false, Bool.false_and, reduceCtorEq, not_false_eq_true] <;> fail)); cbv)
    | (refine QC.ff (by first | omega | (dsimp only; omega) | (simp only [sm] at *; omega)) ?_; cbv)
    | (refine QC.mk (fun hc => ?_) (fun hc => ?_) <;> (try dsimp only at hc) <;> cbv)
    | (refine br_mk2 (fun hb => ?_) (fun hb => ?_) <;> (try subst hb) <;> cbv))))
      (refine qv (i) (by (first | omega | (simp only [cst] at *; omega) | (simp only [sm] at *; omega))) ?_; cbv; (repeat' (first
    | (refine q1 (by first | exact trivial | omega | (dsimp only; omega) | exact pow62 _ (by omega) | exact mul9 (by omega) (by omega) | (simp only [sm] at *; omega)) (fun z hz => ?_); (try simp only at hz); cbv)
    | (refine rq (by first | exact trivial | omega | (dsimp only; omega) | (simp only [sm] at *; omega)) ?_; cbv)
    | (refine QC.tt (by first | omega | (dsimp only; omega) | exact rfl | (simp only [sm] at *; omega)) ?_; cbv)
    | (refine QC.tt ?_ ?_; (focus (simp only [decide_true, Bool.and_true, Bool.and_self] <;> fail)); cbv)
    | (refine QC.ff ?_ ?_; (focus (simp only [decide_true, Bool.and_true, Bool.and_self, decide_false, Bool.false_and, reduceCtorEq, not_false_eq_true] <;> fail)); cbv)
    | (refine QC.ff (by first | omega | (dsimp only; omega) | (simp only [sm] at *; omega)) ?_; cbv)
    | (refine QC.mk (fun hc => ?_) (fun hc => ?_) <;> (try dsimp only at hc) <;> cbv)
    | (refine br_mk2 (fun hb => ?_) (fun hb => ?_) <;> (try subst hb) <;> cbv))))
      (refine callq (g6) rfl rfl ?_; cbv; (repeat' (first
    | (refine q1 (by first | exact trivial | omega | (dsimp only; omega) | exact pow62 _ (by omega) | exact mul9 (by omega) (by omega) | (simp only [sm] at *; omega)) (fun z hz => ?_); (try simp only at hz); cbv)
    | (refine rq (by first | exact trivial | omega | (dsimp only; omega) | (simp only [sm] at *; omega)) ?_; cbv)
    | (refine QC.tt (by first | omega | (dsimp only; omega) | exact rfl | (simp only [sm] at *; omega)) ?_; cbv)
    | (refine QC.tt ?_ ?_; (focus (simp only [decide_true, Bool.and_true, Bool.and_self] <;> fail)); cbv)
    | (refine QC.ff ?_ ?_; (focus (simp only [decide_true, Bool.and_true, Bool.and_self, decide_false, Bool.false_and, reduceCtorEq, not_false_eq_true] <;> fail)); cbv)
    | (refine QC.ff (by first | omega | (dsimp only; omega) | (simp only [sm] at *; omega)) ?_; cbv)
    | (refine QC.mk (fun hc => ?_) (fun hc => ?_) <;> (try dsimp only at hc) <;> cbv)
    | (refine br_mk2 (fun hb => ?_) (fun hb => ?_) <;> (try subst hb) <;> cbv))))
      (refine callq (g7) rfl rfl ?_; cbv; (repeat' (first
    | (refine q1 (by first | exact trivial | omega | (dsimp only; omega) | exact pow62 _ (by omega) | exact mul9 (by omega) (by omega) | (simp only [sm] at *; omega)) (fun z hz => ?_); (try simp only at hz); cbv)
    | (refine rq (by first | exact trivial | omega | (dsimp only; omega) | (simp only [sm] at *; omega)) ?_; cbv)
    | (refine QC.tt (by first | omega | (dsimp only; omega) | exact rfl | (simp only [sm] at *; omega)) ?_; cbv)
    | (refine QC.tt ?_ ?_; (focus (simp only [decide_true, Bool.and_true, Bool.and_self] <;> fail)); cbv)
    | (refine QC.ff ?_ ?_; (focus (simp only [decide_true, Bool.and_true, Bool.and_self, decide_false, Bool.false_and, reduceCtorEq, not_false_eq_true] <;> fail)); cbv)
    | (refine QC.ff (by first | omega | (dsimp only; omega) | (simp only [sm] at *; omega)) ?_; cbv)
    | (refine QC.mk (fun hc => ?_) (fun hc => ?_) <;> (try dsimp only at hc) <;> cbv)
    | (refine br_mk2 (fun hb => ?_) (fun hb => ?_) <;> (try subst hb) <;> cbv))))
      · have eb : b' = true := hb'.2 hc
        refine Fin.mk ?_ rfl rfl
        rw [eb, ← hS]
        try rfl
      · have eb : b' = false := by
          cases hbb : b'
          · rfl
          · exact absurd (hb'.1 hbb) hc
        refine Fin.mk ?_ rfl rfl
        rw [eb, ← hS]
        try rfl
    · have hS : R = R' := hput.2 (by (first | omega | (simp only [cst] at *; omega) | (simp only [sm] at *; omega)))
      rw [← hS] at g6
      (refine callq (g6) rfl rfl ?_; cbv; (repeat' (first
    | (refine q1 (by first | exact trivial | omega | (dsimp only; omega) | exact pow62 _ (by omega) | exact mul9 (by omega) (by omega) | (simp only [sm] at *; omega)) (fun z hz => ?_); (try simp only at hz); cbv)
    | (refine rq (by first | exact trivial | omega | (dsimp only; omega) | (simp only [sm] at *; omega)) ?_; cbv)
    | (refine QC.tt (by first | omega | (dsimp only; omega) | exact rfl | (simp only [sm] at *; omega)) ?_; cbv)
    | (refine QC.tt ?_ ?_; (focus (simp only [decide_true, Bool.and_true, Bool.and_self] <;> fail)); cbv)
    | (refine QC.ff ?_ ?_; (focus (simp only [decide_true, Bool.and_true, Bool.and_self, decide_false, Bool.false_and, reduceCtorEq, not_false_eq_true] <;> fail)); cbv)
    | (refine QC.ff (by first | omega | (dsimp only; omega) | (simp only [sm] at *; omega)) ?_; cbv)
    | (refine QC.mk (fun hc => ?_) (fun hc => ?_) <;> (try dsimp only at hc) <;> cbv)
    | (refine br_mk2 (fun hb => ?_) (fun hb => ?_) <;> (try subst hb) <;> cbv))))
      (refine callq (g7) rfl rfl ?_; cbv; (repeat' (first
    | (refine q1 (by first | exact trivial | omega | (dsimp only; omega) | exact pow62 _ (by omega) | exact mul9 (by omega) (by omega) | (simp only [sm] at *; omega)) (fun z hz => ?_); (try simp only at hz); cbv)
    | (refine rq (by first | exact trivial | omega | (dsimp only; omega) | (simp only [sm] at *; omega)) ?_; cbv)
    | (refine QC.tt (by first | omega | (dsimp only; omega) | exact rfl | (simp only [sm] at *; omega)) ?_; cbv)
    | (refine QC.tt ?_ ?_; (focus (simp only [decide_true, Bool.and_true, Bool.and_self] <;> fail)); cbv)
    | (refine QC.ff ?_ ?_; (focus (simp only [decide_true, Bool.and_true, Bool.and_self, decide_false, Bool.false_and, reduceCtorEq, not_false_eq_true] <;> fail)); cbv)
    | (refine QC.ff (by first | omega | (dsimp only; omega) | (simp only [sm] at *; omega)) ?_; cbv)
    | (refine QC.mk (fun hc => ?_) (fun hc => ?_) <;> (try dsimp only at hc) <;> cbv)
    | (refine br_mk2 (fun hb => ?_) (fun hb => ?_) <;> (try subst hb) <;> cbv))))
      · have eb : b' = true := hb'.2 hc
        refine Fin.mk ?_ rfl rfl
        rw [eb, ← hS]
        try rfl
      · have eb : b' = false := by
          cases hbb : b'
          · rfl
          · exact absurd (hb'.1 hbb) hc
        refine Fin.mk ?_ rfl rfl
        rw [eb, ← hS]
        try rfl
end Go.Proofs.Ytjhicdoigllblaa
namespace Go.Proofs.Ytjhicdoigllblaa
set_option linter.unusedVariables false
set_option linter.unusedSimpArgs false
open Go.RowKit
set_option maxHeartbeats 8000000
set_option maxRecDepth 4000 in
theorem rrecv_n (tag cnt hv : Int) (dn : Bool) (ps : List (List UInt8)) (R : List SV) (hR : R = rowsB ps) (hf : Rcv.fits ⟨tag, cnt, ps, hv, dn⟩) (hv1 : VRc tag cnt ps hv dn) (hz0 : zeroB tag cnt ps.length hv dn = false)
    (n : Int) (k : Bool) (d : List UInt8) (D : List SV) (hD : D = u8l d) (hd : d.length ≤ 140737488351232) (hp : valP n cnt d.length = true)
    (R' : List SV) (hR' : R' = rowsB (putP ps n.toNat d)) (h' : Int) (hh' : h' = hasN (putP ps n.toNat d) (putP ps n.toNat d).length) (b' : Bool) (hb' : b' = true ↔ h' = allI ps.length) :
    Good 32 (pu [.agg [.int .u8 tag, .int .i64 cnt, .lst none R, .int .u32 hv, .bool dn], .agg [.int .u8 tag, .int .i64 n, .int .i64 cnt, .bool k, .lst none D]] (.tup [.agg [.int .u8 tag, .int .i64 cnt, .lst none R', .int .u32 h', .bool b'], .int .u32 (if k = true then h' else 0), .bool k, .int .i64 0])) := by
  have hRl : R.length = ps.length := by rw [hR, rowsB_len]
  have hDl : D.length = d.length := by rw [hD, u8l_len]
  have hpv := of_decide_eq_true hp
  have hcn : (ps.length : Int) = cnt := by
    rcases hv1 with h | h
    · rw [hz0] at h; cases h
    · exact h.2.2.1
  have g1 := rvreceiver_c tag cnt hv dn ps R hR hf true ⟨fun _ => hv1, fun _ => rfl⟩
  have g2 := rvalid_c tag n cnt k D d.length true hDl hp.symm
  have g3 := rzero_c tag cnt hv dn R ps.length hRl false hz0.symm
  have g4 := copiedRow_c ps R hR hf.n hf.b
  have g5 := cloned_c d D hD hd
  obtain ⟨q, hq⟩ : ∃ q, q = putP ps n.toNat d := ⟨_, rfl⟩
  have hql : q.length = ps.length := by rw [hq, putP_len]
  have hqb : ∀ p ∈ q, p.length ≤ 140737488351232 := fun p h => by
    rw [hq, putP] at h
    split at h
    · rcases List.mem_or_eq_of_mem_set h with h | h
      · exact hf.b p h
      · rw [h]; exact hd
    · exact hf.b p h
  rw [← hq] at hR' hh'
  have hor : ((hv.toNat ||| 2 ^ n.toNat : Nat) : Int) = h' := by
    have e := hasN_put ps n.toNat d (by omega) (by omega)
    rw [← hq] at e
    rw [hh', ← e]
    have : hv.toNat = hasN ps ps.length := by
      rcases hv1 with h | h
      · rw [hz0] at h; cases h
      · have := h.2.2.2.2.1; omega
    rw [this]
  have hvb := hf.hv
  have g7 : ∀ N : Int, N = ps.length → Good 58 (pu [.int .i64 N] (.int .u32 (allI ps.length))) := fun N hN => rall_c ps.length N _ hN (by omega) rfl
  have g7 := g7 cnt hcn.symm
  obtain ⟨A, hA⟩ : ∃ A : Int, A = allI ps.length := ⟨_, rfl⟩
  rw [← hA] at g7 hb'
  have hnl : n.toNat < ps.length := by omega
  obtain ⟨bb, B, e1, e2, e3⟩ := rowsB_at hR n.toNat hnl
  have hBl : B.length = bb.length := by rw [e2, u8l_len]
  have hj : n = (n.toNat : Int) := by omega
  obtain ⟨i, hi⟩ : ∃ i, i = n.toNat := ⟨_, rfl⟩
  rw [← hi] at hj hnl e3
  have hput : (bb.length = 0 → R.set i (.lst none D) = R') ∧ (¬ bb.length = 0 → R = R') := by
    have hg : ps.getD n.toNat [] = bb := by rw [List.getD_eq_getElem?_getD, e1]; rfl
    rw [hR', hq, putP, hg, hi]
    refine ⟨fun h => ?_, fun h => ?_⟩
    · rw [if_pos h, hR, hD, rowsB_set]
    · rw [if_neg h, hR]
  have hbl : bb.length ≤ 140737488351232 := hf.b bb (List.mem_of_getElem? e1)
  clear hv1 hz0 hp hR hR' hh' hq hf e1 e2 hD hA
  have hmk : True := trivial
  cases k
  · skip
    refine Good.of Try.func32 rfl (by rfl) (by kernel_rfl) ?_
    cbv
    (repeat' (first
    | (refine q1 (by first | exact trivial | omega | (dsimp only; omega) | exact pow62 _ (by omega) | exact mul9 (by omega) (by omega) | (simp only [sm] at *; omega)) (fun z hz => ?_); (try simp only at hz); cbv)
    | (refine rq (by first | exact trivial | omega | (dsimp only; omega) | (simp only [sm] at *; omega)) ?_; cbv)
    | (refine QC.tt (by first | omega | (dsimp only; omega) | exact rfl | (simp only [sm] at *; omega)) ?_; cbv)
    | (refine QC.tt ?_ ?_; (focus (simp only [decide_true, Bool.and_true, Bool.and_self] <;> fail)); cbv)
    | (refine QC.ff ?_ ?_; (focus (simp only [decide_true, Bool.and_true, Bool.and_self, decide_false, Bool.false_and, reduceCtorEq, not_false_eq_true] <;> fail)); cbv)
    | (refine QC.ff (by first | omega | (dsimp only; omega) | (simp only [sm] at *; omega)) ?_; cbv)
    | (refine QC.mk (fun hc => ?_) (fun hc => ?_) <;> (try dsimp only at hc) <;> cbv)
    | (refine br_mk2 (fun hb => ?_) (fun hb => ?_) <;> (try subst hb) <;> cbv)))
    (refine callq (g1) rfl rfl ?_; cbv; (repeat' (first
    | (refine q1 (by first | exact trivial | omega | (dsimp only; omega) | exact pow62 _ (by omega) | exact mul9 (by omega) (by omega) | (simp only [sm] at *; omega)) (fun z hz => ?_); (try simp only at hz); cbv)
    | (refine rq (by first | exact trivial | omega | (dsimp only; omega) | (simp only [sm] at *; omega)) ?_; cbv)
    | (refine QC.tt (by first | omega | (dsimp only; omega) | exact rfl | (simp only [sm] at *; omega)) ?_; cbv)
    | (refine QC.tt ?_ ?_; (focus (simp only [decide_true, Bool.and_true, Bool.and_self] <;> fail)); cbv)
    | (refine QC.ff ?_ ?_; (focus (simp only [decide_true, Bool.and_true, Bool.and_self, decide_false, Bool.false_and, reduceCtorEq, not_false_eq_true] <;> fail)); cbv)
    | (refine QC.ff (by first | omega | (dsimp only; omega) | (simp only [sm] at *; omega)) ?_; cbv)
    | (refine QC.mk (fun hc => ?_) (fun hc => ?_) <;> (try dsimp only at hc) <;> cbv)
    | (refine br_mk2 (fun hb => ?_) (fun hb => ?_) <;> (try subst hb) <;> cbv))))
    (refine callq (g2) rfl rfl ?_; cbv; (repeat' (first
    | (refine q1 (by first | exact trivial | omega | (dsimp only; omega) | exact pow62 _ (by omega) | exact mul9 (by omega) (by omega) | (simp only [sm] at *; omega)) (fun z hz => ?_); (try simp only at hz); cbv)
    | (refine rq (by first | exact trivial | omega | (dsimp only; omega) | (simp only [sm] at *; omega)) ?_; cbv)
    | (refine QC.tt (by first | omega | (dsimp only; omega) | exact rfl | (simp only [sm] at *; omega)) ?_; cbv)
    | (refine QC.tt ?_ ?_; (focus (simp only [decide_true, Bool.and_true, Bool.and_self] <;> fail)); cbv)
    | (refine QC.ff ?_ ?_; (focus (simp only [decide_true, Bool.and_true, Bool.and_self, decide_false, Bool.false_and, reduceCtorEq, not_false_eq_true] <;> fail)); cbv)
    | (refine QC.ff (by first | omega | (dsimp only; omega) | (simp only [sm] at *; omega)) ?_; cbv)
    | (refine QC.mk (fun hc => ?_) (fun hc => ?_) <;> (try dsimp only at hc) <;> cbv)
    | (refine br_mk2 (fun hb => ?_) (fun hb => ?_) <;> (try subst hb) <;> cbv))))
    (refine callq (g3) rfl rfl ?_; cbv; (repeat' (first
    | (refine q1 (by first | exact trivial | omega | (dsimp only; omega) | exact pow62 _ (by omega) | exact mul9 (by omega) (by omega) | (simp only [sm] at *; omega)) (fun z hz => ?_); (try simp only at hz); cbv)
    | (refine rq (by first | exact trivial | omega | (dsimp only; omega) | (simp only [sm] at *; omega)) ?_; cbv)
    | (refine QC.tt (by first | omega | (dsimp only; omega) | exact rfl | (simp only [sm] at *; omega)) ?_; cbv)
    | (refine QC.tt ?_ ?_; (focus (simp only [decide_true, Bool.and_true, Bool.and_self] <;> fail)); cbv)
    | (refine QC.ff ?_ ?_; (focus (simp only [decide_true, Bool.and_true, Bool.and_self, decide_false, Bool.false_and, reduceCtorEq, not_false_eq_true] <;> fail)); cbv)
    | (refine QC.ff (by first | omega | (dsimp only; omega) | (simp only [sm] at *; omega)) ?_; cbv)
    | (refine QC.mk (fun hc => ?_) (fun hc => ?_) <;> (try dsimp only at hc) <;> cbv)
    | (refine br_mk2 (fun hb => ?_) (fun hb => ?_) <;> (try subst hb) <;> cbv))))
    (refine callq (g4) rfl rfl ?_; cbv; (repeat' (first
    | (refine q1 (by first | exact trivial | omega | (dsimp only; omega) | exact pow62 _ (by omega) | exact mul9 (by omega) (by omega) | (simp only [sm] at *; omega)) (fun z hz => ?_); (try simp only at hz); cbv)
    | (refine rq (by first | exact trivial | omega | (dsimp only; omega) | (simp only [sm] at *; omega)) ?_; cbv)
    | (refine QC.tt (by first | omega | (dsimp only; omega) | exact rfl | (simp only [sm] at *; omega)) ?_; cbv)
    | (refine QC.tt ?_ ?_; (focus (simp only [decide_true, Bool.and_true, Bool.and_self] <;> fail)); cbv)
    | (refine QC.ff ?_ ?_; (focus (simp only [decide_true, Bool.and_true, Bool.and_self, decide_false, Bool.false_and, reduceCtorEq, not_false_eq_true] <;> fail)); cbv)
    | (refine QC.ff (by first | omega | (dsimp only; omega) | (simp only [sm] at *; omega)) ?_; cbv)
    | (refine QC.mk (fun hc => ?_) (fun hc => ?_) <;> (try dsimp only at hc) <;> cbv)
    | (refine br_mk2 (fun hb => ?_) (fun hb => ?_) <;> (try subst hb) <;> cbv))))
    (refine qv (i) (by (first | omega | (simp only [cst] at *; omega) | (simp only [sm] at *; omega))) ?_; cbv; (repeat' (first
    | (refine q1 (by first | exact trivial | omega | (dsimp only; omega) | exact pow62 _ (by omega) | exact mul9 (by omega) (by omega) | (simp only [sm] at *; omega)) (fun z hz => ?_); (try simp only at hz); cbv)
    | (refine rq (by first | exact trivial | omega | (dsimp only; omega) | (simp only [sm] at *; omega)) ?_; cbv)
    | (refine QC.tt (by first | omega | (dsimp only; omega) | exact rfl | (simp only [sm] at *; omega)) ?_; cbv)
    | (refine QC.tt ?_ ?_; (focus (simp only [decide_true, Bool.and_true, Bool.and_self] <;> fail)); cbv)
    | (refine QC.ff ?_ ?_; (focus (simp only [decide_true, Bool.and_true, Bool.and_self, decide_false, Bool.false_and, reduceCtorEq, not_false_eq_true] <;> fail)); cbv)
    | (refine QC.ff (by first | omega | (dsimp only; omega) | (simp only [sm] at *; omega)) ?_; cbv)
    | (refine QC.mk (fun hc => ?_) (fun hc => ?_) <;> (try dsimp only at hc) <;> cbv)
    | (refine br_mk2 (fun hb => ?_) (fun hb => ?_) <;> (try subst hb) <;> cbv))))
    (refine qv _ (e3) ?_; cbv; (repeat' (first
    | (refine q1 (by first | exact trivial | omega | (dsimp only; omega) | exact pow62 _ (by omega) | exact mul9 (by omega) (by omega) | (simp only [sm] at *; omega)) (fun z hz => ?_); (try simp only at hz); cbv)
    | (refine rq (by first | exact trivial | omega | (dsimp only; omega) | (simp only [sm] at *; omega)) ?_; cbv)
    | (refine QC.tt (by first | omega | (dsimp only; omega) | exact rfl | (simp only [sm] at *; omega)) ?_; cbv)
    | (refine QC.tt ?_ ?_; (focus (simp only [decide_true, Bool.and_true, Bool.and_self] <;> fail)); cbv)
    | (refine QC.ff ?_ ?_; (focus (simp only [decide_true, Bool.and_true, Bool.and_self, decide_false, Bool.false_and, reduceCtorEq, not_false_eq_true] <;> fail)); cbv)
    | (refine QC.ff (by first | omega | (dsimp only; omega) | (simp only [sm] at *; omega)) ?_; cbv)
    | (refine QC.mk (fun hc => ?_) (fun hc => ?_) <;> (try dsimp only at hc) <;> cbv)
    | (refine br_mk2 (fun hb => ?_) (fun hb => ?_) <;> (try subst hb) <;> cbv))))
    · have hS : O.st R i (.lst none D) = R' := by rw [ost]; exact hput.1 (by (first | omega | (simp only [cst] at *; omega) | (simp only [sm] at *; omega)))
      (refine qv (i) (by (first | omega | (simp only [cst] at *; omega) | (simp only [sm] at *; omega))) ?_; cbv; (repeat' (first
    | (refine q1 (by first | exact trivial | omega | (dsimp only; omega) | exact pow62 _ (by omega) | exact mul9 (by omega) (by omega) | (simp only [sm] at *; omega)) (fun z hz => ?_); (try simp only at hz); cbv)
    | (refine rq (by first | exact trivial | omega | (dsimp only; omega) | (simp only [sm] at *; omega)) ?_; cbv)
    | (refine QC.tt (by first | omega | (dsimp only; omega) | exact rfl | (simp only [sm] at *; omega)) ?_; cbv)
    | (refine QC.tt ?_ ?_; (focus (simp only [decide_true, Bool.and_true, Bool.and_self] <;> fail)); cbv)
    | (refine QC.ff ?_ ?_; (focus (simp only [decide_true, Bool.and_true, Bool.and_self, decide_false, Bool.false_and, reduceCtorEq, not_false_eq_true] <;> fail)); cbv)
    | (refine QC.ff (by first | omega | (dsimp only; omega) | (simp only [sm] at *; omega)) ?_; cbv)
    | (refine QC.mk (fun hc => ?_) (fun hc => ?_) <;> (try dsimp only at hc) <;> cbv)
    | (refine br_mk2 (fun hb => ?_) (fun hb => ?_) <;> (try subst hb) <;> cbv))))
      refine chA ?_
      cbv
      (repeat' (first
    | (refine q1 (by first | exact trivial | omega | (dsimp only; omega) | exact pow62 _ (by omega) | exact mul9 (by omega) (by omega) | (simp only [sm] at *; omega)) (fun z hz => ?_); (try simp only at hz); cbv)
    | (refine rq (by first | exact trivial | omega | (dsimp only; omega) | (simp only [sm] at *; omega)) ?_; cbv)
    | (refine QC.tt (by first | omega | (dsimp only; omega) | exact rfl | (simp only [sm] at *; omega)) ?_; cbv)
    | (refine QC.tt ?_ ?_; (focus (simp only [decide_true, Bool.and_true, Bool.and_self] <;> fail)); cbv)
    | (refine QC.ff ?_ ?_; (focus (simp only [decide_true, Bool.and_true, Bool.and_self, decide_false, Bool.false_and, reduceCtorEq, not_false_eq_true] <;> fail)); cbv)
    | (refine QC.ff (by first | omega | (dsimp only; omega) | (simp only [sm] at *; omega)) ?_; cbv)
    | (refine QC.mk (fun hc => ?_) (fun hc => ?_) <;> (try dsimp only at hc) <;> cbv)
    | (refine br_mk2 (fun hb => ?_) (fun hb => ?_) <;> (try subst hb) <;> cbv)))
      rename_i zj hzj zs hzs
      have hzh : z = h' := by
        have ej : zj.toNat = n.toNat := by (first | omega | (simp only [cst] at *; omega) | (simp only [sm] at *; omega))
        have e2 : (2 : Nat) ^ n.toNat < 4294967296 := by
          have : (2 : Nat) ^ n.toNat ≤ 2 ^ 31 := Nat.pow_le_pow_right (by omega) (by omega)
          omega
        have e3 : zs = ((2 ^ n.toNat : Nat) : Int) := by
          rw [hzs, ej, Int.one_mul]
          have : (2 : Int) ^ n.toNat = ((2 ^ n.toNat : Nat) : Int) := by simp
          have e5 : ∀ p : Nat, p < 4294967296 → (p : Int) % 4294967296 = p := fun p hp => by omega
          rw [this]
          exact e5 _ e2
        rw [hz, e3, Int.toNat_natCast]
        exact hor
      clear hz hor
      subst hzh
      (refine callq (g7) rfl rfl ?_; cbv; (repeat' (first
    | (refine q1 (by first | exact trivial | omega | (dsimp only; omega) | exact pow62 _ (by omega) | exact mul9 (by omega) (by omega) | (simp only [sm] at *; omega)) (fun z hz => ?_); (try simp only at hz); cbv)
    | (refine rq (by first | exact trivial | omega | (dsimp only; omega) | (simp only [sm] at *; omega)) ?_; cbv)
    | (refine QC.tt (by first | omega | (dsimp only; omega) | exact rfl | (simp only [sm] at *; omega)) ?_; cbv)
    | (refine QC.tt ?_ ?_; (focus (simp only [decide_true, Bool.and_true, Bool.and_self] <;> fail)); cbv)
    | (refine QC.ff ?_ ?_; (focus (simp only [decide_true, Bool.and_true, Bool.and_self, decide_false, Bool.false_and, reduceCtorEq, not_false_eq_true] <;> fail)); cbv)
    | (refine QC.ff (by first | omega | (dsimp only; omega) | (simp only [sm] at *; omega)) ?_; cbv)
    | (refine QC.mk (fun hc => ?_) (fun hc => ?_) <;> (try dsimp only at hc) <;> cbv)
    | (refine br_mk2 (fun hb => ?_) (fun hb => ?_) <;> (try subst hb) <;> cbv))))
      · have eb : b' = true := hb'.2 hc
        refine Fin.mk ?_ rfl rfl
        rw [eb, ← hS]
        try rfl
      · have eb : b' = false := by
          cases hbb : b'
          · rfl
          · exact absurd (hb'.1 hbb) hc
        refine Fin.mk ?_ rfl rfl
        rw [eb, ← hS]
        try rfl
    · have hS : R = R' := hput.2 (by (first | omega | (simp only [cst] at *; omega) | (simp only [sm] at *; omega)))
      skip
      rename_i zj hzj zs hzs
      have hzh : z = h' := by
        have ej : zj.toNat = n.toNat := by (first | omega | (simp only [cst] at *; omega) | (simp only [sm] at *; omega))
        have e2 : (2 : Nat) ^ n.toNat < 4294967296 := by
          have : (2 : Nat) ^ n.toNat ≤ 2 ^ 31 := Nat.pow_le_pow_right (by omega) (by omega)
          omega
        have e3 : zs = ((2 ^ n.toNat : Nat) : Int) := by
          rw [hzs, ej, Int.one_mul]
          have : (2 : Int) ^ n.toNat = ((2 ^ n.toNat : Nat) : Int) := by simp
          have e5 : ∀ p : Nat, p < 4294967296 → (p : Int) % 4294967296 = p := fun p hp => by omega
          rw [this]
          exact e5 _ e2
        rw [hz, e3, Int.toNat_natCast]
        exact hor
      clear hz hor
      subst hzh
      (refine callq (g7) rfl rfl ?_; cbv; (repeat' (first
    | (refine q1 (by first | exact trivial | omega | (dsimp only; omega) | exact pow62 _ (by omega) | exact mul9 (by omega) (by omega) | (simp only [sm] at *; omega)) (fun z hz => ?_); (try simp only at hz); cbv)
    | (refine rq (by first | exact trivial | omega | (dsimp only; omega) | (simp only [sm] at *; omega)) ?_; cbv)
    | (refine QC.tt (by first | omega | (dsimp only; omega) | exact rfl | (simp only [sm] at *; omega)) ?_; cbv)
    | (refine QC.tt ?_ ?_; (focus (simp only [decide_true, Bool.and_true, Bool.and_self] <;> fail)); cbv)
    | (refine QC.ff ?_ ?_; (focus (simp only [decide_true, Bool.and_true, Bool.and_self, decide_false, Bool.false_and, reduceCtorEq, not_false_eq_true] <;> fail)); cbv)
    | (refine QC.ff (by first | omega | (dsimp only; omega) | (simp only [sm] at *; omega)) ?_; cbv)
    | (refine QC.mk (fun hc => ?_) (fun hc => ?_) <;> (try dsimp only at hc) <;> cbv)
    | (refine br_mk2 (fun hb => ?_) (fun hb => ?_) <;> (try subst hb) <;> cbv))))
      · have eb : b' = true := hb'.2 hc
        refine Fin.mk ?_ rfl rfl
        rw [eb, ← hS]
        try rfl
      · have eb : b' = false := by
          cases hbb : b'
          · rfl
          · exact absurd (hb'.1 hbb) hc
        refine Fin.mk ?_ rfl rfl
        rw [eb, ← hS]
        try rfl
  · skip
    refine Good.of Try.func32 rfl (by rfl) (by kernel_rfl) ?_
    cbv
    (repeat' (first
    | (refine q1 (by first | exact trivial | omega | (dsimp only; omega) | exact pow62 _ (by omega) | exact mul9 (by omega) (by omega) | (simp only [sm] at *; omega)) (fun z hz => ?_); (try simp only at hz); cbv)
    | (refine rq (by first | exact trivial | omega | (dsimp only; omega) | (simp only [sm] at *; omega)) ?_; cbv)
    | (refine QC.tt (by first | omega | (dsimp only; omega) | exact rfl | (simp only [sm] at *; omega)) ?_; cbv)
    | (refine QC.tt ?_ ?_; (focus (simp only [decide_true, Bool.and_true, Bool.and_self] <;> fail)); cbv)
    | (refine QC.ff ?_ ?_; (focus (simp only [decide_true, Bool.and_true, Bool.and_self, decide_false, Bool.false_and, reduceCtorEq, not_false_eq_true] <;> fail)); cbv)
    | (refine QC.ff (by first | omega | (dsimp only; omega) | (simp only [sm] at *; omega)) ?_; cbv)
    | (refine QC.mk (fun hc => ?_) (fun hc => ?_) <;> (try dsimp only at hc) <;> cbv)
    | (refine br_mk2 (fun hb => ?_) (fun hb => ?_) <;> (try subst hb) <;> cbv)))
    (refine callq (g1) rfl rfl ?_; cbv; (repeat' (first
    | (refine q1 (by first | exact trivial | omega | (dsimp only; omega) | exact pow62 _ (by omega) | exact mul9 (by omega) (by omega) | (simp only [sm] at *; omega)) (fun z hz => ?_); (try simp only at hz); cbv)
    | (refine rq (by first | exact trivial | omega | (dsimp only; omega) | (simp only [sm] at *; omega)) ?_; cbv)
    | (refine QC.tt (by first | omega | (dsimp only; omega) | exact rfl | (simp only [sm] at *; omega)) ?_; cbv)
    | (refine QC.tt ?_ ?_; (focus (simp only [decide_true, Bool.and_true, Bool.and_self] <;> fail)); cbv)
    | (refine QC.ff ?_ ?_; (focus (simp only [decide_true, Bool.and_true, Bool.and_self, decide_false, Bool.false_and, reduceCtorEq, not_false_eq_true] <;> fail)); cbv)
    | (refine QC.ff (by first | omega | (dsimp only; omega) | (simp only [sm] at *; omega)) ?_; cbv)
    | (refine QC.mk (fun hc => ?_) (fun hc => ?_) <;> (try dsimp only at hc) <;> cbv)
    | (refine br_mk2 (fun hb => ?_) (fun hb => ?_) <;> (try subst hb) <;> cbv))))
    (refine callq (g2) rfl rfl ?_; cbv; (repeat' (first
    | (refine q1 (by first | exact trivial | omega | (dsimp only; omega) | exact pow62 _ (by omega) | exact mul9 (by omega) (by omega) | (simp only [sm] at *; omega)) (fun z hz => ?_); (try simp only at hz); cbv)
    | (refine rq (by first | exact trivial | omega | (dsimp only; omega) | (simp only [sm] at *; omega)) ?_; cbv)
    | (refine QC.tt (by first | omega | (dsimp only; omega) | exact rfl | (simp only [sm] at *; omega)) ?_; cbv)
    | (refine QC.tt ?_ ?_; (focus (simp only [decide_true, Bool.and_true, Bool.and_self] <;> fail)); cbv)
    | (refine QC.ff ?_ ?_; (focus (simp only [decide_true, Bool.and_true, Bool.and_self, decide_false, Bool.false_and, reduceCtorEq, not_false_eq_true] <;> fail)); cbv)
    | (refine QC.ff (by first | omega | (dsimp only; omega) | (simp only [sm] at *; omega)) ?_; cbv)
    | (refine QC.mk (fun hc => ?_) (fun hc => ?_) <;> (try dsimp only at hc) <;> cbv)
    | (refine br_mk2 (fun hb => ?_) (fun hb => ?_) <;> (try subst hb) <;> cbv))))
    (refine callq (g3) rfl rfl ?_; cbv; (repeat' (first
    | (refine q1 (by first | exact trivial | omega | (dsimp only; omega) | exact pow62 _ (by omega) | exact mul9 (by omega) (by omega) | (simp only [sm] at *; omega)) (fun z hz => ?_); (try simp only at hz); cbv)
    | (refine rq (by first | exact trivial | omega | (dsimp only; omega) | (simp only [sm] at *; omega)) ?_; cbv)
    | (refine QC.tt (by first | omega | (dsimp only; omega) | exact rfl | (simp only [sm] at *; omega)) ?_; cbv)
    | (refine QC.tt ?_ ?_; (focus (simp only [decide_true, Bool.and_true, Bool.and_self] <;> fail)); cbv)
    | (refine QC.ff ?_ ?_; (focus (simp only [decide_true, Bool.and_true, Bool.and_self, decide_false, Bool.false_and, reduceCtorEq, not_false_eq_true] <;> fail)); cbv)
    | (refine QC.ff (by first | omega | (dsimp only; omega) | (simp only [sm] at *; omega)) ?_; cbv)
    | (refine QC.mk (fun hc => ?_) (fun hc => ?_) <;> (try dsimp only at hc) <;> cbv)
    | (refine br_mk2 (fun hb => ?_) (fun hb => ?_) <;> (try subst hb) <;> cbv))))
    (refine callq (g4) rfl rfl ?_; cbv; (repeat' (first
    | (refine q1 (by first | exact trivial | omega | (dsimp only; omega) | exact pow62 _ (by omega) | exact mul9 (by omega) (by omega) | (simp only [sm] at *; omega)) (fun z hz => ?_); (try simp only at hz); cbv)
    | (refine rq (by first | exact trivial | omega | (dsimp only; omega) | (simp only [sm] at *; omega)) ?_; cbv)
    | (refine QC.tt (by first | omega | (dsimp only; omega) | exact rfl | (simp only [sm] at *; omega)) ?_; cbv)
    | (refine QC.tt ?_ ?_; (focus (simp only [decide_true, Bool.and_true, Bool.and_self] <;> fail)); cbv)
    | (refine QC.ff ?_ ?_; (focus (simp only [decide_true, Bool.and_true, Bool.and_self, decide_false, Bool.false_and, reduceCtorEq, not_false_eq_true] <;> fail)); cbv)
    | (refine QC.ff (by first | omega | (dsimp only; omega) | (simp only [sm] at *; omega)) ?_; cbv)
    | (refine QC.mk (fun hc => ?_) (fun hc => ?_) <;> (try dsimp only at hc) <;> cbv)
    | (refine br_mk2 (fun hb => ?_) (fun hb => ?_) <;> (try subst hb) <;> cbv))))
    (refine qv (i) (by (first | omega | (simp only [cst] at *; omega) | (simp only [sm] at *; omega))) ?_; cbv; (repeat' (first
    | (refine q1 (by first | exact trivial | omega | (dsimp only; omega) | exact pow62 _ (by omega) | exact mul9 (by omega) (by omega) | (simp only [sm] at *; omega)) (fun z hz => ?_); (try simp only at hz); cbv)
    | (refine rq (by first | exact trivial | omega | (dsimp only; omega) | (simp only [sm] at *; omega)) ?_; cbv)
    | (refine QC.tt (by first | omega | (dsimp only; omega) | exact rfl | (simp only [sm] at *; omega)) ?_; cbv)
    | (refine QC.tt ?_ ?_; (focus (simp only [decide_true, Bool.and_true, Bool.and_self] <;> fail)); cbv)
    | (refine QC.ff ?_ ?_; (focus (simp only [decide_true, Bool.and_true, Bool.and_self, decide_false, Bool.false_and, reduceCtorEq, not_false_eq_true] <;> fail)); cbv)
    | (refine QC.ff (by first | omega | (dsimp only; omega) | (simp only [sm] at *; omega)) ?_; cbv)
    | (refine QC.mk (fun hc => ?_) (fun hc => ?_) <;> (try dsimp only at hc) <;> cbv)
    | (refine br_mk2 (fun hb => ?_) (fun hb => ?_) <;> (try subst hb) <;> cbv))))
    (refine qv _ (e3) ?_; cbv; (repeat' (first
    | (refine q1 (by first | exact trivial | omega | (dsimp only; omega) | exact pow62 _ (by omega) | exact mul9 (by omega) (by omega) | (simp only [sm] at *; omega)) (fun z hz => ?_); (try simp only at hz); cbv)
    | (refine rq (by first | exact trivial | omega | (dsimp only; omega) | (simp only [sm] at *; omega)) ?_; cbv)
    | (refine QC.tt (by first | omega | (dsimp only; omega) | exact rfl | (simp only [sm] at *; omega)) ?_; cbv)
    | (refine QC.tt ?_ ?_; (focus (simp only [decide_true, Bool.and_true, Bool.and_self] <;> fail)); cbv)
    | (refine QC.ff ?_ ?_; (focus (simp only [decide_true, Bool.and_true, Bool.and_self, decide_false, Bool.false_and, reduceCtorEq, not_false_eq_true] <;> fail)); cbv)
    | (refine QC.ff (by first | omega | (dsimp only; omega) | (simp only [sm] at *; omega)) ?_; cbv)
    | (refine QC.mk (fun hc => ?_) (fun hc => ?_) <;> (try dsimp only at hc) <;> cbv)
    | (refine br_mk2 (fun hb => ?_) (fun hb => ?_) <;> (try subst hb) <;> cbv))))
    · have hS : O.st R i (.lst none D) = R' := by rw [ost]; exact hput.1 (by (first | omega | (simp only [cst] at *; omega) | (simp only [sm] at *; omega)))
      (refine qv (i) (by (first | omega | (simp only [cst] at *; omega) | (simp only [sm] at *; omega))) ?_; cbv; (repeat' (first
    | (refine q1 (by first | exact trivial | omega | (dsimp only; omega) | exact pow62 _ (by omega) | exact mul9 (by omega) (by omega) | (simp only [sm] at *; omega)) (fun z hz => ?_); (try simp only at hz); cbv)
    | (refine rq (by first | exact trivial | omega | (dsimp only; omega) | (simp only [sm] at *; omega)) ?_; cbv)
    | (refine QC.tt (by first | omega | (dsimp only; omega) | exact rfl | (simp only [sm] at *; omega)) ?_; cbv)
    | (refine QC.tt ?_ ?_; (focus (simp only [decide_true, Bool.and_true, Bool.and_self] <;> fail)); cbv)
    | (refine QC.ff ?_ ?_; (focus (simp only [decide_true, Bool.and_true, Bool.and_self, decide_false, Bool.false_and, reduceCtorEq, not_false_eq_true] <;> fail)); cbv)
    | (refine QC.ff (by first | omega | (dsimp only; omega) | (simp only [sm] at *; omega)) ?_; cbv)
    | (refine QC.mk (fun hc => ?_) (fun hc => ?_) <;> (try dsimp only at hc) <;> cbv)
    | (refine br_mk2 (fun hb => ?_) (fun hb => ?_) <;> (try subst hb) <;> cbv))))
      refine chA ?_
      cbv
      (repeat' (first
    | (refine q1 (by first | exact trivial | omega | (dsimp only; omega) | exact pow62 _ (by omega) | exact mul9 (by omega) (by omega) | (simp only [sm] at *; omega)) (fun z hz => ?_); (try simp only at hz); cbv)
    | (refine rq (by first | exact trivial | omega | (dsimp only; omega) | (simp only [sm] at *; omega)) ?_; cbv)
    | (refine QC.tt (by first | omega | (dsimp only; omega) | exact rfl | (simp only [sm] at *; omega)) ?_; cbv)
    | (refine QC.tt ?_ ?_; (focus (simp only [decide_true, Bool.and_true, Bool.and_self] <;> fail)); cbv)
    | (refine QC.ff ?_ ?_; (focus (simp only [decide_true, Bool.and_true, Bool.and_self, decide_false, Bool.false_and, reduceCtorEq, not_false_eq_true] <;> fail)); cbv)
    | (refine QC.ff (by first | omega | (dsimp only; omega) | (simp only [sm] at *; omega)) ?_; cbv)
    | (refine QC.mk (fun hc => ?_) (fun hc => ?_) <;> (try dsimp only at hc) <;> cbv)
    | (refine br_mk2 (fun hb => ?_) (fun hb => ?_) <;> (try subst hb) <;> cbv)))
      rename_i zj hzj zs hzs
      have hzh : z = h' := by
        have ej : zj.toNat = n.toNat := by (first | omega | (simp only [cst] at *; omega) | (simp only [sm] at *; omega))
        have e2 : (2 : Nat) ^ n.toNat < 4294967296 := by
          have : (2 : Nat) ^ n.toNat ≤ 2 ^ 31 := Nat.pow_le_pow_right (by omega) (by omega)
          omega
        have e3 : zs = ((2 ^ n.toNat : Nat) : Int) := by
          rw [hzs, ej, Int.one_mul]
          have : (2 : Int) ^ n.toNat = ((2 ^ n.toNat : Nat) : Int) := by simp
          have e5 : ∀ p : Nat, p < 4294967296 → (p : Int) % 4294967296 = p := fun p hp => by omega
          rw [this]
          exact e5 _ e2
        rw [hz, e3, Int.toNat_natCast]
        exact hor
      clear hz hor
      subst hzh
      (refine callq (g7) rfl rfl ?_; cbv; (repeat' (first
    | (refine q1 (by first | exact trivial | omega | (dsimp only; omega) | exact pow62 _ (by omega) | exact mul9 (by omega) (by omega) | (simp only [sm] at *; omega)) (fun z hz => ?_); (try simp only at hz); cbv)
    | (refine rq (by first | exact trivial | omega | (dsimp only; omega) | (simp only [sm] at *; omega)) ?_; cbv)
    | (refine QC.tt (by first | omega | (dsimp only; omega) | exact rfl | (simp only [sm] at *; omega)) ?_; cbv)
    | (refine QC.tt ?_ ?_; (focus (simp only [decide_true, Bool.and_true, Bool.and_self] <;> fail)); cbv)
    | (refine QC.ff ?_ ?_; (focus (simp only [decide_true, Bool.and_true, Bool.and_self, decide_false, Bool.false_and, reduceCtorEq, not_false_eq_true] <;> fail)); cbv)
    | (refine QC.ff (by first | omega | (dsimp only; omega) | (simp only [sm] at *; omega)) ?_; cbv)
    | (refine QC.mk (fun hc => ?_) (fun hc => ?_) <;> (try dsimp only at hc) <;> cbv)
    | (refine br_mk2 (fun hb => ?_) (fun hb => ?_) <;> (try subst hb) <;> cbv))))
      · have eb : b' = true := hb'.2 hc
        refine Fin.mk ?_ rfl rfl
        rw [eb, ← hS]
        try rfl
      · have eb : b' = false := by
          cases hbb : b'
          · rfl
          · exact absurd (hb'.1 hbb) hc
        refine Fin.mk ?_ rfl rfl
        rw [eb, ← hS]
        try rfl
    · have hS : R = R' := hput.2 (by (first | omega | (simp only [cst] at *; omega) | (simp only [sm] at *; omega)))
      skip
      rename_i zj hzj zs hzs
      have hzh : z = h' := by
        have ej : zj.toNat = n.toNat := by (first | omega | (simp only [cst] at *; omega) | (simp only [sm] at *; omega))
        have e2 : (2 : Nat) ^ n.toNat < 4294967296 := by
          have : (2 : Nat) ^ n.toNat ≤ 2 ^ 31 := Nat.pow_le_pow_right (by omega) (by omega)
          omega
        have e3 : zs = ((2 ^ n.toNat : Nat) : Int) := by
          rw [hzs, ej, Int.one_mul]
          have : (2 : Int) ^ n.toNat = ((2 ^ n.toNat : Nat) : Int) := by simp
          have e5 : ∀ p : Nat, p < 4294967296 → (p : Int) % 4294967296 = p := fun p hp => by omega
          rw [this]
          exact e5 _ e2
        rw [hz, e3, Int.toNat_natCast]
        exact hor
      clear hz hor
      subst hzh
      (refine callq (g7) rfl rfl ?_; cbv; (repeat' (first
    | (refine q1 (by first | exact trivial | omega | (dsimp only; omega) | exact pow62 _ (by omega) | exact mul9 (by omega) (by omega) | (simp only [sm] at *; omega)) (fun z hz => ?_); (try simp only at hz); cbv)
    | (refine rq (by first | exact trivial | omega | (dsimp only; omega) | (simp only [sm] at *; omega)) ?_; cbv)
    | (refine QC.tt (by first | omega | (dsimp only; omega) | exact rfl | (simp only [sm] at *; omega)) ?_; cbv)
    | (refine QC.tt ?_ ?_; (focus (simp only [decide_true, Bool.and_true, Bool.and_self] <;> fail)); cbv)
    | (refine QC.ff ?_ ?_; (focus (simp only [decide_true, Bool.and_true, Bool.and_self, decide_false, Bool.false_and, reduceCtorEq, not_false_eq_true] <;> fail)); cbv)
    | (refine QC.ff (by first | omega | (dsimp only; omega) | (simp only [sm] at *; omega)) ?_; cbv)
    | (refine QC.mk (fun hc => ?_) (fun hc => ?_) <;> (try dsimp only at hc) <;> cbv)
    | (refine br_mk2 (fun hb => ?_) (fun hb => ?_) <;> (try subst hb) <;> cbv))))
      · have eb : b' = true := hb'.2 hc
        refine Fin.mk ?_ rfl rfl
        rw [eb, ← hS]
        try rfl
      · have eb : b' = false := by
          cases hbb : b'
          · rfl
          · exact absurd (hb'.1 hbb) hc
        refine Fin.mk ?_ rfl rfl
        rw [eb, ← hS]
        try rfl
end Go.Proofs.Ytjhicdoigllblaa
namespace Go.Proofs.Ytjhicdoigllblaa
set_option linter.unusedVariables false
set_option linter.unusedSimpArgs false
open Go.RowKit
set_option maxHeartbeats 8000000
theorem samereceiver_r (tag cnt hv : Int) (dn : Bool) (ps : List (List UInt8)) (R : List SV) (hR : R = rowsB ps) (hf : Rcv.fits ⟨tag, cnt, ps, hv, dn⟩) :
    Good 33 (pu [.agg [.int .u8 tag, .int .i64 cnt, .lst none R, .int .u32 hv, .bool dn], .agg [.int .u8 tag, .int .i64 cnt, .lst none R, .int .u32 hv, .bool dn]] (.bool true)) := by
  have g := lists_r ps R hR hf.n hf.b
  clear hR hf
  cases dn
  · refine Good.of Try.func33 rfl (by rfl) (by kernel_rfl) ?_
    cbv
    (repeat' (first
    | (refine q1 (by first | exact trivial | omega | (dsimp only; omega) | exact pow62 _ (by omega) | exact mul9 (by omega) (by omega) | (simp only [sm] at *; omega)) (fun z hz => ?_); (try simp only at hz); cbv)
    | (refine rq (by first | exact trivial | omega | (dsimp only; omega) | (simp only [sm] at *; omega)) ?_; cbv)
    | (refine QC.tt (by first | omega | (dsimp only; omega) | exact rfl | (simp only [sm] at *; omega)) ?_; cbv)
    | (refine QC.tt ?_ ?_; (focus (simp only [decide_true, Bool.and_true, Bool.and_self] <;> fail)); cbv)
    | (refine QC.ff ?_ ?_; (focus (simp only [decide_true, Bool.and_true, Bool.and_self, decide_false, Bool.false_and, reduceCtorEq, not_false_eq_true] <;> fail)); cbv)
    | (refine QC.ff (by first | omega | (dsimp only; omega) | (simp only [sm] at *; omega)) ?_; cbv)
    | (refine QC.mk (fun hc => ?_) (fun hc => ?_) <;> (try dsimp only at hc) <;> cbv)
    | (refine br_mk2 (fun hb => ?_) (fun hb => ?_) <;> (try subst hb) <;> cbv)))
    (refine callq (g) rfl rfl ?_; cbv; (repeat' (first
    | (refine q1 (by first | exact trivial | omega | (dsimp only; omega) | exact pow62 _ (by omega) | exact mul9 (by omega) (by omega) | (simp only [sm] at *; omega)) (fun z hz => ?_); (try simp only at hz); cbv)
    | (refine rq (by first | exact trivial | omega | (dsimp only; omega) | (simp only [sm] at *; omega)) ?_; cbv)
    | (refine QC.tt (by first | omega | (dsimp only; omega) | exact rfl | (simp only [sm] at *; omega)) ?_; cbv)
    | (refine QC.tt ?_ ?_; (focus (simp only [decide_true, Bool.and_true, Bool.and_self] <;> fail)); cbv)
    | (refine QC.ff ?_ ?_; (focus (simp only [decide_true, Bool.and_true, Bool.and_self, decide_false, Bool.false_and, reduceCtorEq, not_false_eq_true] <;> fail)); cbv)
    | (refine QC.ff (by first | omega | (dsimp only; omega) | (simp only [sm] at *; omega)) ?_; cbv)
    | (refine QC.mk (fun hc => ?_) (fun hc => ?_) <;> (try dsimp only at hc) <;> cbv)
    | (refine br_mk2 (fun hb => ?_) (fun hb => ?_) <;> (try subst hb) <;> cbv))))
    exact ⟨rfl, rfl, rfl⟩
  · refine Good.of Try.func33 rfl (by rfl) (by kernel_rfl) ?_
    cbv
    (repeat' (first
    | (refine q1 (by first | exact trivial | omega | (dsimp only; omega) | exact pow62 _ (by omega) | exact mul9 (by omega) (by omega) | (simp only [sm] at *; omega)) (fun z hz => ?_); (try simp only at hz); cbv)
    | (refine rq (by first | exact trivial | omega | (dsimp only; omega) | (simp only [sm] at *; omega)) ?_; cbv)
    | (refine QC.tt (by first | omega | (dsimp only; omega) | exact rfl | (simp only [sm] at *; omega)) ?_; cbv)
    | (refine QC.tt ?_ ?_; (focus (simp only [decide_true, Bool.and_true, Bool.and_self] <;> fail)); cbv)
    | (refine QC.ff ?_ ?_; (focus (simp only [decide_true, Bool.and_true, Bool.and_self, decide_false, Bool.false_and, reduceCtorEq, not_false_eq_true] <;> fail)); cbv)
    | (refine QC.ff (by first | omega | (dsimp only; omega) | (simp only [sm] at *; omega)) ?_; cbv)
    | (refine QC.mk (fun hc => ?_) (fun hc => ?_) <;> (try dsimp only at hc) <;> cbv)
    | (refine br_mk2 (fun hb => ?_) (fun hb => ?_) <;> (try subst hb) <;> cbv)))
    (refine callq (g) rfl rfl ?_; cbv; (repeat' (first
    | (refine q1 (by first | exact trivial | omega | (dsimp only; omega) | exact pow62 _ (by omega) | exact mul9 (by omega) (by omega) | (simp only [sm] at *; omega)) (fun z hz => ?_); (try simp only at hz); cbv)
    | (refine rq (by first | exact trivial | omega | (dsimp only; omega) | (simp only [sm] at *; omega)) ?_; cbv)
    | (refine QC.tt (by first | omega | (dsimp only; omega) | exact rfl | (simp only [sm] at *; omega)) ?_; cbv)
    | (refine QC.tt ?_ ?_; (focus (simp only [decide_true, Bool.and_true, Bool.and_self] <;> fail)); cbv)
    | (refine QC.ff ?_ ?_; (focus (simp only [decide_true, Bool.and_true, Bool.and_self, decide_false, Bool.false_and, reduceCtorEq, not_false_eq_true] <;> fail)); cbv)
    | (refine QC.ff (by first | omega | (dsimp only; omega) | (simp only [sm] at *; omega)) ?_; cbv)
    | (refine QC.mk (fun hc => ?_) (fun hc => ?_) <;> (try dsimp only at hc) <;> cbv)
    | (refine br_mk2 (fun hb => ?_) (fun hb => ?_) <;> (try subst hb) <;> cbv))))
    exact ⟨rfl, rfl, rfl⟩
theorem wk_zr : Wk (.tup [.agg [.int .u8 0, .int .i64 0, .nil, .int .u32 0, .bool false], .int .u32 0, .bool false, .int .i64 1]) (.tup [.agg [.int .u8 0, .int .i64 0, .lst none [], .int .u32 0, .bool false], .int .u32 0, .bool false, .int .i64 1]) :=
  .tup ⟨.agg ⟨.rfl' _, .rfl' _, .nil _, .rfl' _, .rfl' _, trivial⟩, .rfl' _, .rfl' _, .rfl' _, trivial⟩
theorem recv_no (tag cnt hv : Int) (dn : Bool) (ps : List (List UInt8)) (R : List SV) (hR : R = rowsB ps) (hf : Rcv.fits ⟨tag, cnt, ps, hv, dn⟩) (b : Bool) (hb : b = true ↔ VRc tag cnt ps hv dn)
    (t n c : Int) (k : Bool) (D : List SV) (len : Nat) (hD : D.length = len) (hno : b = false ∨ valP n c len = false) :
    Good 31 (pu [.agg [.int .u8 tag, .int .i64 cnt, .lst none R, .int .u32 hv, .bool dn], .agg [.int .u8 t, .int .i64 n, .int .i64 c, .bool k, .lst none D]] (.tup [.agg [.int .u8 0, .int .i64 0, .lst none [], .int .u32 0, .bool false], .int .u32 0, .bool false, .int .i64 1])) := by
  refine Good.res ?_ wk_zr
  have g1 := vreceiver_c tag cnt hv dn ps R hR hf b hb
  obtain ⟨r, hr⟩ : ∃ r, r = valP n c len := ⟨_, rfl⟩
  have g2 := valid_c t n c k D len r hD hr
  rw [← hr] at hno
  have hno : b = true → r = false := fun h => by rcases hno with h2 | h2; rw [h] at h2; cases h2; exact h2
  clear hb hr
  refine Good.of Try.func31 rfl (by rfl) (by kernel_rfl) ?_
  cbv
  (repeat' (first
    | (refine q1 (by first | exact trivial | omega | (dsimp only; omega) | exact pow62 _ (by omega) | exact mul9 (by omega) (by omega) | (simp only [sm] at *; omega)) (fun z hz => ?_); (try simp only at hz); cbv)
    | (refine rq (by first | exact trivial | omega | (dsimp only; omega) | (simp only [sm] at *; omega)) ?_; cbv)
    | (refine QC.tt (by first | omega | (dsimp only; omega) | exact rfl | (simp only [sm] at *; omega)) ?_; cbv)
    | (refine QC.tt ?_ ?_; (focus (simp only [decide_true, Bool.and_true, Bool.and_self] <;> fail)); cbv)
    | (refine QC.ff ?_ ?_; (focus (simp only [decide_true, Bool.and_true, Bool.and_self, decide_false, Bool.false_and, reduceCtorEq, not_false_eq_true] <;> fail)); cbv)
    | (refine QC.ff (by first | omega | (dsimp only; omega) | (simp only [sm] at *; omega)) ?_; cbv)
    | (refine QC.mk (fun hc => ?_) (fun hc => ?_) <;> (try dsimp only at hc) <;> cbv)
    | (refine br_mk2 (fun hb => ?_) (fun hb => ?_) <;> (try subst hb) <;> cbv)))
  (refine callq (g1) rfl rfl ?_; cbv; (repeat' (first
    | (refine q1 (by first | exact trivial | omega | (dsimp only; omega) | exact pow62 _ (by omega) | exact mul9 (by omega) (by omega) | (simp only [sm] at *; omega)) (fun z hz => ?_); (try simp only at hz); cbv)
    | (refine rq (by first | exact trivial | omega | (dsimp only; omega) | (simp only [sm] at *; omega)) ?_; cbv)
    | (refine QC.tt (by first | omega | (dsimp only; omega) | exact rfl | (simp only [sm] at *; omega)) ?_; cbv)
    | (refine QC.tt ?_ ?_; (focus (simp only [decide_true, Bool.and_true, Bool.and_self] <;> fail)); cbv)
    | (refine QC.ff ?_ ?_; (focus (simp only [decide_true, Bool.and_true, Bool.and_self, decide_false, Bool.false_and, reduceCtorEq, not_false_eq_true] <;> fail)); cbv)
    | (refine QC.ff (by first | omega | (dsimp only; omega) | (simp only [sm] at *; omega)) ?_; cbv)
    | (refine QC.mk (fun hc => ?_) (fun hc => ?_) <;> (try dsimp only at hc) <;> cbv)
    | (refine br_mk2 (fun hb => ?_) (fun hb => ?_) <;> (try subst hb) <;> cbv))))
  · have e := hno rfl
    subst e
    (refine callq (g2) rfl rfl ?_; cbv; (repeat' (first
    | (refine q1 (by first | exact trivial | omega | (dsimp only; omega) | exact pow62 _ (by omega) | exact mul9 (by omega) (by omega) | (simp only [sm] at *; omega)) (fun z hz => ?_); (try simp only at hz); cbv)
    | (refine rq (by first | exact trivial | omega | (dsimp only; omega) | (simp only [sm] at *; omega)) ?_; cbv)
    | (refine QC.tt (by first | omega | (dsimp only; omega) | exact rfl | (simp only [sm] at *; omega)) ?_; cbv)
    | (refine QC.tt ?_ ?_; (focus (simp only [decide_true, Bool.and_true, Bool.and_self] <;> fail)); cbv)
    | (refine QC.ff ?_ ?_; (focus (simp only [decide_true, Bool.and_true, Bool.and_self, decide_false, Bool.false_and, reduceCtorEq, not_false_eq_true] <;> fail)); cbv)
    | (refine QC.ff (by first | omega | (dsimp only; omega) | (simp only [sm] at *; omega)) ?_; cbv)
    | (refine QC.mk (fun hc => ?_) (fun hc => ?_) <;> (try dsimp only at hc) <;> cbv)
    | (refine br_mk2 (fun hb => ?_) (fun hb => ?_) <;> (try subst hb) <;> cbv))))
    exact ⟨rfl, rfl, rfl⟩
  · exact ⟨rfl, rfl, rfl⟩
theorem rrecv_no (tag cnt hv : Int) (dn : Bool) (ps : List (List UInt8)) (R : List SV) (hR : R = rowsB ps) (hf : Rcv.fits ⟨tag, cnt, ps, hv, dn⟩) (b : Bool) (hb : b = true ↔ VRc tag cnt ps hv dn)
    (t n c : Int) (k : Bool) (D : List SV) (len : Nat) (hD : D.length = len) (hno : b = false ∨ valP n c len = false) :
    Good 32 (pu [.agg [.int .u8 tag, .int .i64 cnt, .lst none R, .int .u32 hv, .bool dn], .agg [.int .u8 t, .int .i64 n, .int .i64 c, .bool k, .lst none D]] (.tup [.agg [.int .u8 0, .int .i64 0, .lst none [], .int .u32 0, .bool false], .int .u32 0, .bool false, .int .i64 1])) := by
  refine Good.res ?_ wk_zr
  have g1 := rvreceiver_c tag cnt hv dn ps R hR hf b hb
  obtain ⟨r, hr⟩ : ∃ r, r = valP n c len := ⟨_, rfl⟩
  have g2 := rvalid_c t n c k D len r hD hr
  rw [← hr] at hno
  have hno : b = true → r = false := fun h => by rcases hno with h2 | h2; rw [h] at h2; cases h2; exact h2
  clear hb hr
  refine Good.of Try.func32 rfl (by rfl) (by kernel_rfl) ?_
  cbv
  (repeat' (first
    | (refine q1 (by first | exact trivial | omega | (dsimp only; omega) | exact pow62 _ (by omega) | exact mul9 (by omega) (by omega) | (simp only [sm] at *; omega)) (fun z hz => ?_); (try simp only at hz); cbv)
    | (refine rq (by first | exact trivial | omega | (dsimp only; omega) | (simp only [sm] at *; omega)) ?_; cbv)
    | (refine QC.tt (by first | omega | (dsimp only; omega) | exact rfl | (simp only [sm] at *; omega)) ?_; cbv)
    | (refine QC.tt ?_ ?_; (focus (simp only [decide_true, Bool.and_true, Bool.and_self] <;> fail)); cbv)
    | (refine QC.ff ?_ ?_; (focus (simp only [decide_true, Bool.and_true, Bool.and_self, decide_false, Bool.false_and, reduceCtorEq, not_false_eq_true] <;> fail)); cbv)
    | (refine QC.ff (by first | omega | (dsimp only; omega) | (simp only [sm] at *; omega)) ?_; cbv)
    | (refine QC.mk (fun hc => ?_) (fun hc => ?_) <;> (try dsimp only at hc) <;> cbv)
    | (refine br_mk2 (fun hb => ?_) (fun hb => ?_) <;> (try subst hb) <;> cbv)))
  (refine callq (g1) rfl rfl ?_; cbv; (repeat' (first
    | (refine q1 (by first | exact trivial | omega | (dsimp only; omega) | exact pow62 _ (by omega) | exact mul9 (by omega) (by omega) | (simp only [sm] at *; omega)) (fun z hz => ?_); (try simp only at hz); cbv)
    | (refine rq (by first | exact trivial | omega | (dsimp only; omega) | (simp only [sm] at *; omega)) ?_; cbv)
    | (refine QC.tt (by first | omega | (dsimp only; omega) | exact rfl | (simp only [sm] at *; omega)) ?_; cbv)
    | (refine QC.tt ?_ ?_; (focus (simp only [decide_true, Bool.and_true, Bool.and_self] <;> fail)); cbv)
    | (refine QC.ff ?_ ?_; (focus (simp only [decide_true, Bool.and_true, Bool.and_self, decide_false, Bool.false_and, reduceCtorEq, not_false_eq_true] <;> fail)); cbv)
    | (refine QC.ff (by first | omega | (dsimp only; omega) | (simp only [sm] at *; omega)) ?_; cbv)
    | (refine QC.mk (fun hc => ?_) (fun hc => ?_) <;> (try dsimp only at hc) <;> cbv)
    | (refine br_mk2 (fun hb => ?_) (fun hb => ?_) <;> (try subst hb) <;> cbv))))
  · have e := hno rfl
    subst e
    (refine callq (g2) rfl rfl ?_; cbv; (repeat' (first
    | (refine q1 (by first | exact trivial | omega | (dsimp only; omega) | exact pow62 _ (by omega) | exact mul9 (by omega) (by omega) | (simp only [sm] at *; omega)) (fun z hz => ?_); (try simp only at hz); cbv)
    | (refine rq (by first | exact trivial | omega | (dsimp only; omega) | (simp only [sm] at *; omega)) ?_; cbv)
    | (refine QC.tt (by first | omega | (dsimp only; omega) | exact rfl | (simp only [sm] at *; omega)) ?_; cbv)
    | (refine QC.tt ?_ ?_; (focus (simp only [decide_true, Bool.and_true, Bool.and_self] <;> fail)); cbv)
    | (refine QC.ff ?_ ?_; (focus (simp only [decide_true, Bool.and_true, Bool.and_self, decide_false, Bool.false_and, reduceCtorEq, not_false_eq_true] <;> fail)); cbv)
    | (refine QC.ff (by first | omega | (dsimp only; omega) | (simp only [sm] at *; omega)) ?_; cbv)
    | (refine QC.mk (fun hc => ?_) (fun hc => ?_) <;> (try dsimp only at hc) <;> cbv)
    | (refine br_mk2 (fun hb => ?_) (fun hb => ?_) <;> (try subst hb) <;> cbv))))
    exact ⟨rfl, rfl, rfl⟩
  · exact ⟨rfl, rfl, rfl⟩
theorem wk_zr9 : Wk (.tup [.agg [.int .u8 0, .int .i64 0, .nil, .int .u32 0, .bool false], .int .u32 0, .bool false, .int .i64 9]) (.tup [.agg [.int .u8 0, .int .i64 0, .lst none [], .int .u32 0, .bool false], .int .u32 0, .bool false, .int .i64 9]) :=
  .tup ⟨.agg ⟨.rfl' _, .rfl' _, .nil _, .rfl' _, .rfl' _, trivial⟩, .rfl' _, .rfl' _, .rfl' _, trivial⟩
theorem recv_mm (tag cnt hv : Int) (dn : Bool) (ps : List (List UInt8)) (R : List SV) (hR : R = rowsB ps) (hf : Rcv.fits ⟨tag, cnt, ps, hv, dn⟩) (hv1 : VRc tag cnt ps hv dn) (hz0 : zeroB tag cnt ps.length hv dn = false)
    (t n c : Int) (k : Bool) (D : List SV) (len : Nat) (hD : D.length = len) (hp : valP n c len = true) (hne : tag ≠ t ∨ cnt ≠ c) :
    Good 31 (pu [.agg [.int .u8 tag, .int .i64 cnt, .lst none R, .int .u32 hv, .bool dn], .agg [.int .u8 t, .int .i64 n, .int .i64 c, .bool k, .lst none D]] (.tup [.agg [.int .u8 0, .int .i64 0, .lst none [], .int .u32 0, .bool false], .int .u32 0, .bool false, .int .i64 9])) := by
  refine Good.res ?_ (wk_zr9)
  have hRl : R.length = ps.length := by rw [hR, rowsB_len]
  have g1 := vreceiver_c tag cnt hv dn ps R hR hf true ⟨fun _ => hv1, fun _ => rfl⟩
  have g2 := valid_c t n c k D len true hD hp.symm
  have g3 := zero_c tag cnt hv dn R ps.length hRl false hz0.symm
  clear hv1 hz0 hp
  refine Good.of Try.func31 rfl (by rfl) (by kernel_rfl) ?_
  cbv
  (repeat' (first
    | (refine q1 (by first | exact trivial | omega | (dsimp only; omega) | exact pow62 _ (by omega) | exact mul9 (by omega) (by omega) | (simp only [sm] at *; omega)) (fun z hz => ?_); (try simp only at hz); cbv)
    | (refine rq (by first | exact trivial | omega | (dsimp only; omega) | (simp only [sm] at *; omega)) ?_; cbv)
    | (refine QC.tt (by first | omega | (dsimp only; omega) | exact rfl | (simp only [sm] at *; omega)) ?_; cbv)
    | (refine QC.tt ?_ ?_; (focus (simp only [decide_true, Bool.and_true, Bool.and_self] <;> fail)); cbv)
    | (refine QC.ff ?_ ?_; (focus (simp only [decide_true, Bool.and_true, Bool.and_self, decide_false, Bool.false_and, reduceCtorEq, not_false_eq_true] <;> fail)); cbv)
    | (refine QC.ff (by first | omega | (dsimp only; omega) | (simp only [sm] at *; omega)) ?_; cbv)
    | (refine QC.mk (fun hc => ?_) (fun hc => ?_) <;> (try dsimp only at hc) <;> cbv)
    | (refine br_mk2 (fun hb => ?_) (fun hb => ?_) <;> (try subst hb) <;> cbv)))
  (refine callq (g1) rfl rfl ?_; cbv; (repeat' (first
    | (refine q1 (by first | exact trivial | omega | (dsimp only; omega) | exact pow62 _ (by omega) | exact mul9 (by omega) (by omega) | (simp only [sm] at *; omega)) (fun z hz => ?_); (try simp only at hz); cbv)
    | (refine rq (by first | exact trivial | omega | (dsimp only; omega) | (simp only [sm] at *; omega)) ?_; cbv)
    | (refine QC.tt (by first | omega | (dsimp only; omega) | exact rfl | (simp only [sm] at *; omega)) ?_; cbv)
    | (refine QC.tt ?_ ?_; (focus (simp only [decide_true, Bool.and_true, Bool.and_self] <;> fail)); cbv)
    | (refine QC.ff ?_ ?_; (focus (simp only [decide_true, Bool.and_true, Bool.and_self, decide_false, Bool.false_and, reduceCtorEq, not_false_eq_true] <;> fail)); cbv)
    | (refine QC.ff (by first | omega | (dsimp only; omega) | (simp only [sm] at *; omega)) ?_; cbv)
    | (refine QC.mk (fun hc => ?_) (fun hc => ?_) <;> (try dsimp only at hc) <;> cbv)
    | (refine br_mk2 (fun hb => ?_) (fun hb => ?_) <;> (try subst hb) <;> cbv))))
  (refine callq (g2) rfl rfl ?_; cbv; (repeat' (first
    | (refine q1 (by first | exact trivial | omega | (dsimp only; omega) | exact pow62 _ (by omega) | exact mul9 (by omega) (by omega) | (simp only [sm] at *; omega)) (fun z hz => ?_); (try simp only at hz); cbv)
    | (refine rq (by first | exact trivial | omega | (dsimp only; omega) | (simp only [sm] at *; omega)) ?_; cbv)
    | (refine QC.tt (by first | omega | (dsimp only; omega) | exact rfl | (simp only [sm] at *; omega)) ?_; cbv)
    | (refine QC.tt ?_ ?_; (focus (simp only [decide_true, Bool.and_true, Bool.and_self] <;> fail)); cbv)
    | (refine QC.ff ?_ ?_; (focus (simp only [decide_true, Bool.and_true, Bool.and_self, decide_false, Bool.false_and, reduceCtorEq, not_false_eq_true] <;> fail)); cbv)
    | (refine QC.ff (by first | omega | (dsimp only; omega) | (simp only [sm] at *; omega)) ?_; cbv)
    | (refine QC.mk (fun hc => ?_) (fun hc => ?_) <;> (try dsimp only at hc) <;> cbv)
    | (refine br_mk2 (fun hb => ?_) (fun hb => ?_) <;> (try subst hb) <;> cbv))))
  (refine callq (g3) rfl rfl ?_; cbv; (repeat' (first
    | (refine q1 (by first | exact trivial | omega | (dsimp only; omega) | exact pow62 _ (by omega) | exact mul9 (by omega) (by omega) | (simp only [sm] at *; omega)) (fun z hz => ?_); (try simp only at hz); cbv)
    | (refine rq (by first | exact trivial | omega | (dsimp only; omega) | (simp only [sm] at *; omega)) ?_; cbv)
    | (refine QC.tt (by first | omega | (dsimp only; omega) | exact rfl | (simp only [sm] at *; omega)) ?_; cbv)
    | (refine QC.tt ?_ ?_; (focus (simp only [decide_true, Bool.and_true, Bool.and_self] <;> fail)); cbv)
    | (refine QC.ff ?_ ?_; (focus (simp only [decide_true, Bool.and_true, Bool.and_self, decide_false, Bool.false_and, reduceCtorEq, not_false_eq_true] <;> fail)); cbv)
    | (refine QC.ff (by first | omega | (dsimp only; omega) | (simp only [sm] at *; omega)) ?_; cbv)
    | (refine QC.mk (fun hc => ?_) (fun hc => ?_) <;> (try dsimp only at hc) <;> cbv)
    | (refine br_mk2 (fun hb => ?_) (fun hb => ?_) <;> (try subst hb) <;> cbv))))
  all_goals first | exact ⟨rfl, rfl, rfl⟩ | (exfalso; rename_i h1 h2; exact hne.elim h1 h2)
theorem rrecv_mm (tag cnt hv : Int) (dn : Bool) (ps : List (List UInt8)) (R : List SV) (hR : R = rowsB ps) (hf : Rcv.fits ⟨tag, cnt, ps, hv, dn⟩) (hv1 : VRc tag cnt ps hv dn) (hz0 : zeroB tag cnt ps.length hv dn = false)
    (t n c : Int) (k : Bool) (D : List SV) (len : Nat) (hD : D.length = len) (hp : valP n c len = true) (hne : tag ≠ t ∨ cnt ≠ c) :
    Good 32 (pu [.agg [.int .u8 tag, .int .i64 cnt, .lst none R, .int .u32 hv, .bool dn], .agg [.int .u8 t, .int .i64 n, .int .i64 c, .bool k, .lst none D]] (.tup [.agg [.int .u8 0, .int .i64 0, .lst none [], .int .u32 0, .bool false], .int .u32 0, .bool false, .int .i64 9])) := by
  refine Good.res ?_ (wk_zr9)
  have hRl : R.length = ps.length := by rw [hR, rowsB_len]
  have g1 := rvreceiver_c tag cnt hv dn ps R hR hf true ⟨fun _ => hv1, fun _ => rfl⟩
  have g2 := rvalid_c t n c k D len true hD hp.symm
  have g3 := rzero_c tag cnt hv dn R ps.length hRl false hz0.symm
  clear hv1 hz0 hp
  refine Good.of Try.func32 rfl (by rfl) (by kernel_rfl) ?_
  cbv
  (repeat' (first
    | (refine q1 (by first | exact trivial | omega | (dsimp only; omega) | exact pow62 _ (by omega) | exact mul9 (by omega) (by omega) | (simp only [sm] at *; omega)) (fun z hz => ?_); (try simp only at hz); cbv)
    | (refine rq (by first | exact trivial | omega | (dsimp only; omega) | (simp only [sm] at *; omega)) ?_; cbv)
    | (refine QC.tt (by first | omega | (dsimp only; omega) | exact rfl | (simp only [sm] at *; omega)) ?_; cbv)
    | (refine QC.tt ?_ ?_; (focus (simp only [decide_true, Bool.and_true, Bool.and_self] <;> fail)); cbv)
    | (refine QC.ff ?_ ?_; (focus (simp only [decide_true, Bool.and_true, Bool.and_self, decide_false, Bool.false_and, reduceCtorEq, not_false_eq_true] <;> fail)); cbv)
    | (refine QC.ff (by first | omega | (dsimp only; omega) | (simp only [sm] at *; omega)) ?_; cbv)
    | (refine QC.mk (fun hc => ?_) (fun hc => ?_) <;> (try dsimp only at hc) <;> cbv)
    | (refine br_mk2 (fun hb => ?_) (fun hb => ?_) <;> (try subst hb) <;> cbv)))
  (refine callq (g1) rfl rfl ?_; cbv; (repeat' (first
    | (refine q1 (by first | exact trivial | omega | (dsimp only; omega) | exact pow62 _ (by omega) | exact mul9 (by omega) (by omega) | (simp only [sm] at *; omega)) (fun z hz => ?_); (try simp only at hz); cbv)
    | (refine rq (by first | exact trivial | omega | (dsimp only; omega) | (simp only [sm] at *; omega)) ?_; cbv)
    | (refine QC.tt (by first | omega | (dsimp only; omega) | exact rfl | (simp only [sm] at *; omega)) ?_; cbv)
    | (refine QC.tt ?_ ?_; (focus (simp only [decide_true, Bool.and_true, Bool.and_self] <;> fail)); cbv)
    | (refine QC.ff ?_ ?_; (focus (simp only [decide_true, Bool.and_true, Bool.and_self, decide_false, Bool.false_and, reduceCtorEq, not_false_eq_true] <;> fail)); cbv)
    | (refine QC.ff (by first | omega | (dsimp only; omega) | (simp only [sm] at *; omega)) ?_; cbv)
    | (refine QC.mk (fun hc => ?_) (fun hc => ?_) <;> (try dsimp only at hc) <;> cbv)
    | (refine br_mk2 (fun hb => ?_) (fun hb => ?_) <;> (try subst hb) <;> cbv))))
  (refine callq (g2) rfl rfl ?_; cbv; (repeat' (first
    | (refine q1 (by first | exact trivial | omega | (dsimp only; omega) | exact pow62 _ (by omega) | exact mul9 (by omega) (by omega) | (simp only [sm] at *; omega)) (fun z hz => ?_); (try simp only at hz); cbv)
    | (refine rq (by first | exact trivial | omega | (dsimp only; omega) | (simp only [sm] at *; omega)) ?_; cbv)
    | (refine QC.tt (by first | omega | (dsimp only; omega) | exact rfl | (simp only [sm] at *; omega)) ?_; cbv)
    | (refine QC.tt ?_ ?_; (focus (simp only [decide_true, Bool.and_true, Bool.and_self] <;> fail)); cbv)
    | (refine QC.ff ?_ ?_; (focus (simp only [decide_true, Bool.and_true, Bool.and_self, decide_false, Bool.false_and, reduceCtorEq, not_false_eq_true] <;> fail)); cbv)
    | (refine QC.ff (by first | omega | (dsimp only; omega) | (simp only [sm] at *; omega)) ?_; cbv)
    | (refine QC.mk (fun hc => ?_) (fun hc => ?_) <;> (try dsimp only at hc) <;> cbv)
    | (refine br_mk2 (fun hb => ?_) (fun hb => ?_) <;> (try subst hb) <;> cbv))))
  (refine callq (g3) rfl rfl ?_; cbv; (repeat' (first
    | (refine q1 (by first | exact trivial | omega | (dsimp only; omega) | exact pow62 _ (by omega) | exact mul9 (by omega) (by omega) | (simp only [sm] at *; omega)) (fun z hz => ?_); (try simp only at hz); cbv)
    | (refine rq (by first | exact trivial | omega | (dsimp only; omega) | (simp only [sm] at *; omega)) ?_; cbv)
    | (refine QC.tt (by first | omega | (dsimp only; omega) | exact rfl | (simp only [sm] at *; omega)) ?_; cbv)
    | (refine QC.tt ?_ ?_; (focus (simp only [decide_true, Bool.and_true, Bool.and_self] <;> fail)); cbv)
    | (refine QC.ff ?_ ?_; (focus (simp only [decide_true, Bool.and_true, Bool.and_self, decide_false, Bool.false_and, reduceCtorEq, not_false_eq_true] <;> fail)); cbv)
    | (refine QC.ff (by first | omega | (dsimp only; omega) | (simp only [sm] at *; omega)) ?_; cbv)
    | (refine QC.mk (fun hc => ?_) (fun hc => ?_) <;> (try dsimp only at hc) <;> cbv)
    | (refine br_mk2 (fun hb => ?_) (fun hb => ?_) <;> (try subst hb) <;> cbv))))
  all_goals first | exact ⟨rfl, rfl, rfl⟩ | (exfalso; rename_i h1 h2; exact hne.elim h1 h2)
end Go.Proofs.Ytjhicdoigllblaa
namespace Go.Proofs.Ytjhicdoigllblaa
set_option linter.unusedVariables false
set_option linter.unusedSimpArgs false
open Go.RowKit
set_option maxHeartbeats 8000000
theorem Good.argN {f : Nat} {a a' : List SV} {r : SV} {b : Blk} (h : Good f (nu a r b)) (hi : isSeq (nu a r b) = false) (hi' : isSeq (nu a' r b) = false) (hw : WkL a' a) : Good f (nu a' r b) :=
  ⟨⟨h.h.fn, (fun hq => by rw [hi'] at hq; cases hq), fun _ N w X ρ vs hm hd => h.h.h hi N w X ρ vs hm (hw.den hd)⟩⟩
theorem clonedNil_c (n : Nat) (hn : n ≤ 32) : Good 51 (nu [.lst none (List.replicate n .nil)] (.row 1) (.row none 26 (rowsB (List.replicate n [])))) :=
  (clonedRow_c (List.replicate n []) _ rfl (by simp; omega) (fun p h => by rw [List.eq_of_mem_replicate h]; simp)).argN rfl rfl ⟨.lst (by rw [rowsB_rep]; exact WkL.nils n), trivial⟩
theorem copiedNil_c (n : Nat) (hn : n ≤ 32) : Good 55 (nu [.lst none (List.replicate n .nil)] (.row 1) (.row none 26 (rowsB (List.replicate n [])))) :=
  (copiedRow_c (List.replicate n []) _ rfl (by simp; omega) (fun p h => by rw [List.eq_of_mem_replicate h]; simp)).argN rfl rfl ⟨.lst (by rw [rowsB_rep]; exact WkL.nils n), trivial⟩
set_option maxRecDepth 4000 in
theorem recv_z (tag n cnt : Int) (k : Bool) (d : List UInt8) (D : List SV) (hD : D = u8l d) (hd : d.length ≤ 140737488351232) (hp : valP n cnt d.length = true) (ps : List (List UInt8)) (hps : ps = List.replicate cnt.toNat []) (R : List SV) (hR : R = rowsB ps)
    (R' : List SV) (hR' : R' = rowsB (putP ps n.toNat d)) (h' : Int) (hh' : h' = hasN (putP ps n.toNat d) (putP ps n.toNat d).length) (b' : Bool) (hb' : b' = true ↔ h' = allI ps.length) :
    Good 31 (pu [.agg [.int .u8 0, .int .i64 0, .lst none [], .int .u32 0, .bool false], .agg [.int .u8 tag, .int .i64 n, .int .i64 cnt, .bool k, .lst none D]] (.tup [.agg [.int .u8 tag, .int .i64 cnt, .lst none R', .int .u32 h', .bool b'], .int .u32 (if k = true then h' else 0), .bool k, .int .i64 0])) := by
  have hRl : R.length = ps.length := by rw [hR, rowsB_len]
  have hDl : D.length = d.length := by rw [hD, u8l_len]
  have hpv := of_decide_eq_true hp
  have hcn : (ps.length : Int) = cnt := by rw [hps, List.length_replicate]; omega
  have hpb : ∀ p ∈ ps, p.length ≤ 140737488351232 := fun p h => by rw [hps] at h; rw [List.eq_of_mem_replicate h]; simp
  have g1 := vreceiver_c 0 0 0 false [] [] rfl ⟨by decide, by decide, by decide, by decide, fun p h => by cases h⟩ true ⟨fun _ => .inl rfl, fun _ => rfl⟩
  have g2 := valid_c tag n cnt k D d.length true hDl hp.symm
  have g3 := zero_c 0 0 0 false [] 0 rfl true rfl
  have g4 := clonedNil_c cnt.toNat (by omega)
  rw [← hps, ← hR, ← orp cnt .nil] at g4
  have g5 := cloned_c d D hD hd
  obtain ⟨q, hq⟩ : ∃ q, q = putP ps n.toNat d := ⟨_, rfl⟩
  have hql : q.length = ps.length := by rw [hq, putP_len]
  have hqb : ∀ p ∈ q, p.length ≤ 140737488351232 := fun p h => by
    rw [hq, putP] at h
    split at h
    · rcases List.mem_or_eq_of_mem_set h with h | h
      · exact hpb p h
      · rw [h]; exact hd
    · exact hpb p h
  rw [← hq] at hR' hh'
  have g6 := has_c q R' hR' (by omega) hqb h' hh'
  have g7 : ∀ N : Int, N = ps.length → Good 57 (pu [.int .i64 N] (.int .u32 (allI ps.length))) := fun N hN => all_c ps.length N _ hN (by omega) rfl
  have g7 := g7 cnt hcn.symm
  obtain ⟨A, hA⟩ : ∃ A : Int, A = allI ps.length := ⟨_, rfl⟩
  rw [← hA] at g7 hb'
  have hnl : n.toNat < ps.length := by omega
  obtain ⟨bb, B, e1, e2, e3⟩ := rowsB_at hR n.toNat hnl
  have hBl : B.length = bb.length := by rw [e2, u8l_len]
  have hj : n = (n.toNat : Int) := by omega
  obtain ⟨i, hi⟩ : ∃ i, i = n.toNat := ⟨_, rfl⟩
  rw [← hi] at hj hnl e3
  have hput : (bb.length = 0 → R.set i (.lst none D) = R') ∧ (¬ bb.length = 0 → R = R') := by
    have hg : ps.getD n.toNat [] = bb := by rw [List.getD_eq_getElem?_getD, e1]; rfl
    rw [hR', hq, putP, hg, hi]
    refine ⟨fun h => ?_, fun h => ?_⟩
    · rw [if_pos h, hR, hD, rowsB_set]
    · rw [if_neg h, hR]
  have hbl : bb.length ≤ 140737488351232 := hpb bb (List.mem_of_getElem? e1)
  clear hp hR hR' hh' hq e1 e2 hD hA
  have hmk : True := trivial
  cases k
  · skip
    refine Good.of Try.func31 rfl (by rfl) (by kernel_rfl) ?_
    cbv
    (repeat' (first
    | (refine q1 (by first | exact trivial | omega | (dsimp only; omega) | exact pow62 _ (by omega) | exact mul9 (by omega) (by omega) | (simp only [sm] at *; omega)) (fun z hz => ?_); (try simp only at hz); cbv)
    | (refine rq (by first | exact trivial | omega | (dsimp only; omega) | (simp only [sm] at *; omega)) ?_; cbv)
    | (refine QC.tt (by first | omega | (dsimp only; omega) | exact rfl | (simp only [sm] at *; omega)) ?_; cbv)
    | (refine QC.tt ?_ ?_; (focus (simp only [decide_true, Bool.and_true, Bool.and_self] <;> fail)); cbv)
    | (refine QC.ff ?_ ?_; (focus (simp only [decide_true, Bool.and_true, Bool.and_self, decide_false, Bool.false_and, reduceCtorEq, not_false_eq_true] <;> fail)); cbv)
    | (refine QC.ff (by first | omega | (dsimp only; omega) | (simp only [sm] at *; omega)) ?_; cbv)
    | (refine QC.mk (fun hc => ?_) (fun hc => ?_) <;> (try dsimp only at hc) <;> cbv)
    | (refine br_mk2 (fun hb => ?_) (fun hb => ?_) <;> (try subst hb) <;> cbv)))
    (refine callq (g1) rfl rfl ?_; cbv; (repeat' (first
    | (refine q1 (by first | exact trivial | omega | (dsimp only; omega) | exact pow62 _ (by omega) | exact mul9 (by omega) (by omega) | (simp only [sm] at *; omega)) (fun z hz => ?_); (try simp only at hz); cbv)
    | (refine rq (by first | exact trivial | omega | (dsimp only; omega) | (simp only [sm] at *; omega)) ?_; cbv)
    | (refine QC.tt (by first | omega | (dsimp only; omega) | exact rfl | (simp only [sm] at *; omega)) ?_; cbv)
    | (refine QC.tt ?_ ?_; (focus (simp only [decide_true, Bool.and_true, Bool.and_self] <;> fail)); cbv)
    | (refine QC.ff ?_ ?_; (focus (simp only [decide_true, Bool.and_true, Bool.and_self, decide_false, Bool.false_and, reduceCtorEq, not_false_eq_true] <;> fail)); cbv)
    | (refine QC.ff (by first | omega | (dsimp only; omega) | (simp only [sm] at *; omega)) ?_; cbv)
    | (refine QC.mk (fun hc => ?_) (fun hc => ?_) <;> (try dsimp only at hc) <;> cbv)
    | (refine br_mk2 (fun hb => ?_) (fun hb => ?_) <;> (try subst hb) <;> cbv))))
    (refine callq (g2) rfl rfl ?_; cbv; (repeat' (first
    | (refine q1 (by first | exact trivial | omega | (dsimp only; omega) | exact pow62 _ (by omega) | exact mul9 (by omega) (by omega) | (simp only [sm] at *; omega)) (fun z hz => ?_); (try simp only at hz); cbv)
    | (refine rq (by first | exact trivial | omega | (dsimp only; omega) | (simp only [sm] at *; omega)) ?_; cbv)
    | (refine QC.tt (by first | omega | (dsimp only; omega) | exact rfl | (simp only [sm] at *; omega)) ?_; cbv)
    | (refine QC.tt ?_ ?_; (focus (simp only [decide_true, Bool.and_true, Bool.and_self] <;> fail)); cbv)
    | (refine QC.ff ?_ ?_; (focus (simp only [decide_true, Bool.and_true, Bool.and_self, decide_false, Bool.false_and, reduceCtorEq, not_false_eq_true] <;> fail)); cbv)
    | (refine QC.ff (by first | omega | (dsimp only; omega) | (simp only [sm] at *; omega)) ?_; cbv)
    | (refine QC.mk (fun hc => ?_) (fun hc => ?_) <;> (try dsimp only at hc) <;> cbv)
    | (refine br_mk2 (fun hb => ?_) (fun hb => ?_) <;> (try subst hb) <;> cbv))))
    (refine callq (g3) rfl rfl ?_; cbv; (repeat' (first
    | (refine q1 (by first | exact trivial | omega | (dsimp only; omega) | exact pow62 _ (by omega) | exact mul9 (by omega) (by omega) | (simp only [sm] at *; omega)) (fun z hz => ?_); (try simp only at hz); cbv)
    | (refine rq (by first | exact trivial | omega | (dsimp only; omega) | (simp only [sm] at *; omega)) ?_; cbv)
    | (refine QC.tt (by first | omega | (dsimp only; omega) | exact rfl | (simp only [sm] at *; omega)) ?_; cbv)
    | (refine QC.tt ?_ ?_; (focus (simp only [decide_true, Bool.and_true, Bool.and_self] <;> fail)); cbv)
    | (refine QC.ff ?_ ?_; (focus (simp only [decide_true, Bool.and_true, Bool.and_self, decide_false, Bool.false_and, reduceCtorEq, not_false_eq_true] <;> fail)); cbv)
    | (refine QC.ff (by first | omega | (dsimp only; omega) | (simp only [sm] at *; omega)) ?_; cbv)
    | (refine QC.mk (fun hc => ?_) (fun hc => ?_) <;> (try dsimp only at hc) <;> cbv)
    | (refine br_mk2 (fun hb => ?_) (fun hb => ?_) <;> (try subst hb) <;> cbv))))
    (refine callq (g4) rfl rfl ?_; cbv; (repeat' (first
    | (refine q1 (by first | exact trivial | omega | (dsimp only; omega) | exact pow62 _ (by omega) | exact mul9 (by omega) (by omega) | (simp only [sm] at *; omega)) (fun z hz => ?_); (try simp only at hz); cbv)
    | (refine rq (by first | exact trivial | omega | (dsimp only; omega) | (simp only [sm] at *; omega)) ?_; cbv)
    | (refine QC.tt (by first | omega | (dsimp only; omega) | exact rfl | (simp only [sm] at *; omega)) ?_; cbv)
    | (refine QC.tt ?_ ?_; (focus (simp only [decide_true, Bool.and_true, Bool.and_self] <;> fail)); cbv)
    | (refine QC.ff ?_ ?_; (focus (simp only [decide_true, Bool.and_true, Bool.and_self, decide_false, Bool.false_and, reduceCtorEq, not_false_eq_true] <;> fail)); cbv)
    | (refine QC.ff (by first | omega | (dsimp only; omega) | (simp only [sm] at *; omega)) ?_; cbv)
    | (refine QC.mk (fun hc => ?_) (fun hc => ?_) <;> (try dsimp only at hc) <;> cbv)
    | (refine br_mk2 (fun hb => ?_) (fun hb => ?_) <;> (try subst hb) <;> cbv))))
    (refine qv (i) (by (first | omega | (simp only [cst] at *; omega) | (simp only [sm] at *; omega))) ?_; cbv; (repeat' (first
    | (refine q1 (by first | exact trivial | omega | (dsimp only; omega) | exact pow62 _ (by omega) | exact mul9 (by omega) (by omega) | (simp only [sm] at *; omega)) (fun z hz => ?_); (try simp only at hz); cbv)
    | (refine rq (by first | exact trivial | omega | (dsimp only; omega) | (simp only [sm] at *; omega)) ?_; cbv)
    | (refine QC.tt (by first | omega | (dsimp only; omega) | exact rfl | (simp only [sm] at *; omega)) ?_; cbv)
    | (refine QC.tt ?_ ?_; (focus (simp only [decide_true, Bool.and_true, Bool.and_self] <;> fail)); cbv)
    | (refine QC.ff ?_ ?_; (focus (simp only [decide_true, Bool.and_true, Bool.and_self, decide_false, Bool.false_and, reduceCtorEq, not_false_eq_true] <;> fail)); cbv)
    | (refine QC.ff (by first | omega | (dsimp only; omega) | (simp only [sm] at *; omega)) ?_; cbv)
    | (refine QC.mk (fun hc => ?_) (fun hc => ?_) <;> (try dsimp only at hc) <;> cbv)
    | (refine br_mk2 (fun hb => ?_) (fun hb => ?_) <;> (try subst hb) <;> cbv))))
    (refine qv _ (e3) ?_; cbv; (repeat' (first
    | (refine q1 (by first | exact trivial | omega | (dsimp only; omega) | exact pow62 _ (by omega) | exact mul9 (by omega) (by omega) | (simp only [sm] at *; omega)) (fun z hz => ?_); (try simp only at hz); cbv)
    | (refine rq (by first | exact trivial | omega | (dsimp only; omega) | (simp only [sm] at *; omega)) ?_; cbv)
    | (refine QC.tt (by first | omega | (dsimp only; omega) | exact rfl | (simp only [sm] at *; omega)) ?_; cbv)
    | (refine QC.tt ?_ ?_; (focus (simp only [decide_true, Bool.and_true, Bool.and_self] <;> fail)); cbv)
    | (refine QC.ff ?_ ?_; (focus (simp only [decide_true, Bool.and_true, Bool.and_self, decide_false, Bool.false_and, reduceCtorEq, not_false_eq_true] <;> fail)); cbv)
    | (refine QC.ff (by first | omega | (dsimp only; omega) | (simp only [sm] at *; omega)) ?_; cbv)
    | (refine QC.mk (fun hc => ?_) (fun hc => ?_) <;> (try dsimp only at hc) <;> cbv)
    | (refine br_mk2 (fun hb => ?_) (fun hb => ?_) <;> (try subst hb) <;> cbv))))
    · have hS : O.st R i (.lst none D) = R' := by rw [ost]; exact hput.1 (by (first | omega | (simp only [cst] at *; omega) | (simp only [sm] at *; omega)))
      rw [← hS] at g6
      (refine callq (g5) rfl rfl ?_; cbv; (repeat' (first
    | (refine q1 (by first | exact trivial | omega | (dsimp only; omega) | exact pow62 _ (by omega) | exact mul9 (by omega) (by omega) | (simp only [sm] at *; omega)) (fun z hz => ?_); (try simp only at hz); cbv)
    | (refine rq (by first | exact trivial | omega | (dsimp only; omega) | (simp only [sm] at *; omega)) ?_; cbv)
    | (refine QC.tt (by first | omega | (dsimp only; omega) | exact rfl | (simp only [sm] at *; omega)) ?_; cbv)
    | (refine QC.tt ?_ ?_; (focus (simp only [decide_true, Bool.and_true, Bool.and_self] <;> fail)); cbv)
    | (refine QC.ff ?_ ?_; (focus (simp only [decide_true, Bool.and_true, Bool.and_self, decide_false, Bool.false_and, reduceCtorEq, not_false_eq_true] <;> fail)); cbv)
    | (refine QC.ff (by first | omega | (dsimp only; omega) | (simp only [sm] at *; omega)) ?_; cbv)
    | (refine QC.mk (fun hc => ?_) (fun hc => ?_) <;> (try dsimp only at hc) <;> cbv)
    | (refine br_mk2 (fun hb => ?_) (fun hb => ?_) <;> (try subst hb) <;> cbv))))
      (refine qv (i) (by (first | omega | (simp only [cst] at *; omega) | (simp only [sm] at *; omega))) ?_; cbv; (repeat' (first
    | (refine q1 (by first | exact trivial | omega | (dsimp only; omega) | exact pow62 _ (by omega) | exact mul9 (by omega) (by omega) | (simp only [sm] at *; omega)) (fun z hz => ?_); (try simp only at hz); cbv)
    | (refine rq (by first | exact trivial | omega | (dsimp only; omega) | (simp only [sm] at *; omega)) ?_; cbv)
    | (refine QC.tt (by first | omega | (dsimp only; omega) | exact rfl | (simp only [sm] at *; omega)) ?_; cbv)
    | (refine QC.tt ?_ ?_; (focus (simp only [decide_true, Bool.and_true, Bool.and_self] <;> fail)); cbv)
    | (refine QC.ff ?_ ?_; (focus (simp only [decide_true, Bool.and_true, Bool.and_self, decide_false, Bool.false_and, reduceCtorEq, not_false_eq_true] <;> fail)); cbv)
    | (refine QC.ff (by first | omega | (dsimp only; omega) | (simp only [sm] at *; omega)) ?_; cbv)
    | (refine QC.mk (fun hc => ?_) (fun hc => ?_) <;> (try dsimp only at hc) <;> cbv)
    | (refine br_mk2 (fun hb => ?_) (fun hb => ?_) <;> (try subst hb) <;> cbv))))
      (refine callq (g6) rfl rfl ?_; cbv; (repeat' (first
    | (refine q1 (by first | exact trivial | omega | (dsimp only; omega) | exact pow62 _ (by omega) | exact mul9 (by omega) (by omega) | (simp only [sm] at *; omega)) (fun z hz => ?_); (try simp only at hz); cbv)
    | (refine rq (by first | exact trivial | omega | (dsimp only; omega) | (simp only [sm] at *; omega)) ?_; cbv)
    | (refine QC.tt (by first | omega | (dsimp only; omega) | exact rfl | (simp only [sm] at *; omega)) ?_; cbv)
    | (refine QC.tt ?_ ?_; (focus (simp only [decide_true, Bool.and_true, Bool.and_self] <;> fail)); cbv)
    | (refine QC.ff ?_ ?_; (focus (simp only [decide_true, Bool.and_true, Bool.and_self, decide_false, Bool.false_and, reduceCtorEq, not_false_eq_true] <;> fail)); cbv)
    | (refine QC.ff (by first | omega | (dsimp only; omega) | (simp only [sm] at *; omega)) ?_; cbv)
    | (refine QC.mk (fun hc => ?_) (fun hc => ?_) <;> (try dsimp only at hc) <;> cbv)
    | (refine br_mk2 (fun hb => ?_) (fun hb => ?_) <;> (try subst hb) <;> cbv))))
      (refine callq (g7) rfl rfl ?_; cbv; (repeat' (first
    | (refine q1 (by first | exact trivial | omega | (dsimp only; omega) | exact pow62 _ (by omega) | exact mul9 (by omega) (by omega) | (simp only [sm] at *; omega)) (fun z hz => ?_); (try simp only at hz); cbv)
    | (refine rq (by first | exact trivial | omega | (dsimp only; omega) | (simp only [sm] at *; omega)) ?_; cbv)
    | (refine QC.tt (by first | omega | (dsimp only; omega) | exact rfl | (simp only [sm] at *; omega)) ?_; cbv)
    | (refine QC.tt ?_ ?_; (focus (simp only [decide_true, Bool.and_true, Bool.and_self] <;> fail)); cbv)
    | (refine QC.ff ?_ ?_; (focus (simp only [decide_true, Bool.and_true, Bool.and_self, decide_false, Bool.false_and, reduceCtorEq, not_false_eq_true] <;> fail)); cbv)
    | (refine QC.ff (by first | omega | (dsimp only; omega) | (simp only [sm] at *; omega)) ?_; cbv)
    | (refine QC.mk (fun hc => ?_) (fun hc => ?_) <;> (try dsimp only at hc) <;> cbv)
    | (refine br_mk2 (fun hb => ?_) (fun hb => ?_) <;> (try subst hb) <;> cbv))))
      · have eb : b' = true := hb'.2 hc
        refine Fin.mk ?_ rfl rfl
        rw [eb, ← hS]
        try rfl
      · have eb : b' = false := by
          cases hbb : b'
          · rfl
          · exact absurd (hb'.1 hbb) hc
        refine Fin.mk ?_ rfl rfl
        rw [eb, ← hS]
        try rfl
    · have hS : R = R' := hput.2 (by (first | omega | (simp only [cst] at *; omega) | (simp only [sm] at *; omega)))
      rw [← hS] at g6
      (refine callq (g6) rfl rfl ?_; cbv; (repeat' (first
    | (refine q1 (by first | exact trivial | omega | (dsimp only; omega) | exact pow62 _ (by omega) | exact mul9 (by omega) (by omega) | (simp only [sm] at *; omega)) (fun z hz => ?_); (try simp only at hz); cbv)
    | (refine rq (by first | exact trivial | omega | (dsimp only; omega) | (simp only [sm] at *; omega)) ?_; cbv)
    | (refine QC.tt (by first | omega | (dsimp only; omega) | exact rfl | (simp only [sm] at *; omega)) ?_; cbv)
    | (refine QC.tt ?_ ?_; (focus (simp only [decide_true, Bool.and_true, Bool.and_self] <;> fail)); cbv)
    | (refine QC.ff ?_ ?_; (focus (simp only [decide_true, Bool.and_true, Bool.and_self, decide_false, Bool.false_and, reduceCtorEq, not_false_eq_true] <;> fail)); cbv)
    | (refine QC.ff (by first | omega | (dsimp only; omega) | (simp only [sm] at *; omega)) ?_; cbv)
    | (refine QC.mk (fun hc => ?_) (fun hc => ?_) <;> (try dsimp only at hc) <;> cbv)
    | (refine br_mk2 (fun hb => ?_) (fun hb => ?_) <;> (try subst hb) <;> cbv))))
      (refine callq (g7) rfl rfl ?_; cbv; (repeat' (first
    | (refine q1 (by first | exact trivial | omega | (dsimp only; omega) | exact pow62 _ (by omega) | exact mul9 (by omega) (by omega) | (simp only [sm] at *; omega)) (fun z hz => ?_); (try simp only at hz); cbv)
    | (refine rq (by first | exact trivial | omega | (dsimp only; omega) | (simp only [sm] at *; omega)) ?_; cbv)
    | (refine QC.tt (by first | omega | (dsimp only; omega) | exact rfl | (simp only [sm] at *; omega)) ?_; cbv)
    | (refine QC.tt ?_ ?_; (focus (simp only [decide_true, Bool.and_true, Bool.and_self] <;> fail)); cbv)
    | (refine QC.ff ?_ ?_; (focus (simp only [decide_true, Bool.and_true, Bool.and_self, decide_false, Bool.false_and, reduceCtorEq, not_false_eq_true] <;> fail)); cbv)
    | (refine QC.ff (by first | omega | (dsimp only; omega) | (simp only [sm] at *; omega)) ?_; cbv)
    | (refine QC.mk (fun hc => ?_) (fun hc => ?_) <;> (try dsimp only at hc) <;> cbv)
    | (refine br_mk2 (fun hb => ?_) (fun hb => ?_) <;> (try subst hb) <;> cbv))))
      · have eb : b' = true := hb'.2 hc
        refine Fin.mk ?_ rfl rfl
        rw [eb, ← hS]
        try rfl
      · have eb : b' = false := by
          cases hbb : b'
          · rfl
          · exact absurd (hb'.1 hbb) hc
        refine Fin.mk ?_ rfl rfl
        rw [eb, ← hS]
        try rfl
  · skip
    refine Good.of Try.func31 rfl (by rfl) (by kernel_rfl) ?_
    cbv
    (repeat' (first
    | (refine q1 (by first | exact trivial | omega | (dsimp only; omega) | exact pow62 _ (by omega) | exact mul9 (by omega) (by omega) | (simp only [sm] at *; omega)) (fun z hz => ?_); (try simp only at hz); cbv)
    | (refine rq (by first | exact trivial | omega | (dsimp only; omega) | (simp only [sm] at *; omega)) ?_; cbv)
    | (refine QC.tt (by first | omega | (dsimp only; omega) | exact rfl | (simp only [sm] at *; omega)) ?_; cbv)
    | (refine QC.tt ?_ ?_; (focus (simp only [decide_true, Bool.and_true, Bool.and_self] <;> fail)); cbv)
    | (refine QC.ff ?_ ?_; (focus (simp only [decide_true, Bool.and_true, Bool.and_self, decide_false, Bool.false_and, reduceCtorEq, not_false_eq_true] <;> fail)); cbv)
    | (refine QC.ff (by first | omega | (dsimp only; omega) | (simp only [sm] at *; omega)) ?_; cbv)
    | (refine QC.mk (fun hc => ?_) (fun hc => ?_) <;> (try dsimp only at hc) <;> cbv)
    | (refine br_mk2 (fun hb => ?_) (fun hb => ?_) <;> (try subst hb) <;> cbv)))
    (refine callq (g1) rfl rfl ?_; cbv; (repeat' (first
    | (refine q1 (by first | exact trivial | omega | (dsimp only; omega) | exact pow62 _ (by omega) | exact mul9 (by omega) (by omega) | (simp only [sm] at *; omega)) (fun z hz => ?_); (try simp only at hz); cbv)
    | (refine rq (by first | exact trivial | omega | (dsimp only; omega) | (simp only [sm] at *; omega)) ?_; cbv)
    | (refine QC.tt (by first | omega | (dsimp only; omega) | exact rfl | (simp only [sm] at *; omega)) ?_; cbv)
    | (refine QC.tt ?_ ?_; (focus (simp only [decide_true, Bool.and_true, Bool.and_self] <;> fail)); cbv)
    | (refine QC.ff ?_ ?_; (focus (simp only [decide_true, Bool.and_true, Bool.and_self, decide_false, Bool.false_and, reduceCtorEq, not_false_eq_true] <;> fail)); cbv)
    | (refine QC.ff (by first | omega | (dsimp only; omega) | (simp only [sm] at *; omega)) ?_; cbv)
    | (refine QC.mk (fun hc => ?_) (fun hc => ?_) <;> (try dsimp only at hc) <;> cbv)
    | (refine br_mk2 (fun hb => ?_) (fun hb => ?_) <;> (try subst hb) <;> cbv))))
    (refine callq (g2) rfl rfl ?_; cbv; (repeat' (first
    | (refine q1 (by first | exact trivial | omega | (dsimp only; omega) | exact pow62 _ (by omega) | exact mul9 (by omega) (by omega) | (simp only [sm] at *; omega)) (fun z hz => ?_); (try simp only at hz); cbv)
    | (refine rq (by first | exact trivial | omega | (dsimp only; omega) | (simp only [sm] at *; omega)) ?_; cbv)
    | (refine QC.tt (by first | omega | (dsimp only; omega) | exact rfl | (simp only [sm] at *; omega)) ?_; cbv)
    | (refine QC.tt ?_ ?_; (focus (simp only [decide_true, Bool.and_true, Bool.and_self] <;> fail)); cbv)
    | (refine QC.ff ?_ ?_; (focus (simp only [decide_true, Bool.and_true, Bool.and_self, decide_false, Bool.false_and, reduceCtorEq, not_false_eq_true] <;> fail)); cbv)
    | (refine QC.ff (by first | omega | (dsimp only; omega) | (simp only [sm] at *; omega)) ?_; cbv)
    | (refine QC.mk (fun hc => ?_) (fun hc => ?_) <;> (try dsimp only at hc) <;> cbv)
    | (refine br_mk2 (fun hb => ?_) (fun hb => ?_) <;> (try subst hb) <;> cbv))))
    (refine callq (g3) rfl rfl ?_; cbv; (repeat' (first
    | (refine q1 (by first | exact trivial | omega | (dsimp only; omega) | exact pow62 _ (by omega) | exact mul9 (by omega) (by omega) | (simp only [sm] at *; omega)) (fun z hz => ?_); (try simp only at hz); cbv)
    | (refine rq (by first | exact trivial | omega | (dsimp only; omega) | (simp only [sm] at *; omega)) ?_; cbv)
    | (refine QC.tt (by first | omega | (dsimp only; omega) | exact rfl | (simp only [sm] at *; omega)) ?_; cbv)
    | (refine QC.tt ?_ ?_; (focus (simp only [decide_true, Bool.and_true, Bool.and_self] <;> fail)); cbv)
    | (refine QC.ff ?_ ?_; (focus (simp only [decide_true, Bool.and_true, Bool.and_self, decide_false, Bool.false_and, reduceCtorEq, not_false_eq_true] <;> fail)); cbv)
    | (refine QC.ff (by first | omega | (dsimp only; omega) | (simp only [sm] at *; omega)) ?_; cbv)
    | (refine QC.mk (fun hc => ?_) (fun hc => ?_) <;> (try dsimp only at hc) <;> cbv)
    | (refine br_mk2 (fun hb => ?_) (fun hb => ?_) <;> (try subst hb) <;> cbv))))
    (refine callq (g4) rfl rfl ?_; cbv; (repeat' (first
    | (refine q1 (by first | exact trivial | omega | (dsimp only; omega) | exact pow62 _ (by omega) | exact mul9 (by omega) (by omega) | (simp only [sm] at *; omega)) (fun z hz => ?_); (try simp only at hz); cbv)
    | (refine rq (by first | exact trivial | omega | (dsimp only; omega) | (simp only [sm] at *; omega)) ?_; cbv)
    | (refine QC.tt (by first | omega | (dsimp only; omega) | exact rfl | (simp only [sm] at *; omega)) ?_; cbv)
    | (refine QC.tt ?_ ?_; (focus (simp only [decide_true, Bool.and_true, Bool.and_self] <;> fail)); cbv)
    | (refine QC.ff ?_ ?_; (focus (simp only [decide_true, Bool.and_true, Bool.and_self, decide_false, Bool.false_and, reduceCtorEq, not_false_eq_true] <;> fail)); cbv)
    | (refine QC.ff (by first | omega | (dsimp only; omega) | (simp only [sm] at *; omega)) ?_; cbv)
    | (refine QC.mk (fun hc => ?_) (fun hc => ?_) <;> (try dsimp only at hc) <;> cbv)
    | (refine br_mk2 (fun hb => ?_) (fun hb => ?_) <;> (try subst hb) <;> cbv))))
    (refine qv (i) (by (first | omega | (simp only [cst] at *; omega) | (simp only [sm] at *; omega))) ?_; cbv; (repeat' (first
    | (refine q1 (by first | exact trivial | omega | (dsimp only; omega) | exact pow62 _ (by omega) | exact mul9 (by omega) (by omega) | (simp only [sm] at *; omega)) (fun z hz => ?_); (try simp only at hz); cbv)
    | (refine rq (by first | exact trivial | omega | (dsimp only; omega) | (simp only [sm] at *; omega)) ?_; cbv)
    | (refine QC.tt (by first | omega | (dsimp only; omega) | exact rfl | (simp only [sm] at *; omega)) ?_; cbv)
    | (refine QC.tt ?_ ?_; (focus (simp only [decide_true, Bool.and_true, Bool.and_self] <;> fail)); cbv)
    | (refine QC.ff ?_ ?_; (focus (simp only [decide_true, Bool.and_true, Bool.and_self, decide_false, Bool.false_and, reduceCtorEq, not_false_eq_true] <;> fail)); cbv)
    | (refine QC.ff (by first | omega | (dsimp only; omega) | (simp only [sm] at *; omega)) ?_; cbv)
    | (refine QC.mk (fun hc => ?_) (fun hc => ?_) <;> (try dsimp only at hc) <;> cbv)
    | (refine br_mk2 (fun hb => ?_) (fun hb => ?_) <;> (try subst hb) <;> cbv))))
    (refine qv _ (e3) ?_; cbv; (repeat' (first
    | (refine q1 (by first | exact trivial | omega | (dsimp only; omega) | exact pow62 _ (by omega) | exact mul9 (by omega) (by omega) | (simp only [sm] at *; omega)) (fun z hz => ?_); (try simp only at hz); cbv)
    | (refine rq (by first | exact trivial | omega | (dsimp only; omega) | (simp only [sm] at *; omega)) ?_; cbv)
    | (refine QC.tt (by first | omega | (dsimp only; omega) | exact rfl | (simp only [sm] at *; omega)) ?_; cbv)
    | (refine QC.tt ?_ ?_; (focus (simp only [decide_true, Bool.and_true, Bool.and_self] <;> fail)); cbv)
    | (refine QC.ff ?_ ?_; (focus (simp only [decide_true, Bool.and_true, Bool.and_self, decide_false, Bool.false_and, reduceCtorEq, not_false_eq_true] <;> fail)); cbv)
    | (refine QC.ff (by first | omega | (dsimp only; omega) | (simp only [sm] at *; omega)) ?_; cbv)
    | (refine QC.mk (fun hc => ?_) (fun hc => ?_) <;> (try dsimp only at hc) <;> cbv)
    | (refine br_mk2 (fun hb => ?_) (fun hb => ?_) <;> (try subst hb) <;> cbv))))
    · have hS : O.st R i (.lst none D) = R' := by rw [ost]; exact hput.1 (by (first | omega | (simp only [cst] at *; omega) | (simp only [sm] at *; omega)))
      rw [← hS] at g6
      (refine callq (g5) rfl rfl ?_; cbv; (repeat' (first
    | (refine q1 (by first | exact trivial | omega | (dsimp only; omega) | exact pow62 _ (by omega) | exact mul9 (by omega) (by omega) | (simp only [sm] at *; omega)) (fun z hz => ?_); (try simp only at hz); cbv)
    | (refine rq (by first | exact trivial | omega | (dsimp only; omega) | (simp only [sm] at *; omega)) ?_; cbv)
    | (refine QC.tt (by first | omega | (dsimp only; omega) | exact rfl | (simp only [sm] at *; omega)) ?_; cbv)
    | (refine QC.tt ?_ ?_; (focus (simp only [decide_true, Bool.and_true, Bool.and_self] <;> fail)); cbv)
    | (refine QC.ff ?_ ?_; (focus (simp only [decide_true, Bool.and_true, Bool.and_self, decide_false, Bool.false_and, reduceCtorEq, not_false_eq_true] <;> fail)); cbv)
    | (refine QC.ff (by first | omega | (dsimp only; omega) | (simp only [sm] at *; omega)) ?_; cbv)
    | (refine QC.mk (fun hc => ?_) (fun hc => ?_) <;> (try dsimp only at hc) <;> cbv)
    | (refine br_mk2 (fun hb => ?_) (fun hb => ?_) <;> (try subst hb) <;> cbv))))
      (refine qv (i) (by (first | omega | (simp only [cst] at *; omega) | (simp only [sm] at *; omega))) ?_; cbv; (repeat' (first
    | (refine q1 (by first | exact trivial | omega | (dsimp only; omega) | exact pow62 _ (by omega) | exact mul9 (by omega) (by omega) | (simp only [sm] at *; omega)) (fun z hz => ?_); (try simp only at hz); cbv)
    | (refine rq (by first | exact trivial | omega | (dsimp only; omega) | (simp only [sm] at *; omega)) ?_; cbv)
    | (refine QC.tt (by first | omega | (dsimp only; omega) | exact rfl | (simp only [sm] at *; omega)) ?_; cbv)
    | (refine QC.tt ?_ ?_; (focus (simp only [decide_true, Bool.and_true, Bool.and_self] <;> fail)); cbv)
    | (refine QC.ff ?_ ?_; (focus (simp only [decide_true, Bool.and_true, Bool.and_self, decide_false, Bool.false_and, reduceCtorEq, not_false_eq_true] <;> fail)); cbv)
    | (refine QC.ff (by first | omega | (dsimp only; omega) | (simp only [sm] at *; omega)) ?_; cbv)
    | (refine QC.mk (fun hc => ?_) (fun hc => ?_) <;> (try dsimp only at hc) <;> cbv)
    | (refine br_mk2 (fun hb => ?_) (fun hb => ?_) <;> (try subst hb) <;> cbv))))
      (refine callq (g6) rfl rfl ?_; cbv; (repeat' (first
    | (refine q1 (by first | exact trivial | omega | (dsimp only; omega) | exact pow62 _ (by omega) | exact mul9 (by omega) (by omega) | (simp only [sm] at *; omega)) (fun z hz => ?_); (try simp only at hz); cbv)
    | (refine rq (by first | exact trivial | omega | (dsimp only; omega) | (simp only [sm] at *; omega)) ?_; cbv)
    | (refine QC.tt (by first | omega | (dsimp only; omega) | exact rfl | (simp only [sm] at *; omega)) ?_; cbv)
    | (refine QC.tt ?_ ?_; (focus (simp only [decide_true, Bool.and_true, Bool.and_self] <;> fail)); cbv)
    | (refine QC.ff ?_ ?_; (focus (simp only [decide_true, Bool.and_true, Bool.and_self, decide_false, Bool.false_and, reduceCtorEq, not_false_eq_true] <;> fail)); cbv)
    | (refine QC.ff (by first | omega | (dsimp only; omega) | (simp only [sm] at *; omega)) ?_; cbv)
    | (refine QC.mk (fun hc => ?_) (fun hc => ?_) <;> (try dsimp only at hc) <;> cbv)
    | (refine br_mk2 (fun hb => ?_) (fun hb => ?_) <;> (try subst hb) <;> cbv))))
      (refine callq (g7) rfl rfl ?_; cbv; (repeat' (first
    | (refine q1 (by first | exact trivial | omega | (dsimp only; omega) | exact pow62 _ (by omega) | exact mul9 (by omega) (by omega) | (simp only [sm] at *; omega)) (fun z hz => ?_); (try simp only at hz); cbv)
    | (refine rq (by first | exact trivial | omega | (dsimp only; omega) | (simp only [sm] at *; omega)) ?_; cbv)
    | (refine QC.tt (by first | omega | (dsimp only; omega) | exact rfl | (simp only [sm] at *; omega)) ?_; cbv)
    | (refine QC.tt ?_ ?_; (focus (simp only [decide_true, Bool.and_true, Bool.and_self] <;> fail)); cbv)
    | (refine QC.ff ?_ ?_; (focus (simp only [decide_true, Bool.and_true, Bool.and_self, decide_false, Bool.false_and, reduceCtorEq, not_false_eq_true] <;> fail)); cbv)
    | (refine QC.ff (by first | omega | (dsimp only; omega) | (simp only [sm] at *; omega)) ?_; cbv)
    | (refine QC.mk (fun hc => ?_) (fun hc => ?_) <;> (try dsimp only at hc) <;> cbv)
    | (refine br_mk2 (fun hb => ?_) (fun hb => ?_) <;> (try subst hb) <;> cbv))))
      · have eb : b' = true := hb'.2 hc
        refine Fin.mk ?_ rfl rfl
        rw [eb, ← hS]
        try rfl
      · have eb : b' = false := by
          cases hbb : b'
          · rfl
          · exact absurd (hb'.1 hbb) hc
        refine Fin.mk ?_ rfl rfl
        rw [eb, ← hS]
        try rfl
    · have hS : R = R' := hput.2 (by (first | omega | (simp only [cst] at *; omega) | (simp only [sm] at *; omega)))
      rw [← hS] at g6
      (refine callq (g6) rfl rfl ?_; cbv; (repeat' (first
    | (refine q1 (by first | exact trivial | omega | (dsimp only; omega) | exact pow62 _ (by omega) | exact mul9 (by omega) (by omega) | (simp only [sm] at *; omega)) (fun z hz => ?_); (try simp only at hz); cbv)
    | (refine rq (by first | exact trivial | omega | (dsimp only; omega) | (simp only [sm] at *; omega)) ?_; cbv)
    | (refine QC.tt (by first | omega | (dsimp only; omega) | exact rfl | (simp only [sm] at *; omega)) ?_; cbv)
    | (refine QC.tt ?_ ?_; (focus (simp only [decide_true, Bool.and_true, Bool.and_self] <;> fail)); cbv)
    | (refine QC.ff ?_ ?_; (focus (simp only [decide_true, Bool.and_true, Bool.and_self, decide_false, Bool.false_and, reduceCtorEq, not_false_eq_true] <;> fail)); cbv)
    | (refine QC.ff (by first | omega | (dsimp only; omega) | (simp only [sm] at *; omega)) ?_; cbv)
    | (refine QC.mk (fun hc => ?_) (fun hc => ?_) <;> (try dsimp only at hc) <;> cbv)
    | (refine br_mk2 (fun hb => ?_) (fun hb => ?_) <;> (try subst hb) <;> cbv))))
      (refine callq (g7) rfl rfl ?_; cbv; (repeat' (first
    | (refine q1 (by first | exact trivial | omega | (dsimp only; omega) | exact pow62 _ (by omega) | exact mul9 (by omega) (by omega) | (simp only [sm] at *; omega)) (fun z hz => ?_); (try simp only at hz); cbv)
    | (refine rq (by first | exact trivial | omega | (dsimp only; omega) | (simp only [sm] at *; omega)) ?_; cbv)
    | (refine QC.tt (by first | omega | (dsimp only; omega) | exact rfl | (simp only [sm] at *; omega)) ?_; cbv)
    | (refine QC.tt ?_ ?_; (focus (simp only [decide_true, Bool.and_true, Bool.and_self] <;> fail)); cbv)
    | (refine QC.ff ?_ ?_; (focus (simp only [decide_true, Bool.and_true, Bool.and_self, decide_false, Bool.false_and, reduceCtorEq, not_false_eq_true] <;> fail)); cbv)
    | (refine QC.ff (by first | omega | (dsimp only; omega) | (simp only [sm] at *; omega)) ?_; cbv)
    | (refine QC.mk (fun hc => ?_) (fun hc => ?_) <;> (try dsimp only at hc) <;> cbv)
    | (refine br_mk2 (fun hb => ?_) (fun hb => ?_) <;> (try subst hb) <;> cbv))))
      · have eb : b' = true := hb'.2 hc
        refine Fin.mk ?_ rfl rfl
        rw [eb, ← hS]
        try rfl
      · have eb : b' = false := by
          cases hbb : b'
          · rfl
          · exact absurd (hb'.1 hbb) hc
        refine Fin.mk ?_ rfl rfl
        rw [eb, ← hS]
        try rfl
end Go.Proofs.Ytjhicdoigllblaa
namespace Go.Proofs.Ytjhicdoigllblaa
set_option linter.unusedVariables false
set_option linter.unusedSimpArgs false
open Go.RowKit
set_option maxHeartbeats 8000000
set_option maxRecDepth 4000 in
theorem rrecv_z (tag n cnt : Int) (k : Bool) (d : List UInt8) (D : List SV) (hD : D = u8l d) (hd : d.length ≤ 140737488351232) (hp : valP n cnt d.length = true) (ps : List (List UInt8)) (hps : ps = List.replicate cnt.toNat []) (R : List SV) (hR : R = rowsB ps)
    (R' : List SV) (hR' : R' = rowsB (putP ps n.toNat d)) (h' : Int) (hh' : h' = hasN (putP ps n.toNat d) (putP ps n.toNat d).length) (b' : Bool) (hb' : b' = true ↔ h' = allI ps.length) :
    Good 32 (pu [.agg [.int .u8 0, .int .i64 0, .lst none [], .int .u32 0, .bool false], .agg [.int .u8 tag, .int .i64 n, .int .i64 cnt, .bool k, .lst none D]] (.tup [.agg [.int .u8 tag, .int .i64 cnt, .lst none R', .int .u32 h', .bool b'], .int .u32 (if k = true then h' else 0), .bool k, .int .i64 0])) := by
  have hRl : R.length = ps.length := by rw [hR, rowsB_len]
  have hDl : D.length = d.length := by rw [hD, u8l_len]
  have hpv := of_decide_eq_true hp
  have hcn : (ps.length : Int) = cnt := by rw [hps, List.length_replicate]; omega
  have hpb : ∀ p ∈ ps, p.length ≤ 140737488351232 := fun p h => by rw [hps] at h; rw [List.eq_of_mem_replicate h]; simp
  have g1 := rvreceiver_c 0 0 0 false [] [] rfl ⟨by decide, by decide, by decide, by decide, fun p h => by cases h⟩ true ⟨fun _ => .inl rfl, fun _ => rfl⟩
  have g2 := rvalid_c tag n cnt k D d.length true hDl hp.symm
  have g3 := rzero_c 0 0 0 false [] 0 rfl true rfl
  have g4 := copiedNil_c cnt.toNat (by omega)
  rw [← hps, ← hR, ← orp cnt .nil] at g4
  have g5 := cloned_c d D hD hd
  obtain ⟨q, hq⟩ : ∃ q, q = putP ps n.toNat d := ⟨_, rfl⟩
  have hql : q.length = ps.length := by rw [hq, putP_len]
  have hqb : ∀ p ∈ q, p.length ≤ 140737488351232 := fun p h => by
    rw [hq, putP] at h
    split at h
    · rcases List.mem_or_eq_of_mem_set h with h | h
      · exact hpb p h
      · rw [h]; exact hd
    · exact hpb p h
  rw [← hq] at hR' hh'
  have hv0 : hasN ps ps.length = 0 := by
    rw [hasN]
    have : ∀ k, bm (fun i => decide (0 < (ps.getD i []).length)) k = 0 := fun k => by
      induction k with
      | zero => rfl
      | succ k ih =>
        rw [bm, ih, if_neg]
        rw [hps, List.getD_eq_getElem?_getD]
        by_cases hk : k < cnt.toNat <;> simp [hk]
    exact this _
  obtain ⟨hv, hv9⟩ : ∃ hv : Int, hv = 0 := ⟨_, rfl⟩
  have hor : ((hv.toNat ||| 2 ^ n.toNat : Nat) : Int) = h' := by
    have e := hasN_put ps n.toNat d (by omega) (by omega)
    rw [← hq, hv0] at e
    rw [hh', ← e, hv9]; rfl
  subst hv9
  have g7 : ∀ N : Int, N = ps.length → Good 58 (pu [.int .i64 N] (.int .u32 (allI ps.length))) := fun N hN => rall_c ps.length N _ hN (by omega) rfl
  have g7 := g7 cnt hcn.symm
  obtain ⟨A, hA⟩ : ∃ A : Int, A = allI ps.length := ⟨_, rfl⟩
  rw [← hA] at g7 hb'
  have hnl : n.toNat < ps.length := by omega
  obtain ⟨bb, B, e1, e2, e3⟩ := rowsB_at hR n.toNat hnl
  have hBl : B.length = bb.length := by rw [e2, u8l_len]
  have hj : n = (n.toNat : Int) := by omega
  obtain ⟨i, hi⟩ : ∃ i, i = n.toNat := ⟨_, rfl⟩
  rw [← hi] at hj hnl e3
  have hput : (bb.length = 0 → R.set i (.lst none D) = R') ∧ (¬ bb.length = 0 → R = R') := by
    have hg : ps.getD n.toNat [] = bb := by rw [List.getD_eq_getElem?_getD, e1]; rfl
    rw [hR', hq, putP, hg, hi]
    refine ⟨fun h => ?_, fun h => ?_⟩
    · rw [if_pos h, hR, hD, rowsB_set]
    · rw [if_neg h, hR]
  have hbl : bb.length ≤ 140737488351232 := hpb bb (List.mem_of_getElem? e1)
  clear hp hR hR' hh' hq e1 e2 hD hA
  have hmk : True := trivial
  cases k
  · skip
    refine Good.of Try.func32 rfl (by rfl) (by kernel_rfl) ?_
    cbv
    (repeat' (first
    | (refine q1 (by first | exact trivial | omega | (dsimp only; omega) | exact pow62 _ (by omega) | exact mul9 (by omega) (by omega) | (simp only [sm] at *; omega)) (fun z hz => ?_); (try simp only at hz); cbv)
    | (refine rq (by first | exact trivial | omega | (dsimp only; omega) | (simp only [sm] at *; omega)) ?_; cbv)
    | (refine QC.tt (by first | omega | (dsimp only; omega) | exact rfl | (simp only [sm] at *; omega)) ?_; cbv)
    | (refine QC.tt ?_ ?_; (focus (simp only [decide_true, Bool.and_true, Bool.and_self] <;> fail)); cbv)
    | (refine QC.ff ?_ ?_; (focus (simp only [decide_true, Bool.and_true, Bool.and_self, decide_false, Bool.false_and, reduceCtorEq, not_false_eq_true] <;> fail)); cbv)
    | (refine QC.ff (by first | omega | (dsimp only; omega) | (simp only [sm] at *; omega)) ?_; cbv)
    | (refine QC.mk (fun hc => ?_) (fun hc => ?_) <;> (try dsimp only at hc) <;> cbv)
    | (refine br_mk2 (fun hb => ?_) (fun hb => ?_) <;> (try subst hb) <;> cbv)))
    (refine callq (g1) rfl rfl ?_; cbv; (repeat' (first
    | (refine q1 (by first | exact trivial | omega | (dsimp only; omega) | exact pow62 _ (by omega) | exact mul9 (by omega) (by omega) | (simp only [sm] at *; omega)) (fun z hz => ?_); (try simp only at hz); cbv)
    | (refine rq (by first | exact trivial | omega | (dsimp only; omega) | (simp only [sm] at *; omega)) ?_; cbv)
    | (refine QC.tt (by first | omega | (dsimp only; omega) | exact rfl | (simp only [sm] at *; omega)) ?_; cbv)
    | (refine QC.tt ?_ ?_; (focus (simp only [decide_true, Bool.and_true, Bool.and_self] <;> fail)); cbv)
    | (refine QC.ff ?_ ?_; (focus (simp only [decide_true, Bool.and_true, Bool.and_self, decide_false, Bool.false_and, reduceCtorEq, not_false_eq_true] <;> fail)); cbv)
    | (refine QC.ff (by first | omega | (dsimp only; omega) | (simp only [sm] at *; omega)) ?_; cbv)
    | (refine QC.mk (fun hc => ?_) (fun hc => ?_) <;> (try dsimp only at hc) <;> cbv)
    | (refine br_mk2 (fun hb => ?_) (fun hb => ?_) <;> (try subst hb) <;> cbv))))
    (refine callq (g2) rfl rfl ?_; cbv; (repeat' (first
    | (refine q1 (by first | exact trivial | omega | (dsimp only; omega) | exact pow62 _ (by omega) | exact mul9 (by omega) (by omega) | (simp only [sm] at *; omega)) (fun z hz => ?_); (try simp only at hz); cbv)
    | (refine rq (by first | exact trivial | omega | (dsimp only; omega) | (simp only [sm] at *; omega)) ?_; cbv)
    | (refine QC.tt (by first | omega | (dsimp only; omega) | exact rfl | (simp only [sm] at *; omega)) ?_; cbv)
    | (refine QC.tt ?_ ?_; (focus (simp only [decide_true, Bool.and_true, Bool.and_self] <;> fail)); cbv)
    | (refine QC.ff ?_ ?_; (focus (simp only [decide_true, Bool.and_true, Bool.and_self, decide_false, Bool.false_and, reduceCtorEq, not_false_eq_true] <;> fail)); cbv)
    | (refine QC.ff (by first | omega | (dsimp only; omega) | (simp only [sm] at *; omega)) ?_; cbv)
    | (refine QC.mk (fun hc => ?_) (fun hc => ?_) <;> (try dsimp only at hc) <;> cbv)
    | (refine br_mk2 (fun hb => ?_) (fun hb => ?_) <;> (try subst hb) <;> cbv))))
    (refine callq (g3) rfl rfl ?_; cbv; (repeat' (first
    | (refine q1 (by first | exact trivial | omega | (dsimp only; omega) | exact pow62 _ (by omega) | exact mul9 (by omega) (by omega) | (simp only [sm] at *; omega)) (fun z hz => ?_); (try simp only at hz); cbv)
    | (refine rq (by first | exact trivial | omega | (dsimp only; omega) | (simp only [sm] at *; omega)) ?_; cbv)
    | (refine QC.tt (by first | omega | (dsimp only; omega) | exact rfl | (simp only [sm] at *; omega)) ?_; cbv)
    | (refine QC.tt ?_ ?_; (focus (simp only [decide_true, Bool.and_true, Bool.and_self] <;> fail)); cbv)
    | (refine QC.ff ?_ ?_; (focus (simp only [decide_true, Bool.and_true, Bool.and_self, decide_false, Bool.false_and, reduceCtorEq, not_false_eq_true] <;> fail)); cbv)
    | (refine QC.ff (by first | omega | (dsimp only; omega) | (simp only [sm] at *; omega)) ?_; cbv)
    | (refine QC.mk (fun hc => ?_) (fun hc => ?_) <;> (try dsimp only at hc) <;> cbv)
    | (refine br_mk2 (fun hb => ?_) (fun hb => ?_) <;> (try subst hb) <;> cbv))))
    (refine callq (g4) rfl rfl ?_; cbv; (repeat' (first
    | (refine q1 (by first | exact trivial | omega | (dsimp only; omega) | exact pow62 _ (by omega) | exact mul9 (by omega) (by omega) | (simp only [sm] at *; omega)) (fun z hz => ?_); (try simp only at hz); cbv)
    | (refine rq (by first | exact trivial | omega | (dsimp only; omega) | (simp only [sm] at *; omega)) ?_; cbv)
    | (refine QC.tt (by first | omega | (dsimp only; omega) | exact rfl | (simp only [sm] at *; omega)) ?_; cbv)
    | (refine QC.tt ?_ ?_; (focus (simp only [decide_true, Bool.and_true, Bool.and_self] <;> fail)); cbv)
    | (refine QC.ff ?_ ?_; (focus (simp only [decide_true, Bool.and_true, Bool.and_self, decide_false, Bool.false_and, reduceCtorEq, not_false_eq_true] <;> fail)); cbv)
    | (refine QC.ff (by first | omega | (dsimp only; omega) | (simp only [sm] at *; omega)) ?_; cbv)
    | (refine QC.mk (fun hc => ?_) (fun hc => ?_) <;> (try dsimp only at hc) <;> cbv)
    | (refine br_mk2 (fun hb => ?_) (fun hb => ?_) <;> (try subst hb) <;> cbv))))
    (refine qv (i) (by (first | omega | (simp only [cst] at *; omega) | (simp only [sm] at *; omega))) ?_; cbv; (repeat' (first
    | (refine q1 (by first | exact trivial | omega | (dsimp only; omega) | exact pow62 _ (by omega) | exact mul9 (by omega) (by omega) | (simp only [sm] at *; omega)) (fun z hz => ?_); (try simp only at hz); cbv)
    | (refine rq (by first | exact trivial | omega | (dsimp only; omega) | (simp only [sm] at *; omega)) ?_; cbv)
    | (refine QC.tt (by first | omega | (dsimp only; omega) | exact rfl | (simp only [sm] at *; omega)) ?_; cbv)
    | (refine QC.tt ?_ ?_; (focus (simp only [decide_true, Bool.and_true, Bool.and_self] <;> fail)); cbv)
    | (refine QC.ff ?_ ?_; (focus (simp only [decide_true, Bool.and_true, Bool.and_self, decide_false, Bool.false_and, reduceCtorEq, not_false_eq_true] <;> fail)); cbv)
    | (refine QC.ff (by first | omega | (dsimp only; omega) | (simp only [sm] at *; omega)) ?_; cbv)
    | (refine QC.mk (fun hc => ?_) (fun hc => ?_) <;> (try dsimp only at hc) <;> cbv)
    | (refine br_mk2 (fun hb => ?_) (fun hb => ?_) <;> (try subst hb) <;> cbv))))
    (refine qv _ (e3) ?_; cbv; (repeat' (first
    | (refine q1 (by first | exact trivial | omega | (dsimp only; omega) | exact pow62 _ (by omega) | exact mul9 (by omega) (by omega) | (simp only [sm] at *; omega)) (fun z hz => ?_); (try simp only at hz); cbv)
    | (refine rq (by first | exact trivial | omega | (dsimp only; omega) | (simp only [sm] at *; omega)) ?_; cbv)
    | (refine QC.tt (by first | omega | (dsimp only; omega) | exact rfl | (simp only [sm] at *; omega)) ?_; cbv)
    | (refine QC.tt ?_ ?_; (focus (simp only [decide_true, Bool.and_true, Bool.and_self] <;> fail)); cbv)
    | (refine QC.ff ?_ ?_; (focus (simp only [decide_true, Bool.and_true, Bool.and_self, decide_false, Bool.false_and, reduceCtorEq, not_false_eq_true] <;> fail)); cbv)
    | (refine QC.ff (by first | omega | (dsimp only; omega) | (simp only [sm] at *; omega)) ?_; cbv)
    | (refine QC.mk (fun hc => ?_) (fun hc => ?_) <;> (try dsimp only at hc) <;> cbv)
    | (refine br_mk2 (fun hb => ?_) (fun hb => ?_) <;> (try subst hb) <;> cbv))))
    · have hS : O.st R i (.lst none D) = R' := by rw [ost]; exact hput.1 (by (first | omega | (simp only [cst] at *; omega) | (simp only [sm] at *; omega)))
      (refine qv (i) (by (first | omega | (simp only [cst] at *; omega) | (simp only [sm] at *; omega))) ?_; cbv; (repeat' (first
    | (refine q1 (by first | exact trivial | omega | (dsimp only; omega) | exact pow62 _ (by omega) | exact mul9 (by omega) (by omega) | (simp only [sm] at *; omega)) (fun z hz => ?_); (try simp only at hz); cbv)
    | (refine rq (by first | exact trivial | omega | (dsimp only; omega) | (simp only [sm] at *; omega)) ?_; cbv)
    | (refine QC.tt (by first | omega | (dsimp only; omega) | exact rfl | (simp only [sm] at *; omega)) ?_; cbv)
    | (refine QC.tt ?_ ?_; (focus (simp only [decide_true, Bool.and_true, Bool.and_self] <;> fail)); cbv)
    | (refine QC.ff ?_ ?_; (focus (simp only [decide_true, Bool.and_true, Bool.and_self, decide_false, Bool.false_and, reduceCtorEq, not_false_eq_true] <;> fail)); cbv)
    | (refine QC.ff (by first | omega | (dsimp only; omega) | (simp only [sm] at *; omega)) ?_; cbv)
    | (refine QC.mk (fun hc => ?_) (fun hc => ?_) <;> (try dsimp only at hc) <;> cbv)
    | (refine br_mk2 (fun hb => ?_) (fun hb => ?_) <;> (try subst hb) <;> cbv))))
      refine chA ?_
      cbv
      (repeat' (first
    | (refine q1 (by first | exact trivial | omega | (dsimp only; omega) | exact pow62 _ (by omega) | exact mul9 (by omega) (by omega) | (simp only [sm] at *; omega)) (fun z hz => ?_); (try simp only at hz); cbv)
    | (refine rq (by first | exact trivial | omega | (dsimp only; omega) | (simp only [sm] at *; omega)) ?_; cbv)
    | (refine QC.tt (by first | omega | (dsimp only; omega) | exact rfl | (simp only [sm] at *; omega)) ?_; cbv)
    | (refine QC.tt ?_ ?_; (focus (simp only [decide_true, Bool.and_true, Bool.and_self] <;> fail)); cbv)
    | (refine QC.ff ?_ ?_; (focus (simp only [decide_true, Bool.and_true, Bool.and_self, decide_false, Bool.false_and, reduceCtorEq, not_false_eq_true] <;> fail)); cbv)
    | (refine QC.ff (by first | omega | (dsimp only; omega) | (simp only [sm] at *; omega)) ?_; cbv)
    | (refine QC.mk (fun hc => ?_) (fun hc => ?_) <;> (try dsimp only at hc) <;> cbv)
    | (refine br_mk2 (fun hb => ?_) (fun hb => ?_) <;> (try subst hb) <;> cbv)))
      rename_i zj hzj zs hzs
      have hzh : z = h' := by
        have ej : zj.toNat = n.toNat := by (first | omega | (simp only [cst] at *; omega) | (simp only [sm] at *; omega))
        have e2 : (2 : Nat) ^ n.toNat < 4294967296 := by
          have : (2 : Nat) ^ n.toNat ≤ 2 ^ 31 := Nat.pow_le_pow_right (by omega) (by omega)
          omega
        have e3 : zs = ((2 ^ n.toNat : Nat) : Int) := by
          rw [hzs, ej, Int.one_mul]
          have : (2 : Int) ^ n.toNat = ((2 ^ n.toNat : Nat) : Int) := by simp
          have e5 : ∀ p : Nat, p < 4294967296 → (p : Int) % 4294967296 = p := fun p hp => by omega
          rw [this]
          exact e5 _ e2
        rw [hz, e3, Int.toNat_natCast]
        exact hor
      clear hz hor
      subst hzh
      (refine callq (g7) rfl rfl ?_; cbv; (repeat' (first
    | (refine q1 (by first | exact trivial | omega | (dsimp only; omega) | exact pow62 _ (by omega) | exact mul9 (by omega) (by omega) | (simp only [sm] at *; omega)) (fun z hz => ?_); (try simp only at hz); cbv)
    | (refine rq (by first | exact trivial | omega | (dsimp only; omega) | (simp only [sm] at *; omega)) ?_; cbv)
    | (refine QC.tt (by first | omega | (dsimp only; omega) | exact rfl | (simp only [sm] at *; omega)) ?_; cbv)
    | (refine QC.tt ?_ ?_; (focus (simp only [decide_true, Bool.and_true, Bool.and_self] <;> fail)); cbv)
    | (refine QC.ff ?_ ?_; (focus (simp only [decide_true, Bool.and_true, Bool.and_self, decide_false, Bool.false_and, reduceCtorEq, not_false_eq_true] <;> fail)); cbv)
    | (refine QC.ff (by first | omega | (dsimp only; omega) | (simp only [sm] at *; omega)) ?_; cbv)
    | (refine QC.mk (fun hc => ?_) (fun hc => ?_) <;> (try dsimp only at hc) <;> cbv)
    | (refine br_mk2 (fun hb => ?_) (fun hb => ?_) <;> (try subst hb) <;> cbv))))
      · have eb : b' = true := hb'.2 hc
        refine Fin.mk ?_ rfl rfl
        rw [eb, ← hS]
        try rfl
      · have eb : b' = false := by
          cases hbb : b'
          · rfl
          · exact absurd (hb'.1 hbb) hc
        refine Fin.mk ?_ rfl rfl
        rw [eb, ← hS]
        try rfl
    · have hS : R = R' := hput.2 (by (first | omega | (simp only [cst] at *; omega) | (simp only [sm] at *; omega)))
      skip
      rename_i zj hzj zs hzs
      have hzh : z = h' := by
        have ej : zj.toNat = n.toNat := by (first | omega | (simp only [cst] at *; omega) | (simp only [sm] at *; omega))
        have e2 : (2 : Nat) ^ n.toNat < 4294967296 := by
          have : (2 : Nat) ^ n.toNat ≤ 2 ^ 31 := Nat.pow_le_pow_right (by omega) (by omega)
          omega
        have e3 : zs = ((2 ^ n.toNat : Nat) : Int) := by
          rw [hzs, ej, Int.one_mul]
          have : (2 : Int) ^ n.toNat = ((2 ^ n.toNat : Nat) : Int) := by simp
          have e5 : ∀ p : Nat, p < 4294967296 → (p : Int) % 4294967296 = p := fun p hp => by omega
          rw [this]
          exact e5 _ e2
        rw [hz, e3, Int.toNat_natCast]
        exact hor
      clear hz hor
      subst hzh
      (refine callq (g7) rfl rfl ?_; cbv; (repeat' (first
    | (refine q1 (by first | exact trivial | omega | (dsimp only; omega) | exact pow62 _ (by omega) | exact mul9 (by omega) (by omega) | (simp only [sm] at *; omega)) (fun z hz => ?_); (try simp only at hz); cbv)
    | (refine rq (by first | exact trivial | omega | (dsimp only; omega) | (simp only [sm] at *; omega)) ?_; cbv)
    | (refine QC.tt (by first | omega | (dsimp only; omega) | exact rfl | (simp only [sm] at *; omega)) ?_; cbv)
    | (refine QC.tt ?_ ?_; (focus (simp only [decide_true, Bool.and_true, Bool.and_self] <;> fail)); cbv)
    | (refine QC.ff ?_ ?_; (focus (simp only [decide_true, Bool.and_true, Bool.and_self, decide_false, Bool.false_and, reduceCtorEq, not_false_eq_true] <;> fail)); cbv)
    | (refine QC.ff (by first | omega | (dsimp only; omega) | (simp only [sm] at *; omega)) ?_; cbv)
    | (refine QC.mk (fun hc => ?_) (fun hc => ?_) <;> (try dsimp only at hc) <;> cbv)
    | (refine br_mk2 (fun hb => ?_) (fun hb => ?_) <;> (try subst hb) <;> cbv))))
      · have eb : b' = true := hb'.2 hc
        refine Fin.mk ?_ rfl rfl
        rw [eb, ← hS]
        try rfl
      · have eb : b' = false := by
          cases hbb : b'
          · rfl
          · exact absurd (hb'.1 hbb) hc
        refine Fin.mk ?_ rfl rfl
        rw [eb, ← hS]
        try rfl
  · skip
    refine Good.of Try.func32 rfl (by rfl) (by kernel_rfl) ?_
    cbv
    (repeat' (first
    | (refine q1 (by first | exact trivial | omega | (dsimp only; omega) | exact pow62 _ (by omega) | exact mul9 (by omega) (by omega) | (simp only [sm] at *; omega)) (fun z hz => ?_); (try simp only at hz); cbv)
    | (refine rq (by first | exact trivial | omega | (dsimp only; omega) | (simp only [sm] at *; omega)) ?_; cbv)
    | (refine QC.tt (by first | omega | (dsimp only; omega) | exact rfl | (simp only [sm] at *; omega)) ?_; cbv)
    | (refine QC.tt ?_ ?_; (focus (simp only [decide_true, Bool.and_true, Bool.and_self] <;> fail)); cbv)
    | (refine QC.ff ?_ ?_; (focus (simp only [decide_true, Bool.and_true, Bool.and_self, decide_false, Bool.false_and, reduceCtorEq, not_false_eq_true] <;> fail)); cbv)
    | (refine QC.ff (by first | omega | (dsimp only; omega) | (simp only [sm] at *; omega)) ?_; cbv)
    | (refine QC.mk (fun hc => ?_) (fun hc => ?_) <;> (try dsimp only at hc) <;> cbv)
    | (refine br_mk2 (fun hb => ?_) (fun hb => ?_) <;> (try subst hb) <;> cbv)))
    (refine callq (g1) rfl rfl ?_; cbv; (repeat' (first
    | (refine q1 (by first | exact trivial | omega | (dsimp only; omega) | exact pow62 _ (by omega) | exact mul9 (by omega) (by omega) | (simp only [sm] at *; omega)) (fun z hz => ?_); (try simp only at hz); cbv)
    | (refine rq (by first | exact trivial | omega | (dsimp only; omega) | (simp only [sm] at *; omega)) ?_; cbv)
    | (refine QC.tt (by first | omega | (dsimp only; omega) | exact rfl | (simp only [sm] at *; omega)) ?_; cbv)
    | (refine QC.tt ?_ ?_; (focus (simp only [decide_true, Bool.and_true, Bool.and_self] <;> fail)); cbv)
    | (refine QC.ff ?_ ?_; (focus (simp only [decide_true, Bool.and_true, Bool.and_self, decide_false, Bool.false_and, reduceCtorEq, not_false_eq_true] <;> fail)); cbv)
    | (refine QC.ff (by first | omega | (dsimp only; omega) | (simp only [sm] at *; omega)) ?_; cbv)
    | (refine QC.mk (fun hc => ?_) (fun hc => ?_) <;> (try dsimp only at hc) <;> cbv)
    | (refine br_mk2 (fun hb => ?_) (fun hb => ?_) <;> (try subst hb) <;> cbv))))
    (refine callq (g2) rfl rfl ?_; cbv; (repeat' (first
    | (refine q1 (by first | exact trivial | omega | (dsimp only; omega) | exact pow62 _ (by omega) | exact mul9 (by omega) (by omega) | (simp only [sm] at *; omega)) (fun z hz => ?_); (try simp only at hz); cbv)
    | (refine rq (by first | exact trivial | omega | (dsimp only; omega) | (simp only [sm] at *; omega)) ?_; cbv)
    | (refine QC.tt (by first | omega | (dsimp only; omega) | exact rfl | (simp only [sm] at *; omega)) ?_; cbv)
    | (refine QC.tt ?_ ?_; (focus (simp only [decide_true, Bool.and_true, Bool.and_self] <;> fail)); cbv)
    | (refine QC.ff ?_ ?_; (focus (simp only [decide_true, Bool.and_true, Bool.and_self, decide_false, Bool.false_and, reduceCtorEq, not_false_eq_true] <;> fail)); cbv)
    | (refine QC.ff (by first | omega | (dsimp only; omega) | (simp only [sm] at *; omega)) ?_; cbv)
    | (refine QC.mk (fun hc => ?_) (fun hc => ?_) <;> (try dsimp only at hc) <;> cbv)
    | (refine br_mk2 (fun hb => ?_) (fun hb => ?_) <;> (try subst hb) <;> cbv))))
    (refine callq (g3) rfl rfl ?_; cbv; (repeat' (first
    | (refine q1 (by first | exact trivial | omega | (dsimp only; omega) | exact pow62 _ (by omega) | exact mul9 (by omega) (by omega) | (simp only [sm] at *; omega)) (fun z hz => ?_); (try simp only at hz); cbv)
    | (refine rq (by first | exact trivial | omega | (dsimp only; omega) | (simp only [sm] at *; omega)) ?_; cbv)
    | (refine QC.tt (by first | omega | (dsimp only; omega) | exact rfl | (simp only [sm] at *; omega)) ?_; cbv)
    | (refine QC.tt ?_ ?_; (focus (simp only [decide_true, Bool.and_true, Bool.and_self] <;> fail)); cbv)
    | (refine QC.ff ?_ ?_; (focus (simp only [decide_true, Bool.and_true, Bool.and_self, decide_false, Bool.false_and, reduceCtorEq, not_false_eq_true] <;> fail)); cbv)
    | (refine QC.ff (by first | omega | (dsimp only; omega) | (simp only [sm] at *; omega)) ?_; cbv)
    | (refine QC.mk (fun hc => ?_) (fun hc => ?_) <;> (try dsimp only at hc) <;> cbv)
    | (refine br_mk2 (fun hb => ?_) (fun hb => ?_) <;> (try subst hb) <;> cbv))))
    (refine callq (g4) rfl rfl ?_; cbv; (repeat' (first
    | (refine q1 (by first | exact trivial | omega | (dsimp only; omega) | exact pow62 _ (by omega) | exact mul9 (by omega) (by omega) | (simp only [sm] at *; omega)) (fun z hz => ?_); (try simp only at hz); cbv)
    | (refine rq (by first | exact trivial | omega | (dsimp only; omega) | (simp only [sm] at *; omega)) ?_; cbv)
    | (refine QC.tt (by first | omega | (dsimp only; omega) | exact rfl | (simp only [sm] at *; omega)) ?_; cbv)
    | (refine QC.tt ?_ ?_; (focus (simp only [decide_true, Bool.and_true, Bool.and_self] <;> fail)); cbv)
    | (refine QC.ff ?_ ?_; (focus (simp only [decide_true, Bool.and_true, Bool.and_self, decide_false, Bool.false_and, reduceCtorEq, not_false_eq_true] <;> fail)); cbv)
    | (refine QC.ff (by first | omega | (dsimp only; omega) | (simp only [sm] at *; omega)) ?_; cbv)
    | (refine QC.mk (fun hc => ?_) (fun hc => ?_) <;> (try dsimp only at hc) <;> cbv)
    | (refine br_mk2 (fun hb => ?_) (fun hb => ?_) <;> (try subst hb) <;> cbv))))
    (refine qv (i) (by (first | omega | (simp only [cst] at *; omega) | (simp only [sm] at *; omega))) ?_; cbv; (repeat' (first
    | (refine q1 (by first | exact trivial | omega | (dsimp only; omega) | exact pow62 _ (by omega) | exact mul9 (by omega) (by omega) | (simp only [sm] at *; omega)) (fun z hz => ?_); (try simp only at hz); cbv)
    | (refine rq (by first | exact trivial | omega | (dsimp only; omega) | (simp only [sm] at *; omega)) ?_; cbv)
    | (refine QC.tt (by first | omega | (dsimp only; omega) | exact rfl | (simp only [sm] at *; omega)) ?_; cbv)
    | (refine QC.tt ?_ ?_; (focus (simp only [decide_true, Bool.and_true, Bool.and_self] <;> fail)); cbv)
    | (refine QC.ff ?_ ?_; (focus (simp only [decide_true, Bool.and_true, Bool.and_self, decide_false, Bool.false_and, reduceCtorEq, not_false_eq_true] <;> fail)); cbv)
    | (refine QC.ff (by first | omega | (dsimp only; omega) | (simp only [sm] at *; omega)) ?_; cbv)
    | (refine QC.mk (fun hc => ?_) (fun hc => ?_) <;> (try dsimp only at hc) <;> cbv)
    | (refine br_mk2 (fun hb => ?_) (fun hb => ?_) <;> (try subst hb) <;> cbv))))
    (refine qv _ (e3) ?_; cbv; (repeat' (first
    | (refine q1 (by first | exact trivial | omega | (dsimp only; omega) | exact pow62 _ (by omega) | exact mul9 (by omega) (by omega) | (simp only [sm] at *; omega)) (fun z hz => ?_); (try simp only at hz); cbv)
    | (refine rq (by first | exact trivial | omega | (dsimp only; omega) | (simp only [sm] at *; omega)) ?_; cbv)
    | (refine QC.tt (by first | omega | (dsimp only; omega) | exact rfl | (simp only [sm] at *; omega)) ?_; cbv)
    | (refine QC.tt ?_ ?_; (focus (simp only [decide_true, Bool.and_true, Bool.and_self] <;> fail)); cbv)
    | (refine QC.ff ?_ ?_; (focus (simp only [decide_true, Bool.and_true, Bool.and_self, decide_false, Bool.false_and, reduceCtorEq, not_false_eq_true] <;> fail)); cbv)
    | (refine QC.ff (by first | omega | (dsimp only; omega) | (simp only [sm] at *; omega)) ?_; cbv)
    | (refine QC.mk (fun hc => ?_) (fun hc => ?_) <;> (try dsimp only at hc) <;> cbv)
    | (refine br_mk2 (fun hb => ?_) (fun hb => ?_) <;> (try subst hb) <;> cbv))))
    · have hS : O.st R i (.lst none D) = R' := by rw [ost]; exact hput.1 (by (first | omega | (simp only [cst] at *; omega) | (simp only [sm] at *; omega)))
      (refine qv (i) (by (first | omega | (simp only [cst] at *; omega) | (simp only [sm] at *; omega))) ?_; cbv; (repeat' (first
    | (refine q1 (by first | exact trivial | omega | (dsimp only; omega) | exact pow62 _ (by omega) | exact mul9 (by omega) (by omega) | (simp only [sm] at *; omega)) (fun z hz => ?_); (try simp only at hz); cbv)
    | (refine rq (by first | exact trivial | omega | (dsimp only; omega) | (simp only [sm] at *; omega)) ?_; cbv)
    | (refine QC.tt (by first | omega | (dsimp only; omega) | exact rfl | (simp only [sm] at *; omega)) ?_; cbv)
    | (refine QC.tt ?_ ?_; (focus (simp only [decide_true, Bool.and_true, Bool.and_self] <;> fail)); cbv)
    | (refine QC.ff ?_ ?_; (focus (simp only [decide_true, Bool.and_true, Bool.and_self, decide_false, Bool.false_and, reduceCtorEq, not_false_eq_true] <;> fail)); cbv)
    | (refine QC.ff (by first | omega | (dsimp only; omega) | (simp only [sm] at *; omega)) ?_; cbv)
    | (refine QC.mk (fun hc => ?_) (fun hc => ?_) <;> (try dsimp only at hc) <;> cbv)
    | (refine br_mk2 (fun hb => ?_) (fun hb => ?_) <;> (try subst hb) <;> cbv))))
      refine chA ?_
      cbv
      (repeat' (first
    | (refine q1 (by first | exact trivial | omega | (dsimp only; omega) | exact pow62 _ (by omega) | exact mul9 (by omega) (by omega) | (simp only [sm] at *; omega)) (fun z hz => ?_); (try simp only at hz); cbv)
    | (refine rq (by first | exact trivial | omega | (dsimp only; omega) | (simp only [sm] at *; omega)) ?_; cbv)
    | (refine QC.tt (by first | omega | (dsimp only; omega) | exact rfl | (simp only [sm] at *; omega)) ?_; cbv)
    | (refine QC.tt ?_ ?_; (focus (simp only [decide_true, Bool.and_true, Bool.and_self] <;> fail)); cbv)
    | (refine QC.ff ?_ ?_; (focus (simp only [decide_true, Bool.and_true, Bool.and_self, decide_false, Bool.false_and, reduceCtorEq, not_false_eq_true] <;> fail)); cbv)
    | (refine QC.ff (by first | omega | (dsimp only; omega) | (simp only [sm] at *; omega)) ?_; cbv)
    | (refine QC.mk (fun hc => ?_) (fun hc => ?_) <;> (try dsimp only at hc) <;> cbv)
    | (refine br_mk2 (fun hb => ?_) (fun hb => ?_) <;> (try subst hb) <;> cbv)))
      rename_i zj hzj zs hzs
      have hzh : z = h' := by
        have ej : zj.toNat = n.toNat := by (first | omega | (simp only [cst] at *; omega) | (simp only [sm] at *; omega))
        have e2 : (2 : Nat) ^ n.toNat < 4294967296 := by
          have : (2 : Nat) ^ n.toNat ≤ 2 ^ 31 := Nat.pow_le_pow_right (by omega) (by omega)
          omega
        have e3 : zs = ((2 ^ n.toNat : Nat) : Int) := by
          rw [hzs, ej, Int.one_mul]
          have : (2 : Int) ^ n.toNat = ((2 ^ n.toNat : Nat) : Int) := by simp
          have e5 : ∀ p : Nat, p < 4294967296 → (p : Int) % 4294967296 = p := fun p hp => by omega
          rw [this]
          exact e5 _ e2
        rw [hz, e3, Int.toNat_natCast]
        exact hor
      clear hz hor
      subst hzh
      (refine callq (g7) rfl rfl ?_; cbv; (repeat' (first
    | (refine q1 (by first | exact trivial | omega | (dsimp only; omega) | exact pow62 _ (by omega) | exact mul9 (by omega) (by omega) | (simp only [sm] at *; omega)) (fun z hz => ?_); (try simp only at hz); cbv)
    | (refine rq (by first | exact trivial | omega | (dsimp only; omega) | (simp only [sm] at *; omega)) ?_; cbv)
    | (refine QC.tt (by first | omega | (dsimp only; omega) | exact rfl | (simp only [sm] at *; omega)) ?_; cbv)
    | (refine QC.tt ?_ ?_; (focus (simp only [decide_true, Bool.and_true, Bool.and_self] <;> fail)); cbv)
    | (refine QC.ff ?_ ?_; (focus (simp only [decide_true, Bool.and_true, Bool.and_self, decide_false, Bool.false_and, reduceCtorEq, not_false_eq_true] <;> fail)); cbv)
    | (refine QC.ff (by first | omega | (dsimp only; omega) | (simp only [sm] at *; omega)) ?_; cbv)
    | (refine QC.mk (fun hc => ?_) (fun hc => ?_) <;> (try dsimp only at hc) <;> cbv)
    | (refine br_mk2 (fun hb => ?_) (fun hb => ?_) <;> (try subst hb) <;> cbv))))
      · have eb : b' = true := hb'.2 hc
        refine Fin.mk ?_ rfl rfl
        rw [eb, ← hS]
        try rfl
      · have eb : b' = false := by
          cases hbb : b'
          · rfl
          · exact absurd (hb'.1 hbb) hc
        refine Fin.mk ?_ rfl rfl
        rw [eb, ← hS]
        try rfl
    · have hS : R = R' := hput.2 (by (first | omega | (simp only [cst] at *; omega) | (simp only [sm] at *; omega)))
      skip
      rename_i zj hzj zs hzs
      have hzh : z = h' := by
        have ej : zj.toNat = n.toNat := by (first | omega | (simp only [cst] at *; omega) | (simp only [sm] at *; omega))
        have e2 : (2 : Nat) ^ n.toNat < 4294967296 := by
          have : (2 : Nat) ^ n.toNat ≤ 2 ^ 31 := Nat.pow_le_pow_right (by omega) (by omega)
          omega
        have e3 : zs = ((2 ^ n.toNat : Nat) : Int) := by
          rw [hzs, ej, Int.one_mul]
          have : (2 : Int) ^ n.toNat = ((2 ^ n.toNat : Nat) : Int) := by simp
          have e5 : ∀ p : Nat, p < 4294967296 → (p : Int) % 4294967296 = p := fun p hp => by omega
          rw [this]
          exact e5 _ e2
        rw [hz, e3, Int.toNat_natCast]
        exact hor
      clear hz hor
      subst hzh
      (refine callq (g7) rfl rfl ?_; cbv; (repeat' (first
    | (refine q1 (by first | exact trivial | omega | (dsimp only; omega) | exact pow62 _ (by omega) | exact mul9 (by omega) (by omega) | (simp only [sm] at *; omega)) (fun z hz => ?_); (try simp only at hz); cbv)
    | (refine rq (by first | exact trivial | omega | (dsimp only; omega) | (simp only [sm] at *; omega)) ?_; cbv)
    | (refine QC.tt (by first | omega | (dsimp only; omega) | exact rfl | (simp only [sm] at *; omega)) ?_; cbv)
    | (refine QC.tt ?_ ?_; (focus (simp only [decide_true, Bool.and_true, Bool.and_self] <;> fail)); cbv)
    | (refine QC.ff ?_ ?_; (focus (simp only [decide_true, Bool.and_true, Bool.and_self, decide_false, Bool.false_and, reduceCtorEq, not_false_eq_true] <;> fail)); cbv)
    | (refine QC.ff (by first | omega | (dsimp only; omega) | (simp only [sm] at *; omega)) ?_; cbv)
    | (refine QC.mk (fun hc => ?_) (fun hc => ?_) <;> (try dsimp only at hc) <;> cbv)
    | (refine br_mk2 (fun hb => ?_) (fun hb => ?_) <;> (try subst hb) <;> cbv))))
      · have eb : b' = true := hb'.2 hc
        refine Fin.mk ?_ rfl rfl
        rw [eb, ← hS]
        try rfl
      · have eb : b' = false := by
          cases hbb : b'
          · rfl
          · exact absurd (hb'.1 hbb) hc
        refine Fin.mk ?_ rfl rfl
        rw [eb, ← hS]
        try rfl
end Go.Proofs.Ytjhicdoigllblaa
namespace Go.Proofs.Ytjhicdoigllblaa
set_option linter.unusedVariables false
set_option linter.unusedSimpArgs false
open Go.RowKit
set_option maxHeartbeats 8000000
noncomputable def vrc (r : Rcv) : Bool := @decide (VRc r.tag r.cnt r.ps r.hv r.dn) (Classical.propDecidable _)
theorem vrc_iff (r : Rcv) : vrc r = true ↔ VRc r.tag r.cnt r.ps r.hv r.dn := by rw [vrc]; exact @decide_eq_true_iff _ (Classical.propDecidable _)
def zR : Rcv := ⟨0, 0, [], 0, false⟩
def recvN (tag cnt : Int) (ps : List (List UInt8)) (p : Pce) : Rcv := ⟨tag, cnt, putP ps p.n.toNat p.d, hasN (putP ps p.n.toNat p.d) (putP ps p.n.toNat p.d).length, decide ((hasN (putP ps p.n.toNat p.d) (putP ps p.n.toNat p.d).length : Int) = allI ps.length)⟩
noncomputable def recvP (r : Rcv) (p : Pce) : Rcv × Int :=
  if vrc r = false ∨ valP p.n p.c p.d.length = false then (zR, 1)
  else if zeroB r.tag r.cnt r.ps.length r.hv r.dn = true then (recvN p.tag p.c (List.replicate p.c.toNat []) p, 0)
  else if r.tag ≠ p.tag ∨ r.cnt ≠ p.c then (zR, 9)
  else (recvN r.tag r.cnt r.ps p, 0)
abbrev Rcv.w (r : Rcv) (R : List SV) : SV := .agg [.int .u8 r.tag, .int .i64 r.cnt, .lst none R, .int .u32 r.hv, .bool r.dn]
theorem zeroB_iff {tag cnt hv : Int} {n : Nat} {dn : Bool} (h : zeroB tag cnt n hv dn = true) : tag = 0 ∧ cnt = 0 ∧ n = 0 ∧ hv = 0 ∧ dn = false := by
  unfold zeroB at h
  simp at h
  exact ⟨h.2.1, h.2.2.1, h.2.2.2.1, h.2.2.2.2, h.1⟩
theorem recv_p (r : Rcv) (R : List SV) (hR : R = rowsB r.ps) (hf : r.fits) (p : Pce) (D : List SV) (hD : D = u8l p.d) (hd : p.d.length ≤ 140737488351232) (r' : Rcv) (R' : List SV) (hR' : R' = rowsB r'.ps) (e : Int) (hX : recvP r p = (r', e)) :
    Good 31 (pu [r.w R, .agg [.int .u8 p.tag, .int .i64 p.n, .int .i64 p.c, .bool p.ack, .lst none D]] (.tup [r'.w R', .int .u32 (if e = 0 then (if p.ack = true then r'.hv else 0) else 0), .bool (if e = 0 then p.ack else false), .int .i64 e])) := by
  have hDl : D.length = p.d.length := by rw [hD, u8l_len]
  unfold recvP at hX
  split at hX
  · rename_i h
    obtain ⟨rfl, rfl⟩ := Prod.mk.inj hX
    rw [hR']
    exact recv_no r.tag r.cnt r.hv r.dn r.ps R hR hf _ (vrc_iff r) p.tag p.n p.c p.ack D _ hDl h
  rename_i hno
  have hv : vrc r = true := by cases h : vrc r; exact absurd (.inl h) hno; rfl
  have hp : valP p.n p.c p.d.length = true := by cases h : valP p.n p.c p.d.length; exact absurd (.inr h) hno; rfl
  split at hX
  · rename_i hz
    obtain ⟨rfl, rfl⟩ := Prod.mk.inj hX
    obtain ⟨z1, z2, z3, z4, z5⟩ := zeroB_iff hz
    have hR0 : R = [] := by rw [hR, List.length_eq_zero_iff.1 z3]; rfl
    have g := recv_z p.tag p.n p.c p.ack p.d D hD hd hp _ rfl _ rfl R' hR' _ rfl _ decide_eq_true_iff
    rw [Rcv.w, z1, z2, z4, z5, hR0]
    exact g
  rename_i hz
  have hz0 : zeroB r.tag r.cnt r.ps.length r.hv r.dn = false := by cases h : zeroB r.tag r.cnt r.ps.length r.hv r.dn; rfl; exact absurd h hz
  split at hX
  · rename_i hne
    obtain ⟨rfl, rfl⟩ := Prod.mk.inj hX
    rw [hR']
    exact recv_mm r.tag r.cnt r.hv r.dn r.ps R hR hf ((vrc_iff r).1 hv) hz0 p.tag p.n p.c p.ack D _ hDl hp hne
  · rename_i hne
    obtain ⟨rfl, rfl⟩ := Prod.mk.inj hX
    have ht : r.tag = p.tag := Classical.byContradiction fun h => hne (.inl h)
    have hc : r.cnt = p.c := Classical.byContradiction fun h => hne (.inr h)
    rw [← hc] at hp
    rw [← ht, ← hc]
    exact recv_n r.tag r.cnt r.hv r.dn r.ps R hR hf ((vrc_iff r).1 hv) hz0 p.n p.ack p.d D hD hd hp R' hR' _ rfl _ decide_eq_true_iff
theorem rrecv_p (r : Rcv) (R : List SV) (hR : R = rowsB r.ps) (hf : r.fits) (p : Pce) (D : List SV) (hD : D = u8l p.d) (hd : p.d.length ≤ 140737488351232) (r' : Rcv) (R' : List SV) (hR' : R' = rowsB r'.ps) (e : Int) (hX : recvP r p = (r', e)) :
    Good 32 (pu [r.w R, .agg [.int .u8 p.tag, .int .i64 p.n, .int .i64 p.c, .bool p.ack, .lst none D]] (.tup [r'.w R', .int .u32 (if e = 0 then (if p.ack = true then r'.hv else 0) else 0), .bool (if e = 0 then p.ack else false), .int .i64 e])) := by
  have hDl : D.length = p.d.length := by rw [hD, u8l_len]
  unfold recvP at hX
  split at hX
  · rename_i h
    obtain ⟨rfl, rfl⟩ := Prod.mk.inj hX
    rw [hR']
    exact rrecv_no r.tag r.cnt r.hv r.dn r.ps R hR hf _ (vrc_iff r) p.tag p.n p.c p.ack D _ hDl h
  rename_i hno
  have hv : vrc r = true := by cases h : vrc r; exact absurd (.inl h) hno; rfl
  have hp : valP p.n p.c p.d.length = true := by cases h : valP p.n p.c p.d.length; exact absurd (.inr h) hno; rfl
  split at hX
  · rename_i hz
    obtain ⟨rfl, rfl⟩ := Prod.mk.inj hX
    obtain ⟨z1, z2, z3, z4, z5⟩ := zeroB_iff hz
    have hR0 : R = [] := by rw [hR, List.length_eq_zero_iff.1 z3]; rfl
    have g := rrecv_z p.tag p.n p.c p.ack p.d D hD hd hp _ rfl _ rfl R' hR' _ rfl _ decide_eq_true_iff
    rw [Rcv.w, z1, z2, z4, z5, hR0]
    exact g
  rename_i hz
  have hz0 : zeroB r.tag r.cnt r.ps.length r.hv r.dn = false := by cases h : zeroB r.tag r.cnt r.ps.length r.hv r.dn; rfl; exact absurd h hz
  split at hX
  · rename_i hne
    obtain ⟨rfl, rfl⟩ := Prod.mk.inj hX
    rw [hR']
    exact rrecv_mm r.tag r.cnt r.hv r.dn r.ps R hR hf ((vrc_iff r).1 hv) hz0 p.tag p.n p.c p.ack D _ hDl hp hne
  · rename_i hne
    obtain ⟨rfl, rfl⟩ := Prod.mk.inj hX
    have ht : r.tag = p.tag := Classical.byContradiction fun h => hne (.inl h)
    have hc : r.cnt = p.c := Classical.byContradiction fun h => hne (.inr h)
    rw [← hc] at hp
    rw [← ht, ← hc]
    exact rrecv_n r.tag r.cnt r.hv r.dn r.ps R hR hf ((vrc_iff r).1 hv) hz0 p.n p.ack p.d D hD hd hp R' hR' _ rfl _ decide_eq_true_iff
end Go.Proofs.Ytjhicdoigllblaa
namespace Go.Proofs.Ytjhicdoigllblaa
set_option linter.unusedVariables false
set_option linter.unusedSimpArgs false
open Go.RowKit
set_option maxHeartbeats 8000000
theorem flat_take (ps : List (List UInt8)) (i : Nat) (b : List UInt8) (h : ps[i]? = some b) : (ps.take (i + 1)).flatten = (ps.take i).flatten ++ b := by
  obtain ⟨h1, h2⟩ := List.getElem?_eq_some_iff.1 h
  rw [← h2, ← List.take_append_getElem h1, List.flatten_append]; simp
theorem flat_le (ps : List (List UInt8)) (i : Nat) : (ps.take i).flatten.length ≤ ps.flatten.length := by
  conv => rhs; rw [← List.take_append_drop i ps, List.flatten_append, List.length_append]
  omega
theorem dgram_no (tag cnt hv : Int) (dn : Bool) (ps : List (List UInt8)) (R : List SV) (hR : R = rowsB ps) (hf : Rcv.fits ⟨tag, cnt, ps, hv, dn⟩) (b : Bool) (hb : b = true ↔ VRc tag cnt ps hv dn) (hno : b = false ∨ dn = false) :
    Good 34 (pu [.agg [.int .u8 tag, .int .i64 cnt, .lst none R, .int .u32 hv, .bool dn]] (.tup [.lst none [], .bool false])) := by
  have g1 := vreceiver_c tag cnt hv dn ps R hR hf b hb
  have hno : b = true → dn = false := fun h => by rcases hno with h2 | h2; rw [h] at h2; cases h2; exact h2
  clear hb
  refine Good.of Try.func34 rfl (by rfl) (by kernel_rfl) ?_
  cbv
  (repeat' (first
| (refine q1w (fun z hz => ?_); (try simp only at hz); cbv)
| (refine rqw ?_; cbv)
| (refine QC.tw ?_; cbv)
| (refine QC.tt ?_ ?_; (focus (simp only [decide_true, Bool.and_true, Bool.and_self] <;> fail)); cbv)
| (refine QC.ff ?_ ?_; (focus (simp only [decide_true, Bool.and_true, Bool.and_self, decide_false, Bool.false_and, reduceCtorEq, not_false_eq_true] <;> fail)); cbv)
| (refine QC.fw ?_; cbv)
| (refine QC.mk (fun hc => ?_) (fun hc => ?_) <;> (try dsimp only at hc) <;> cbv)
| (refine br_mk2 (fun hb => ?_) (fun hb => ?_) <;> (try subst hb) <;> cbv)))
  (refine callq (g1) rfl rfl ?_; cbv; (repeat' (first
| (refine q1w (fun z hz => ?_); (try simp only at hz); cbv)
| (refine rqw ?_; cbv)
| (refine QC.tw ?_; cbv)
| (refine QC.tt ?_ ?_; (focus (simp only [decide_true, Bool.and_true, Bool.and_self] <;> fail)); cbv)
| (refine QC.ff ?_ ?_; (focus (simp only [decide_true, Bool.and_true, Bool.and_self, decide_false, Bool.false_and, reduceCtorEq, not_false_eq_true] <;> fail)); cbv)
| (refine QC.fw ?_; cbv)
| (refine QC.mk (fun hc => ?_) (fun hc => ?_) <;> (try dsimp only at hc) <;> cbv)
| (refine br_mk2 (fun hb => ?_) (fun hb => ?_) <;> (try subst hb) <;> cbv))))
  all_goals first | exact ⟨rfl, rfl, rfl⟩ | skip
  all_goals exact nomatch hno rfl
theorem rdgram_no (tag cnt hv : Int) (dn : Bool) (ps : List (List UInt8)) (R : List SV) (hR : R = rowsB ps) (hf : Rcv.fits ⟨tag, cnt, ps, hv, dn⟩) (b : Bool) (hb : b = true ↔ VRc tag cnt ps hv dn) (hno : b = false ∨ dn = false) :
    Good 35 (pu [.agg [.int .u8 tag, .int .i64 cnt, .lst none R, .int .u32 hv, .bool dn]] (.tup [.lst none [], .bool false])) := by
  have g1 := rvreceiver_c tag cnt hv dn ps R hR hf b hb
  have hno : b = true → dn = false := fun h => by rcases hno with h2 | h2; rw [h] at h2; cases h2; exact h2
  clear hb
  refine Good.of Try.func35 rfl (by rfl) (by kernel_rfl) ?_
  cbv
  (repeat' (first
| (refine q1w (fun z hz => ?_); (try simp only at hz); cbv)
| (refine rqw ?_; cbv)
| (refine QC.tw ?_; cbv)
| (refine QC.tt ?_ ?_; (focus (simp only [decide_true, Bool.and_true, Bool.and_self] <;> fail)); cbv)
| (refine QC.ff ?_ ?_; (focus (simp only [decide_true, Bool.and_true, Bool.and_self, decide_false, Bool.false_and, reduceCtorEq, not_false_eq_true] <;> fail)); cbv)
| (refine QC.fw ?_; cbv)
| (refine QC.mk (fun hc => ?_) (fun hc => ?_) <;> (try dsimp only at hc) <;> cbv)
| (refine br_mk2 (fun hb => ?_) (fun hb => ?_) <;> (try subst hb) <;> cbv)))
  (refine callq (g1) rfl rfl ?_; cbv; (repeat' (first
| (refine q1w (fun z hz => ?_); (try simp only at hz); cbv)
| (refine rqw ?_; cbv)
| (refine QC.tw ?_; cbv)
| (refine QC.tt ?_ ?_; (focus (simp only [decide_true, Bool.and_true, Bool.and_self] <;> fail)); cbv)
| (refine QC.ff ?_ ?_; (focus (simp only [decide_true, Bool.and_true, Bool.and_self, decide_false, Bool.false_and, reduceCtorEq, not_false_eq_true] <;> fail)); cbv)
| (refine QC.fw ?_; cbv)
| (refine QC.mk (fun hc => ?_) (fun hc => ?_) <;> (try dsimp only at hc) <;> cbv)
| (refine br_mk2 (fun hb => ?_) (fun hb => ?_) <;> (try subst hb) <;> cbv))))
  all_goals first | exact ⟨rfl, rfl, rfl⟩ | skip
  all_goals exact nomatch hno rfl
theorem dgram_yes (tag cnt hv : Int) (ps : List (List UInt8)) (R : List SV) (hR : R = rowsB ps) (hf : Rcv.fits ⟨tag, cnt, ps, hv, true⟩) (hv1 : VRc tag cnt ps hv true) (hl : ps.flatten.length ≤ 140737488351232) (L : List SV) (hL : L = u8l ps.flatten) :
    Good 34 (pu [.agg [.int .u8 tag, .int .i64 cnt, .lst none R, .int .u32 hv, .bool true]] (.tup [.lst none L, .bool true])) := by
  have g1 := vreceiver_c tag cnt hv true ps R hR hf true ⟨fun _ => hv1, fun _ => rfl⟩
  have hRl : R.length = ps.length := by rw [hR, rowsB_len]
  have hE := fun i hi => rowsB_at hR i hi
  obtain ⟨G, hG⟩ : ∃ G : Nat → List SV, ∀ i, G i = u8l (ps.take i).flatten := ⟨_, fun _ => rfl⟩
  have hG0 : G 0 = [] := by rw [hG]; rfl
  have hGs : ∀ i b, ps[i]? = some b → G i ++ u8l b = G (i + 1) := fun i b h => by rw [hG, hG, flat_take ps i b h, u8l_app]
  have hGl : ∀ i, (G i).length ≤ 140737488351232 := fun i => by rw [hG, u8l_len]; have := flat_le ps i; omega
  have hGn : G ps.length = L := by rw [hG, hL, List.take_length]
  have hfn := hf.n
  clear hv1 hG hL hf
  refine Good.of Try.func34 rfl (by rfl) (by kernel_rfl) ?_
  cbv
  have hmk : True := trivial
  (repeat' (first
| (refine q1w (fun z hz => ?_); (try simp only at hz); cbv)
| (refine rqw ?_; cbv)
| (refine QC.tw ?_; cbv)
| (refine QC.tt ?_ ?_; (focus (simp only [decide_true, Bool.and_true, Bool.and_self] <;> fail)); cbv)
| (refine QC.ff ?_ ?_; (focus (simp only [decide_true, Bool.and_true, Bool.and_self, decide_false, Bool.false_and, reduceCtorEq, not_false_eq_true] <;> fail)); cbv)
| (refine QC.fw ?_; cbv)
| (refine QC.mk (fun hc => ?_) (fun hc => ?_) <;> (try dsimp only at hc) <;> cbv)
| (refine br_mk2 (fun hb => ?_) (fun hb => ?_) <;> (try subst hb) <;> cbv)))
  (refine callq (g1) rfl rfl ?_; cbv; (repeat' (first
| (refine q1w (fun z hz => ?_); (try simp only at hz); cbv)
| (refine rqw ?_; cbv)
| (refine QC.tw ?_; cbv)
| (refine QC.tt ?_ ?_; (focus (simp only [decide_true, Bool.and_true, Bool.and_self] <;> fail)); cbv)
| (refine QC.ff ?_ ?_; (focus (simp only [decide_true, Bool.and_true, Bool.and_self, decide_false, Bool.false_and, reduceCtorEq, not_false_eq_true] <;> fail)); cbv)
| (refine QC.fw ?_; cbv)
| (refine QC.mk (fun hc => ?_) (fun hc => ?_) <;> (try dsimp only at hc) <;> cbv)
| (refine br_mk2 (fun hb => ?_) (fun hb => ?_) <;> (try subst hb) <;> cbv))))
  refine loopQ (A := Nat × Int) (fun p => p.2 = p.1 ∧ p.1 ≤ ps.length) (fun p => ps.length - p.1) (fun p => [(18, .int .i64 p.2), (4, .row 4)]) (fun p => [(4, .row none 5 (G p.1))]) (0, 0) ⟨rfl, Nat.zero_le _⟩ ?_ ?_
  · cbv
    refine ⟨?_, trivial⟩
    show Blk.row none 5 [] = .row none 5 (G 0)
    rw [hG0]
  · intro ⟨i, j⟩ hh
    have hj : j = (i : Int) := hh.1
    have hi : i ≤ ps.length := hh.2
    clear hh
    have hmq : True := trivial
    cbv
    (repeat' (first
| (refine q1w (fun z hz => ?_); (try simp only at hz); cbv)
| (refine rqw ?_; cbv)
| (refine QC.tw ?_; cbv)
| (refine QC.tt ?_ ?_; (focus (simp only [decide_true, Bool.and_true, Bool.and_self] <;> fail)); cbv)
| (refine QC.ff ?_ ?_; (focus (simp only [decide_true, Bool.and_true, Bool.and_self, decide_false, Bool.false_and, reduceCtorEq, not_false_eq_true] <;> fail)); cbv)
| (refine QC.fw ?_; cbv)
| (refine QC.mk (fun hc => ?_) (fun hc => ?_) <;> (try dsimp only at hc) <;> cbv)
| (refine br_mk2 (fun hb => ?_) (fun hb => ?_) <;> (try subst hb) <;> cbv)))
    · have hlt : i < ps.length := by (first | omega | (simp only [cst] at *; omega) | (simp only [sm] at *; omega))
      obtain ⟨b, B, hbi, hB, hEi⟩ := hE i hlt
      have hs := hGs i b hbi
      rw [← hB] at hs
      have h1 := hGl (i + 1)
      rw [← hs, List.length_append] at h1
      (refine qv (i, _) ⟨hj, hEi⟩ ?_; cbv; (repeat' (first
| (refine q1w (fun z hz => ?_); (try simp only at hz); cbv)
| (refine rqw ?_; cbv)
| (refine QC.tw ?_; cbv)
| (refine QC.tt ?_ ?_; (focus (simp only [decide_true, Bool.and_true, Bool.and_self] <;> fail)); cbv)
| (refine QC.ff ?_ ?_; (focus (simp only [decide_true, Bool.and_true, Bool.and_self, decide_false, Bool.false_and, reduceCtorEq, not_false_eq_true] <;> fail)); cbv)
| (refine QC.fw ?_; cbv)
| (refine QC.mk (fun hc => ?_) (fun hc => ?_) <;> (try dsimp only at hc) <;> cbv)
| (refine br_mk2 (fun hb => ?_) (fun hb => ?_) <;> (try subst hb) <;> cbv))))
      refine ⟨(i + 1, z), ⟨by show z = ((i + 1 : Nat) : Int); (first | omega | (simp only [cst] at *; omega) | (simp only [sm] at *; omega)), by show i + 1 ≤ ps.length; omega⟩, by show ps.length - (i + 1) < ps.length - i; omega, ?_⟩
      cbv
      refine ⟨?_, trivial⟩
      show Blk.row none 5 (apL (G i) B) = .row none 5 (G (i + 1))
      rw [apL_eq, hs]
    · have e : i = ps.length := by (first | omega | (simp only [cst] at *; omega) | (simp only [sm] at *; omega))
      refine Fin.mk ?_ rfl rfl
      show SV.tup [.lst none (G i), _] = _
      rw [e, hGn]
theorem rdgram_yes (tag cnt hv : Int) (ps : List (List UInt8)) (R : List SV) (hR : R = rowsB ps) (hf : Rcv.fits ⟨tag, cnt, ps, hv, true⟩) (hv1 : VRc tag cnt ps hv true) (hl : ps.flatten.length ≤ 140737488351232) (L : List SV) (hL : L = u8l ps.flatten) :
    Good 35 (pu [.agg [.int .u8 tag, .int .i64 cnt, .lst none R, .int .u32 hv, .bool true]] (.tup [.lst none L, .bool true])) := by
  have g1 := rvreceiver_c tag cnt hv true ps R hR hf true ⟨fun _ => hv1, fun _ => rfl⟩
  have hRl : R.length = ps.length := by rw [hR, rowsB_len]
  have hE := fun i hi => rowsB_at hR i hi
  obtain ⟨G, hG⟩ : ∃ G : Nat → List SV, ∀ i, G i = u8l (ps.take i).flatten := ⟨_, fun _ => rfl⟩
  have hG0 : G 0 = [] := by rw [hG]; rfl
  have hGs : ∀ i b, ps[i]? = some b → G i ++ u8l b = G (i + 1) := fun i b h => by rw [hG, hG, flat_take ps i b h, u8l_app]
  have hGl : ∀ i, (G i).length ≤ 140737488351232 := fun i => by rw [hG, u8l_len]; have := flat_le ps i; omega
  have hGn : G ps.length = L := by rw [hG, hL, List.take_length]
  have hfn := hf.n
  clear hv1 hG hL hf
  refine Good.of Try.func35 rfl (by rfl) (by kernel_rfl) ?_
  cbv
  have hmk : True := trivial
  (repeat' (first
| (refine q1w (fun z hz => ?_); (try simp only at hz); cbv)
| (refine rqw ?_; cbv)
| (refine QC.tw ?_; cbv)
| (refine QC.tt ?_ ?_; (focus (simp only [decide_true, Bool.and_true, Bool.and_self] <;> fail)); cbv)
| (refine QC.ff ?_ ?_; (focus (simp only [decide_true, Bool.and_true, Bool.and_self, decide_false, Bool.false_and, reduceCtorEq, not_false_eq_true] <;> fail)); cbv)
| (refine QC.fw ?_; cbv)
| (refine QC.mk (fun hc => ?_) (fun hc => ?_) <;> (try dsimp only at hc) <;> cbv)
| (refine br_mk2 (fun hb => ?_) (fun hb => ?_) <;> (try subst hb) <;> cbv)))
  (refine callq (g1) rfl rfl ?_; cbv; (repeat' (first
| (refine q1w (fun z hz => ?_); (try simp only at hz); cbv)
| (refine rqw ?_; cbv)
| (refine QC.tw ?_; cbv)
| (refine QC.tt ?_ ?_; (focus (simp only [decide_true, Bool.and_true, Bool.and_self] <;> fail)); cbv)
| (refine QC.ff ?_ ?_; (focus (simp only [decide_true, Bool.and_true, Bool.and_self, decide_false, Bool.false_and, reduceCtorEq, not_false_eq_true] <;> fail)); cbv)
| (refine QC.fw ?_; cbv)
| (refine QC.mk (fun hc => ?_) (fun hc => ?_) <;> (try dsimp only at hc) <;> cbv)
| (refine br_mk2 (fun hb => ?_) (fun hb => ?_) <;> (try subst hb) <;> cbv))))
  refine loopQ (A := Nat × Int) (fun p => p.2 = p.1 ∧ p.1 ≤ ps.length) (fun p => ps.length - p.1) (fun p => [(5, .int .i64 p.2), (4, .row 4)]) (fun p => [(4, .row none 5 (G p.1))]) (0, 0) ⟨rfl, Nat.zero_le _⟩ ?_ ?_
  · cbv
    refine ⟨?_, trivial⟩
    show Blk.row none 5 [] = .row none 5 (G 0)
    rw [hG0]
  · intro ⟨i, j⟩ hh
    have hj : j = (i : Int) := hh.1
    have hi : i ≤ ps.length := hh.2
    clear hh
    have hmq : True := trivial
    cbv
    (repeat' (first
| (refine q1w (fun z hz => ?_); (try simp only at hz); cbv)
| (refine rqw ?_; cbv)
| (refine QC.tw ?_; cbv)
| (refine QC.tt ?_ ?_; (focus (simp only [decide_true, Bool.and_true, Bool.and_self] <;> fail)); cbv)
| (refine QC.ff ?_ ?_; (focus (simp only [decide_true, Bool.and_true, Bool.and_self, decide_false, Bool.false_and, reduceCtorEq, not_false_eq_true] <;> fail)); cbv)
| (refine QC.fw ?_; cbv)
| (refine QC.mk (fun hc => ?_) (fun hc => ?_) <;> (try dsimp only at hc) <;> cbv)
| (refine br_mk2 (fun hb => ?_) (fun hb => ?_) <;> (try subst hb) <;> cbv)))
    · have hlt : i < ps.length := by (first | omega | (simp only [cst] at *; omega) | (simp only [sm] at *; omega))
      obtain ⟨b, B, hbi, hB, hEi⟩ := hE i hlt
      have hs := hGs i b hbi
      rw [← hB] at hs
      have h1 := hGl (i + 1)
      rw [← hs, List.length_append] at h1
      (refine qv (i, _) ⟨hj, hEi⟩ ?_; cbv; (repeat' (first
| (refine q1w (fun z hz => ?_); (try simp only at hz); cbv)
| (refine rqw ?_; cbv)
| (refine QC.tw ?_; cbv)
| (refine QC.tt ?_ ?_; (focus (simp only [decide_true, Bool.and_true, Bool.and_self] <;> fail)); cbv)
| (refine QC.ff ?_ ?_; (focus (simp only [decide_true, Bool.and_true, Bool.and_self, decide_false, Bool.false_and, reduceCtorEq, not_false_eq_true] <;> fail)); cbv)
| (refine QC.fw ?_; cbv)
| (refine QC.mk (fun hc => ?_) (fun hc => ?_) <;> (try dsimp only at hc) <;> cbv)
| (refine br_mk2 (fun hb => ?_) (fun hb => ?_) <;> (try subst hb) <;> cbv))))
      refine ⟨(i + 1, z), ⟨by show z = ((i + 1 : Nat) : Int); (first | omega | (simp only [cst] at *; omega) | (simp only [sm] at *; omega)), by show i + 1 ≤ ps.length; omega⟩, by show ps.length - (i + 1) < ps.length - i; omega, ?_⟩
      cbv
      refine ⟨?_, trivial⟩
      show Blk.row none 5 (apL (G i) B) = .row none 5 (G (i + 1))
      rw [apL_eq, hs]
    · have e : i = ps.length := by (first | omega | (simp only [cst] at *; omega) | (simp only [sm] at *; omega))
      refine Fin.mk ?_ rfl rfl
      show SV.tup [.lst none (G i), _] = _
      rw [e, hGn]
end Go.Proofs.Ytjhicdoigllblaa
namespace Go.Proofs.Ytjhicdoigllblaa
set_option linter.unusedVariables false
set_option linter.unusedSimpArgs false
open Go.RowKit
set_option maxHeartbeats 16000000
theorem zR_fits : zR.fits := ⟨by decide, by decide, by decide, by decide, fun p hp => by cases hp⟩
theorem recvP_fits (r : Rcv) (p : Pce) (hf : r.fits) (hp : p.fits) : (recvP r p).1.fits := by
  have main : ∀ (tag cnt : Int) (ps : List (List UInt8)), (0 ≤ tag ∧ tag ≤ 255) → (0 ≤ cnt ∧ cnt ≤ 32) → ps.length ≤ 32 → (∀ p ∈ ps, p.length ≤ 140737488351232) → (recvN tag cnt ps p).fits := fun tag cnt ps h1 h2 h3 h4 => by
    have hl : (putP ps p.n.toNat p.d).length = ps.length := putP_len _ _ _
    have hb : hasN (putP ps p.n.toNat p.d) (putP ps p.n.toNat p.d).length < 2 ^ 32 :=
      Nat.lt_of_lt_of_le (bm_lt _ _) (Nat.pow_le_pow_right (by omega) (by omega))
    refine ⟨h1, by rw [recvN]; dsimp only; omega, by rw [recvN]; dsimp only; omega, by rw [recvN]; dsimp only; omega, fun q hq => ?_⟩
    have hq : q ∈ putP ps p.n.toNat p.d := hq
    unfold putP at hq
    split at hq
    · rcases List.mem_or_eq_of_mem_set hq with h | h
      · exact h4 q h
      · rw [h]; exact hp.d
    · exact h4 q hq
  unfold recvP
  split
  · exact zR_fits
  rename_i hno
  have hv : vrc r = true := by cases h : vrc r; exact absurd (.inl h) hno; rfl
  have hpv : valP p.n p.c p.d.length = true := by cases h : valP p.n p.c p.d.length; exact absurd (.inr h) hno; rfl
  have hpv2 := of_decide_eq_true hpv
  split
  · exact main _ _ _ hp.t (by omega) (by simp; omega) (fun q hq => by rw [List.eq_of_mem_replicate hq]; simp)
  rename_i hz
  split
  · exact zR_fits
  · rcases (vrc_iff r).1 hv with h | ⟨h1, h2, h3, _⟩
    · exact absurd h hz
    · exact main _ _ _ hf.tag (by omega) (by omega) hf.b
theorem recvP_short (r : Rcv) (p : Pce) (n : Nat) (h1 : ∀ q ∈ r.ps, q.length ≤ n) (h2 : p.d.length ≤ n) : ∀ q ∈ (recvP r p).1.ps, q.length ≤ n := by
  have main : ∀ (tag cnt : Int) (ps : List (List UInt8)), (∀ q ∈ ps, q.length ≤ n) → ∀ q ∈ (recvN tag cnt ps p).ps, q.length ≤ n := fun tag cnt ps h q hq => by
    have hq : q ∈ putP ps p.n.toNat p.d := hq
    unfold putP at hq
    split at hq
    · rcases List.mem_or_eq_of_mem_set hq with g | g
      · exact h q g
      · rw [g]; exact h2
    · exact h q hq
  unfold recvP
  split
  · intro q hq; cases hq
  split
  · exact main _ _ _ fun q hq => by rw [List.eq_of_mem_replicate hq]; simp
  split
  · intro q hq; cases hq
  · exact main _ _ _ h1
theorem recvP_few (r : Rcv) (p : Pce) (h1 : r.ps.length ≤ 32) : (recvP r p).1.ps.length ≤ 32 := by
  have main : ∀ (tag cnt : Int) (ps : List (List UInt8)), ps.length ≤ 32 → (recvN tag cnt ps p).ps.length ≤ 32 := fun tag cnt ps h => by
    show (putP ps p.n.toNat p.d).length ≤ 32
    rw [putP_len]; exact h
  unfold recvP
  split
  · exact Nat.zero_le _
  rename_i hno
  have hpv : valP p.n p.c p.d.length = true := by cases h : valP p.n p.c p.d.length; exact absurd (.inr h) hno; rfl
  have hpv2 := of_decide_eq_true hpv
  split
  · exact main _ _ _ (by simp; omega)
  split
  · exact Nat.zero_le _
  · exact main _ _ _ h1
structure RcSt where
  k : Nat
  c : Int
  r : Rcv
structure RcI (L : List SV) (a : RcSt) : Prop where
  tp : Tp L a.c
  k : a.k ≤ 5
  f : a.r.fits
  sh : ∀ q ∈ a.r.ps, q.length ≤ 200
  few : a.r.ps.length ≤ 32
  cnt : 0 ≤ a.r.cnt ∧ a.r.cnt ≤ 32
def RcR (R L : List SV) (tag : Int) (np : Nat) (a b : RcSt) : Prop := ∃ (n : Nat) (z : Int) (D : List SV) (bm e : Int) (ak : Bool),
  Good 12 (le 81 (.agg [.lst none L, .int .i64 a.c]) [.int .i64 np] (.int .i64 z) (.agg [.lst none L, .int .i64 b.c])) ∧
  z = n ∧ n < np ∧ R[n]? = some (.lst none D) ∧
  Good 32 (pu [a.r.w (rowsB a.r.ps), .agg [.int .u8 tag, .int .i64 z, .int .i64 np, .bool false, .lst none D]] (.tup [b.r.w (rowsB b.r.ps), .int .u32 bm, .bool ak, .int .i64 e])) ∧ b.k + 1 = a.k
theorem rc_round {P : List (List UInt8)} {R L : List SV} (hR : R = rowsB P) {tag : Int} (ht : 0 ≤ tag ∧ tag ≤ 255) (hb : ∀ p ∈ P, p.length ≤ 200) (hn : 1 ≤ P.length ∧ P.length ≤ 32) (a : RcSt) (h : RcI L a) (hk : 0 < a.k) : ∃ b, RcI L b ∧ b.k < a.k ∧ RcR R L tag P.length a b := by
  obtain ⟨k, c, r⟩ := a
  have hk : 0 < k := hk
  obtain ⟨z, c2, p1, u1, t1, g1⟩ := next_e h.tp P.length (by omega)
  obtain ⟨n, hz⟩ : ∃ n : Nat, z = n := Int.eq_ofNat_of_zero_le p1
  have hnl : n < P.length := by omega
  have hD : R[n]? = some (.lst none (u8l (P.getD n []))) := by
    rw [hR, rowsB, List.getElem?_map, List.getD_eq_getElem?_getD, List.getElem?_eq_getElem hnl]; rfl
  have hdl : (P.getD n []).length ≤ 200 := by
    rw [List.getD_eq_getElem?_getD, List.getElem?_eq_getElem hnl]
    exact hb _ (List.getElem_mem hnl)
  obtain ⟨p, hp⟩ : ∃ p : Pce, p = ⟨tag, z, P.length, false, P.getD n []⟩ := ⟨_, rfl⟩
  have hpf : p.fits := by rw [hp]; exact ⟨ht, by dsimp only; omega, by dsimp only; omega, by dsimp only; omega⟩
  have f1 := recvP_fits r p h.f hpf
  have f2 := recvP_short r p 200 h.sh (by rw [hp]; exact hdl)
  have f3 := recvP_few r p h.few
  have f4 : 0 ≤ (recvP r p).1.cnt ∧ (recvP r p).1.cnt ≤ 32 := by
    have hc := h.cnt
    have hpc : p.c = (P.length : Int) := by rw [hp]
    unfold recvP
    split
    · exact ⟨Int.le_refl _, by decide⟩
    split
    · show 0 ≤ p.c ∧ p.c ≤ 32; omega
    split
    · exact ⟨Int.le_refl _, by decide⟩
    · exact hc
  rcases hx : recvP r p with ⟨r', e⟩
  rw [hx] at f1 f2 f3 f4
  have g2 := rrecv_p r _ rfl h.f p _ rfl (by rw [hp]; dsimp only; omega) r' _ rfl e hx
  subst hp
  exact ⟨⟨k - 1, c2, r'⟩, ⟨t1, by have := h.k; dsimp only at this ⊢; omega, f1, f2, f3, f4⟩, by dsimp only; omega, n, z, _, _, e, _, g1, hz, hnl, hD, g2, by dsimp only; omega⟩
theorem receiver_e {L : List SV} {a : Int} (h : Tp L a) (s : Snd) (R : List SV) (hR : R = rowsB s.ps) (hf : s.fits) (hb : ∀ p ∈ s.ps, p.length ≤ 200) (hn : 1 ≤ s.ps.length ∧ s.ps.length ≤ 32) :
    ∃ (r : Rcv) (Q : List SV) (c : Int), r.fits ∧ Q = rowsB r.ps ∧ (∀ p ∈ r.ps, p.length ≤ 200) ∧ r.ps.length ≤ 32 ∧ (0 ≤ r.cnt ∧ r.cnt ≤ 32) ∧ Tp L c ∧
    Good 29 (le 81 (.agg [.lst none L, .int .i64 a]) [s.w R] (r.w Q) (.agg [.lst none L, .int .i64 c])) := by
  obtain ⟨r1, b1, p1, u1, t1, g1⟩ := next_e h 6 (by omega)
  obtain ⟨k0, hk0⟩ : ∃ k0 : Nat, r1 = k0 := Int.eq_ofNat_of_zero_le p1
  have hI0 : RcI L ⟨k0, b1, zR⟩ := ⟨t1, by dsimp only; omega, zR_fits, (fun q hq => by cases hq), Nat.zero_le _, ⟨Int.le_refl _, by show (0 : Int) ≤ 32; decide⟩⟩
  obtain ⟨fin, S, s0, sI, sR, sE, fI, fC⟩ := orbit (RcI L) (fun a => 0 < a.k) (fun a => a.k) (RcR R L s.tag s.ps.length) (rc_round hR hf.tag hb hn) _ hI0
  have hIb : ∀ a, S a → a.k ≤ 5 := fun a ha => (sI a ha).k
  refine ⟨fin.r, _, fin.c, fI.f, rfl, fI.sh, fI.few, fI.cnt, fI.tp, ?_⟩
  have hRl : R.length = s.ps.length := by rw [hR, rowsB_len]
  obtain ⟨np, hnp⟩ : ∃ np, np = s.ps.length := ⟨_, rfl⟩
  rw [← hnp] at sR hRl hn
  clear sI fI hI0 hR hb hnp
  obtain ⟨fk, fc, fr⟩ := fin
  obtain ⟨Z, hZ⟩ : ∃ Z : Rcv → List SV, ∀ r, Z r = rowsB r.ps := ⟨_, fun _ => rfl⟩
  have hZ0 : Z zR = [] := by rw [hZ]; rfl
  obtain ⟨npI, hnpI⟩ : ∃ v : Int, v = np := ⟨_, rfl⟩
  have sR : ∀ a, S a → 0 < a.k → ∃ b, S b ∧ b.k < a.k ∧ ∃ (n : Nat) (z : Int) (D : List SV) (bm e : Int) (ak : Bool),
      Good 12 (le 81 (.agg [.lst none L, .int .i64 a.c]) [.int .i64 npI] (.int .i64 z) (.agg [.lst none L, .int .i64 b.c])) ∧
      z = n ∧ n < np ∧ R[n]? = some (.lst none D) ∧
      Good 32 (pu [a.r.w (Z a.r), .agg [.int .u8 s.tag, .int .i64 z, .int .i64 npI, .bool false, .lst none D]] (.tup [b.r.w (Z b.r), .int .u32 bm, .bool ak, .int .i64 e])) ∧ b.k + 1 = a.k := fun a h1 h2 => by
    obtain ⟨b, k1, k2, n, z, D, bm, e, ak, k3⟩ := sR a h1 h2
    rw [← hZ, ← hZ, ← hnpI] at k3
    exact ⟨b, k1, k2, n, z, D, bm, e, ak, k3⟩
  rw [← hZ]
  refine Good.of Try.func29 rfl (by rfl) (by kernel_rfl) ?_
  cbv
  have hmk : True := trivial
  (repeat' (first
| (refine q1w (fun z hz => ?_); (try simp only at hz); cbv)
| (refine rqw ?_; cbv)
| (refine QC.tw ?_; cbv)
| (refine QC.tt ?_ ?_; (focus (simp only [decide_true, Bool.and_true, Bool.and_self] <;> fail)); cbv)
| (refine QC.ff ?_ ?_; (focus (simp only [decide_true, Bool.and_true, Bool.and_self, decide_false, Bool.false_and, reduceCtorEq, not_false_eq_true] <;> fail)); cbv)
| (refine QC.fw ?_; cbv)
| (refine QC.mk (fun hc => ?_) (fun hc => ?_) <;> (try dsimp only at hc) <;> cbv)
| (refine br_mk2 (fun hb => ?_) (fun hb => ?_) <;> (try subst hb) <;> cbv)))
  (refine callq (g1) rfl rfl ?_; cbv; (repeat' (first
| (refine q1w (fun z hz => ?_); (try simp only at hz); cbv)
| (refine rqw ?_; cbv)
| (refine QC.tw ?_; cbv)
| (refine QC.tt ?_ ?_; (focus (simp only [decide_true, Bool.and_true, Bool.and_self] <;> fail)); cbv)
| (refine QC.ff ?_ ?_; (focus (simp only [decide_true, Bool.and_true, Bool.and_self, decide_false, Bool.false_and, reduceCtorEq, not_false_eq_true] <;> fail)); cbv)
| (refine QC.fw ?_; cbv)
| (refine QC.mk (fun hc => ?_) (fun hc => ?_) <;> (try dsimp only at hc) <;> cbv)
| (refine br_mk2 (fun hb => ?_) (fun hb => ?_) <;> (try subst hb) <;> cbv))))
  refine loopQ (A := RcSt × Int) (fun p => S p.1 ∧ p.2 = p.1.k) (fun p => p.1.k) (fun p => [(6, .int .i64 p.2)]) (fun p => [(0, .chunk 81 (.agg [.lst none L, .int .i64 p.1.c])), (5, .chunk 55 (p.1.r.w (Z p.1.r)))]) (⟨k0, b1, zR⟩, r1) ⟨s0, hk0⟩ ?_ ?_
  · cbv
    rw [hZ0]
    repeat' (first | exact rfl | exact trivial | apply And.intro)
  · intro ⟨⟨k, c, r⟩, i⟩ hh
    have hS : S ⟨k, c, r⟩ := hh.1
    have hi : i = (k : Int) := hh.2
    have hkb : k ≤ 5 := hIb _ hS
    have hE := sE _ hS
    have hR := sR _ hS
    have hib : i ≤ 5 := by omega
    clear hh hIb sE sR hS
    have hml : True := trivial
    cbv
    (repeat' (first
| (refine q1w (fun z hz => ?_); (try simp only at hz); cbv)
| (refine rqw ?_; cbv)
| (refine QC.tw ?_; cbv)
| (refine QC.tt ?_ ?_; (focus (simp only [decide_true, Bool.and_true, Bool.and_self] <;> fail)); cbv)
| (refine QC.ff ?_ ?_; (focus (simp only [decide_true, Bool.and_true, Bool.and_self, decide_false, Bool.false_and, reduceCtorEq, not_false_eq_true] <;> fail)); cbv)
| (refine QC.fw ?_; cbv)
| (refine QC.mk (fun hc => ?_) (fun hc => ?_) <;> (try dsimp only at hc) <;> cbv)
| (refine br_mk2 (fun hb => ?_) (fun hb => ?_) <;> (try subst hb) <;> cbv)))
    · have hk : 0 < k := by (first | omega | (simp only [cst] at *; omega) | (simp only [sm] at *; omega))
      obtain ⟨⟨k', c', r'⟩, hS', hlt, n, zn, D, bm, e, ak, e1, e2, e3, e4, e5, e6⟩ := hR hk
      have e6 : k' + 1 = k := e6
      have ez : npI = z := by (first | omega | (simp only [cst] at *; omega) | (simp only [sm] at *; omega))
      subst ez
      (refine callq (e1) rfl rfl ?_; cbv; (repeat' (first
| (refine q1w (fun z hz => ?_); (try simp only at hz); cbv)
| (refine rqw ?_; cbv)
| (refine QC.tw ?_; cbv)
| (refine QC.tt ?_ ?_; (focus (simp only [decide_true, Bool.and_true, Bool.and_self] <;> fail)); cbv)
| (refine QC.ff ?_ ?_; (focus (simp only [decide_true, Bool.and_true, Bool.and_self, decide_false, Bool.false_and, reduceCtorEq, not_false_eq_true] <;> fail)); cbv)
| (refine QC.fw ?_; cbv)
| (refine QC.mk (fun hc => ?_) (fun hc => ?_) <;> (try dsimp only at hc) <;> cbv)
| (refine br_mk2 (fun hb => ?_) (fun hb => ?_) <;> (try subst hb) <;> cbv))))
      have ez : npI = z := by (first | omega | (simp only [cst] at *; omega) | (simp only [sm] at *; omega))
      subst ez
      (refine qv (n, _) ⟨e2, e4⟩ ?_; cbv; (repeat' (first
| (refine q1w (fun z hz => ?_); (try simp only at hz); cbv)
| (refine rqw ?_; cbv)
| (refine QC.tw ?_; cbv)
| (refine QC.tt ?_ ?_; (focus (simp only [decide_true, Bool.and_true, Bool.and_self] <;> fail)); cbv)
| (refine QC.ff ?_ ?_; (focus (simp only [decide_true, Bool.and_true, Bool.and_self, decide_false, Bool.false_and, reduceCtorEq, not_false_eq_true] <;> fail)); cbv)
| (refine QC.fw ?_; cbv)
| (refine QC.mk (fun hc => ?_) (fun hc => ?_) <;> (try dsimp only at hc) <;> cbv)
| (refine br_mk2 (fun hb => ?_) (fun hb => ?_) <;> (try subst hb) <;> cbv))))
      (refine callq (e5) rfl rfl ?_; cbv; (repeat' (first
| (refine q1w (fun z hz => ?_); (try simp only at hz); cbv)
| (refine rqw ?_; cbv)
| (refine QC.tw ?_; cbv)
| (refine QC.tt ?_ ?_; (focus (simp only [decide_true, Bool.and_true, Bool.and_self] <;> fail)); cbv)
| (refine QC.ff ?_ ?_; (focus (simp only [decide_true, Bool.and_true, Bool.and_self, decide_false, Bool.false_and, reduceCtorEq, not_false_eq_true] <;> fail)); cbv)
| (refine QC.fw ?_; cbv)
| (refine QC.mk (fun hc => ?_) (fun hc => ?_) <;> (try dsimp only at hc) <;> cbv)
| (refine br_mk2 (fun hb => ?_) (fun hb => ?_) <;> (try subst hb) <;> cbv))))
      refine ⟨(⟨k', c', r'⟩, z), ⟨hS', by show z = (k' : Int); (first | omega | (simp only [cst] at *; omega) | (simp only [sm] at *; omega))⟩, by show k' < k; omega, ?_⟩
      cbv
      repeat' (first | exact rfl | exact trivial | apply And.intro)
    · have hk : ¬ 0 < k := by (first | omega | (simp only [cst] at *; omega) | (simp only [sm] at *; omega))
      have hE := hE hk
      injection hE with e1 e2 e3
      subst e1; subst e2; subst e3
      exact ⟨rfl, rfl, rfl⟩
end Go.Proofs.Ytjhicdoigllblaa
namespace Go.Proofs.Ytjhicdoigllblaa
set_option linter.unusedVariables false
set_option linter.unusedSimpArgs false
open Go.RowKit
set_option maxHeartbeats 16000000
abbrev pceV (p : Pce) (D : List SV) : SV := .agg [.int .u8 p.tag, .int .i64 p.n, .int .i64 p.c, .bool p.ack, .lst none D]
theorem rrnd_e (x : Rcv) (X : List SV) (hX : X = rowsB x.ps) (hf : x.fits) (p : Pce) (D : List SV) (hD : D = u8l p.d) (hp : p.fits) :
    ∃ (y : Rcv) (Y : List SV) (bm e : Int) (ok : Bool), Good 31 (pu [x.w X, pceV p D] (.tup [y.w Y, .int .u32 bm, .bool ok, .int .i64 e])) ∧
      Good 32 (pu [x.w X, pceV p D] (.tup [y.w Y, .int .u32 bm, .bool ok, .int .i64 e])) ∧ Good 33 (pu [y.w Y, y.w Y] (.bool true)) := by
  have fy := recvP_fits x p hf hp
  rcases hx : recvP x p with ⟨y, e⟩
  rw [hx] at fy
  exact ⟨y, _, _, e, _, recv_p x X hX hf p D hD hp.d y _ rfl e hx, rrecv_p x X hX hf p D hD hp.d y _ rfl e hx, samereceiver_r y.tag y.cnt y.hv y.dn y.ps _ rfl fy⟩
theorem dg_e (x : Rcv) (X : List SV) (hX : X = rowsB x.ps) (hf : x.fits) (hl : x.ps.flatten.length ≤ 140737488351232) :
    ∃ (L : List SV) (ok r : Bool), Good 34 (pu [x.w X] (.tup [.lst none L, .bool ok])) ∧ Good 35 (pu [x.w X] (.tup [.lst none L, .bool ok])) ∧
      Good 36 (pu [x.w X] (.bool r)) ∧ Good 37 (pu [x.w X] (.bool r)) ∧ Good 28 (pu [.lst none L, .lst none L] (.bool true)) := by
  obtain ⟨tag, cnt, ps, hv, dn⟩ := x
  have gv := vreceiver_c tag cnt hv dn ps X hX hf _ (vrc_iff ⟨tag, cnt, ps, hv, dn⟩)
  have gr := rvreceiver_c tag cnt hv dn ps X hX hf _ (vrc_iff ⟨tag, cnt, ps, hv, dn⟩)
  by_cases h : vrc ⟨tag, cnt, ps, hv, dn⟩ = true ∧ dn = true
  · obtain ⟨h1, rfl⟩ := h
    have v := (vrc_iff _).1 h1
    have hl : ps.flatten.length ≤ 140737488351232 := hl
    exact ⟨_, _, _, dgram_yes tag cnt hv ps X hX hf v hl _ rfl, rdgram_yes tag cnt hv ps X hX hf v hl _ rfl, gv, gr, same_c _ _ _ _ true rfl rfl (by omega) (by omega) (by simp)⟩
  · have hno : vrc ⟨tag, cnt, ps, hv, dn⟩ = false ∨ dn = false := by
      cases h1 : vrc ⟨tag, cnt, ps, hv, dn⟩
      · exact .inl rfl
      · cases dn
        · exact .inr rfl
        · exact absurd ⟨h1, rfl⟩ h
    exact ⟨[], _, _, dgram_no tag cnt hv dn ps X hX hf _ (vrc_iff ⟨tag, cnt, ps, hv, dn⟩) hno, rdgram_no tag cnt hv dn ps X hX hf _ (vrc_iff ⟨tag, cnt, ps, hv, dn⟩) hno, gv, gr, same_c [] [] [] [] true rfl rfl (by simp) (by simp) (by simp)⟩
abbrev zRV : SV := .agg [.int .u8 0, .int .i64 0, .nil, .int .u32 0, .bool false]
theorem wk_zRV : Wk zRV (zR.w []) := .agg ⟨.rfl' _, .rfl' _, .nil _, .rfl' _, .rfl' _, trivial⟩
theorem zrnd_e (p : Pce) (D : List SV) (hD : D = u8l p.d) (hp : p.fits) :
    ∃ (y : Rcv) (Y : List SV) (bm e : Int) (ok : Bool), Good 31 (pu [zRV, pceV p D] (.tup [y.w Y, .int .u32 bm, .bool ok, .int .i64 e])) ∧
      Good 32 (pu [zRV, pceV p D] (.tup [y.w Y, .int .u32 bm, .bool ok, .int .i64 e])) ∧ Good 33 (pu [y.w Y, y.w Y] (.bool true)) := by
  obtain ⟨y, Y, bm, e, ok, h1, h2, h3⟩ := rrnd_e zR [] rfl zR_fits p D hD hp
  exact ⟨y, Y, bm, e, ok, h1.arg ⟨wk_zRV, .rfl' _, trivial⟩, h2.arg ⟨wk_zRV, .rfl' _, trivial⟩, h3⟩
theorem zdg_e :
    ∃ (L : List SV) (ok r : Bool), Good 34 (pu [zRV] (.tup [.lst none L, .bool ok])) ∧ Good 35 (pu [zRV] (.tup [.lst none L, .bool ok])) ∧
      Good 36 (pu [zRV] (.bool r)) ∧ Good 37 (pu [zRV] (.bool r)) ∧ Good 28 (pu [.lst none L, .lst none L] (.bool true)) := by
  obtain ⟨L, ok, r, h1, h2, h3, h4, h5⟩ := dg_e zR [] rfl zR_fits (by decide)
  exact ⟨L, ok, r, h1.arg ⟨wk_zRV, trivial⟩, h2.arg ⟨wk_zRV, trivial⟩, h3.arg ⟨wk_zRV, trivial⟩, h4.arg ⟨wk_zRV, trivial⟩, h5⟩
theorem v3_e (s0 : Rcv) (R0 : List SV) (h0 : R0 = rowsB s0.ps) (f0 : s0.fits) (l0 : s0.ps.flatten.length ≤ 140737488351232) (s : Rcv) (R : List SV) (h1 : R = rowsB s.ps) (f1 : s.fits) (l1 : s.ps.flatten.length ≤ 140737488351232) (sp : Rcv) (RS : List SV) (h2 : RS = rowsB sp.ps) (f2 : sp.fits) (l2 : sp.ps.flatten.length ≤ 140737488351232) :
    ∀ i, i < 3 → ∃ (x : Rcv) (X : List SV), ([s0.w R0, s.w R, sp.w RS, zRV] : List SV)[i]? = some (x.w X) ∧ X = rowsB x.ps ∧ x.fits ∧ x.ps.flatten.length ≤ 140737488351232 := fun i hi => by
  rcases (show i = 0 ∨ i = 1 ∨ i = 2 by omega) with rfl | rfl | rfl
  · exact ⟨s0, R0, rfl, h0, f0, l0⟩
  · exact ⟨s, R, rfl, h1, f1, l1⟩
  · exact ⟨sp, RS, rfl, h2, f2, l2⟩
theorem p2_e (p q : Pce) (D E : List SV) (hD : D = u8l p.d) (hE : E = u8l q.d) (hp : p.fits) (hq : q.fits) :
    ∀ i, i < 2 → ∃ (x : Pce) (X : List SV), ([pceV p D, pceV q E] : List SV)[i]? = some (pceV x X) ∧ X = u8l x.d ∧ x.fits := fun i hi => by
  rcases (show i = 0 ∨ i = 1 by omega) with rfl | rfl
  · exact ⟨p, D, rfl, hD, hp⟩
  · exact ⟨q, E, rfl, hE, hq⟩
theorem flat_le2 : ∀ (ps : List (List UInt8)) (n : Nat), (∀ p ∈ ps, p.length ≤ n) → ps.flatten.length ≤ ps.length * n
  | [], n, _ => by simp
  | p :: ps, n, h => by
    have h1 := h p (by simp)
    have h2 := flat_le2 ps n fun q hq => h q (by simp [hq])
    rw [List.flatten_cons, List.length_append, List.length_cons, Nat.succ_mul]
    omega
end Go.Proofs.Ytjhicdoigllblaa
namespace Go.Proofs.Ytjhicdoigllblaa
set_option linter.unusedVariables false
set_option linter.unusedSimpArgs false
open Go.RowKit
variable {P : Program} {T : Nat → Option TI} {G : Nat → CT → Prop}
noncomputable def frzS (F : List Nat) (s : St) : St := ⟨s.slots, appU (frzU (getM s.mem) F) s.mem⟩
theorem frzS_sub (F : List Nat) (s : St) : Sub T s (frzS F s) := ⟨fun N w0 X z a w ρ hr => by
  have fz := freeze_ids (T := T) (sees_all s.mem) hr.m F
  exact ⟨ρ, ⟨fz.m, hr.defers.turn fz.t, hr.size, fun t => fz.t.den (fun _ h => by cases h) (hr.slot t), anch_turn hr.m fz.m hr.anch (.inr rfl), hr.fix, hr.len, hr.nod⟩⟩⟩
theorem loopQF (F : List Nat) {c : Code} {s : St} {K : Ks} {A : Type} (I : A → Prop) (μ : A → Nat) (u : A → List (Nat × SV)) (v : A → List (Nat × Blk)) (i0 : A) (h0 : I i0)
    (hs : WeakSt (fitS (u i0) (v i0) (frzS F s)) (loopSt c (fitS (u i0) (v i0) (frzS F s)) (u i0) (v i0)))
    (hr : ∀ i, I i → swp T G c (loopSt c (fitS (u i0) (v i0) (frzS F s)) (u i) (v i)) ⟨fun s' => ∃ j, I j ∧ μ j < μ i ∧ WeakSt (fitS (u j) (v j) (frzS F s')) (loopSt c (fitS (u i0) (v i0) (frzS F s)) (u j) (v j)), K.r, K.e⟩) : LoopQ T (fun s K => swp T G c s K) s K := by
  exact ⟨⟨A, I, μ, fun i => loopSt c (fitS (u i0) (v i0) (frzS F s)) (u i) (v i), fun i s s' => WeakSt (fitS (u i) (v i) (frzS F s)) s', fun i s s' h => ((frzS_sub F s).trans (fitS_sub (u i) (v i) _)).trans (weak_sub h), ⟨i0, h0, hs⟩, hr⟩⟩
end Go.Proofs.Ytjhicdoigllblaa
namespace Go.Proofs.Ytjhicdoigllblaa
set_option linter.unusedVariables false
set_option linter.unusedSimpArgs false
open Go.RowKit
set_option maxHeartbeats 16000000
set_option maxRecDepth 8000 in
theorem receivers_00
    (x0 : Rcv) (R0 : List SV) (hR0 : R0 = rowsB x0.ps) (hf0 : x0.fits) (hl0 : x0.ps.flatten.length ≤ 140737488351232) (p0 : Pce) (D0 : List SV) (hD0 : D0 = u8l p0.d) (hp0 : p0.fits) (Z T : List SV) (hT : T = Z.take 400)
    (st stg ak rd un : Int) (ps : List (List UInt8)) (R : List SV) (c1 : Int) (hstg : 0 ≤ stg ∧ stg ≤ 255) (hR : R = rowsB ps) (hsh : ∀ p ∈ ps, p.length ≤ 200) (hn1 : 1 ≤ ps.length ∧ ps.length ≤ 32)
    (gS : Good 11 (le 81 (.agg [.lst none T, .int .i64 0]) [] (.agg [.int .i64 st, .int .u8 stg, .lst none R, .int .u32 ak, .int .i64 rd, .int .i64 un]) (.agg [.lst none T, .int .i64 c1])))
    (rtg rcn rhv : Int) (rdn : Bool) (rps : List (List UInt8)) (Q : List SV) (c2 : Int) (hrf : Rcv.fits ⟨rtg, rcn, rps, rhv, rdn⟩) (hQ : Q = rowsB rps) (hrs : ∀ p ∈ rps, p.length ≤ 200) (hrc : rps.length ≤ 32) (hcn : 0 ≤ rcn ∧ rcn ≤ 32)
    (gC : Good 29 (le 81 (.agg [.lst none T, .int .i64 c1]) [.agg [.int .i64 st, .int .u8 stg, .lst none R, .int .u32 ak, .int .i64 rd, .int .i64 un]] (.agg [.int .u8 rtg, .int .i64 rcn, .lst none Q, .int .u32 rhv, .bool rdn]) (.agg [.lst none T, .int .i64 c2])))
    (np : Int) (hnp : np = ps.length) (n : Nat) (zn c3 : Int) (hzn : zn = n) (hnl : n < ps.length) (g3 : Good 12 (le 81 (.agg [.lst none T, .int .i64 c2]) [.int .i64 np] (.int .i64 zn) (.agg [.lst none T, .int .i64 c3])))
    (v6 c4 : Int) (hv6 : 0 ≤ v6 ∧ v6 < 6) (g4 : Good 12 (le 81 (.agg [.lst none T, .int .i64 c3]) [.int .i64 6] (.int .i64 v6) (.agg [.lst none T, .int .i64 c4])))
    (qa : Bool) (c5 : Int) (g5 : Good 30 (le 81 (.agg [.lst none T, .int .i64 c4]) [.int .i64 2] (.bool qa) (.agg [.lst none T, .int .i64 c5])))
    (c6 c7 c8 : Int) (t8 : Tp T c8) (bs : List UInt8) (hbs : bs.length ≤ 3)
    (g6 : Good 30 (le 81 (.agg [.lst none T, .int .i64 c5]) [.int .i64 4] (.bool false) (.agg [.lst none T, .int .i64 c6])))
    (g8 : Good 12 (le 81 (.agg [.lst none T, .int .i64 c6]) [.int .i64 4] (.int .i64 0) (.agg [.lst none T, .int .i64 c8]))) :
    Good 6 (pu [x0.w R0, pceV p0 D0, .lst none Z] (.bool true)) := by
  skip
  have h0 := new_c Z T hT
  have hk := known_c
  have hRl : R.length = ps.length := by rw [hR, rowsB_len]
  obtain ⟨d, hd⟩ : ∃ d, d = ps.getD n [] := ⟨_, rfl⟩
  obtain ⟨D, hD⟩ : ∃ D, D = u8l d := ⟨_, rfl⟩
  have hRn : R[n]? = some (.lst none D) := by
    rw [hR, rowsB, List.getElem?_map, hD, hd, List.getD_eq_getElem?_getD, List.getElem?_eq_getElem hnl]; rfl
  have hdl : d.length ≤ 200 := by
    rw [hd, List.getD_eq_getElem?_getD, List.getElem?_eq_getElem hnl]
    exact hsh _ (List.getElem_mem hnl)
  have hnlR : n < R.length := by omega
  have hfl : rps.flatten.length ≤ 140737488351232 := by
    have h1 := flat_le2 rps 200 hrs
    have h2 : rps.length * 200 ≤ 32 * 200 := Nat.mul_le_mul_right _ hrc
    omega
  have hrt := hrf.tag
  have hrh := hrf.hv
  dsimp only at hrt hrh
  have hnpR : np = (R.length : Int) := by omega
  clear hd hT
  obtain ⟨r9, c9, p9, u9, t9, g9⟩ := next_e t8 32 (by omega)
  skip
  refine Good.of Try.func6 rfl (by rfl) (by kernel_rfl) ?_
  cbv
  have hmk : True := trivial
  (repeat' (first
| (refine q1w (fun z hz => ?_); (try simp only at hz); cbv)
| (refine rqw ?_; cbv)
| (refine QC.tw ?_; cbv)
| (refine QC.tt ?_ ?_; (focus (simp only [decide_true, Bool.and_true, Bool.and_self] <;> fail)); cbv)
| (refine QC.ff ?_ ?_; (focus (simp only [decide_true, Bool.and_true, Bool.and_self, decide_false, Bool.false_and, reduceCtorEq, not_false_eq_true] <;> fail)); cbv)
| (refine QC.fw ?_; cbv)
| (refine QC.mk (fun hc => ?_) (fun hc => ?_) <;> (try dsimp only at hc) <;> cbv)
| (refine br_mk2 (fun hb => ?_) (fun hb => ?_) <;> (try subst hb) <;> cbv)
| (refine callq (h0) rfl rfl ?_; cbv)
| (refine callq (gS) rfl rfl ?_; cbv)
| (refine callq (gC) rfl rfl ?_; cbv)))
  have ez : np = z := by (first | omega | (simp only [cst] at *; omega) | (simp only [sm] at *; omega))
  subst ez
  (repeat' (first
| (refine q1w (fun z hz => ?_); (try simp only at hz); cbv)
| (refine rqw ?_; cbv)
| (refine QC.tw ?_; cbv)
| (refine QC.tt ?_ ?_; (focus (simp only [decide_true, Bool.and_true, Bool.and_self] <;> fail)); cbv)
| (refine QC.ff ?_ ?_; (focus (simp only [decide_true, Bool.and_true, Bool.and_self, decide_false, Bool.false_and, reduceCtorEq, not_false_eq_true] <;> fail)); cbv)
| (refine QC.fw ?_; cbv)
| (refine QC.mk (fun hc => ?_) (fun hc => ?_) <;> (try dsimp only at hc) <;> cbv)
| (refine br_mk2 (fun hb => ?_) (fun hb => ?_) <;> (try subst hb) <;> cbv)
| (refine callq (g3) rfl rfl ?_; cbv)
| (refine callq (g4) rfl rfl ?_; cbv)
| (refine callq (g5) rfl rfl ?_; cbv)))
  (refine qv (n, _) ⟨hzn, hRn⟩ ?_; cbv; (repeat' (first
| (refine q1w (fun z hz => ?_); (try simp only at hz); cbv)
| (refine rqw ?_; cbv)
| (refine QC.tw ?_; cbv)
| (refine QC.tt ?_ ?_; (focus (simp only [decide_true, Bool.and_true, Bool.and_self] <;> fail)); cbv)
| (refine QC.ff ?_ ?_; (focus (simp only [decide_true, Bool.and_true, Bool.and_self, decide_false, Bool.false_and, reduceCtorEq, not_false_eq_true] <;> fail)); cbv)
| (refine QC.fw ?_; cbv)
| (refine QC.mk (fun hc => ?_) (fun hc => ?_) <;> (try dsimp only at hc) <;> cbv)
| (refine br_mk2 (fun hb => ?_) (fun hb => ?_) <;> (try subst hb) <;> cbv))))
  rename_i zc hzc qt hqt
  have hqtb : 0 ≤ qt ∧ qt ≤ 255 := by (first | omega | (simp only [cst] at *; omega) | (simp only [sm] at *; omega))
  have ez : np = z := by (first | omega | (simp only [cst] at *; omega) | (simp only [sm] at *; omega))
  subst ez
  (refine callq (g6) rfl rfl ?_; cbv; (repeat' (first
| (refine q1w (fun z hz => ?_); (try simp only at hz); cbv)
| (refine rqw ?_; cbv)
| (refine QC.tw ?_; cbv)
| (refine QC.tt ?_ ?_; (focus (simp only [decide_true, Bool.and_true, Bool.and_self] <;> fail)); cbv)
| (refine QC.ff ?_ ?_; (focus (simp only [decide_true, Bool.and_true, Bool.and_self, decide_false, Bool.false_and, reduceCtorEq, not_false_eq_true] <;> fail)); cbv)
| (refine QC.fw ?_; cbv)
| (refine QC.mk (fun hc => ?_) (fun hc => ?_) <;> (try dsimp only at hc) <;> cbv)
| (refine br_mk2 (fun hb => ?_) (fun hb => ?_) <;> (try subst hb) <;> cbv))))
  (refine callq (g8) rfl rfl ?_; cbv; (repeat' (first
| (refine q1w (fun z hz => ?_); (try simp only at hz); cbv)
| (refine rqw ?_; cbv)
| (refine QC.tw ?_; cbv)
| (refine QC.tt ?_ ?_; (focus (simp only [decide_true, Bool.and_true, Bool.and_self] <;> fail)); cbv)
| (refine QC.ff ?_ ?_; (focus (simp only [decide_true, Bool.and_true, Bool.and_self, decide_false, Bool.false_and, reduceCtorEq, not_false_eq_true] <;> fail)); cbv)
| (refine QC.fw ?_; cbv)
| (refine QC.mk (fun hc => ?_) (fun hc => ?_) <;> (try dsimp only at hc) <;> cbv)
| (refine br_mk2 (fun hb => ?_) (fun hb => ?_) <;> (try subst hb) <;> cbv))))
  (refine callq (g9) rfl rfl ?_; cbv; (repeat' (first
| (refine q1w (fun z hz => ?_); (try simp only at hz); cbv)
| (refine rqw ?_; cbv)
| (refine QC.tw ?_; cbv)
| (refine QC.tt ?_ ?_; (focus (simp only [decide_true, Bool.and_true, Bool.and_self] <;> fail)); cbv)
| (refine QC.ff ?_ ?_; (focus (simp only [decide_true, Bool.and_true, Bool.and_self, decide_false, Bool.false_and, reduceCtorEq, not_false_eq_true] <;> fail)); cbv)
| (refine QC.fw ?_; cbv)
| (refine QC.mk (fun hc => ?_) (fun hc => ?_) <;> (try dsimp only at hc) <;> cbv)
| (refine br_mk2 (fun hb => ?_) (fun hb => ?_) <;> (try subst hb) <;> cbv))))
  have hzb : 0 ≤ z ∧ z ≤ 4294967295 := by
    rename_i z1 hz1 z2 hz2
    have e0 : 0 ≤ z2 ∧ z2 < 4294967296 := by (first | omega | (simp only [cst] at *; omega) | (simp only [sm] at *; omega))
    have e1 := Nat.xor_lt_two_pow (n := 32) (x := rhv.toNat) (y := z2.toNat) (by omega) (by omega)
    have e2 : z = ((rhv.toNat ^^^ z2.toNat : Nat) : Int) := hz
    omega
  obtain ⟨sp, hsp⟩ : ∃ sp : Rcv, sp = ⟨rtg, rcn, rps, z, rdn⟩ := ⟨_, rfl⟩
  obtain ⟨q, hqd⟩ : ∃ q : Pce, q = ⟨qt, zn, np, qa, d⟩ := ⟨_, rfl⟩
  have hnpb : 0 ≤ np ∧ np ≤ 32 := by (first | omega | (simp only [cst] at *; omega) | (simp only [sm] at *; omega))
  have hznb : 0 ≤ zn ∧ zn ≤ 32 := by (first | omega | (simp only [cst] at *; omega) | (simp only [sm] at *; omega))
  have hq : q.fits := by rw [hqd]; exact ⟨hqtb, by dsimp only; omega, by dsimp only; omega, by dsimp only; omega⟩
  obtain ⟨E, hE0⟩ : ∃ E, E = D := ⟨_, rfl⟩
  have hE : E = u8l q.d := by rw [hE0, hqd]; exact hD
  skip
  have hspf : sp.fits := by
    rw [hsp]
    exact ⟨by dsimp only; omega, by dsimp only; omega, by dsimp only; omega, hrf.n, hrf.b⟩
  obtain ⟨V, hV⟩ : ∃ V : List SV, V = [x0.w R0, (⟨rtg, rcn, rps, rhv, rdn⟩ : Rcv).w Q, sp.w Q, zRV] := ⟨_, rfl⟩
  have hVE := v3_e x0 R0 hR0 hf0 hl0 ⟨rtg, rcn, rps, rhv, rdn⟩ Q hQ hrf hfl sp Q (by rw [hsp]; exact hQ) hspf (by rw [hsp]; exact hfl)
  rw [← hV] at hVE
  have hV3 : V[3]? = some zRV := by rw [hV]; rfl
  have hVl : V.length = 4 := by rw [hV]; rfl
  rw [hsp] at hV
  obtain ⟨V2, hV2⟩ : ∃ V : List SV, V = [pceV p0 D0, pceV q E] := ⟨_, rfl⟩
  have hV2E := p2_e p0 q D0 E hD0 hE hp0 hq
  rw [← hV2] at hV2E
  have hV2l : V2.length = 2 := by rw [hV2]; rfl
  rw [hqd] at hV2
  clear hsp hspf hqd hq hE
  rw [hE0] at hV2
  skip
  refine loopQ (A := Nat × Int) (fun p => p.2 = p.1 ∧ p.1 ≤ 4) (fun p => 4 - p.1) (fun p => [(14, .int .i64 p.2)]) (fun p => [(102, .row (some 5) 55 V)]) (0, 0) ⟨rfl, by omega⟩ ?_ ?_
  · cbv
    rw [hV]
    repeat' (first | exact rfl | exact trivial | apply And.intro)
  · intro ⟨i, j⟩ hh
    have hj : j = (i : Int) := hh.1
    have hi : i ≤ 4 := hh.2
    clear hh hV
    have hmq : True := trivial
    cbv
    (repeat' (first
| (refine q1w (fun z hz => ?_); (try simp only at hz); cbv)
| (refine rqw ?_; cbv)
| (refine QC.tw ?_; cbv)
| (refine QC.tt ?_ ?_; (focus (simp only [decide_true, Bool.and_true, Bool.and_self] <;> fail)); cbv)
| (refine QC.ff ?_ ?_; (focus (simp only [decide_true, Bool.and_true, Bool.and_self, decide_false, Bool.false_and, reduceCtorEq, not_false_eq_true] <;> fail)); cbv)
| (refine QC.fw ?_; cbv)
| (refine QC.mk (fun hc => ?_) (fun hc => ?_) <;> (try dsimp only at hc) <;> cbv)
| (refine br_mk2 (fun hb => ?_) (fun hb => ?_) <;> (try subst hb) <;> cbv)))
    · have hlt : i < 4 := by (first | omega | (simp only [cst] at *; omega) | (simp only [sm] at *; omega))
      cases Nat.lt_or_ge i 3 with
      | inl h3 =>
        obtain ⟨x, X, hVi, hX, hxf, hxl⟩ := hVE i h3
        have gRn := fun p D hD hp => rrnd_e x X hX hxf p D hD hp
        have gDg := dg_e x X hX hxf hxl
        clear hX hxf hxl
        skip
        refine loopQ (A := Nat × Int) (fun p => p.2 = p.1 ∧ p.1 ≤ 2) (fun p => 2 - p.1) (fun p => [(16, .int .i64 p.2)]) (fun p => [(111, .row (some 5) 51 V2)]) (0, 0) ⟨rfl, by omega⟩ ?_ ?_
        · cbv
          rw [hV2]
          repeat' (first | exact rfl | exact trivial | apply And.intro)
        · intro ⟨i2, j2⟩ hh
          have hj2 : j2 = (i2 : Int) := hh.1
          have hi2 : i2 ≤ 2 := hh.2
          clear hh hV2
          have hmz : True := trivial
          cbv
          (repeat' (first
| (refine q1w (fun z hz => ?_); (try simp only at hz); cbv)
| (refine rqw ?_; cbv)
| (refine QC.tw ?_; cbv)
| (refine QC.tt ?_ ?_; (focus (simp only [decide_true, Bool.and_true, Bool.and_self] <;> fail)); cbv)
| (refine QC.ff ?_ ?_; (focus (simp only [decide_true, Bool.and_true, Bool.and_self, decide_false, Bool.false_and, reduceCtorEq, not_false_eq_true] <;> fail)); cbv)
| (refine QC.fw ?_; cbv)
| (refine QC.mk (fun hc => ?_) (fun hc => ?_) <;> (try dsimp only at hc) <;> cbv)
| (refine br_mk2 (fun hb => ?_) (fun hb => ?_) <;> (try subst hb) <;> cbv)))
          · have hlt2 : i2 < 2 := by (first | omega | (simp only [cst] at *; omega) | (simp only [sm] at *; omega))
            obtain ⟨p, X2, hWi, hX2, hpf⟩ := hV2E i2 hlt2
            obtain ⟨y, Y, bm, e, ok, f1, f2, f3⟩ := gRn p X2 hX2 hpf
            clear gRn gDg hV2E hVE hk hX2 hpf
            skip
            (repeat' (first
| (refine QC.ff (fun h => h rfl) ?_; cbv)
| (refine q1w (fun z hz => ?_); (try simp only at hz); cbv)
| (refine rqw ?_; cbv)
| (refine QC.tw ?_; cbv)
| (refine QC.tt ?_ ?_; (focus (simp only [decide_true, Bool.and_true, Bool.and_self] <;> fail)); cbv)
| (refine QC.ff ?_ ?_; (focus (simp only [decide_true, Bool.and_true, Bool.and_self, decide_false, Bool.false_and, reduceCtorEq, not_false_eq_true] <;> fail)); cbv)
| (refine QC.fw ?_; cbv)
| (refine QC.mk (fun hc => ?_) (fun hc => ?_) <;> (try dsimp only at hc) <;> cbv)
| (refine br_mk2 (fun hb => ?_) (fun hb => ?_) <;> (try subst hb) <;> cbv)
| (refine qv (i) (by (first | omega | (simp only [cst] at *; omega) | (simp only [sm] at *; omega))) ?_; cbv)
| (refine qv _ (hVi) ?_; cbv)
| (refine qv (i2) (by (first | omega | (simp only [cst] at *; omega) | (simp only [sm] at *; omega))) ?_; cbv)
| (refine qv _ (hWi) ?_; cbv)
| (refine callq (f1) rfl rfl ?_; cbv)
| (refine callq (f2) rfl rfl ?_; cbv)
| (refine callq (f3) rfl rfl ?_; cbv)))
            all_goals
              refine ⟨(i2 + 1, z), ⟨by show z = ((i2 + 1 : Nat) : Int); (first | omega | (simp only [cst] at *; omega) | (simp only [sm] at *; omega)), by show i2 + 1 ≤ 2; omega⟩, by show 2 - (i2 + 1) < 2 - i2; omega, ?_⟩
              cbv
              repeat' (first | exact rfl | exact trivial | apply And.intro)
          · obtain ⟨L, ok, r, f1, f2, f3, f4, f5⟩ := gDg
            clear gRn hV2E hVE hk
            skip
            (repeat' (first
| (refine QC.ff (fun h => h rfl) ?_; cbv)
| (refine q1w (fun z hz => ?_); (try simp only at hz); cbv)
| (refine rqw ?_; cbv)
| (refine QC.tw ?_; cbv)
| (refine QC.tt ?_ ?_; (focus (simp only [decide_true, Bool.and_true, Bool.and_self] <;> fail)); cbv)
| (refine QC.ff ?_ ?_; (focus (simp only [decide_true, Bool.and_true, Bool.and_self, decide_false, Bool.false_and, reduceCtorEq, not_false_eq_true] <;> fail)); cbv)
| (refine QC.fw ?_; cbv)
| (refine QC.mk (fun hc => ?_) (fun hc => ?_) <;> (try dsimp only at hc) <;> cbv)
| (refine br_mk2 (fun hb => ?_) (fun hb => ?_) <;> (try subst hb) <;> cbv)
| (refine qv (i) (by (first | omega | (simp only [cst] at *; omega) | (simp only [sm] at *; omega))) ?_; cbv)
| (refine qv _ (hVi) ?_; cbv)
| (refine callq (f1) rfl rfl ?_; cbv)
| (refine callq (f2) rfl rfl ?_; cbv)
| (refine callq (f3) rfl rfl ?_; cbv)
| (refine callq (f4) rfl rfl ?_; cbv)
| (refine callq (f5) rfl rfl ?_; cbv)))
            all_goals
              refine ⟨(i + 1, z), ⟨by show z = ((i + 1 : Nat) : Int); (first | omega | (simp only [cst] at *; omega) | (simp only [sm] at *; omega)), by show i + 1 ≤ 4; omega⟩, by show 4 - (i + 1) < 4 - i; omega, ?_⟩
              cbv
              repeat' (first | exact rfl | exact trivial | apply And.intro)
      | inr h3 =>
        have hi3 : i = 3 := by omega
        have hVi : V[i]? = some zRV := by rw [hi3]; exact hV3
        have gRn := fun p D hD hp => zrnd_e p D hD hp
        have gDg := zdg_e
        skip
        refine loopQ (A := Nat × Int) (fun p => p.2 = p.1 ∧ p.1 ≤ 2) (fun p => 2 - p.1) (fun p => [(16, .int .i64 p.2)]) (fun p => [(111, .row (some 5) 51 V2)]) (0, 0) ⟨rfl, by omega⟩ ?_ ?_
        · cbv
          rw [hV2]
          repeat' (first | exact rfl | exact trivial | apply And.intro)
        · intro ⟨i2, j2⟩ hh
          have hj2 : j2 = (i2 : Int) := hh.1
          have hi2 : i2 ≤ 2 := hh.2
          clear hh hV2
          have hmz : True := trivial
          cbv
          (repeat' (first
| (refine q1w (fun z hz => ?_); (try simp only at hz); cbv)
| (refine rqw ?_; cbv)
| (refine QC.tw ?_; cbv)
| (refine QC.tt ?_ ?_; (focus (simp only [decide_true, Bool.and_true, Bool.and_self] <;> fail)); cbv)
| (refine QC.ff ?_ ?_; (focus (simp only [decide_true, Bool.and_true, Bool.and_self, decide_false, Bool.false_and, reduceCtorEq, not_false_eq_true] <;> fail)); cbv)
| (refine QC.fw ?_; cbv)
| (refine QC.mk (fun hc => ?_) (fun hc => ?_) <;> (try dsimp only at hc) <;> cbv)
| (refine br_mk2 (fun hb => ?_) (fun hb => ?_) <;> (try subst hb) <;> cbv)))
          · have hlt2 : i2 < 2 := by (first | omega | (simp only [cst] at *; omega) | (simp only [sm] at *; omega))
            obtain ⟨p, X2, hWi, hX2, hpf⟩ := hV2E i2 hlt2
            obtain ⟨y, Y, bm, e, ok, f1, f2, f3⟩ := gRn p X2 hX2 hpf
            clear gRn gDg hV2E hVE hk hX2 hpf
            skip
            (repeat' (first
| (refine QC.ff (fun h => h rfl) ?_; cbv)
| (refine q1w (fun z hz => ?_); (try simp only at hz); cbv)
| (refine rqw ?_; cbv)
| (refine QC.tw ?_; cbv)
| (refine QC.tt ?_ ?_; (focus (simp only [decide_true, Bool.and_true, Bool.and_self] <;> fail)); cbv)
| (refine QC.ff ?_ ?_; (focus (simp only [decide_true, Bool.and_true, Bool.and_self, decide_false, Bool.false_and, reduceCtorEq, not_false_eq_true] <;> fail)); cbv)
| (refine QC.fw ?_; cbv)
| (refine QC.mk (fun hc => ?_) (fun hc => ?_) <;> (try dsimp only at hc) <;> cbv)
| (refine br_mk2 (fun hb => ?_) (fun hb => ?_) <;> (try subst hb) <;> cbv)
| (refine qv (i) (by (first | omega | (simp only [cst] at *; omega) | (simp only [sm] at *; omega))) ?_; cbv)
| (refine qv _ (hVi) ?_; cbv)
| (refine qv (i2) (by (first | omega | (simp only [cst] at *; omega) | (simp only [sm] at *; omega))) ?_; cbv)
| (refine qv _ (hWi) ?_; cbv)
| (refine callq (f1) rfl rfl ?_; cbv)
| (refine callq (f2) rfl rfl ?_; cbv)
| (refine callq (f3) rfl rfl ?_; cbv)))
            all_goals
              refine ⟨(i2 + 1, z), ⟨by show z = ((i2 + 1 : Nat) : Int); (first | omega | (simp only [cst] at *; omega) | (simp only [sm] at *; omega)), by show i2 + 1 ≤ 2; omega⟩, by show 2 - (i2 + 1) < 2 - i2; omega, ?_⟩
              cbv
              repeat' (first | exact rfl | exact trivial | apply And.intro)
          · obtain ⟨L, ok, r, f1, f2, f3, f4, f5⟩ := gDg
            clear gRn hV2E hVE hk
            skip
            (repeat' (first
| (refine QC.ff (fun h => h rfl) ?_; cbv)
| (refine q1w (fun z hz => ?_); (try simp only at hz); cbv)
| (refine rqw ?_; cbv)
| (refine QC.tw ?_; cbv)
| (refine QC.tt ?_ ?_; (focus (simp only [decide_true, Bool.and_true, Bool.and_self] <;> fail)); cbv)
| (refine QC.ff ?_ ?_; (focus (simp only [decide_true, Bool.and_true, Bool.and_self, decide_false, Bool.false_and, reduceCtorEq, not_false_eq_true] <;> fail)); cbv)
| (refine QC.fw ?_; cbv)
| (refine QC.mk (fun hc => ?_) (fun hc => ?_) <;> (try dsimp only at hc) <;> cbv)
| (refine br_mk2 (fun hb => ?_) (fun hb => ?_) <;> (try subst hb) <;> cbv)
| (refine qv (i) (by (first | omega | (simp only [cst] at *; omega) | (simp only [sm] at *; omega))) ?_; cbv)
| (refine qv _ (hVi) ?_; cbv)
| (refine callq (f1) rfl rfl ?_; cbv)
| (refine callq (f2) rfl rfl ?_; cbv)
| (refine callq (f3) rfl rfl ?_; cbv)
| (refine callq (f4) rfl rfl ?_; cbv)
| (refine callq (f5) rfl rfl ?_; cbv)))
            all_goals
              refine ⟨(i + 1, z), ⟨by show z = ((i + 1 : Nat) : Int); (first | omega | (simp only [cst] at *; omega) | (simp only [sm] at *; omega)), by show i + 1 ≤ 4; omega⟩, by show 4 - (i + 1) < 4 - i; omega, ?_⟩
              cbv
              repeat' (first | exact rfl | exact trivial | apply And.intro)
    · (refine callq (hk) rfl rfl ?_; cbv; (repeat' (first
| (refine q1w (fun z hz => ?_); (try simp only at hz); cbv)
| (refine rqw ?_; cbv)
| (refine QC.tw ?_; cbv)
| (refine QC.tt ?_ ?_; (focus (simp only [decide_true, Bool.and_true, Bool.and_self] <;> fail)); cbv)
| (refine QC.ff ?_ ?_; (focus (simp only [decide_true, Bool.and_true, Bool.and_self, decide_false, Bool.false_and, reduceCtorEq, not_false_eq_true] <;> fail)); cbv)
| (refine QC.fw ?_; cbv)
| (refine QC.mk (fun hc => ?_) (fun hc => ?_) <;> (try dsimp only at hc) <;> cbv)
| (refine br_mk2 (fun hb => ?_) (fun hb => ?_) <;> (try subst hb) <;> cbv))))
      exact ⟨rfl, rfl, rfl⟩
set_option maxRecDepth 8000 in
theorem receivers_01
    (x0 : Rcv) (R0 : List SV) (hR0 : R0 = rowsB x0.ps) (hf0 : x0.fits) (hl0 : x0.ps.flatten.length ≤ 140737488351232) (p0 : Pce) (D0 : List SV) (hD0 : D0 = u8l p0.d) (hp0 : p0.fits) (Z T : List SV) (hT : T = Z.take 400)
    (st stg ak rd un : Int) (ps : List (List UInt8)) (R : List SV) (c1 : Int) (hstg : 0 ≤ stg ∧ stg ≤ 255) (hR : R = rowsB ps) (hsh : ∀ p ∈ ps, p.length ≤ 200) (hn1 : 1 ≤ ps.length ∧ ps.length ≤ 32)
    (gS : Good 11 (le 81 (.agg [.lst none T, .int .i64 0]) [] (.agg [.int .i64 st, .int .u8 stg, .lst none R, .int .u32 ak, .int .i64 rd, .int .i64 un]) (.agg [.lst none T, .int .i64 c1])))
    (rtg rcn rhv : Int) (rdn : Bool) (rps : List (List UInt8)) (Q : List SV) (c2 : Int) (hrf : Rcv.fits ⟨rtg, rcn, rps, rhv, rdn⟩) (hQ : Q = rowsB rps) (hrs : ∀ p ∈ rps, p.length ≤ 200) (hrc : rps.length ≤ 32) (hcn : 0 ≤ rcn ∧ rcn ≤ 32)
    (gC : Good 29 (le 81 (.agg [.lst none T, .int .i64 c1]) [.agg [.int .i64 st, .int .u8 stg, .lst none R, .int .u32 ak, .int .i64 rd, .int .i64 un]] (.agg [.int .u8 rtg, .int .i64 rcn, .lst none Q, .int .u32 rhv, .bool rdn]) (.agg [.lst none T, .int .i64 c2])))
    (np : Int) (hnp : np = ps.length) (n : Nat) (zn c3 : Int) (hzn : zn = n) (hnl : n < ps.length) (g3 : Good 12 (le 81 (.agg [.lst none T, .int .i64 c2]) [.int .i64 np] (.int .i64 zn) (.agg [.lst none T, .int .i64 c3])))
    (v6 c4 : Int) (hv6 : 0 ≤ v6 ∧ v6 < 6) (g4 : Good 12 (le 81 (.agg [.lst none T, .int .i64 c3]) [.int .i64 6] (.int .i64 v6) (.agg [.lst none T, .int .i64 c4])))
    (qa : Bool) (c5 : Int) (g5 : Good 30 (le 81 (.agg [.lst none T, .int .i64 c4]) [.int .i64 2] (.bool qa) (.agg [.lst none T, .int .i64 c5])))
    (c6 c7 c8 : Int) (t8 : Tp T c8) (bs : List UInt8) (hbs : bs.length ≤ 3)
    (g6 : Good 30 (le 81 (.agg [.lst none T, .int .i64 c5]) [.int .i64 4] (.bool true) (.agg [.lst none T, .int .i64 c6])))
    (gB : Good 14 (leN 81 (.agg [.lst none T, .int .i64 c6]) [.int .i64 3] (.row 1) (.agg [.lst none T, .int .i64 c7]) (.row none 5 (u8l bs))))
    (g8 : Good 12 (le 81 (.agg [.lst none T, .int .i64 c7]) [.int .i64 4] (.int .i64 0) (.agg [.lst none T, .int .i64 c8]))) :
    Good 6 (pu [x0.w R0, pceV p0 D0, .lst none Z] (.bool true)) := by
  skip
  have h0 := new_c Z T hT
  have hk := known_c
  have hRl : R.length = ps.length := by rw [hR, rowsB_len]
  obtain ⟨d, hd⟩ : ∃ d, d = ps.getD n [] := ⟨_, rfl⟩
  obtain ⟨D, hD⟩ : ∃ D, D = u8l d := ⟨_, rfl⟩
  have hRn : R[n]? = some (.lst none D) := by
    rw [hR, rowsB, List.getElem?_map, hD, hd, List.getD_eq_getElem?_getD, List.getElem?_eq_getElem hnl]; rfl
  have hdl : d.length ≤ 200 := by
    rw [hd, List.getD_eq_getElem?_getD, List.getElem?_eq_getElem hnl]
    exact hsh _ (List.getElem_mem hnl)
  have hnlR : n < R.length := by omega
  have hfl : rps.flatten.length ≤ 140737488351232 := by
    have h1 := flat_le2 rps 200 hrs
    have h2 : rps.length * 200 ≤ 32 * 200 := Nat.mul_le_mul_right _ hrc
    omega
  have hrt := hrf.tag
  have hrh := hrf.hv
  dsimp only at hrt hrh
  have hnpR : np = (R.length : Int) := by omega
  clear hd hT
  obtain ⟨r9, c9, p9, u9, t9, g9⟩ := next_e t8 32 (by omega)
  obtain ⟨BS, hBS⟩ : ∃ BS, BS = u8l bs := ⟨_, rfl⟩
  rw [← hBS] at gB
  skip
  refine Good.of Try.func6 rfl (by rfl) (by kernel_rfl) ?_
  cbv
  have hmk : True := trivial
  (repeat' (first
| (refine q1w (fun z hz => ?_); (try simp only at hz); cbv)
| (refine rqw ?_; cbv)
| (refine QC.tw ?_; cbv)
| (refine QC.tt ?_ ?_; (focus (simp only [decide_true, Bool.and_true, Bool.and_self] <;> fail)); cbv)
| (refine QC.ff ?_ ?_; (focus (simp only [decide_true, Bool.and_true, Bool.and_self, decide_false, Bool.false_and, reduceCtorEq, not_false_eq_true] <;> fail)); cbv)
| (refine QC.fw ?_; cbv)
| (refine QC.mk (fun hc => ?_) (fun hc => ?_) <;> (try dsimp only at hc) <;> cbv)
| (refine br_mk2 (fun hb => ?_) (fun hb => ?_) <;> (try subst hb) <;> cbv)
| (refine callq (h0) rfl rfl ?_; cbv)
| (refine callq (gS) rfl rfl ?_; cbv)
| (refine callq (gC) rfl rfl ?_; cbv)))
  have ez : np = z := by (first | omega | (simp only [cst] at *; omega) | (simp only [sm] at *; omega))
  subst ez
  (repeat' (first
| (refine q1w (fun z hz => ?_); (try simp only at hz); cbv)
| (refine rqw ?_; cbv)
| (refine QC.tw ?_; cbv)
| (refine QC.tt ?_ ?_; (focus (simp only [decide_true, Bool.and_true, Bool.and_self] <;> fail)); cbv)
| (refine QC.ff ?_ ?_; (focus (simp only [decide_true, Bool.and_true, Bool.and_self, decide_false, Bool.false_and, reduceCtorEq, not_false_eq_true] <;> fail)); cbv)
| (refine QC.fw ?_; cbv)
| (refine QC.mk (fun hc => ?_) (fun hc => ?_) <;> (try dsimp only at hc) <;> cbv)
| (refine br_mk2 (fun hb => ?_) (fun hb => ?_) <;> (try subst hb) <;> cbv)
| (refine callq (g3) rfl rfl ?_; cbv)
| (refine callq (g4) rfl rfl ?_; cbv)
| (refine callq (g5) rfl rfl ?_; cbv)))
  (refine qv (n, _) ⟨hzn, hRn⟩ ?_; cbv; (repeat' (first
| (refine q1w (fun z hz => ?_); (try simp only at hz); cbv)
| (refine rqw ?_; cbv)
| (refine QC.tw ?_; cbv)
| (refine QC.tt ?_ ?_; (focus (simp only [decide_true, Bool.and_true, Bool.and_self] <;> fail)); cbv)
| (refine QC.ff ?_ ?_; (focus (simp only [decide_true, Bool.and_true, Bool.and_self, decide_false, Bool.false_and, reduceCtorEq, not_false_eq_true] <;> fail)); cbv)
| (refine QC.fw ?_; cbv)
| (refine QC.mk (fun hc => ?_) (fun hc => ?_) <;> (try dsimp only at hc) <;> cbv)
| (refine br_mk2 (fun hb => ?_) (fun hb => ?_) <;> (try subst hb) <;> cbv))))
  rename_i zc hzc qt hqt
  have hqtb : 0 ≤ qt ∧ qt ≤ 255 := by (first | omega | (simp only [cst] at *; omega) | (simp only [sm] at *; omega))
  have ez : np = z := by (first | omega | (simp only [cst] at *; omega) | (simp only [sm] at *; omega))
  subst ez
  (refine callq (g6) rfl rfl ?_; cbv; (repeat' (first
| (refine q1w (fun z hz => ?_); (try simp only at hz); cbv)
| (refine rqw ?_; cbv)
| (refine QC.tw ?_; cbv)
| (refine QC.tt ?_ ?_; (focus (simp only [decide_true, Bool.and_true, Bool.and_self] <;> fail)); cbv)
| (refine QC.ff ?_ ?_; (focus (simp only [decide_true, Bool.and_true, Bool.and_self, decide_false, Bool.false_and, reduceCtorEq, not_false_eq_true] <;> fail)); cbv)
| (refine QC.fw ?_; cbv)
| (refine QC.mk (fun hc => ?_) (fun hc => ?_) <;> (try dsimp only at hc) <;> cbv)
| (refine br_mk2 (fun hb => ?_) (fun hb => ?_) <;> (try subst hb) <;> cbv))))
  (refine callq (gB) rfl rfl ?_; cbv; (repeat' (first
| (refine q1w (fun z hz => ?_); (try simp only at hz); cbv)
| (refine rqw ?_; cbv)
| (refine QC.tw ?_; cbv)
| (refine QC.tt ?_ ?_; (focus (simp only [decide_true, Bool.and_true, Bool.and_self] <;> fail)); cbv)
| (refine QC.ff ?_ ?_; (focus (simp only [decide_true, Bool.and_true, Bool.and_self, decide_false, Bool.false_and, reduceCtorEq, not_false_eq_true] <;> fail)); cbv)
| (refine QC.fw ?_; cbv)
| (refine QC.mk (fun hc => ?_) (fun hc => ?_) <;> (try dsimp only at hc) <;> cbv)
| (refine br_mk2 (fun hb => ?_) (fun hb => ?_) <;> (try subst hb) <;> cbv))))
  (refine callq (g8) rfl rfl ?_; cbv; (repeat' (first
| (refine q1w (fun z hz => ?_); (try simp only at hz); cbv)
| (refine rqw ?_; cbv)
| (refine QC.tw ?_; cbv)
| (refine QC.tt ?_ ?_; (focus (simp only [decide_true, Bool.and_true, Bool.and_self] <;> fail)); cbv)
| (refine QC.ff ?_ ?_; (focus (simp only [decide_true, Bool.and_true, Bool.and_self, decide_false, Bool.false_and, reduceCtorEq, not_false_eq_true] <;> fail)); cbv)
| (refine QC.fw ?_; cbv)
| (refine QC.mk (fun hc => ?_) (fun hc => ?_) <;> (try dsimp only at hc) <;> cbv)
| (refine br_mk2 (fun hb => ?_) (fun hb => ?_) <;> (try subst hb) <;> cbv))))
  (refine callq (g9) rfl rfl ?_; cbv; (repeat' (first
| (refine q1w (fun z hz => ?_); (try simp only at hz); cbv)
| (refine rqw ?_; cbv)
| (refine QC.tw ?_; cbv)
| (refine QC.tt ?_ ?_; (focus (simp only [decide_true, Bool.and_true, Bool.and_self] <;> fail)); cbv)
| (refine QC.ff ?_ ?_; (focus (simp only [decide_true, Bool.and_true, Bool.and_self, decide_false, Bool.false_and, reduceCtorEq, not_false_eq_true] <;> fail)); cbv)
| (refine QC.fw ?_; cbv)
| (refine QC.mk (fun hc => ?_) (fun hc => ?_) <;> (try dsimp only at hc) <;> cbv)
| (refine br_mk2 (fun hb => ?_) (fun hb => ?_) <;> (try subst hb) <;> cbv))))
  have hzb : 0 ≤ z ∧ z ≤ 4294967295 := by
    rename_i z1 hz1 z2 hz2
    have e0 : 0 ≤ z2 ∧ z2 < 4294967296 := by (first | omega | (simp only [cst] at *; omega) | (simp only [sm] at *; omega))
    have e1 := Nat.xor_lt_two_pow (n := 32) (x := rhv.toNat) (y := z2.toNat) (by omega) (by omega)
    have e2 : z = ((rhv.toNat ^^^ z2.toNat : Nat) : Int) := hz
    omega
  obtain ⟨sp, hsp⟩ : ∃ sp : Rcv, sp = ⟨rtg, rcn, rps, z, rdn⟩ := ⟨_, rfl⟩
  obtain ⟨q, hqd⟩ : ∃ q : Pce, q = ⟨qt, zn, np, qa, bs⟩ := ⟨_, rfl⟩
  have hnpb : 0 ≤ np ∧ np ≤ 32 := by (first | omega | (simp only [cst] at *; omega) | (simp only [sm] at *; omega))
  have hznb : 0 ≤ zn ∧ zn ≤ 32 := by (first | omega | (simp only [cst] at *; omega) | (simp only [sm] at *; omega))
  have hq : q.fits := by rw [hqd]; exact ⟨hqtb, by dsimp only; omega, by dsimp only; omega, by dsimp only; omega⟩
  obtain ⟨E, hE0⟩ : ∃ E, E = BS := ⟨_, rfl⟩
  have hE : E = u8l q.d := by rw [hE0, hqd]; exact hBS
  skip
  have hspf : sp.fits := by
    rw [hsp]
    exact ⟨by dsimp only; omega, by dsimp only; omega, by dsimp only; omega, hrf.n, hrf.b⟩
  obtain ⟨V, hV⟩ : ∃ V : List SV, V = [x0.w R0, (⟨rtg, rcn, rps, rhv, rdn⟩ : Rcv).w Q, sp.w Q, zRV] := ⟨_, rfl⟩
  have hVE := v3_e x0 R0 hR0 hf0 hl0 ⟨rtg, rcn, rps, rhv, rdn⟩ Q hQ hrf hfl sp Q (by rw [hsp]; exact hQ) hspf (by rw [hsp]; exact hfl)
  rw [← hV] at hVE
  have hV3 : V[3]? = some zRV := by rw [hV]; rfl
  have hVl : V.length = 4 := by rw [hV]; rfl
  rw [hsp] at hV
  obtain ⟨V2, hV2⟩ : ∃ V : List SV, V = [pceV p0 D0, pceV q E] := ⟨_, rfl⟩
  have hV2E := p2_e p0 q D0 E hD0 hE hp0 hq
  rw [← hV2] at hV2E
  have hV2l : V2.length = 2 := by rw [hV2]; rfl
  rw [hqd] at hV2
  clear hsp hspf hqd hq hE
  rw [hE0] at hV2
  skip
  refine loopQF [67] (A := Nat × Int) (fun p => p.2 = p.1 ∧ p.1 ≤ 4) (fun p => 4 - p.1) (fun p => [(14, .int .i64 p.2)]) (fun p => [(67, .frz none BS), (102, .row (some 5) 55 V)]) (0, 0) ⟨rfl, by omega⟩ ?_ ?_
  · cbv
    rw [hV]
    repeat' (first | exact rfl | exact trivial | apply And.intro)
  · intro ⟨i, j⟩ hh
    have hj : j = (i : Int) := hh.1
    have hi : i ≤ 4 := hh.2
    clear hh hV
    have hmq : True := trivial
    cbv
    (repeat' (first
| (refine q1w (fun z hz => ?_); (try simp only at hz); cbv)
| (refine rqw ?_; cbv)
| (refine QC.tw ?_; cbv)
| (refine QC.tt ?_ ?_; (focus (simp only [decide_true, Bool.and_true, Bool.and_self] <;> fail)); cbv)
| (refine QC.ff ?_ ?_; (focus (simp only [decide_true, Bool.and_true, Bool.and_self, decide_false, Bool.false_and, reduceCtorEq, not_false_eq_true] <;> fail)); cbv)
| (refine QC.fw ?_; cbv)
| (refine QC.mk (fun hc => ?_) (fun hc => ?_) <;> (try dsimp only at hc) <;> cbv)
| (refine br_mk2 (fun hb => ?_) (fun hb => ?_) <;> (try subst hb) <;> cbv)))
    · have hlt : i < 4 := by (first | omega | (simp only [cst] at *; omega) | (simp only [sm] at *; omega))
      cases Nat.lt_or_ge i 3 with
      | inl h3 =>
        obtain ⟨x, X, hVi, hX, hxf, hxl⟩ := hVE i h3
        have gRn := fun p D hD hp => rrnd_e x X hX hxf p D hD hp
        have gDg := dg_e x X hX hxf hxl
        clear hX hxf hxl
        skip
        refine loopQ (A := Nat × Int) (fun p => p.2 = p.1 ∧ p.1 ≤ 2) (fun p => 2 - p.1) (fun p => [(16, .int .i64 p.2)]) (fun p => [(111, .row (some 5) 51 V2)]) (0, 0) ⟨rfl, by omega⟩ ?_ ?_
        · cbv
          rw [hV2]
          repeat' (first | exact rfl | exact trivial | apply And.intro)
        · intro ⟨i2, j2⟩ hh
          have hj2 : j2 = (i2 : Int) := hh.1
          have hi2 : i2 ≤ 2 := hh.2
          clear hh hV2
          have hmz : True := trivial
          cbv
          (repeat' (first
| (refine q1w (fun z hz => ?_); (try simp only at hz); cbv)
| (refine rqw ?_; cbv)
| (refine QC.tw ?_; cbv)
| (refine QC.tt ?_ ?_; (focus (simp only [decide_true, Bool.and_true, Bool.and_self] <;> fail)); cbv)
| (refine QC.ff ?_ ?_; (focus (simp only [decide_true, Bool.and_true, Bool.and_self, decide_false, Bool.false_and, reduceCtorEq, not_false_eq_true] <;> fail)); cbv)
| (refine QC.fw ?_; cbv)
| (refine QC.mk (fun hc => ?_) (fun hc => ?_) <;> (try dsimp only at hc) <;> cbv)
| (refine br_mk2 (fun hb => ?_) (fun hb => ?_) <;> (try subst hb) <;> cbv)))
          · have hlt2 : i2 < 2 := by (first | omega | (simp only [cst] at *; omega) | (simp only [sm] at *; omega))
            obtain ⟨p, X2, hWi, hX2, hpf⟩ := hV2E i2 hlt2
            obtain ⟨y, Y, bm, e, ok, f1, f2, f3⟩ := gRn p X2 hX2 hpf
            clear gRn gDg hV2E hVE hk hX2 hpf
            skip
            (repeat' (first
| (refine QC.ff (fun h => h rfl) ?_; cbv)
| (refine q1w (fun z hz => ?_); (try simp only at hz); cbv)
| (refine rqw ?_; cbv)
| (refine QC.tw ?_; cbv)
| (refine QC.tt ?_ ?_; (focus (simp only [decide_true, Bool.and_true, Bool.and_self] <;> fail)); cbv)
| (refine QC.ff ?_ ?_; (focus (simp only [decide_true, Bool.and_true, Bool.and_self, decide_false, Bool.false_and, reduceCtorEq, not_false_eq_true] <;> fail)); cbv)
| (refine QC.fw ?_; cbv)
| (refine QC.mk (fun hc => ?_) (fun hc => ?_) <;> (try dsimp only at hc) <;> cbv)
| (refine br_mk2 (fun hb => ?_) (fun hb => ?_) <;> (try subst hb) <;> cbv)
| (refine qv (i) (by (first | omega | (simp only [cst] at *; omega) | (simp only [sm] at *; omega))) ?_; cbv)
| (refine qv _ (hVi) ?_; cbv)
| (refine qv (i2) (by (first | omega | (simp only [cst] at *; omega) | (simp only [sm] at *; omega))) ?_; cbv)
| (refine qv _ (hWi) ?_; cbv)
| (refine callq (f1) rfl rfl ?_; cbv)
| (refine callq (f2) rfl rfl ?_; cbv)
| (refine callq (f3) rfl rfl ?_; cbv)))
            all_goals
              refine ⟨(i2 + 1, z), ⟨by show z = ((i2 + 1 : Nat) : Int); (first | omega | (simp only [cst] at *; omega) | (simp only [sm] at *; omega)), by show i2 + 1 ≤ 2; omega⟩, by show 2 - (i2 + 1) < 2 - i2; omega, ?_⟩
              cbv
              repeat' (first | exact rfl | exact trivial | apply And.intro)
          · obtain ⟨L, ok, r, f1, f2, f3, f4, f5⟩ := gDg
            clear gRn hV2E hVE hk
            skip
            (repeat' (first
| (refine QC.ff (fun h => h rfl) ?_; cbv)
| (refine q1w (fun z hz => ?_); (try simp only at hz); cbv)
| (refine rqw ?_; cbv)
| (refine QC.tw ?_; cbv)
| (refine QC.tt ?_ ?_; (focus (simp only [decide_true, Bool.and_true, Bool.and_self] <;> fail)); cbv)
| (refine QC.ff ?_ ?_; (focus (simp only [decide_true, Bool.and_true, Bool.and_self, decide_false, Bool.false_and, reduceCtorEq, not_false_eq_true] <;> fail)); cbv)
| (refine QC.fw ?_; cbv)
| (refine QC.mk (fun hc => ?_) (fun hc => ?_) <;> (try dsimp only at hc) <;> cbv)
| (refine br_mk2 (fun hb => ?_) (fun hb => ?_) <;> (try subst hb) <;> cbv)
| (refine qv (i) (by (first | omega | (simp only [cst] at *; omega) | (simp only [sm] at *; omega))) ?_; cbv)
| (refine qv _ (hVi) ?_; cbv)
| (refine callq (f1) rfl rfl ?_; cbv)
| (refine callq (f2) rfl rfl ?_; cbv)
| (refine callq (f3) rfl rfl ?_; cbv)
| (refine callq (f4) rfl rfl ?_; cbv)
| (refine callq (f5) rfl rfl ?_; cbv)))
            all_goals
              refine ⟨(i + 1, z), ⟨by show z = ((i + 1 : Nat) : Int); (first | omega | (simp only [cst] at *; omega) | (simp only [sm] at *; omega)), by show i + 1 ≤ 4; omega⟩, by show 4 - (i + 1) < 4 - i; omega, ?_⟩
              cbv
              repeat' (first | exact rfl | exact trivial | apply And.intro)
      | inr h3 =>
        have hi3 : i = 3 := by omega
        have hVi : V[i]? = some zRV := by rw [hi3]; exact hV3
        have gRn := fun p D hD hp => zrnd_e p D hD hp
        have gDg := zdg_e
        skip
        refine loopQ (A := Nat × Int) (fun p => p.2 = p.1 ∧ p.1 ≤ 2) (fun p => 2 - p.1) (fun p => [(16, .int .i64 p.2)]) (fun p => [(111, .row (some 5) 51 V2)]) (0, 0) ⟨rfl, by omega⟩ ?_ ?_
        · cbv
          rw [hV2]
          repeat' (first | exact rfl | exact trivial | apply And.intro)
        · intro ⟨i2, j2⟩ hh
          have hj2 : j2 = (i2 : Int) := hh.1
          have hi2 : i2 ≤ 2 := hh.2
          clear hh hV2
          have hmz : True := trivial
          cbv
          (repeat' (first
| (refine q1w (fun z hz => ?_); (try simp only at hz); cbv)
| (refine rqw ?_; cbv)
| (refine QC.tw ?_; cbv)
| (refine QC.tt ?_ ?_; (focus (simp only [decide_true, Bool.and_true, Bool.and_self] <;> fail)); cbv)
| (refine QC.ff ?_ ?_; (focus (simp only [decide_true, Bool.and_true, Bool.and_self, decide_false, Bool.false_and, reduceCtorEq, not_false_eq_true] <;> fail)); cbv)
| (refine QC.fw ?_; cbv)
| (refine QC.mk (fun hc => ?_) (fun hc => ?_) <;> (try dsimp only at hc) <;> cbv)
| (refine br_mk2 (fun hb => ?_) (fun hb => ?_) <;> (try subst hb) <;> cbv)))
          · have hlt2 : i2 < 2 := by (first | omega | (simp only [cst] at *; omega) | (simp only [sm] at *; omega))
            obtain ⟨p, X2, hWi, hX2, hpf⟩ := hV2E i2 hlt2
            obtain ⟨y, Y, bm, e, ok, f1, f2, f3⟩ := gRn p X2 hX2 hpf
            clear gRn gDg hV2E hVE hk hX2 hpf
            skip
            (repeat' (first
| (refine QC.ff (fun h => h rfl) ?_; cbv)
| (refine q1w (fun z hz => ?_); (try simp only at hz); cbv)
| (refine rqw ?_; cbv)
| (refine QC.tw ?_; cbv)
| (refine QC.tt ?_ ?_; (focus (simp only [decide_true, Bool.and_true, Bool.and_self] <;> fail)); cbv)
| (refine QC.ff ?_ ?_; (focus (simp only [decide_true, Bool.and_true, Bool.and_self, decide_false, Bool.false_and, reduceCtorEq, not_false_eq_true] <;> fail)); cbv)
| (refine QC.fw ?_; cbv)
| (refine QC.mk (fun hc => ?_) (fun hc => ?_) <;> (try dsimp only at hc) <;> cbv)
| (refine br_mk2 (fun hb => ?_) (fun hb => ?_) <;> (try subst hb) <;> cbv)
| (refine qv (i) (by (first | omega | (simp only [cst] at *; omega) | (simp only [sm] at *; omega))) ?_; cbv)
| (refine qv _ (hVi) ?_; cbv)
| (refine qv (i2) (by (first | omega | (simp only [cst] at *; omega) | (simp only [sm] at *; omega))) ?_; cbv)
| (refine qv _ (hWi) ?_; cbv)
| (refine callq (f1) rfl rfl ?_; cbv)
| (refine callq (f2) rfl rfl ?_; cbv)
| (refine callq (f3) rfl rfl ?_; cbv)))
            all_goals
              refine ⟨(i2 + 1, z), ⟨by show z = ((i2 + 1 : Nat) : Int); (first | omega | (simp only [cst] at *; omega) | (simp only [sm] at *; omega)), by show i2 + 1 ≤ 2; omega⟩, by show 2 - (i2 + 1) < 2 - i2; omega, ?_⟩
              cbv
              repeat' (first | exact rfl | exact trivial | apply And.intro)
          · obtain ⟨L, ok, r, f1, f2, f3, f4, f5⟩ := gDg
            clear gRn hV2E hVE hk
            skip
            (repeat' (first
| (refine QC.ff (fun h => h rfl) ?_; cbv)
| (refine q1w (fun z hz => ?_); (try simp only at hz); cbv)
| (refine rqw ?_; cbv)
| (refine QC.tw ?_; cbv)
| (refine QC.tt ?_ ?_; (focus (simp only [decide_true, Bool.and_true, Bool.and_self] <;> fail)); cbv)
| (refine QC.ff ?_ ?_; (focus (simp only [decide_true, Bool.and_true, Bool.and_self, decide_false, Bool.false_and, reduceCtorEq, not_false_eq_true] <;> fail)); cbv)
| (refine QC.fw ?_; cbv)
| (refine QC.mk (fun hc => ?_) (fun hc => ?_) <;> (try dsimp only at hc) <;> cbv)
| (refine br_mk2 (fun hb => ?_) (fun hb => ?_) <;> (try subst hb) <;> cbv)
| (refine qv (i) (by (first | omega | (simp only [cst] at *; omega) | (simp only [sm] at *; omega))) ?_; cbv)
| (refine qv _ (hVi) ?_; cbv)
| (refine callq (f1) rfl rfl ?_; cbv)
| (refine callq (f2) rfl rfl ?_; cbv)
| (refine callq (f3) rfl rfl ?_; cbv)
| (refine callq (f4) rfl rfl ?_; cbv)
| (refine callq (f5) rfl rfl ?_; cbv)))
            all_goals
              refine ⟨(i + 1, z), ⟨by show z = ((i + 1 : Nat) : Int); (first | omega | (simp only [cst] at *; omega) | (simp only [sm] at *; omega)), by show i + 1 ≤ 4; omega⟩, by show 4 - (i + 1) < 4 - i; omega, ?_⟩
              cbv
              repeat' (first | exact rfl | exact trivial | apply And.intro)
    · (refine callq (hk) rfl rfl ?_; cbv; (repeat' (first
| (refine q1w (fun z hz => ?_); (try simp only at hz); cbv)
| (refine rqw ?_; cbv)
| (refine QC.tw ?_; cbv)
| (refine QC.tt ?_ ?_; (focus (simp only [decide_true, Bool.and_true, Bool.and_self] <;> fail)); cbv)
| (refine QC.ff ?_ ?_; (focus (simp only [decide_true, Bool.and_true, Bool.and_self, decide_false, Bool.false_and, reduceCtorEq, not_false_eq_true] <;> fail)); cbv)
| (refine QC.fw ?_; cbv)
| (refine QC.mk (fun hc => ?_) (fun hc => ?_) <;> (try dsimp only at hc) <;> cbv)
| (refine br_mk2 (fun hb => ?_) (fun hb => ?_) <;> (try subst hb) <;> cbv))))
      exact ⟨rfl, rfl, rfl⟩
end Go.Proofs.Ytjhicdoigllblaa
namespace Go.Proofs.Ytjhicdoigllblaa
set_option linter.unusedVariables false
set_option linter.unusedSimpArgs false
open Go.RowKit
set_option maxHeartbeats 16000000
set_option maxRecDepth 8000 in
theorem receivers_10t
    (x0 : Rcv) (R0 : List SV) (hR0 : R0 = rowsB x0.ps) (hf0 : x0.fits) (hl0 : x0.ps.flatten.length ≤ 140737488351232) (p0 : Pce) (D0 : List SV) (hD0 : D0 = u8l p0.d) (hp0 : p0.fits) (Z T : List SV) (hT : T = Z.take 400)
    (st stg ak rd un : Int) (ps : List (List UInt8)) (R : List SV) (c1 : Int) (hstg : 0 ≤ stg ∧ stg ≤ 255) (hR : R = rowsB ps) (hsh : ∀ p ∈ ps, p.length ≤ 200) (hn1 : 1 ≤ ps.length ∧ ps.length ≤ 32)
    (gS : Good 11 (le 81 (.agg [.lst none T, .int .i64 0]) [] (.agg [.int .i64 st, .int .u8 stg, .lst none R, .int .u32 ak, .int .i64 rd, .int .i64 un]) (.agg [.lst none T, .int .i64 c1])))
    (rtg rcn rhv : Int) (rdn : Bool) (rps : List (List UInt8)) (Q : List SV) (c2 : Int) (hrf : Rcv.fits ⟨rtg, rcn, rps, rhv, rdn⟩) (hQ : Q = rowsB rps) (hrs : ∀ p ∈ rps, p.length ≤ 200) (hrc : rps.length ≤ 32) (hcn : 0 ≤ rcn ∧ rcn ≤ 32)
    (gC : Good 29 (le 81 (.agg [.lst none T, .int .i64 c1]) [.agg [.int .i64 st, .int .u8 stg, .lst none R, .int .u32 ak, .int .i64 rd, .int .i64 un]] (.agg [.int .u8 rtg, .int .i64 rcn, .lst none Q, .int .u32 rhv, .bool rdn]) (.agg [.lst none T, .int .i64 c2])))
    (np : Int) (hnp : np = ps.length) (n : Nat) (zn c3 : Int) (hzn : zn = n) (hnl : n < ps.length) (g3 : Good 12 (le 81 (.agg [.lst none T, .int .i64 c2]) [.int .i64 np] (.int .i64 zn) (.agg [.lst none T, .int .i64 c3])))
    (v6 c4 : Int) (hv6 : 0 ≤ v6 ∧ v6 < 6) (g4 : Good 12 (le 81 (.agg [.lst none T, .int .i64 c3]) [.int .i64 6] (.int .i64 v6) (.agg [.lst none T, .int .i64 c4])))
    (qa : Bool) (c5 : Int) (g5 : Good 30 (le 81 (.agg [.lst none T, .int .i64 c4]) [.int .i64 2] (.bool qa) (.agg [.lst none T, .int .i64 c5])))
    (c6 c7 c8 : Int) (t8 : Tp T c8) (bs : List UInt8) (hbs : bs.length ≤ 3)
    (g6 : Good 30 (le 81 (.agg [.lst none T, .int .i64 c5]) [.int .i64 4] (.bool false) (.agg [.lst none T, .int .i64 c6])))
    (hdn : rdn = true)
    (g8 : Good 12 (le 81 (.agg [.lst none T, .int .i64 c6]) [.int .i64 4] (.int .i64 1) (.agg [.lst none T, .int .i64 c8]))) :
    Good 6 (pu [x0.w R0, pceV p0 D0, .lst none Z] (.bool true)) := by
  skip
  subst hdn
  have h0 := new_c Z T hT
  have hk := known_c
  have hRl : R.length = ps.length := by rw [hR, rowsB_len]
  obtain ⟨d, hd⟩ : ∃ d, d = ps.getD n [] := ⟨_, rfl⟩
  obtain ⟨D, hD⟩ : ∃ D, D = u8l d := ⟨_, rfl⟩
  have hRn : R[n]? = some (.lst none D) := by
    rw [hR, rowsB, List.getElem?_map, hD, hd, List.getD_eq_getElem?_getD, List.getElem?_eq_getElem hnl]; rfl
  have hdl : d.length ≤ 200 := by
    rw [hd, List.getD_eq_getElem?_getD, List.getElem?_eq_getElem hnl]
    exact hsh _ (List.getElem_mem hnl)
  have hnlR : n < R.length := by omega
  have hfl : rps.flatten.length ≤ 140737488351232 := by
    have h1 := flat_le2 rps 200 hrs
    have h2 : rps.length * 200 ≤ 32 * 200 := Nat.mul_le_mul_right _ hrc
    omega
  have hrt := hrf.tag
  have hrh := hrf.hv
  dsimp only at hrt hrh
  have hnpR : np = (R.length : Int) := by omega
  clear hd hT
  skip
  refine Good.of Try.func6 rfl (by rfl) (by kernel_rfl) ?_
  cbv
  have hmk : True := trivial
  (repeat' (first
| (refine q1w (fun z hz => ?_); (try simp only at hz); cbv)
| (refine rqw ?_; cbv)
| (refine QC.tw ?_; cbv)
| (refine QC.tt ?_ ?_; (focus (simp only [decide_true, Bool.and_true, Bool.and_self] <;> fail)); cbv)
| (refine QC.ff ?_ ?_; (focus (simp only [decide_true, Bool.and_true, Bool.and_self, decide_false, Bool.false_and, reduceCtorEq, not_false_eq_true] <;> fail)); cbv)
| (refine QC.fw ?_; cbv)
| (refine QC.mk (fun hc => ?_) (fun hc => ?_) <;> (try dsimp only at hc) <;> cbv)
| (refine br_mk2 (fun hb => ?_) (fun hb => ?_) <;> (try subst hb) <;> cbv)
| (refine callq (h0) rfl rfl ?_; cbv)
| (refine callq (gS) rfl rfl ?_; cbv)
| (refine callq (gC) rfl rfl ?_; cbv)))
  have ez : np = z := by (first | omega | (simp only [cst] at *; omega) | (simp only [sm] at *; omega))
  subst ez
  (repeat' (first
| (refine q1w (fun z hz => ?_); (try simp only at hz); cbv)
| (refine rqw ?_; cbv)
| (refine QC.tw ?_; cbv)
| (refine QC.tt ?_ ?_; (focus (simp only [decide_true, Bool.and_true, Bool.and_self] <;> fail)); cbv)
| (refine QC.ff ?_ ?_; (focus (simp only [decide_true, Bool.and_true, Bool.and_self, decide_false, Bool.false_and, reduceCtorEq, not_false_eq_true] <;> fail)); cbv)
| (refine QC.fw ?_; cbv)
| (refine QC.mk (fun hc => ?_) (fun hc => ?_) <;> (try dsimp only at hc) <;> cbv)
| (refine br_mk2 (fun hb => ?_) (fun hb => ?_) <;> (try subst hb) <;> cbv)
| (refine callq (g3) rfl rfl ?_; cbv)
| (refine callq (g4) rfl rfl ?_; cbv)
| (refine callq (g5) rfl rfl ?_; cbv)))
  (refine qv (n, _) ⟨hzn, hRn⟩ ?_; cbv; (repeat' (first
| (refine q1w (fun z hz => ?_); (try simp only at hz); cbv)
| (refine rqw ?_; cbv)
| (refine QC.tw ?_; cbv)
| (refine QC.tt ?_ ?_; (focus (simp only [decide_true, Bool.and_true, Bool.and_self] <;> fail)); cbv)
| (refine QC.ff ?_ ?_; (focus (simp only [decide_true, Bool.and_true, Bool.and_self, decide_false, Bool.false_and, reduceCtorEq, not_false_eq_true] <;> fail)); cbv)
| (refine QC.fw ?_; cbv)
| (refine QC.mk (fun hc => ?_) (fun hc => ?_) <;> (try dsimp only at hc) <;> cbv)
| (refine br_mk2 (fun hb => ?_) (fun hb => ?_) <;> (try subst hb) <;> cbv))))
  rename_i zc hzc qt hqt
  have hqtb : 0 ≤ qt ∧ qt ≤ 255 := by (first | omega | (simp only [cst] at *; omega) | (simp only [sm] at *; omega))
  have ez : np = z := by (first | omega | (simp only [cst] at *; omega) | (simp only [sm] at *; omega))
  subst ez
  (refine callq (g6) rfl rfl ?_; cbv; (repeat' (first
| (refine q1w (fun z hz => ?_); (try simp only at hz); cbv)
| (refine rqw ?_; cbv)
| (refine QC.tw ?_; cbv)
| (refine QC.tt ?_ ?_; (focus (simp only [decide_true, Bool.and_true, Bool.and_self] <;> fail)); cbv)
| (refine QC.ff ?_ ?_; (focus (simp only [decide_true, Bool.and_true, Bool.and_self, decide_false, Bool.false_and, reduceCtorEq, not_false_eq_true] <;> fail)); cbv)
| (refine QC.fw ?_; cbv)
| (refine QC.mk (fun hc => ?_) (fun hc => ?_) <;> (try dsimp only at hc) <;> cbv)
| (refine br_mk2 (fun hb => ?_) (fun hb => ?_) <;> (try subst hb) <;> cbv))))
  (refine callq (g8) rfl rfl ?_; cbv; (repeat' (first
| (refine q1w (fun z hz => ?_); (try simp only at hz); cbv)
| (refine rqw ?_; cbv)
| (refine QC.tw ?_; cbv)
| (refine QC.tt ?_ ?_; (focus (simp only [decide_true, Bool.and_true, Bool.and_self] <;> fail)); cbv)
| (refine QC.ff ?_ ?_; (focus (simp only [decide_true, Bool.and_true, Bool.and_self, decide_false, Bool.false_and, reduceCtorEq, not_false_eq_true] <;> fail)); cbv)
| (refine QC.fw ?_; cbv)
| (refine QC.mk (fun hc => ?_) (fun hc => ?_) <;> (try dsimp only at hc) <;> cbv)
| (refine br_mk2 (fun hb => ?_) (fun hb => ?_) <;> (try subst hb) <;> cbv))))
  obtain ⟨sp, hsp⟩ : ∃ sp : Rcv, sp = ⟨rtg, rcn, rps, rhv, false⟩ := ⟨_, rfl⟩
  obtain ⟨q, hqd⟩ : ∃ q : Pce, q = ⟨qt, zn, np, qa, d⟩ := ⟨_, rfl⟩
  have hnpb : 0 ≤ np ∧ np ≤ 32 := by (first | omega | (simp only [cst] at *; omega) | (simp only [sm] at *; omega))
  have hznb : 0 ≤ zn ∧ zn ≤ 32 := by (first | omega | (simp only [cst] at *; omega) | (simp only [sm] at *; omega))
  have hq : q.fits := by rw [hqd]; exact ⟨hqtb, by dsimp only; omega, by dsimp only; omega, by dsimp only; omega⟩
  obtain ⟨E, hE0⟩ : ∃ E, E = D := ⟨_, rfl⟩
  have hE : E = u8l q.d := by rw [hE0, hqd]; exact hD
  skip
  have hspf : sp.fits := by
    rw [hsp]
    exact ⟨by dsimp only; omega, by dsimp only; omega, by dsimp only; omega, hrf.n, hrf.b⟩
  obtain ⟨V, hV⟩ : ∃ V : List SV, V = [x0.w R0, (⟨rtg, rcn, rps, rhv, true⟩ : Rcv).w Q, sp.w Q, zRV] := ⟨_, rfl⟩
  have hVE := v3_e x0 R0 hR0 hf0 hl0 ⟨rtg, rcn, rps, rhv, true⟩ Q hQ hrf hfl sp Q (by rw [hsp]; exact hQ) hspf (by rw [hsp]; exact hfl)
  rw [← hV] at hVE
  have hV3 : V[3]? = some zRV := by rw [hV]; rfl
  have hVl : V.length = 4 := by rw [hV]; rfl
  rw [hsp] at hV
  obtain ⟨V2, hV2⟩ : ∃ V : List SV, V = [pceV p0 D0, pceV q E] := ⟨_, rfl⟩
  have hV2E := p2_e p0 q D0 E hD0 hE hp0 hq
  rw [← hV2] at hV2E
  have hV2l : V2.length = 2 := by rw [hV2]; rfl
  rw [hqd] at hV2
  clear hsp hspf hqd hq hE
  rw [hE0] at hV2
  skip
  refine loopQ (A := Nat × Int) (fun p => p.2 = p.1 ∧ p.1 ≤ 4) (fun p => 4 - p.1) (fun p => [(14, .int .i64 p.2)]) (fun p => [(102, .row (some 5) 55 V)]) (0, 0) ⟨rfl, by omega⟩ ?_ ?_
  · cbv
    rw [hV]
    repeat' (first | exact rfl | exact trivial | apply And.intro)
  · intro ⟨i, j⟩ hh
    have hj : j = (i : Int) := hh.1
    have hi : i ≤ 4 := hh.2
    clear hh hV
    have hmq : True := trivial
    cbv
    (repeat' (first
| (refine q1w (fun z hz => ?_); (try simp only at hz); cbv)
| (refine rqw ?_; cbv)
| (refine QC.tw ?_; cbv)
| (refine QC.tt ?_ ?_; (focus (simp only [decide_true, Bool.and_true, Bool.and_self] <;> fail)); cbv)
| (refine QC.ff ?_ ?_; (focus (simp only [decide_true, Bool.and_true, Bool.and_self, decide_false, Bool.false_and, reduceCtorEq, not_false_eq_true] <;> fail)); cbv)
| (refine QC.fw ?_; cbv)
| (refine QC.mk (fun hc => ?_) (fun hc => ?_) <;> (try dsimp only at hc) <;> cbv)
| (refine br_mk2 (fun hb => ?_) (fun hb => ?_) <;> (try subst hb) <;> cbv)))
    · have hlt : i < 4 := by (first | omega | (simp only [cst] at *; omega) | (simp only [sm] at *; omega))
      cases Nat.lt_or_ge i 3 with
      | inl h3 =>
        obtain ⟨x, X, hVi, hX, hxf, hxl⟩ := hVE i h3
        have gRn := fun p D hD hp => rrnd_e x X hX hxf p D hD hp
        have gDg := dg_e x X hX hxf hxl
        clear hX hxf hxl
        skip
        refine loopQ (A := Nat × Int) (fun p => p.2 = p.1 ∧ p.1 ≤ 2) (fun p => 2 - p.1) (fun p => [(16, .int .i64 p.2)]) (fun p => [(111, .row (some 5) 51 V2)]) (0, 0) ⟨rfl, by omega⟩ ?_ ?_
        · cbv
          rw [hV2]
          repeat' (first | exact rfl | exact trivial | apply And.intro)
        · intro ⟨i2, j2⟩ hh
          have hj2 : j2 = (i2 : Int) := hh.1
          have hi2 : i2 ≤ 2 := hh.2
          clear hh hV2
          have hmz : True := trivial
          cbv
          (repeat' (first
| (refine q1w (fun z hz => ?_); (try simp only at hz); cbv)
| (refine rqw ?_; cbv)
| (refine QC.tw ?_; cbv)
| (refine QC.tt ?_ ?_; (focus (simp only [decide_true, Bool.and_true, Bool.and_self] <;> fail)); cbv)
| (refine QC.ff ?_ ?_; (focus (simp only [decide_true, Bool.and_true, Bool.and_self, decide_false, Bool.false_and, reduceCtorEq, not_false_eq_true] <;> fail)); cbv)
| (refine QC.fw ?_; cbv)
| (refine QC.mk (fun hc => ?_) (fun hc => ?_) <;> (try dsimp only at hc) <;> cbv)
| (refine br_mk2 (fun hb => ?_) (fun hb => ?_) <;> (try subst hb) <;> cbv)))
          · have hlt2 : i2 < 2 := by (first | omega | (simp only [cst] at *; omega) | (simp only [sm] at *; omega))
            obtain ⟨p, X2, hWi, hX2, hpf⟩ := hV2E i2 hlt2
            obtain ⟨y, Y, bm, e, ok, f1, f2, f3⟩ := gRn p X2 hX2 hpf
            clear gRn gDg hV2E hVE hk hX2 hpf
            skip
            (repeat' (first
| (refine QC.ff (fun h => h rfl) ?_; cbv)
| (refine q1w (fun z hz => ?_); (try simp only at hz); cbv)
| (refine rqw ?_; cbv)
| (refine QC.tw ?_; cbv)
| (refine QC.tt ?_ ?_; (focus (simp only [decide_true, Bool.and_true, Bool.and_self] <;> fail)); cbv)
| (refine QC.ff ?_ ?_; (focus (simp only [decide_true, Bool.and_true, Bool.and_self, decide_false, Bool.false_and, reduceCtorEq, not_false_eq_true] <;> fail)); cbv)
| (refine QC.fw ?_; cbv)
| (refine QC.mk (fun hc => ?_) (fun hc => ?_) <;> (try dsimp only at hc) <;> cbv)
| (refine br_mk2 (fun hb => ?_) (fun hb => ?_) <;> (try subst hb) <;> cbv)
| (refine qv (i) (by (first | omega | (simp only [cst] at *; omega) | (simp only [sm] at *; omega))) ?_; cbv)
| (refine qv _ (hVi) ?_; cbv)
| (refine qv (i2) (by (first | omega | (simp only [cst] at *; omega) | (simp only [sm] at *; omega))) ?_; cbv)
| (refine qv _ (hWi) ?_; cbv)
| (refine callq (f1) rfl rfl ?_; cbv)
| (refine callq (f2) rfl rfl ?_; cbv)
| (refine callq (f3) rfl rfl ?_; cbv)))
            all_goals
              refine ⟨(i2 + 1, z), ⟨by show z = ((i2 + 1 : Nat) : Int); (first | omega | (simp only [cst] at *; omega) | (simp only [sm] at *; omega)), by show i2 + 1 ≤ 2; omega⟩, by show 2 - (i2 + 1) < 2 - i2; omega, ?_⟩
              cbv
              repeat' (first | exact rfl | exact trivial | apply And.intro)
          · obtain ⟨L, ok, r, f1, f2, f3, f4, f5⟩ := gDg
            clear gRn hV2E hVE hk
            skip
            (repeat' (first
| (refine QC.ff (fun h => h rfl) ?_; cbv)
| (refine q1w (fun z hz => ?_); (try simp only at hz); cbv)
| (refine rqw ?_; cbv)
| (refine QC.tw ?_; cbv)
| (refine QC.tt ?_ ?_; (focus (simp only [decide_true, Bool.and_true, Bool.and_self] <;> fail)); cbv)
| (refine QC.ff ?_ ?_; (focus (simp only [decide_true, Bool.and_true, Bool.and_self, decide_false, Bool.false_and, reduceCtorEq, not_false_eq_true] <;> fail)); cbv)
| (refine QC.fw ?_; cbv)
| (refine QC.mk (fun hc => ?_) (fun hc => ?_) <;> (try dsimp only at hc) <;> cbv)
| (refine br_mk2 (fun hb => ?_) (fun hb => ?_) <;> (try subst hb) <;> cbv)
| (refine qv (i) (by (first | omega | (simp only [cst] at *; omega) | (simp only [sm] at *; omega))) ?_; cbv)
| (refine qv _ (hVi) ?_; cbv)
| (refine callq (f1) rfl rfl ?_; cbv)
| (refine callq (f2) rfl rfl ?_; cbv)
| (refine callq (f3) rfl rfl ?_; cbv)
| (refine callq (f4) rfl rfl ?_; cbv)
| (refine callq (f5) rfl rfl ?_; cbv)))
            all_goals
              refine ⟨(i + 1, z), ⟨by show z = ((i + 1 : Nat) : Int); (first | omega | (simp only [cst] at *; omega) | (simp only [sm] at *; omega)), by show i + 1 ≤ 4; omega⟩, by show 4 - (i + 1) < 4 - i; omega, ?_⟩
              cbv
              repeat' (first | exact rfl | exact trivial | apply And.intro)
      | inr h3 =>
        have hi3 : i = 3 := by omega
        have hVi : V[i]? = some zRV := by rw [hi3]; exact hV3
        have gRn := fun p D hD hp => zrnd_e p D hD hp
        have gDg := zdg_e
        skip
        refine loopQ (A := Nat × Int) (fun p => p.2 = p.1 ∧ p.1 ≤ 2) (fun p => 2 - p.1) (fun p => [(16, .int .i64 p.2)]) (fun p => [(111, .row (some 5) 51 V2)]) (0, 0) ⟨rfl, by omega⟩ ?_ ?_
        · cbv
          rw [hV2]
          repeat' (first | exact rfl | exact trivial | apply And.intro)
        · intro ⟨i2, j2⟩ hh
          have hj2 : j2 = (i2 : Int) := hh.1
          have hi2 : i2 ≤ 2 := hh.2
          clear hh hV2
          have hmz : True := trivial
          cbv
          (repeat' (first
| (refine q1w (fun z hz => ?_); (try simp only at hz); cbv)
| (refine rqw ?_; cbv)
| (refine QC.tw ?_; cbv)
| (refine QC.tt ?_ ?_; (focus (simp only [decide_true, Bool.and_true, Bool.and_self] <;> fail)); cbv)
| (refine QC.ff ?_ ?_; (focus (simp only [decide_true, Bool.and_true, Bool.and_self, decide_false, Bool.false_and, reduceCtorEq, not_false_eq_true] <;> fail)); cbv)
| (refine QC.fw ?_; cbv)
| (refine QC.mk (fun hc => ?_) (fun hc => ?_) <;> (try dsimp only at hc) <;> cbv)
| (refine br_mk2 (fun hb => ?_) (fun hb => ?_) <;> (try subst hb) <;> cbv)))
          · have hlt2 : i2 < 2 := by (first | omega | (simp only [cst] at *; omega) | (simp only [sm] at *; omega))
            obtain ⟨p, X2, hWi, hX2, hpf⟩ := hV2E i2 hlt2
            obtain ⟨y, Y, bm, e, ok, f1, f2, f3⟩ := gRn p X2 hX2 hpf
            clear gRn gDg hV2E hVE hk hX2 hpf
            skip
            (repeat' (first
| (refine QC.ff (fun h => h rfl) ?_; cbv)
| (refine q1w (fun z hz => ?_); (try simp only at hz); cbv)
| (refine rqw ?_; cbv)
| (refine QC.tw ?_; cbv)
| (refine QC.tt ?_ ?_; (focus (simp only [decide_true, Bool.and_true, Bool.and_self] <;> fail)); cbv)
| (refine QC.ff ?_ ?_; (focus (simp only [decide_true, Bool.and_true, Bool.and_self, decide_false, Bool.false_and, reduceCtorEq, not_false_eq_true] <;> fail)); cbv)
| (refine QC.fw ?_; cbv)
| (refine QC.mk (fun hc => ?_) (fun hc => ?_) <;> (try dsimp only at hc) <;> cbv)
| (refine br_mk2 (fun hb => ?_) (fun hb => ?_) <;> (try subst hb) <;> cbv)
| (refine qv (i) (by (first | omega | (simp only [cst] at *; omega) | (simp only [sm] at *; omega))) ?_; cbv)
| (refine qv _ (hVi) ?_; cbv)
| (refine qv (i2) (by (first | omega | (simp only [cst] at *; omega) | (simp only [sm] at *; omega))) ?_; cbv)
| (refine qv _ (hWi) ?_; cbv)
| (refine callq (f1) rfl rfl ?_; cbv)
| (refine callq (f2) rfl rfl ?_; cbv)
| (refine callq (f3) rfl rfl ?_; cbv)))
            all_goals
              refine ⟨(i2 + 1, z), ⟨by show z = ((i2 + 1 : Nat) : Int); (first | omega | (simp only [cst] at *; omega) | (simp only [sm] at *; omega)), by show i2 + 1 ≤ 2; omega⟩, by show 2 - (i2 + 1) < 2 - i2; omega, ?_⟩
              cbv
              repeat' (first | exact rfl | exact trivial | apply And.intro)
          · obtain ⟨L, ok, r, f1, f2, f3, f4, f5⟩ := gDg
            clear gRn hV2E hVE hk
            skip
            (repeat' (first
| (refine QC.ff (fun h => h rfl) ?_; cbv)
| (refine q1w (fun z hz => ?_); (try simp only at hz); cbv)
| (refine rqw ?_; cbv)
| (refine QC.tw ?_; cbv)
| (refine QC.tt ?_ ?_; (focus (simp only [decide_true, Bool.and_true, Bool.and_self] <;> fail)); cbv)
| (refine QC.ff ?_ ?_; (focus (simp only [decide_true, Bool.and_true, Bool.and_self, decide_false, Bool.false_and, reduceCtorEq, not_false_eq_true] <;> fail)); cbv)
| (refine QC.fw ?_; cbv)
| (refine QC.mk (fun hc => ?_) (fun hc => ?_) <;> (try dsimp only at hc) <;> cbv)
| (refine br_mk2 (fun hb => ?_) (fun hb => ?_) <;> (try subst hb) <;> cbv)
| (refine qv (i) (by (first | omega | (simp only [cst] at *; omega) | (simp only [sm] at *; omega))) ?_; cbv)
| (refine qv _ (hVi) ?_; cbv)
| (refine callq (f1) rfl rfl ?_; cbv)
| (refine callq (f2) rfl rfl ?_; cbv)
| (refine callq (f3) rfl rfl ?_; cbv)
| (refine callq (f4) rfl rfl ?_; cbv)
| (refine callq (f5) rfl rfl ?_; cbv)))
            all_goals
              refine ⟨(i + 1, z), ⟨by show z = ((i + 1 : Nat) : Int); (first | omega | (simp only [cst] at *; omega) | (simp only [sm] at *; omega)), by show i + 1 ≤ 4; omega⟩, by show 4 - (i + 1) < 4 - i; omega, ?_⟩
              cbv
              repeat' (first | exact rfl | exact trivial | apply And.intro)
    · (refine callq (hk) rfl rfl ?_; cbv; (repeat' (first
| (refine q1w (fun z hz => ?_); (try simp only at hz); cbv)
| (refine rqw ?_; cbv)
| (refine QC.tw ?_; cbv)
| (refine QC.tt ?_ ?_; (focus (simp only [decide_true, Bool.and_true, Bool.and_self] <;> fail)); cbv)
| (refine QC.ff ?_ ?_; (focus (simp only [decide_true, Bool.and_true, Bool.and_self, decide_false, Bool.false_and, reduceCtorEq, not_false_eq_true] <;> fail)); cbv)
| (refine QC.fw ?_; cbv)
| (refine QC.mk (fun hc => ?_) (fun hc => ?_) <;> (try dsimp only at hc) <;> cbv)
| (refine br_mk2 (fun hb => ?_) (fun hb => ?_) <;> (try subst hb) <;> cbv))))
      exact ⟨rfl, rfl, rfl⟩
set_option maxRecDepth 8000 in
theorem receivers_11t
    (x0 : Rcv) (R0 : List SV) (hR0 : R0 = rowsB x0.ps) (hf0 : x0.fits) (hl0 : x0.ps.flatten.length ≤ 140737488351232) (p0 : Pce) (D0 : List SV) (hD0 : D0 = u8l p0.d) (hp0 : p0.fits) (Z T : List SV) (hT : T = Z.take 400)
    (st stg ak rd un : Int) (ps : List (List UInt8)) (R : List SV) (c1 : Int) (hstg : 0 ≤ stg ∧ stg ≤ 255) (hR : R = rowsB ps) (hsh : ∀ p ∈ ps, p.length ≤ 200) (hn1 : 1 ≤ ps.length ∧ ps.length ≤ 32)
    (gS : Good 11 (le 81 (.agg [.lst none T, .int .i64 0]) [] (.agg [.int .i64 st, .int .u8 stg, .lst none R, .int .u32 ak, .int .i64 rd, .int .i64 un]) (.agg [.lst none T, .int .i64 c1])))
    (rtg rcn rhv : Int) (rdn : Bool) (rps : List (List UInt8)) (Q : List SV) (c2 : Int) (hrf : Rcv.fits ⟨rtg, rcn, rps, rhv, rdn⟩) (hQ : Q = rowsB rps) (hrs : ∀ p ∈ rps, p.length ≤ 200) (hrc : rps.length ≤ 32) (hcn : 0 ≤ rcn ∧ rcn ≤ 32)
    (gC : Good 29 (le 81 (.agg [.lst none T, .int .i64 c1]) [.agg [.int .i64 st, .int .u8 stg, .lst none R, .int .u32 ak, .int .i64 rd, .int .i64 un]] (.agg [.int .u8 rtg, .int .i64 rcn, .lst none Q, .int .u32 rhv, .bool rdn]) (.agg [.lst none T, .int .i64 c2])))
    (np : Int) (hnp : np = ps.length) (n : Nat) (zn c3 : Int) (hzn : zn = n) (hnl : n < ps.length) (g3 : Good 12 (le 81 (.agg [.lst none T, .int .i64 c2]) [.int .i64 np] (.int .i64 zn) (.agg [.lst none T, .int .i64 c3])))
    (v6 c4 : Int) (hv6 : 0 ≤ v6 ∧ v6 < 6) (g4 : Good 12 (le 81 (.agg [.lst none T, .int .i64 c3]) [.int .i64 6] (.int .i64 v6) (.agg [.lst none T, .int .i64 c4])))
    (qa : Bool) (c5 : Int) (g5 : Good 30 (le 81 (.agg [.lst none T, .int .i64 c4]) [.int .i64 2] (.bool qa) (.agg [.lst none T, .int .i64 c5])))
    (c6 c7 c8 : Int) (t8 : Tp T c8) (bs : List UInt8) (hbs : bs.length ≤ 3)
    (g6 : Good 30 (le 81 (.agg [.lst none T, .int .i64 c5]) [.int .i64 4] (.bool true) (.agg [.lst none T, .int .i64 c6])))
    (hdn : rdn = true)
    (gB : Good 14 (leN 81 (.agg [.lst none T, .int .i64 c6]) [.int .i64 3] (.row 1) (.agg [.lst none T, .int .i64 c7]) (.row none 5 (u8l bs))))
    (g8 : Good 12 (le 81 (.agg [.lst none T, .int .i64 c7]) [.int .i64 4] (.int .i64 1) (.agg [.lst none T, .int .i64 c8]))) :
    Good 6 (pu [x0.w R0, pceV p0 D0, .lst none Z] (.bool true)) := by
  skip
  subst hdn
  have h0 := new_c Z T hT
  have hk := known_c
  have hRl : R.length = ps.length := by rw [hR, rowsB_len]
  obtain ⟨d, hd⟩ : ∃ d, d = ps.getD n [] := ⟨_, rfl⟩
  obtain ⟨D, hD⟩ : ∃ D, D = u8l d := ⟨_, rfl⟩
  have hRn : R[n]? = some (.lst none D) := by
    rw [hR, rowsB, List.getElem?_map, hD, hd, List.getD_eq_getElem?_getD, List.getElem?_eq_getElem hnl]; rfl
  have hdl : d.length ≤ 200 := by
    rw [hd, List.getD_eq_getElem?_getD, List.getElem?_eq_getElem hnl]
    exact hsh _ (List.getElem_mem hnl)
  have hnlR : n < R.length := by omega
  have hfl : rps.flatten.length ≤ 140737488351232 := by
    have h1 := flat_le2 rps 200 hrs
    have h2 : rps.length * 200 ≤ 32 * 200 := Nat.mul_le_mul_right _ hrc
    omega
  have hrt := hrf.tag
  have hrh := hrf.hv
  dsimp only at hrt hrh
  have hnpR : np = (R.length : Int) := by omega
  clear hd hT
  obtain ⟨BS, hBS⟩ : ∃ BS, BS = u8l bs := ⟨_, rfl⟩
  rw [← hBS] at gB
  skip
  refine Good.of Try.func6 rfl (by rfl) (by kernel_rfl) ?_
  cbv
  have hmk : True := trivial
  (repeat' (first
| (refine q1w (fun z hz => ?_); (try simp only at hz); cbv)
| (refine rqw ?_; cbv)
| (refine QC.tw ?_; cbv)
| (refine QC.tt ?_ ?_; (focus (simp only [decide_true, Bool.and_true, Bool.and_self] <;> fail)); cbv)
| (refine QC.ff ?_ ?_; (focus (simp only [decide_true, Bool.and_true, Bool.and_self, decide_false, Bool.false_and, reduceCtorEq, not_false_eq_true] <;> fail)); cbv)
| (refine QC.fw ?_; cbv)
| (refine QC.mk (fun hc => ?_) (fun hc => ?_) <;> (try dsimp only at hc) <;> cbv)
| (refine br_mk2 (fun hb => ?_) (fun hb => ?_) <;> (try subst hb) <;> cbv)
| (refine callq (h0) rfl rfl ?_; cbv)
| (refine callq (gS) rfl rfl ?_; cbv)
| (refine callq (gC) rfl rfl ?_; cbv)))
  have ez : np = z := by (first | omega | (simp only [cst] at *; omega) | (simp only [sm] at *; omega))
  subst ez
  (repeat' (first
| (refine q1w (fun z hz => ?_); (try simp only at hz); cbv)
| (refine rqw ?_; cbv)
| (refine QC.tw ?_; cbv)
| (refine QC.tt ?_ ?_; (focus (simp only [decide_true, Bool.and_true, Bool.and_self] <;> fail)); cbv)
| (refine QC.ff ?_ ?_; (focus (simp only [decide_true, Bool.and_true, Bool.and_self, decide_false, Bool.false_and, reduceCtorEq, not_false_eq_true] <;> fail)); cbv)
| (refine QC.fw ?_; cbv)
| (refine QC.mk (fun hc => ?_) (fun hc => ?_) <;> (try dsimp only at hc) <;> cbv)
| (refine br_mk2 (fun hb => ?_) (fun hb => ?_) <;> (try subst hb) <;> cbv)
| (refine callq (g3) rfl rfl ?_; cbv)
| (refine callq (g4) rfl rfl ?_; cbv)
| (refine callq (g5) rfl rfl ?_; cbv)))
  (refine qv (n, _) ⟨hzn, hRn⟩ ?_; cbv; (repeat' (first
| (refine q1w (fun z hz => ?_); (try simp only at hz); cbv)
| (refine rqw ?_; cbv)
| (refine QC.tw ?_; cbv)
| (refine QC.tt ?_ ?_; (focus (simp only [decide_true, Bool.and_true, Bool.and_self] <;> fail)); cbv)
| (refine QC.ff ?_ ?_; (focus (simp only [decide_true, Bool.and_true, Bool.and_self, decide_false, Bool.false_and, reduceCtorEq, not_false_eq_true] <;> fail)); cbv)
| (refine QC.fw ?_; cbv)
| (refine QC.mk (fun hc => ?_) (fun hc => ?_) <;> (try dsimp only at hc) <;> cbv)
| (refine br_mk2 (fun hb => ?_) (fun hb => ?_) <;> (try subst hb) <;> cbv))))
  rename_i zc hzc qt hqt
  have hqtb : 0 ≤ qt ∧ qt ≤ 255 := by (first | omega | (simp only [cst] at *; omega) | (simp only [sm] at *; omega))
  have ez : np = z := by (first | omega | (simp only [cst] at *; omega) | (simp only [sm] at *; omega))
  subst ez
  (refine callq (g6) rfl rfl ?_; cbv; (repeat' (first
| (refine q1w (fun z hz => ?_); (try simp only at hz); cbv)
| (refine rqw ?_; cbv)
| (refine QC.tw ?_; cbv)
| (refine QC.tt ?_ ?_; (focus (simp only [decide_true, Bool.and_true, Bool.and_self] <;> fail)); cbv)
| (refine QC.ff ?_ ?_; (focus (simp only [decide_true, Bool.and_true, Bool.and_self, decide_false, Bool.false_and, reduceCtorEq, not_false_eq_true] <;> fail)); cbv)
| (refine QC.fw ?_; cbv)
| (refine QC.mk (fun hc => ?_) (fun hc => ?_) <;> (try dsimp only at hc) <;> cbv)
| (refine br_mk2 (fun hb => ?_) (fun hb => ?_) <;> (try subst hb) <;> cbv))))
  (refine callq (gB) rfl rfl ?_; cbv; (repeat' (first
| (refine q1w (fun z hz => ?_); (try simp only at hz); cbv)
| (refine rqw ?_; cbv)
| (refine QC.tw ?_; cbv)
| (refine QC.tt ?_ ?_; (focus (simp only [decide_true, Bool.and_true, Bool.and_self] <;> fail)); cbv)
| (refine QC.ff ?_ ?_; (focus (simp only [decide_true, Bool.and_true, Bool.and_self, decide_false, Bool.false_and, reduceCtorEq, not_false_eq_true] <;> fail)); cbv)
| (refine QC.fw ?_; cbv)
| (refine QC.mk (fun hc => ?_) (fun hc => ?_) <;> (try dsimp only at hc) <;> cbv)
| (refine br_mk2 (fun hb => ?_) (fun hb => ?_) <;> (try subst hb) <;> cbv))))
  (refine callq (g8) rfl rfl ?_; cbv; (repeat' (first
| (refine q1w (fun z hz => ?_); (try simp only at hz); cbv)
| (refine rqw ?_; cbv)
| (refine QC.tw ?_; cbv)
| (refine QC.tt ?_ ?_; (focus (simp only [decide_true, Bool.and_true, Bool.and_self] <;> fail)); cbv)
| (refine QC.ff ?_ ?_; (focus (simp only [decide_true, Bool.and_true, Bool.and_self, decide_false, Bool.false_and, reduceCtorEq, not_false_eq_true] <;> fail)); cbv)
| (refine QC.fw ?_; cbv)
| (refine QC.mk (fun hc => ?_) (fun hc => ?_) <;> (try dsimp only at hc) <;> cbv)
| (refine br_mk2 (fun hb => ?_) (fun hb => ?_) <;> (try subst hb) <;> cbv))))
  obtain ⟨sp, hsp⟩ : ∃ sp : Rcv, sp = ⟨rtg, rcn, rps, rhv, false⟩ := ⟨_, rfl⟩
  obtain ⟨q, hqd⟩ : ∃ q : Pce, q = ⟨qt, zn, np, qa, bs⟩ := ⟨_, rfl⟩
  have hnpb : 0 ≤ np ∧ np ≤ 32 := by (first | omega | (simp only [cst] at *; omega) | (simp only [sm] at *; omega))
  have hznb : 0 ≤ zn ∧ zn ≤ 32 := by (first | omega | (simp only [cst] at *; omega) | (simp only [sm] at *; omega))
  have hq : q.fits := by rw [hqd]; exact ⟨hqtb, by dsimp only; omega, by dsimp only; omega, by dsimp only; omega⟩
  obtain ⟨E, hE0⟩ : ∃ E, E = BS := ⟨_, rfl⟩
  have hE : E = u8l q.d := by rw [hE0, hqd]; exact hBS
  skip
  have hspf : sp.fits := by
    rw [hsp]
    exact ⟨by dsimp only; omega, by dsimp only; omega, by dsimp only; omega, hrf.n, hrf.b⟩
  obtain ⟨V, hV⟩ : ∃ V : List SV, V = [x0.w R0, (⟨rtg, rcn, rps, rhv, true⟩ : Rcv).w Q, sp.w Q, zRV] := ⟨_, rfl⟩
  have hVE := v3_e x0 R0 hR0 hf0 hl0 ⟨rtg, rcn, rps, rhv, true⟩ Q hQ hrf hfl sp Q (by rw [hsp]; exact hQ) hspf (by rw [hsp]; exact hfl)
  rw [← hV] at hVE
  have hV3 : V[3]? = some zRV := by rw [hV]; rfl
  have hVl : V.length = 4 := by rw [hV]; rfl
  rw [hsp] at hV
  obtain ⟨V2, hV2⟩ : ∃ V : List SV, V = [pceV p0 D0, pceV q E] := ⟨_, rfl⟩
  have hV2E := p2_e p0 q D0 E hD0 hE hp0 hq
  rw [← hV2] at hV2E
  have hV2l : V2.length = 2 := by rw [hV2]; rfl
  rw [hqd] at hV2
  clear hsp hspf hqd hq hE
  rw [hE0] at hV2
  skip
  refine loopQF [67] (A := Nat × Int) (fun p => p.2 = p.1 ∧ p.1 ≤ 4) (fun p => 4 - p.1) (fun p => [(14, .int .i64 p.2)]) (fun p => [(67, .frz none BS), (102, .row (some 5) 55 V)]) (0, 0) ⟨rfl, by omega⟩ ?_ ?_
  · cbv
    rw [hV]
    repeat' (first | exact rfl | exact trivial | apply And.intro)
  · intro ⟨i, j⟩ hh
    have hj : j = (i : Int) := hh.1
    have hi : i ≤ 4 := hh.2
    clear hh hV
    have hmq : True := trivial
    cbv
    (repeat' (first
| (refine q1w (fun z hz => ?_); (try simp only at hz); cbv)
| (refine rqw ?_; cbv)
| (refine QC.tw ?_; cbv)
| (refine QC.tt ?_ ?_; (focus (simp only [decide_true, Bool.and_true, Bool.and_self] <;> fail)); cbv)
| (refine QC.ff ?_ ?_; (focus (simp only [decide_true, Bool.and_true, Bool.and_self, decide_false, Bool.false_and, reduceCtorEq, not_false_eq_true] <;> fail)); cbv)
| (refine QC.fw ?_; cbv)
| (refine QC.mk (fun hc => ?_) (fun hc => ?_) <;> (try dsimp only at hc) <;> cbv)
| (refine br_mk2 (fun hb => ?_) (fun hb => ?_) <;> (try subst hb) <;> cbv)))
    · have hlt : i < 4 := by (first | omega | (simp only [cst] at *; omega) | (simp only [sm] at *; omega))
      cases Nat.lt_or_ge i 3 with
      | inl h3 =>
        obtain ⟨x, X, hVi, hX, hxf, hxl⟩ := hVE i h3
        have gRn := fun p D hD hp => rrnd_e x X hX hxf p D hD hp
        have gDg := dg_e x X hX hxf hxl
        clear hX hxf hxl
        skip
        refine loopQ (A := Nat × Int) (fun p => p.2 = p.1 ∧ p.1 ≤ 2) (fun p => 2 - p.1) (fun p => [(16, .int .i64 p.2)]) (fun p => [(111, .row (some 5) 51 V2)]) (0, 0) ⟨rfl, by omega⟩ ?_ ?_
        · cbv
          rw [hV2]
          repeat' (first | exact rfl | exact trivial | apply And.intro)
        · intro ⟨i2, j2⟩ hh
          have hj2 : j2 = (i2 : Int) := hh.1
          have hi2 : i2 ≤ 2 := hh.2
          clear hh hV2
          have hmz : True := trivial
          cbv
          (repeat' (first
| (refine q1w (fun z hz => ?_); (try simp only at hz); cbv)
| (refine rqw ?_; cbv)
| (refine QC.tw ?_; cbv)
| (refine QC.tt ?_ ?_; (focus (simp only [decide_true, Bool.and_true, Bool.and_self] <;> fail)); cbv)
| (refine QC.ff ?_ ?_; (focus (simp only [decide_true, Bool.and_true, Bool.and_self, decide_false, Bool.false_and, reduceCtorEq, not_false_eq_true] <;> fail)); cbv)
| (refine QC.fw ?_; cbv)
| (refine QC.mk (fun hc => ?_) (fun hc => ?_) <;> (try dsimp only at hc) <;> cbv)
| (refine br_mk2 (fun hb => ?_) (fun hb => ?_) <;> (try subst hb) <;> cbv)))
          · have hlt2 : i2 < 2 := by (first | omega | (simp only [cst] at *; omega) | (simp only [sm] at *; omega))
            obtain ⟨p, X2, hWi, hX2, hpf⟩ := hV2E i2 hlt2
            obtain ⟨y, Y, bm, e, ok, f1, f2, f3⟩ := gRn p X2 hX2 hpf
            clear gRn gDg hV2E hVE hk hX2 hpf
            skip
            (repeat' (first
| (refine QC.ff (fun h => h rfl) ?_; cbv)
| (refine q1w (fun z hz => ?_); (try simp only at hz); cbv)
| (refine rqw ?_; cbv)
| (refine QC.tw ?_; cbv)
| (refine QC.tt ?_ ?_; (focus (simp only [decide_true, Bool.and_true, Bool.and_self] <;> fail)); cbv)
| (refine QC.ff ?_ ?_; (focus (simp only [decide_true, Bool.and_true, Bool.and_self, decide_false, Bool.false_and, reduceCtorEq, not_false_eq_true] <;> fail)); cbv)
| (refine QC.fw ?_; cbv)
| (refine QC.mk (fun hc => ?_) (fun hc => ?_) <;> (try dsimp only at hc) <;> cbv)
| (refine br_mk2 (fun hb => ?_) (fun hb => ?_) <;> (try subst hb) <;> cbv)
| (refine qv (i) (by (first | omega | (simp only [cst] at *; omega) | (simp only [sm] at *; omega))) ?_; cbv)
| (refine qv _ (hVi) ?_; cbv)
| (refine qv (i2) (by (first | omega | (simp only [cst] at *; omega) | (simp only [sm] at *; omega))) ?_; cbv)
| (refine qv _ (hWi) ?_; cbv)
| (refine callq (f1) rfl rfl ?_; cbv)
| (refine callq (f2) rfl rfl ?_; cbv)
| (refine callq (f3) rfl rfl ?_; cbv)))
            all_goals
              refine ⟨(i2 + 1, z), ⟨by show z = ((i2 + 1 : Nat) : Int); (first | omega | (simp only [cst] at *; omega) | (simp only [sm] at *; omega)), by show i2 + 1 ≤ 2; omega⟩, by show 2 - (i2 + 1) < 2 - i2; omega, ?_⟩
              cbv
              repeat' (first | exact rfl | exact trivial | apply And.intro)
          · obtain ⟨L, ok, r, f1, f2, f3, f4, f5⟩ := gDg
            clear gRn hV2E hVE hk
            skip
            (repeat' (first
| (refine QC.ff (fun h => h rfl) ?_; cbv)
| (refine q1w (fun z hz => ?_); (try simp only at hz); cbv)
| (refine rqw ?_; cbv)
| (refine QC.tw ?_; cbv)
| (refine QC.tt ?_ ?_; (focus (simp only [decide_true, Bool.and_true, Bool.and_self] <;> fail)); cbv)
| (refine QC.ff ?_ ?_; (focus (simp only [decide_true, Bool.and_true, Bool.and_self, decide_false, Bool.false_and, reduceCtorEq, not_false_eq_true] <;> fail)); cbv)
| (refine QC.fw ?_; cbv)
| (refine QC.mk (fun hc => ?_) (fun hc => ?_) <;> (try dsimp only at hc) <;> cbv)
| (refine br_mk2 (fun hb => ?_) (fun hb => ?_) <;> (try subst hb) <;> cbv)
| (refine qv (i) (by (first | omega | (simp only [cst] at *; omega) | (simp only [sm] at *; omega))) ?_; cbv)
| (refine qv _ (hVi) ?_; cbv)
| (refine callq (f1) rfl rfl ?_; cbv)
| (refine callq (f2) rfl rfl ?_; cbv)
| (refine callq (f3) rfl rfl ?_; cbv)
| (refine callq (f4) rfl rfl ?_; cbv)
| (refine callq (f5) rfl rfl ?_; cbv)))
            all_goals
              refine ⟨(i + 1, z), ⟨by show z = ((i + 1 : Nat) : Int); (first | omega | (simp only [cst] at *; omega) | (simp only [sm] at *; omega)), by show i + 1 ≤ 4; omega⟩, by show 4 - (i + 1) < 4 - i; omega, ?_⟩
              cbv
              repeat' (first | exact rfl | exact trivial | apply And.intro)
      | inr h3 =>
        have hi3 : i = 3 := by omega
        have hVi : V[i]? = some zRV := by rw [hi3]; exact hV3
        have gRn := fun p D hD hp => zrnd_e p D hD hp
        have gDg := zdg_e
        skip
        refine loopQ (A := Nat × Int) (fun p => p.2 = p.1 ∧ p.1 ≤ 2) (fun p => 2 - p.1) (fun p => [(16, .int .i64 p.2)]) (fun p => [(111, .row (some 5) 51 V2)]) (0, 0) ⟨rfl, by omega⟩ ?_ ?_
        · cbv
          rw [hV2]
          repeat' (first | exact rfl | exact trivial | apply And.intro)
        · intro ⟨i2, j2⟩ hh
          have hj2 : j2 = (i2 : Int) := hh.1
          have hi2 : i2 ≤ 2 := hh.2
          clear hh hV2
          have hmz : True := trivial
          cbv
          (repeat' (first
| (refine q1w (fun z hz => ?_); (try simp only at hz); cbv)
| (refine rqw ?_; cbv)
| (refine QC.tw ?_; cbv)
| (refine QC.tt ?_ ?_; (focus (simp only [decide_true, Bool.and_true, Bool.and_self] <;> fail)); cbv)
| (refine QC.ff ?_ ?_; (focus (simp only [decide_true, Bool.and_true, Bool.and_self, decide_false, Bool.false_and, reduceCtorEq, not_false_eq_true] <;> fail)); cbv)
| (refine QC.fw ?_; cbv)
| (refine QC.mk (fun hc => ?_) (fun hc => ?_) <;> (try dsimp only at hc) <;> cbv)
| (refine br_mk2 (fun hb => ?_) (fun hb => ?_) <;> (try subst hb) <;> cbv)))
          · have hlt2 : i2 < 2 := by (first | omega | (simp only [cst] at *; omega) | (simp only [sm] at *; omega))
            obtain ⟨p, X2, hWi, hX2, hpf⟩ := hV2E i2 hlt2
            obtain ⟨y, Y, bm, e, ok, f1, f2, f3⟩ := gRn p X2 hX2 hpf
            clear gRn gDg hV2E hVE hk hX2 hpf
            skip
            (repeat' (first
| (refine QC.ff (fun h => h rfl) ?_; cbv)
| (refine q1w (fun z hz => ?_); (try simp only at hz); cbv)
| (refine rqw ?_; cbv)
| (refine QC.tw ?_; cbv)
| (refine QC.tt ?_ ?_; (focus (simp only [decide_true, Bool.and_true, Bool.and_self] <;> fail)); cbv)
| (refine QC.ff ?_ ?_; (focus (simp only [decide_true, Bool.and_true, Bool.and_self, decide_false, Bool.false_and, reduceCtorEq, not_false_eq_true] <;> fail)); cbv)
| (refine QC.fw ?_; cbv)
| (refine QC.mk (fun hc => ?_) (fun hc => ?_) <;> (try dsimp only at hc) <;> cbv)
| (refine br_mk2 (fun hb => ?_) (fun hb => ?_) <;> (try subst hb) <;> cbv)
| (refine qv (i) (by (first | omega | (simp only [cst] at *; omega) | (simp only [sm] at *; omega))) ?_; cbv)
| (refine qv _ (hVi) ?_; cbv)
| (refine qv (i2) (by (first | omega | (simp only [cst] at *; omega) | (simp only [sm] at *; omega))) ?_; cbv)
| (refine qv _ (hWi) ?_; cbv)
| (refine callq (f1) rfl rfl ?_; cbv)
| (refine callq (f2) rfl rfl ?_; cbv)
| (refine callq (f3) rfl rfl ?_; cbv)))
            all_goals
              refine ⟨(i2 + 1, z), ⟨by show z = ((i2 + 1 : Nat) : Int); (first | omega | (simp only [cst] at *; omega) | (simp only [sm] at *; omega)), by show i2 + 1 ≤ 2; omega⟩, by show 2 - (i2 + 1) < 2 - i2; omega, ?_⟩
              cbv
              repeat' (first | exact rfl | exact trivial | apply And.intro)
          · obtain ⟨L, ok, r, f1, f2, f3, f4, f5⟩ := gDg
            clear gRn hV2E hVE hk
            skip
            (repeat' (first
| (refine QC.ff (fun h => h rfl) ?_; cbv)
| (refine q1w (fun z hz => ?_); (try simp only at hz); cbv)
| (refine rqw ?_; cbv)
| (refine QC.tw ?_; cbv)
| (refine QC.tt ?_ ?_; (focus (simp only [decide_true, Bool.and_true, Bool.and_self] <;> fail)); cbv)
| (refine QC.ff ?_ ?_; (focus (simp only [decide_true, Bool.and_true, Bool.and_self, decide_false, Bool.false_and, reduceCtorEq, not_false_eq_true] <;> fail)); cbv)
| (refine QC.fw ?_; cbv)
| (refine QC.mk (fun hc => ?_) (fun hc => ?_) <;> (try dsimp only at hc) <;> cbv)
| (refine br_mk2 (fun hb => ?_) (fun hb => ?_) <;> (try subst hb) <;> cbv)
| (refine qv (i) (by (first | omega | (simp only [cst] at *; omega) | (simp only [sm] at *; omega))) ?_; cbv)
| (refine qv _ (hVi) ?_; cbv)
| (refine callq (f1) rfl rfl ?_; cbv)
| (refine callq (f2) rfl rfl ?_; cbv)
| (refine callq (f3) rfl rfl ?_; cbv)
| (refine callq (f4) rfl rfl ?_; cbv)
| (refine callq (f5) rfl rfl ?_; cbv)))
            all_goals
              refine ⟨(i + 1, z), ⟨by show z = ((i + 1 : Nat) : Int); (first | omega | (simp only [cst] at *; omega) | (simp only [sm] at *; omega)), by show i + 1 ≤ 4; omega⟩, by show 4 - (i + 1) < 4 - i; omega, ?_⟩
              cbv
              repeat' (first | exact rfl | exact trivial | apply And.intro)
    · (refine callq (hk) rfl rfl ?_; cbv; (repeat' (first
| (refine q1w (fun z hz => ?_); (try simp only at hz); cbv)
| (refine rqw ?_; cbv)
| (refine QC.tw ?_; cbv)
| (refine QC.tt ?_ ?_; (focus (simp only [decide_true, Bool.and_true, Bool.and_self] <;> fail)); cbv)
| (refine QC.ff ?_ ?_; (focus (simp only [decide_true, Bool.and_true, Bool.and_self, decide_false, Bool.false_and, reduceCtorEq, not_false_eq_true] <;> fail)); cbv)
| (refine QC.fw ?_; cbv)
| (refine QC.mk (fun hc => ?_) (fun hc => ?_) <;> (try dsimp only at hc) <;> cbv)
| (refine br_mk2 (fun hb => ?_) (fun hb => ?_) <;> (try subst hb) <;> cbv))))
      exact ⟨rfl, rfl, rfl⟩
end Go.Proofs.Ytjhicdoigllblaa
