/- Texts put together: VZr WA WB VL WC WD WE WF VW WG WH WI WJ WL WM. -/
import Derived.Test.YtjhicdoigllblaaMe
/- The document's Receive for the zero receiver. -/
namespace Go.Proofs.Ytjhicdoigllblaa
set_option linter.unusedVariables false
set_option linter.unusedSimpArgs false
open Go.RowKit
set_option maxHeartbeats 8000000
set_option maxRecDepth 4000 in
theorem rrecv_z (tag n cnt : Int) (k : Bool) (d : List UInt8) (D : List SV) (hD : D = u8l d) (hd : d.length ≤ 140737488351232) (hp : valP n cnt d.length = true) (ps : List (List UInt8)) (hps : ps = List.replicate cnt.toNat []) (R : List SV) (hR : R = rowsB ps)
    (R' : List SV) (hR' : R' = rowsB (putP ps n.toNat d)) (h' : Int) (hh' : h' = hasN (putP ps n.toNat d) (putP ps n.toNat d).length) (b' : Bool) (hb' : b' = true ↔ h' = allI ps.length) :
    Good 32 (pu [.agg [.int .u8 0, .int .i64 0, .lst none [], .int .u32 0, .bool false], .agg [.int .u8 tag, .int .i64 n, .int .i64 cnt, .bool k, .lst none D]] (.tup [.agg [.int .u8 tag, .int .i64 cnt, .lst none R', .int .u32 h', .bool b'], .int .u32 (if k = true then h' else 0), .bool k, .int .i64 0])) := by
  have hRl : R.length = ps.length := by rw [hR, rowsB_len]
  have hDl : D.length = d.length := by rw [hD, u8l_len]
  have hpv := of_decide_eq_true hp
  have hcn : (ps.length : Int) = cnt := by rw [hps, List.length_replicate]; omega
  have hpb : ∀ p ∈ ps, p.length ≤ 140737488351232 := fun p h => by rw [hps] at h; rw [List.eq_of_mem_replicate h]; simp
  have g1 := rvreceiver_c 0 0 0 false [] [] rfl ⟨by decide, by decide, by decide, by decide, fun p h => by cases h⟩ true ⟨fun _ => .inl rfl, fun _ => rfl⟩
  have g2 := rvalid_c tag n cnt k D d.length true hDl hp.symm
  have g3 := rzero_c 0 0 0 false [] 0 rfl true rfl
  have g4 := copiedNil_c cnt.toNat (by omega)
  rw [← hps, ← hR, ← orp cnt .nil] at g4
  have g5 := cloned_c d D hD hd
  obtain ⟨q, hq⟩ : ∃ q, q = putP ps n.toNat d := ⟨_, rfl⟩
  have hql : q.length = ps.length := by rw [hq, putP_len]
  have hqb : ∀ p ∈ q, p.length ≤ 140737488351232 := fun p h => by
    rw [hq, putP] at h
    split at h
    · rcases List.mem_or_eq_of_mem_set h with h | h
      · exact hpb p h
      · rw [h]; exact hd
    · exact hpb p h
  rw [← hq] at hR' hh'
  have hv0 : hasN ps ps.length = 0 := by
    rw [hasN]
    have : ∀ k, bm (fun i => decide (0 < (ps.getD i []).length)) k = 0 := fun k => by
      induction k with
      | zero => rfl
      | succ k ih =>
        rw [bm, ih, if_neg]
        rw [hps, List.getD_eq_getElem?_getD]
        by_cases hk : k < cnt.toNat <;> simp [hk]
    exact this _
  obtain ⟨hv, hv9⟩ : ∃ hv : Int, hv = 0 := ⟨_, rfl⟩
  have hor : ((hv.toNat ||| 2 ^ n.toNat : Nat) : Int) = h' := by
    have e := hasN_put ps n.toNat d (by omega) (by omega)
    rw [← hq, hv0] at e
    rw [hh', ← e, hv9]; rfl
  subst hv9
  have g7 : ∀ N : Int, N = ps.length → Good 58 (pu [.int .i64 N] (.int .u32 (allI ps.length))) := fun N hN => rall_c ps.length N _ hN (by omega) rfl
  have g7 := g7 cnt hcn.symm
  obtain ⟨A, hA⟩ : ∃ A : Int, A = allI ps.length := ⟨_, rfl⟩
  rw [← hA] at g7 hb'
  have hnl : n.toNat < ps.length := by omega
  obtain ⟨bb, B, e1, e2, e3⟩ := rowsB_at hR n.toNat hnl
  have hBl : B.length = bb.length := by rw [e2, u8l_len]
  have hj : n = (n.toNat : Int) := by omega
  obtain ⟨i, hi⟩ : ∃ i, i = n.toNat := ⟨_, rfl⟩
  rw [← hi] at hj hnl e3
  have hput : (bb.length = 0 → R.set i (.lst none D) = R') ∧ (¬ bb.length = 0 → R = R') := by
    have hg : ps.getD n.toNat [] = bb := by rw [List.getD_eq_getElem?_getD, e1]; rfl
    rw [hR', hq, putP, hg, hi]
    refine ⟨fun h => ?_, fun h => ?_⟩
    · rw [if_pos h, hR, hD, rowsB_set]
    · rw [if_neg h, hR]
  have hbl : bb.length ≤ 140737488351232 := hpb bb (List.mem_of_getElem? e1)
  clear hp hR hR' hh' hq e1 e2 hD hA
  have hmk : True := trivial
  cases k
  · skip
    refine Good.of Try.func32 rfl (by rfl) (by kernel_rfl) ?_
    cbv
    (repeat' (first
    | (refine q1 (by first | exact trivial | omega | (dsimp only; omega) | exact pow62 _ (by omega) | exact mul9 (by omega) (by omega) | (simp only [sm] at *; omega)) (fun z hz => ?_); (try simp only at hz); cbv)
    | (refine rq (by first | exact trivial | omega | (dsimp only; omega) | (simp only [sm] at *; omega)) ?_; cbv)
    | (refine QC.tt (by first | omega | (dsimp only; omega) | exact rfl | (simp only [sm] at *; omega)) ?_; cbv)
    | (refine QC.tt ?_ ?_; (focus (simp only [decide_true, Bool.and_true, Bool.and_self] <;> fail)); cbv)
    | (refine QC.ff ?_ ?_; (focus (simp only [decide_true, Bool.and_true, Bool.and_self, decide_false, Bool.false_and, reduceCtorEq, not_false_eq_true] <;> fail)); cbv)
    | (refine QC.ff (by first | omega | (dsimp only; omega) | (simp only [sm] at *; omega)) ?_; cbv)
    | (refine QC.mk (fun hc => ?_) (fun hc => ?_) <;> (try dsimp only at hc) <;> cbv)
    | (refine br_mk2 (fun hb => ?_) (fun hb => ?_) <;> (try subst hb) <;> cbv)))
    (refine callq (g1) rfl rfl ?_; cbv; (repeat' (first
    | (refine q1 (by first | exact trivial | omega | (dsimp only; omega) | exact pow62 _ (by omega) | exact mul9 (by omega) (by omega) | (simp only [sm] at *; omega)) (fun z hz => ?_); (try simp only at hz); cbv)
    | (refine rq (by first | exact trivial | omega | (dsimp only; omega) | (simp only [sm] at *; omega)) ?_; cbv)
    | (refine QC.tt (by first | omega | (dsimp only; omega) | exact rfl | (simp only [sm] at *; omega)) ?_; cbv)
    | (refine QC.tt ?_ ?_; (focus (simp only [decide_true, Bool.and_true, Bool.and_self] <;> fail)); cbv)
    | (refine QC.ff ?_ ?_; (focus (simp only [decide_true, Bool.and_true, Bool.and_self, decide_false, Bool.false_and, reduceCtorEq, not_false_eq_true] <;> fail)); cbv)
    | (refine QC.ff (by first | omega | (dsimp only; omega) | (simp only [sm] at *; omega)) ?_; cbv)
    | (refine QC.mk (fun hc => ?_) (fun hc => ?_) <;> (try dsimp only at hc) <;> cbv)
    | (refine br_mk2 (fun hb => ?_) (fun hb => ?_) <;> (try subst hb) <;> cbv))))
    (refine callq (g2) rfl rfl ?_; cbv; (repeat' (first
    | (refine q1 (by first | exact trivial | omega | (dsimp only; omega) | exact pow62 _ (by omega) | exact mul9 (by omega) (by omega) | (simp only [sm] at *; omega)) (fun z hz => ?_); (try simp only at hz); cbv)
    | (refine rq (by first | exact trivial | omega | (dsimp only; omega) | (simp only [sm] at *; omega)) ?_; cbv)
    | (refine QC.tt (by first | omega | (dsimp only; omega) | exact rfl | (simp only [sm] at *; omega)) ?_; cbv)
    | (refine QC.tt ?_ ?_; (focus (simp only [decide_true, Bool.and_true, Bool.and_self] <;> fail)); cbv)
    | (refine QC.ff ?_ ?_; (focus (simp only [decide_true, Bool.and_true, Bool.and_self, decide_false, Bool.false_and, reduceCtorEq, not_false_eq_true] <;> fail)); cbv)
    | (refine QC.ff (by first | omega | (dsimp only; omega) | (simp only [sm] at *; omega)) ?_; cbv)
    | (refine QC.mk (fun hc => ?_) (fun hc => ?_) <;> (try dsimp only at hc) <;> cbv)
    | (refine br_mk2 (fun hb => ?_) (fun hb => ?_) <;> (try subst hb) <;> cbv))))
    (refine callq (g3) rfl rfl ?_; cbv; (repeat' (first
    | (refine q1 (by first | exact trivial | omega | (dsimp only; omega) | exact pow62 _ (by omega) | exact mul9 (by omega) (by omega) | (simp only [sm] at *; omega)) (fun z hz => ?_); (try simp only at hz); cbv)
    | (refine rq (by first | exact trivial | omega | (dsimp only; omega) | (simp only [sm] at *; omega)) ?_; cbv)
    | (refine QC.tt (by first | omega | (dsimp only; omega) | exact rfl | (simp only [sm] at *; omega)) ?_; cbv)
    | (refine QC.tt ?_ ?_; (focus (simp only [decide_true, Bool.and_true, Bool.and_self] <;> fail)); cbv)
    | (refine QC.ff ?_ ?_; (focus (simp only [decide_true, Bool.and_true, Bool.and_self, decide_false, Bool.false_and, reduceCtorEq, not_false_eq_true] <;> fail)); cbv)
    | (refine QC.ff (by first | omega | (dsimp only; omega) | (simp only [sm] at *; omega)) ?_; cbv)
    | (refine QC.mk (fun hc => ?_) (fun hc => ?_) <;> (try dsimp only at hc) <;> cbv)
    | (refine br_mk2 (fun hb => ?_) (fun hb => ?_) <;> (try subst hb) <;> cbv))))
    (refine callq (g4) rfl rfl ?_; cbv; (repeat' (first
    | (refine q1 (by first | exact trivial | omega | (dsimp only; omega) | exact pow62 _ (by omega) | exact mul9 (by omega) (by omega) | (simp only [sm] at *; omega)) (fun z hz => ?_); (try simp only at hz); cbv)
    | (refine rq (by first | exact trivial | omega | (dsimp only; omega) | (simp only [sm] at *; omega)) ?_; cbv)
    | (refine QC.tt (by first | omega | (dsimp only; omega) | exact rfl | (simp only [sm] at *; omega)) ?_; cbv)
    | (refine QC.tt ?_ ?_; (focus (simp only [decide_true, Bool.and_true, Bool.and_self] <;> fail)); cbv)
    | (refine QC.ff ?_ ?_; (focus (simp only [decide_true, Bool.and_true, Bool.and_self, decide_false, Bool.false_and, reduceCtorEq, not_false_eq_true] <;> fail)); cbv)
    | (refine QC.ff (by first | omega | (dsimp only; omega) | (simp only [sm] at *; omega)) ?_; cbv)
    | (refine QC.mk (fun hc => ?_) (fun hc => ?_) <;> (try dsimp only at hc) <;> cbv)
    | (refine br_mk2 (fun hb => ?_) (fun hb => ?_) <;> (try subst hb) <;> cbv))))
    (refine qv (i) (by (first | omega | (simp only [cst] at *; omega) | (simp only [sm] at *; omega))) ?_; cbv; (repeat' (first
    | (refine q1 (by first | exact trivial | omega | (dsimp only; omega) | exact pow62 _ (by omega) | exact mul9 (by omega) (by omega) | (simp only [sm] at *; omega)) (fun z hz => ?_); (try simp only at hz); cbv)
    | (refine rq (by first | exact trivial | omega | (dsimp only; omega) | (simp only [sm] at *; omega)) ?_; cbv)
    | (refine QC.tt (by first | omega | (dsimp only; omega) | exact rfl | (simp only [sm] at *; omega)) ?_; cbv)
    | (refine QC.tt ?_ ?_; (focus (simp only [decide_true, Bool.and_true, Bool.and_self] <;> fail)); cbv)
    | (refine QC.ff ?_ ?_; (focus (simp only [decide_true, Bool.and_true, Bool.and_self, decide_false, Bool.false_and, reduceCtorEq, not_false_eq_true] <;> fail)); cbv)
    | (refine QC.ff (by first | omega | (dsimp only; omega) | (simp only [sm] at *; omega)) ?_; cbv)
    | (refine QC.mk (fun hc => ?_) (fun hc => ?_) <;> (try dsimp only at hc) <;> cbv)
    | (refine br_mk2 (fun hb => ?_) (fun hb => ?_) <;> (try subst hb) <;> cbv))))
    (refine qv _ (e3) ?_; cbv; (repeat' (first
    | (refine q1 (by first | exact trivial | omega | (dsimp only; omega) | exact pow62 _ (by omega) | exact mul9 (by omega) (by omega) | (simp only [sm] at *; omega)) (fun z hz => ?_); (try simp only at hz); cbv)
    | (refine rq (by first | exact trivial | omega | (dsimp only; omega) | (simp only [sm] at *; omega)) ?_; cbv)
    | (refine QC.tt (by first | omega | (dsimp only; omega) | exact rfl | (simp only [sm] at *; omega)) ?_; cbv)
    | (refine QC.tt ?_ ?_; (focus (simp only [decide_true, Bool.and_true, Bool.and_self] <;> fail)); cbv)
    | (refine QC.ff ?_ ?_; (focus (simp only [decide_true, Bool.and_true, Bool.and_self, decide_false, Bool.false_and, reduceCtorEq, not_false_eq_true] <;> fail)); cbv)
    | (refine QC.ff (by first | omega | (dsimp only; omega) | (simp only [sm] at *; omega)) ?_; cbv)
    | (refine QC.mk (fun hc => ?_) (fun hc => ?_) <;> (try dsimp only at hc) <;> cbv)
    | (refine br_mk2 (fun hb => ?_) (fun hb => ?_) <;> (try subst hb) <;> cbv))))
    · have hS : O.st R i (.lst none D) = R' := by rw [ost]; exact hput.1 (by (first | omega | (simp only [cst] at *; omega) | (simp only [sm] at *; omega)))
      (refine qv (i) (by (first | omega | (simp only [cst] at *; omega) | (simp only [sm] at *; omega))) ?_; cbv; (repeat' (first
    | (refine q1 (by first | exact trivial | omega | (dsimp only; omega) | exact pow62 _ (by omega) | exact mul9 (by omega) (by omega) | (simp only [sm] at *; omega)) (fun z hz => ?_); (try simp only at hz); cbv)
    | (refine rq (by first | exact trivial | omega | (dsimp only; omega) | (simp only [sm] at *; omega)) ?_; cbv)
    | (refine QC.tt (by first | omega | (dsimp only; omega) | exact rfl | (simp only [sm] at *; omega)) ?_; cbv)
    | (refine QC.tt ?_ ?_; (focus (simp only [decide_true, Bool.and_true, Bool.and_self] <;> fail)); cbv)
    | (refine QC.ff ?_ ?_; (focus (simp only [decide_true, Bool.and_true, Bool.and_self, decide_false, Bool.false_and, reduceCtorEq, not_false_eq_true] <;> fail)); cbv)
    | (refine QC.ff (by first | omega | (dsimp only; omega) | (simp only [sm] at *; omega)) ?_; cbv)
    | (refine QC.mk (fun hc => ?_) (fun hc => ?_) <;> (try dsimp only at hc) <;> cbv)
    | (refine br_mk2 (fun hb => ?_) (fun hb => ?_) <;> (try subst hb) <;> cbv))))
      refine chA ?_
      cbv
      (repeat' (first
    | (refine q1 (by first | exact trivial | omega | (dsimp only; omega) | exact pow62 _ (by omega) | exact mul9 (by omega) (by omega) | (simp only [sm] at *; omega)) (fun z hz => ?_); (try simp only at hz); cbv)
    | (refine rq (by first | exact trivial | omega | (dsimp only; omega) | (simp only [sm] at *; omega)) ?_; cbv)
    | (refine QC.tt (by first | omega | (dsimp only; omega) | exact rfl | (simp only [sm] at *; omega)) ?_; cbv)
    | (refine QC.tt ?_ ?_; (focus (simp only [decide_true, Bool.and_true, Bool.and_self] <;> fail)); cbv)
    | (refine QC.ff ?_ ?_; (focus (simp only [decide_true, Bool.and_true, Bool.and_self, decide_false, Bool.false_and, reduceCtorEq, not_false_eq_true] <;> fail)); cbv)
    | (refine QC.ff (by first | omega | (dsimp only; omega) | (simp only [sm] at *; omega)) ?_; cbv)
    | (refine QC.mk (fun hc => ?_) (fun hc => ?_) <;> (try dsimp only at hc) <;> cbv)
    | (refine br_mk2 (fun hb => ?_) (fun hb => ?_) <;> (try subst hb) <;> cbv)))
      rename_i zj hzj zs hzs
      have hzh : z = h' := by
        have ej : zj.toNat = n.toNat := by (first | omega | (simp only [cst] at *; omega) | (simp only [sm] at *; omega))
        have e2 : (2 : Nat) ^ n.toNat < 4294967296 := by
          have : (2 : Nat) ^ n.toNat ≤ 2 ^ 31 := Nat.pow_le_pow_right (by omega) (by omega)
          omega
        have e3 : zs = ((2 ^ n.toNat : Nat) : Int) := by
          rw [hzs, ej, Int.one_mul]
          have : (2 : Int) ^ n.toNat = ((2 ^ n.toNat : Nat) : Int) := by simp
          have e5 : ∀ p : Nat, p < 4294967296 → (p : Int) % 4294967296 = p := fun p hp => by omega
          rw [this]
          exact e5 _ e2
        rw [hz, e3, Int.toNat_natCast]
        exact hor
      clear hz hor
      subst hzh
      (refine callq (g7) rfl rfl ?_; cbv; (repeat' (first
    | (refine q1 (by first | exact trivial | omega | (dsimp only; omega) | exact pow62 _ (by omega) | exact mul9 (by omega) (by omega) | (simp only [sm] at *; omega)) (fun z hz => ?_); (try simp only at hz); cbv)
    | (refine rq (by first | exact trivial | omega | (dsimp only; omega) | (simp only [sm] at *; omega)) ?_; cbv)
    | (refine QC.tt (by first | omega | (dsimp only; omega) | exact rfl | (simp only [sm] at *; omega)) ?_; cbv)
    | (refine QC.tt ?_ ?_; (focus (simp only [decide_true, Bool.and_true, Bool.and_self] <;> fail)); cbv)
    | (refine QC.ff ?_ ?_; (focus (simp only [decide_true, Bool.and_true, Bool.and_self, decide_false, Bool.false_and, reduceCtorEq, not_false_eq_true] <;> fail)); cbv)
    | (refine QC.ff (by first | omega | (dsimp only; omega) | (simp only [sm] at *; omega)) ?_; cbv)
    | (refine QC.mk (fun hc => ?_) (fun hc => ?_) <;> (try dsimp only at hc) <;> cbv)
    | (refine br_mk2 (fun hb => ?_) (fun hb => ?_) <;> (try subst hb) <;> cbv))))
      · have eb : b' = true := hb'.2 hc
        refine Fin.mk ?_ rfl rfl
        rw [eb, ← hS]
        try rfl
      · have eb : b' = false := by
          cases hbb : b'
          · rfl
          · exact absurd (hb'.1 hbb) hc
        refine Fin.mk ?_ rfl rfl
        rw [eb, ← hS]
        try rfl
    · have hS : R = R' := hput.2 (by (first | omega | (simp only [cst] at *; omega) | (simp only [sm] at *; omega)))
      skip
      rename_i zj hzj zs hzs
      have hzh : z = h' := by
        have ej : zj.toNat = n.toNat := by (first | omega | (simp only [cst] at *; omega) | (simp only [sm] at *; omega))
        have e2 : (2 : Nat) ^ n.toNat < 4294967296 := by
          have : (2 : Nat) ^ n.toNat ≤ 2 ^ 31 := Nat.pow_le_pow_right (by omega) (by omega)
          omega
        have e3 : zs = ((2 ^ n.toNat : Nat) : Int) := by
          rw [hzs, ej, Int.one_mul]
          have : (2 : Int) ^ n.toNat = ((2 ^ n.toNat : Nat) : Int) := by simp
          have e5 : ∀ p : Nat, p < 4294967296 → (p : Int) % 4294967296 = p := fun p hp => by omega
          rw [this]
          exact e5 _ e2
        rw [hz, e3, Int.toNat_natCast]
        exact hor
      clear hz hor
      subst hzh
      (refine callq (g7) rfl rfl ?_; cbv; (repeat' (first
    | (refine q1 (by first | exact trivial | omega | (dsimp only; omega) | exact pow62 _ (by omega) | exact mul9 (by omega) (by omega) | (simp only [sm] at *; omega)) (fun z hz => ?_); (try simp only at hz); cbv)
    | (refine rq (by first | exact trivial | omega | (dsimp only; omega) | (simp only [sm] at *; omega)) ?_; cbv)
    | (refine QC.tt (by first | omega | (dsimp only; omega) | exact rfl | (simp only [sm] at *; omega)) ?_; cbv)
    | (refine QC.tt ?_ ?_; (focus (simp only [decide_true, Bool.and_true, Bool.and_self] <;> fail)); cbv)
    | (refine QC.ff ?_ ?_; (focus (simp only [decide_true, Bool.and_true, Bool.and_self, decide_false, Bool.false_and, reduceCtorEq, not_false_eq_true] <;> fail)); cbv)
    | (refine QC.ff (by first | omega | (dsimp only; omega) | (simp only [sm] at *; omega)) ?_; cbv)
    | (refine QC.mk (fun hc => ?_) (fun hc => ?_) <;> (try dsimp only at hc) <;> cbv)
    | (refine br_mk2 (fun hb => ?_) (fun hb => ?_) <;> (try subst hb) <;> cbv))))
      · have eb : b' = true := hb'.2 hc
        refine Fin.mk ?_ rfl rfl
        rw [eb, ← hS]
        try rfl
      · have eb : b' = false := by
          cases hbb : b'
          · rfl
          · exact absurd (hb'.1 hbb) hc
        refine Fin.mk ?_ rfl rfl
        rw [eb, ← hS]
        try rfl
  · skip
    refine Good.of Try.func32 rfl (by rfl) (by kernel_rfl) ?_
    cbv
    (repeat' (first
    | (refine q1 (by first | exact trivial | omega | (dsimp only; omega) | exact pow62 _ (by omega) | exact mul9 (by omega) (by omega) | (simp only [sm] at *; omega)) (fun z hz => ?_); (try simp only at hz); cbv)
    | (refine rq (by first | exact trivial | omega | (dsimp only; omega) | (simp only [sm] at *; omega)) ?_; cbv)
    | (refine QC.tt (by first | omega | (dsimp only; omega) | exact rfl | (simp only [sm] at *; omega)) ?_; cbv)
    | (refine QC.tt ?_ ?_; (focus (simp only [decide_true, Bool.and_true, Bool.and_self] <;> fail)); cbv)
    | (refine QC.ff ?_ ?_; (focus (simp only [decide_true, Bool.and_true, Bool.and_self, decide_false, Bool.false_and, reduceCtorEq, not_false_eq_true] <;> fail)); cbv)
    | (refine QC.ff (by first | omega | (dsimp only; omega) | (simp only [sm] at *; omega)) ?_; cbv)
    | (refine QC.mk (fun hc => ?_) (fun hc => ?_) <;> (try dsimp only at hc) <;> cbv)
    | (refine br_mk2 (fun hb => ?_) (fun hb => ?_) <;> (try subst hb) <;> cbv)))
    (refine callq (g1) rfl rfl ?_; cbv; (repeat' (first
    | (refine q1 (by first | exact trivial | omega | (dsimp only; omega) | exact pow62 _ (by omega) | exact mul9 (by omega) (by omega) | (simp only [sm] at *; omega)) (fun z hz => ?_); (try simp only at hz); cbv)
    | (refine rq (by first | exact trivial | omega | (dsimp only; omega) | (simp only [sm] at *; omega)) ?_; cbv)
    | (refine QC.tt (by first | omega | (dsimp only; omega) | exact rfl | (simp only [sm] at *; omega)) ?_; cbv)
    | (refine QC.tt ?_ ?_; (focus (simp only [decide_true, Bool.and_true, Bool.and_self] <;> fail)); cbv)
    | (refine QC.ff ?_ ?_; (focus (simp only [decide_true, Bool.and_true, Bool.and_self, decide_false, Bool.false_and, reduceCtorEq, not_false_eq_true] <;> fail)); cbv)
    | (refine QC.ff (by first | omega | (dsimp only; omega) | (simp only [sm] at *; omega)) ?_; cbv)
    | (refine QC.mk (fun hc => ?_) (fun hc => ?_) <;> (try dsimp only at hc) <;> cbv)
    | (refine br_mk2 (fun hb => ?_) (fun hb => ?_) <;> (try subst hb) <;> cbv))))
    (refine callq (g2) rfl rfl ?_; cbv; (repeat' (first
    | (refine q1 (by first | exact trivial | omega | (dsimp only; omega) | exact pow62 _ (by omega) | exact mul9 (by omega) (by omega) | (simp only [sm] at *; omega)) (fun z hz => ?_); (try simp only at hz); cbv)
    | (refine rq (by first | exact trivial | omega | (dsimp only; omega) | (simp only [sm] at *; omega)) ?_; cbv)
    | (refine QC.tt (by first | omega | (dsimp only; omega) | exact rfl | (simp only [sm] at *; omega)) ?_; cbv)
    | (refine QC.tt ?_ ?_; (focus (simp only [decide_true, Bool.and_true, Bool.and_self] <;> fail)); cbv)
    | (refine QC.ff ?_ ?_; (focus (simp only [decide_true, Bool.and_true, Bool.and_self, decide_false, Bool.false_and, reduceCtorEq, not_false_eq_true] <;> fail)); cbv)
    | (refine QC.ff (by first | omega | (dsimp only; omega) | (simp only [sm] at *; omega)) ?_; cbv)
    | (refine QC.mk (fun hc => ?_) (fun hc => ?_) <;> (try dsimp only at hc) <;> cbv)
    | (refine br_mk2 (fun hb => ?_) (fun hb => ?_) <;> (try subst hb) <;> cbv))))
    (refine callq (g3) rfl rfl ?_; cbv; (repeat' (first
    | (refine q1 (by first | exact trivial | omega | (dsimp only; omega) | exact pow62 _ (by omega) | exact mul9 (by omega) (by omega) | (simp only [sm] at *; omega)) (fun z hz => ?_); (try simp only at hz); cbv)
    | (refine rq (by first | exact trivial | omega | (dsimp only; omega) | (simp only [sm] at *; omega)) ?_; cbv)
    | (refine QC.tt (by first | omega | (dsimp only; omega) | exact rfl | (simp only [sm] at *; omega)) ?_; cbv)
    | (refine QC.tt ?_ ?_; (focus (simp only [decide_true, Bool.and_true, Bool.and_self] <;> fail)); cbv)
    | (refine QC.ff ?_ ?_; (focus (simp only [decide_true, Bool.and_true, Bool.and_self, decide_false, Bool.false_and, reduceCtorEq, not_false_eq_true] <;> fail)); cbv)
    | (refine QC.ff (by first | omega | (dsimp only; omega) | (simp only [sm] at *; omega)) ?_; cbv)
    | (refine QC.mk (fun hc => ?_) (fun hc => ?_) <;> (try dsimp only at hc) <;> cbv)
    | (refine br_mk2 (fun hb => ?_) (fun hb => ?_) <;> (try subst hb) <;> cbv))))
    (refine callq (g4) rfl rfl ?_; cbv; (repeat' (first
    | (refine q1 (by first | exact trivial | omega | (dsimp only; omega) | exact pow62 _ (by omega) | exact mul9 (by omega) (by omega) | (simp only [sm] at *; omega)) (fun z hz => ?_); (try simp only at hz); cbv)
    | (refine rq (by first | exact trivial | omega | (dsimp only; omega) | (simp only [sm] at *; omega)) ?_; cbv)
    | (refine QC.tt (by first | omega | (dsimp only; omega) | exact rfl | (simp only [sm] at *; omega)) ?_; cbv)
    | (refine QC.tt ?_ ?_; (focus (simp only [decide_true, Bool.and_true, Bool.and_self] <;> fail)); cbv)
    | (refine QC.ff ?_ ?_; (focus (simp only [decide_true, Bool.and_true, Bool.and_self, decide_false, Bool.false_and, reduceCtorEq, not_false_eq_true] <;> fail)); cbv)
    | (refine QC.ff (by first | omega | (dsimp only; omega) | (simp only [sm] at *; omega)) ?_; cbv)
    | (refine QC.mk (fun hc => ?_) (fun hc => ?_) <;> (try dsimp only at hc) <;> cbv)
    | (refine br_mk2 (fun hb => ?_) (fun hb => ?_) <;> (try subst hb) <;> cbv))))
    (refine qv (i) (by (first | omega | (simp only [cst] at *; omega) | (simp only [sm] at *; omega))) ?_; cbv; (repeat' (first
    | (refine q1 (by first | exact trivial | omega | (dsimp only; omega) | exact pow62 _ (by omega) | exact mul9 (by omega) (by omega) | (simp only [sm] at *; omega)) (fun z hz => ?_); (try simp only at hz); cbv)
    | (refine rq (by first | exact trivial | omega | (dsimp only; omega) | (simp only [sm] at *; omega)) ?_; cbv)
    | (refine QC.tt (by first | omega | (dsimp only; omega) | exact rfl | (simp only [sm] at *; omega)) ?_; cbv)
    | (refine QC.tt ?_ ?_; (focus (simp only [decide_true, Bool.and_true, Bool.and_self] <;> fail)); cbv)
    | (refine QC.ff ?_ ?_; (focus (simp only [decide_true, Bool.and_true, Bool.and_self, decide_false, Bool.false_and, reduceCtorEq, not_false_eq_true] <;> fail)); cbv)
    | (refine QC.ff (by first | omega | (dsimp only; omega) | (simp only [sm] at *; omega)) ?_; cbv)
    | (refine QC.mk (fun hc => ?_) (fun hc => ?_) <;> (try dsimp only at hc) <;> cbv)
    | (refine br_mk2 (fun hb => ?_) (fun hb => ?_) <;> (try subst hb) <;> cbv))))
    (refine qv _ (e3) ?_; cbv; (repeat' (first
    | (refine q1 (by first | exact trivial | omega | (dsimp only; omega) | exact pow62 _ (by omega) | exact mul9 (by omega) (by omega) | (simp only [sm] at *; omega)) (fun z hz => ?_); (try simp only at hz); cbv)
    | (refine rq (by first | exact trivial | omega | (dsimp only; omega) | (simp only [sm] at *; omega)) ?_; cbv)
    | (refine QC.tt (by first | omega | (dsimp only; omega) | exact rfl | (simp only [sm] at *; omega)) ?_; cbv)
    | (refine QC.tt ?_ ?_; (focus (simp only [decide_true, Bool.and_true, Bool.and_self] <;> fail)); cbv)
    | (refine QC.ff ?_ ?_; (focus (simp only [decide_true, Bool.and_true, Bool.and_self, decide_false, Bool.false_and, reduceCtorEq, not_false_eq_true] <;> fail)); cbv)
    | (refine QC.ff (by first | omega | (dsimp only; omega) | (simp only [sm] at *; omega)) ?_; cbv)
    | (refine QC.mk (fun hc => ?_) (fun hc => ?_) <;> (try dsimp only at hc) <;> cbv)
    | (refine br_mk2 (fun hb => ?_) (fun hb => ?_) <;> (try subst hb) <;> cbv))))
    · have hS : O.st R i (.lst none D) = R' := by rw [ost]; exact hput.1 (by (first | omega | (simp only [cst] at *; omega) | (simp only [sm] at *; omega)))
      (refine qv (i) (by (first | omega | (simp only [cst] at *; omega) | (simp only [sm] at *; omega))) ?_; cbv; (repeat' (first
    | (refine q1 (by first | exact trivial | omega | (dsimp only; omega) | exact pow62 _ (by omega) | exact mul9 (by omega) (by omega) | (simp only [sm] at *; omega)) (fun z hz => ?_); (try simp only at hz); cbv)
    | (refine rq (by first | exact trivial | omega | (dsimp only; omega) | (simp only [sm] at *; omega)) ?_; cbv)
    | (refine QC.tt (by first | omega | (dsimp only; omega) | exact rfl | (simp only [sm] at *; omega)) ?_; cbv)
    | (refine QC.tt ?_ ?_; (focus (simp only [decide_true, Bool.and_true, Bool.and_self] <;> fail)); cbv)
    | (refine QC.ff ?_ ?_; (focus (simp only [decide_true, Bool.and_true, Bool.and_self, decide_false, Bool.false_and, reduceCtorEq, not_false_eq_true] <;> fail)); cbv)
    | (refine QC.ff (by first | omega | (dsimp only; omega) | (simp only [sm] at *; omega)) ?_; cbv)
    | (refine QC.mk (fun hc => ?_) (fun hc => ?_) <;> (try dsimp only at hc) <;> cbv)
    | (refine br_mk2 (fun hb => ?_) (fun hb => ?_) <;> (try subst hb) <;> cbv))))
      refine chA ?_
      cbv
      (repeat' (first
    | (refine q1 (by first | exact trivial | omega | (dsimp only; omega) | exact pow62 _ (by omega) | exact mul9 (by omega) (by omega) | (simp only [sm] at *; omega)) (fun z hz => ?_); (try simp only at hz); cbv)
    | (refine rq (by first | exact trivial | omega | (dsimp only; omega) | (simp only [sm] at *; omega)) ?_; cbv)
    | (refine QC.tt (by first | omega | (dsimp only; omega) | exact rfl | (simp only [sm] at *; omega)) ?_; cbv)
    | (refine QC.tt ?_ ?_; (focus (simp only [decide_true, Bool.and_true, Bool.and_self] <;> fail)); cbv)
    | (refine QC.ff ?_ ?_; (focus (simp only [decide_true, Bool.and_true, Bool.and_self, decide_false, Bool.false_and, reduceCtorEq, not_false_eq_true] <;> fail)); cbv)
    | (refine QC.ff (by first | omega | (dsimp only; omega) | (simp only [sm] at *; omega)) ?_; cbv)
    | (refine QC.mk (fun hc => ?_) (fun hc => ?_) <;> (try dsimp only at hc) <;> cbv)
    | (refine br_mk2 (fun hb => ?_) (fun hb => ?_) <;> (try subst hb) <;> cbv)))
      rename_i zj hzj zs hzs
      have hzh : z = h' := by
        have ej : zj.toNat = n.toNat := by (first | omega | (simp only [cst] at *; omega) | (simp only [sm] at *; omega))
        have e2 : (2 : Nat) ^ n.toNat < 4294967296 := by
          have : (2 : Nat) ^ n.toNat ≤ 2 ^ 31 := Nat.pow_le_pow_right (by omega) (by omega)
          omega
        have e3 : zs = ((2 ^ n.toNat : Nat) : Int) := by
          rw [hzs, ej, Int.one_mul]
          have : (2 : Int) ^ n.toNat = ((2 ^ n.toNat : Nat) : Int) := by simp
          have e5 : ∀ p : Nat, p < 4294967296 → (p : Int) % 4294967296 = p := fun p hp => by omega
          rw [this]
          exact e5 _ e2
        rw [hz, e3, Int.toNat_natCast]
        exact hor
      clear hz hor
      subst hzh
      (refine callq (g7) rfl rfl ?_; cbv; (repeat' (first
    | (refine q1 (by first | exact trivial | omega | (dsimp only; omega) | exact pow62 _ (by omega) | exact mul9 (by omega) (by omega) | (simp only [sm] at *; omega)) (fun z hz => ?_); (try simp only at hz); cbv)
    | (refine rq (by first | exact trivial | omega | (dsimp only; omega) | (simp only [sm] at *; omega)) ?_; cbv)
    | (refine QC.tt (by first | omega | (dsimp only; omega) | exact rfl | (simp only [sm] at *; omega)) ?_; cbv)
    | (refine QC.tt ?_ ?_; (focus (simp only [decide_true, Bool.and_true, Bool.and_self] <;> fail)); cbv)
    | (refine QC.ff ?_ ?_; (focus (simp only [decide_true, Bool.and_true, Bool.and_self, decide_false, Bool.false_and, reduceCtorEq, not_false_eq_true] <;> fail)); cbv)
    | (refine QC.ff (by first | omega | (dsimp only; omega) | (simp only [sm] at *; omega)) ?_; cbv)
    | (refine QC.mk (fun hc => ?_) (fun hc => ?_) <;> (try dsimp only at hc) <;> cbv)
    | (refine br_mk2 (fun hb => ?_) (fun hb => ?_) <;> (try subst hb) <;> cbv))))
      · have eb : b' = true := hb'.2 hc
        refine Fin.mk ?_ rfl rfl
        rw [eb, ← hS]
        try rfl
      · have eb : b' = false := by
          cases hbb : b'
          · rfl
          · exact absurd (hb'.1 hbb) hc
        refine Fin.mk ?_ rfl rfl
        rw [eb, ← hS]
        try rfl
    · have hS : R = R' := hput.2 (by (first | omega | (simp only [cst] at *; omega) | (simp only [sm] at *; omega)))
      skip
      rename_i zj hzj zs hzs
      have hzh : z = h' := by
        have ej : zj.toNat = n.toNat := by (first | omega | (simp only [cst] at *; omega) | (simp only [sm] at *; omega))
        have e2 : (2 : Nat) ^ n.toNat < 4294967296 := by
          have : (2 : Nat) ^ n.toNat ≤ 2 ^ 31 := Nat.pow_le_pow_right (by omega) (by omega)
          omega
        have e3 : zs = ((2 ^ n.toNat : Nat) : Int) := by
          rw [hzs, ej, Int.one_mul]
          have : (2 : Int) ^ n.toNat = ((2 ^ n.toNat : Nat) : Int) := by simp
          have e5 : ∀ p : Nat, p < 4294967296 → (p : Int) % 4294967296 = p := fun p hp => by omega
          rw [this]
          exact e5 _ e2
        rw [hz, e3, Int.toNat_natCast]
        exact hor
      clear hz hor
      subst hzh
      (refine callq (g7) rfl rfl ?_; cbv; (repeat' (first
    | (refine q1 (by first | exact trivial | omega | (dsimp only; omega) | exact pow62 _ (by omega) | exact mul9 (by omega) (by omega) | (simp only [sm] at *; omega)) (fun z hz => ?_); (try simp only at hz); cbv)
    | (refine rq (by first | exact trivial | omega | (dsimp only; omega) | (simp only [sm] at *; omega)) ?_; cbv)
    | (refine QC.tt (by first | omega | (dsimp only; omega) | exact rfl | (simp only [sm] at *; omega)) ?_; cbv)
    | (refine QC.tt ?_ ?_; (focus (simp only [decide_true, Bool.and_true, Bool.and_self] <;> fail)); cbv)
    | (refine QC.ff ?_ ?_; (focus (simp only [decide_true, Bool.and_true, Bool.and_self, decide_false, Bool.false_and, reduceCtorEq, not_false_eq_true] <;> fail)); cbv)
    | (refine QC.ff (by first | omega | (dsimp only; omega) | (simp only [sm] at *; omega)) ?_; cbv)
    | (refine QC.mk (fun hc => ?_) (fun hc => ?_) <;> (try dsimp only at hc) <;> cbv)
    | (refine br_mk2 (fun hb => ?_) (fun hb => ?_) <;> (try subst hb) <;> cbv))))
      · have eb : b' = true := hb'.2 hc
        refine Fin.mk ?_ rfl rfl
        rw [eb, ← hS]
        try rfl
      · have eb : b' = false := by
          cases hbb : b'
          · rfl
          · exact absurd (hb'.1 hbb) hc
        refine Fin.mk ?_ rfl rfl
        rw [eb, ← hS]
        try rfl
end Go.Proofs.Ytjhicdoigllblaa
/- Receive of both sides over plain receivers. -/
namespace Go.Proofs.Ytjhicdoigllblaa
set_option linter.unusedVariables false
set_option linter.unusedSimpArgs false
open Go.RowKit
set_option maxHeartbeats 8000000
noncomputable def vrc (r : Rcv) : Bool := @decide (VRc r.tag r.cnt r.ps r.hv r.dn) (Classical.propDecidable _)
theorem vrc_iff (r : Rcv) : vrc r = true ↔ VRc r.tag r.cnt r.ps r.hv r.dn := by rw [vrc]; exact @decide_eq_true_iff _ (Classical.propDecidable _)
def zR : Rcv := ⟨0, 0, [], 0, false⟩
/-- The receiver after a piece that it takes. -/
def recvN (tag cnt : Int) (ps : List (List UInt8)) (p : Pce) : Rcv := ⟨tag, cnt, putP ps p.n.toNat p.d, hasN (putP ps p.n.toNat p.d) (putP ps p.n.toNat p.d).length, decide ((hasN (putP ps p.n.toNat p.d) (putP ps p.n.toNat p.d).length : Int) = allI ps.length)⟩
noncomputable def recvP (r : Rcv) (p : Pce) : Rcv × Int :=
  if vrc r = false ∨ valP p.n p.c p.d.length = false then (zR, 1)
  else if zeroB r.tag r.cnt r.ps.length r.hv r.dn = true then (recvN p.tag p.c (List.replicate p.c.toNat []) p, 0)
  else if r.tag ≠ p.tag ∨ r.cnt ≠ p.c then (zR, 9)
  else (recvN r.tag r.cnt r.ps p, 0)
abbrev Rcv.w (r : Rcv) (R : List SV) : SV := .agg [.int .u8 r.tag, .int .i64 r.cnt, .lst none R, .int .u32 r.hv, .bool r.dn]
theorem zeroB_iff {tag cnt hv : Int} {n : Nat} {dn : Bool} (h : zeroB tag cnt n hv dn = true) : tag = 0 ∧ cnt = 0 ∧ n = 0 ∧ hv = 0 ∧ dn = false := by
  unfold zeroB at h
  simp at h
  exact ⟨h.2.1, h.2.2.1, h.2.2.2.1, h.2.2.2.2, h.1⟩
theorem recv_p (r : Rcv) (R : List SV) (hR : R = rowsB r.ps) (hf : r.fits) (p : Pce) (D : List SV) (hD : D = u8l p.d) (hd : p.d.length ≤ 140737488351232) (r' : Rcv) (R' : List SV) (hR' : R' = rowsB r'.ps) (e : Int) (hX : recvP r p = (r', e)) :
    Good 31 (pu [r.w R, .agg [.int .u8 p.tag, .int .i64 p.n, .int .i64 p.c, .bool p.ack, .lst none D]] (.tup [r'.w R', .int .u32 (if e = 0 then (if p.ack = true then r'.hv else 0) else 0), .bool (if e = 0 then p.ack else false), .int .i64 e])) := by
  have hDl : D.length = p.d.length := by rw [hD, u8l_len]
  unfold recvP at hX
  split at hX
  · rename_i h
    obtain ⟨rfl, rfl⟩ := Prod.mk.inj hX
    rw [hR']
    exact recv_no r.tag r.cnt r.hv r.dn r.ps R hR hf _ (vrc_iff r) p.tag p.n p.c p.ack D _ hDl h
  rename_i hno
  have hv : vrc r = true := by cases h : vrc r; exact absurd (.inl h) hno; rfl
  have hp : valP p.n p.c p.d.length = true := by cases h : valP p.n p.c p.d.length; exact absurd (.inr h) hno; rfl
  split at hX
  · rename_i hz
    obtain ⟨rfl, rfl⟩ := Prod.mk.inj hX
    obtain ⟨z1, z2, z3, z4, z5⟩ := zeroB_iff hz
    have hR0 : R = [] := by rw [hR, List.length_eq_zero_iff.1 z3]; rfl
    have g := recv_z p.tag p.n p.c p.ack p.d D hD hd hp _ rfl _ rfl R' hR' _ rfl _ decide_eq_true_iff
    rw [Rcv.w, z1, z2, z4, z5, hR0]
    exact g
  rename_i hz
  have hz0 : zeroB r.tag r.cnt r.ps.length r.hv r.dn = false := by cases h : zeroB r.tag r.cnt r.ps.length r.hv r.dn; rfl; exact absurd h hz
  split at hX
  · rename_i hne
    obtain ⟨rfl, rfl⟩ := Prod.mk.inj hX
    rw [hR']
    exact recv_mm r.tag r.cnt r.hv r.dn r.ps R hR hf ((vrc_iff r).1 hv) hz0 p.tag p.n p.c p.ack D _ hDl hp hne
  · rename_i hne
    obtain ⟨rfl, rfl⟩ := Prod.mk.inj hX
    have ht : r.tag = p.tag := Classical.byContradiction fun h => hne (.inl h)
    have hc : r.cnt = p.c := Classical.byContradiction fun h => hne (.inr h)
    rw [← hc] at hp
    rw [← ht, ← hc]
    exact recv_n r.tag r.cnt r.hv r.dn r.ps R hR hf ((vrc_iff r).1 hv) hz0 p.n p.ack p.d D hD hd hp R' hR' _ rfl _ decide_eq_true_iff
theorem rrecv_p (r : Rcv) (R : List SV) (hR : R = rowsB r.ps) (hf : r.fits) (p : Pce) (D : List SV) (hD : D = u8l p.d) (hd : p.d.length ≤ 140737488351232) (r' : Rcv) (R' : List SV) (hR' : R' = rowsB r'.ps) (e : Int) (hX : recvP r p = (r', e)) :
    Good 32 (pu [r.w R, .agg [.int .u8 p.tag, .int .i64 p.n, .int .i64 p.c, .bool p.ack, .lst none D]] (.tup [r'.w R', .int .u32 (if e = 0 then (if p.ack = true then r'.hv else 0) else 0), .bool (if e = 0 then p.ack else false), .int .i64 e])) := by
  have hDl : D.length = p.d.length := by rw [hD, u8l_len]
  unfold recvP at hX
  split at hX
  · rename_i h
    obtain ⟨rfl, rfl⟩ := Prod.mk.inj hX
    rw [hR']
    exact rrecv_no r.tag r.cnt r.hv r.dn r.ps R hR hf _ (vrc_iff r) p.tag p.n p.c p.ack D _ hDl h
  rename_i hno
  have hv : vrc r = true := by cases h : vrc r; exact absurd (.inl h) hno; rfl
  have hp : valP p.n p.c p.d.length = true := by cases h : valP p.n p.c p.d.length; exact absurd (.inr h) hno; rfl
  split at hX
  · rename_i hz
    obtain ⟨rfl, rfl⟩ := Prod.mk.inj hX
    obtain ⟨z1, z2, z3, z4, z5⟩ := zeroB_iff hz
    have hR0 : R = [] := by rw [hR, List.length_eq_zero_iff.1 z3]; rfl
    have g := rrecv_z p.tag p.n p.c p.ack p.d D hD hd hp _ rfl _ rfl R' hR' _ rfl _ decide_eq_true_iff
    rw [Rcv.w, z1, z2, z4, z5, hR0]
    exact g
  rename_i hz
  have hz0 : zeroB r.tag r.cnt r.ps.length r.hv r.dn = false := by cases h : zeroB r.tag r.cnt r.ps.length r.hv r.dn; rfl; exact absurd h hz
  split at hX
  · rename_i hne
    obtain ⟨rfl, rfl⟩ := Prod.mk.inj hX
    rw [hR']
    exact rrecv_mm r.tag r.cnt r.hv r.dn r.ps R hR hf ((vrc_iff r).1 hv) hz0 p.tag p.n p.c p.ack D _ hDl hp hne
  · rename_i hne
    obtain ⟨rfl, rfl⟩ := Prod.mk.inj hX
    have ht : r.tag = p.tag := Classical.byContradiction fun h => hne (.inl h)
    have hc : r.cnt = p.c := Classical.byContradiction fun h => hne (.inr h)
    rw [← hc] at hp
    rw [← ht, ← hc]
    exact rrecv_n r.tag r.cnt r.hv r.dn r.ps R hR hf ((vrc_iff r).1 hv) hz0 p.n p.ack p.d D hD hd hp R' hR' _ rfl _ decide_eq_true_iff
end Go.Proofs.Ytjhicdoigllblaa
/- Datagram of both sides. -/
namespace Go.Proofs.Ytjhicdoigllblaa
set_option linter.unusedVariables false
set_option linter.unusedSimpArgs false
open Go.RowKit
set_option maxHeartbeats 8000000
theorem flat_take (ps : List (List UInt8)) (i : Nat) (b : List UInt8) (h : ps[i]? = some b) : (ps.take (i + 1)).flatten = (ps.take i).flatten ++ b := by
  obtain ⟨h1, h2⟩ := List.getElem?_eq_some_iff.1 h
  rw [← h2, ← List.take_append_getElem h1, List.flatten_append]; simp
theorem flat_le (ps : List (List UInt8)) (i : Nat) : (ps.take i).flatten.length ≤ ps.flatten.length := by
  conv => rhs; rw [← List.take_append_drop i ps, List.flatten_append, List.length_append]
  omega
theorem dgram_no (tag cnt hv : Int) (dn : Bool) (ps : List (List UInt8)) (R : List SV) (hR : R = rowsB ps) (hf : Rcv.fits ⟨tag, cnt, ps, hv, dn⟩) (b : Bool) (hb : b = true ↔ VRc tag cnt ps hv dn) (hno : b = false ∨ dn = false) :
    Good 34 (pu [.agg [.int .u8 tag, .int .i64 cnt, .lst none R, .int .u32 hv, .bool dn]] (.tup [.lst none [], .bool false])) := by
  have g1 := vreceiver_c tag cnt hv dn ps R hR hf b hb
  have hno : b = true → dn = false := fun h => by rcases hno with h2 | h2; rw [h] at h2; cases h2; exact h2
  clear hb
  refine Good.of Try.func34 rfl (by rfl) (by kernel_rfl) ?_
  cbv
  (repeat' (first
    | (refine q1 (by first | exact trivial | omega | (dsimp only; omega) | exact pow62 _ (by omega) | exact mul9 (by omega) (by omega) | (simp only [sm] at *; omega)) (fun z hz => ?_); (try simp only at hz); cbv)
    | (refine rq (by first | exact trivial | omega | (dsimp only; omega) | (simp only [sm] at *; omega)) ?_; cbv)
    | (refine QC.tt (by first | omega | (dsimp only; omega) | exact rfl | (simp only [sm] at *; omega)) ?_; cbv)
    | (refine QC.tt ?_ ?_; (focus (simp only [decide_true, Bool.and_true, Bool.and_self] <;> fail)); cbv)
    | (refine QC.ff ?_ ?_; (focus (simp only [decide_true, Bool.and_true, Bool.and_self, decide_false, Bool.false_and, reduceCtorEq, not_false_eq_true] <;> fail)); cbv)
    | (refine QC.ff (by first | omega | (dsimp only; omega) | (simp only [sm] at *; omega)) ?_; cbv)
    | (refine QC.mk (fun hc => ?_) (fun hc => ?_) <;> (try dsimp only at hc) <;> cbv)
    | (refine br_mk2 (fun hb => ?_) (fun hb => ?_) <;> (try subst hb) <;> cbv)))
  (refine callq (g1) rfl rfl ?_; cbv; (repeat' (first
    | (refine q1 (by first | exact trivial | omega | (dsimp only; omega) | exact pow62 _ (by omega) | exact mul9 (by omega) (by omega) | (simp only [sm] at *; omega)) (fun z hz => ?_); (try simp only at hz); cbv)
    | (refine rq (by first | exact trivial | omega | (dsimp only; omega) | (simp only [sm] at *; omega)) ?_; cbv)
    | (refine QC.tt (by first | omega | (dsimp only; omega) | exact rfl | (simp only [sm] at *; omega)) ?_; cbv)
    | (refine QC.tt ?_ ?_; (focus (simp only [decide_true, Bool.and_true, Bool.and_self] <;> fail)); cbv)
    | (refine QC.ff ?_ ?_; (focus (simp only [decide_true, Bool.and_true, Bool.and_self, decide_false, Bool.false_and, reduceCtorEq, not_false_eq_true] <;> fail)); cbv)
    | (refine QC.ff (by first | omega | (dsimp only; omega) | (simp only [sm] at *; omega)) ?_; cbv)
    | (refine QC.mk (fun hc => ?_) (fun hc => ?_) <;> (try dsimp only at hc) <;> cbv)
    | (refine br_mk2 (fun hb => ?_) (fun hb => ?_) <;> (try subst hb) <;> cbv))))
  all_goals first | exact ⟨rfl, rfl, rfl⟩ | skip
  all_goals exact nomatch hno rfl
theorem rdgram_no (tag cnt hv : Int) (dn : Bool) (ps : List (List UInt8)) (R : List SV) (hR : R = rowsB ps) (hf : Rcv.fits ⟨tag, cnt, ps, hv, dn⟩) (b : Bool) (hb : b = true ↔ VRc tag cnt ps hv dn) (hno : b = false ∨ dn = false) :
    Good 35 (pu [.agg [.int .u8 tag, .int .i64 cnt, .lst none R, .int .u32 hv, .bool dn]] (.tup [.lst none [], .bool false])) := by
  have g1 := rvreceiver_c tag cnt hv dn ps R hR hf b hb
  have hno : b = true → dn = false := fun h => by rcases hno with h2 | h2; rw [h] at h2; cases h2; exact h2
  clear hb
  refine Good.of Try.func35 rfl (by rfl) (by kernel_rfl) ?_
  cbv
  (repeat' (first
    | (refine q1 (by first | exact trivial | omega | (dsimp only; omega) | exact pow62 _ (by omega) | exact mul9 (by omega) (by omega) | (simp only [sm] at *; omega)) (fun z hz => ?_); (try simp only at hz); cbv)
    | (refine rq (by first | exact trivial | omega | (dsimp only; omega) | (simp only [sm] at *; omega)) ?_; cbv)
    | (refine QC.tt (by first | omega | (dsimp only; omega) | exact rfl | (simp only [sm] at *; omega)) ?_; cbv)
    | (refine QC.tt ?_ ?_; (focus (simp only [decide_true, Bool.and_true, Bool.and_self] <;> fail)); cbv)
    | (refine QC.ff ?_ ?_; (focus (simp only [decide_true, Bool.and_true, Bool.and_self, decide_false, Bool.false_and, reduceCtorEq, not_false_eq_true] <;> fail)); cbv)
    | (refine QC.ff (by first | omega | (dsimp only; omega) | (simp only [sm] at *; omega)) ?_; cbv)
    | (refine QC.mk (fun hc => ?_) (fun hc => ?_) <;> (try dsimp only at hc) <;> cbv)
    | (refine br_mk2 (fun hb => ?_) (fun hb => ?_) <;> (try subst hb) <;> cbv)))
  (refine callq (g1) rfl rfl ?_; cbv; (repeat' (first
    | (refine q1 (by first | exact trivial | omega | (dsimp only; omega) | exact pow62 _ (by omega) | exact mul9 (by omega) (by omega) | (simp only [sm] at *; omega)) (fun z hz => ?_); (try simp only at hz); cbv)
    | (refine rq (by first | exact trivial | omega | (dsimp only; omega) | (simp only [sm] at *; omega)) ?_; cbv)
    | (refine QC.tt (by first | omega | (dsimp only; omega) | exact rfl | (simp only [sm] at *; omega)) ?_; cbv)
    | (refine QC.tt ?_ ?_; (focus (simp only [decide_true, Bool.and_true, Bool.and_self] <;> fail)); cbv)
    | (refine QC.ff ?_ ?_; (focus (simp only [decide_true, Bool.and_true, Bool.and_self, decide_false, Bool.false_and, reduceCtorEq, not_false_eq_true] <;> fail)); cbv)
    | (refine QC.ff (by first | omega | (dsimp only; omega) | (simp only [sm] at *; omega)) ?_; cbv)
    | (refine QC.mk (fun hc => ?_) (fun hc => ?_) <;> (try dsimp only at hc) <;> cbv)
    | (refine br_mk2 (fun hb => ?_) (fun hb => ?_) <;> (try subst hb) <;> cbv))))
  all_goals first | exact ⟨rfl, rfl, rfl⟩ | skip
  all_goals exact nomatch hno rfl
theorem dgram_yes (tag cnt hv : Int) (ps : List (List UInt8)) (R : List SV) (hR : R = rowsB ps) (hf : Rcv.fits ⟨tag, cnt, ps, hv, true⟩) (hv1 : VRc tag cnt ps hv true) (hl : ps.flatten.length ≤ 140737488351232) (L : List SV) (hL : L = u8l ps.flatten) :
    Good 34 (pu [.agg [.int .u8 tag, .int .i64 cnt, .lst none R, .int .u32 hv, .bool true]] (.tup [.lst none L, .bool true])) := by
  have g1 := vreceiver_c tag cnt hv true ps R hR hf true ⟨fun _ => hv1, fun _ => rfl⟩
  have hRl : R.length = ps.length := by rw [hR, rowsB_len]
  have hE := fun i hi => rowsB_at hR i hi
  obtain ⟨G, hG⟩ : ∃ G : Nat → List SV, ∀ i, G i = u8l (ps.take i).flatten := ⟨_, fun _ => rfl⟩
  have hG0 : G 0 = [] := by rw [hG]; rfl
  have hGs : ∀ i b, ps[i]? = some b → G i ++ u8l b = G (i + 1) := fun i b h => by rw [hG, hG, flat_take ps i b h, u8l_app]
  have hGl : ∀ i, (G i).length ≤ 140737488351232 := fun i => by rw [hG, u8l_len]; have := flat_le ps i; omega
  have hGn : G ps.length = L := by rw [hG, hL, List.take_length]
  have hfn := hf.n
  clear hv1 hG hL hf
  refine Good.of Try.func34 rfl (by rfl) (by kernel_rfl) ?_
  cbv
  have hmk : True := trivial
  (repeat' (first
    | (refine q1 (by first | exact trivial | omega | (dsimp only; omega) | exact pow62 _ (by omega) | exact mul9 (by omega) (by omega) | (simp only [sm] at *; omega)) (fun z hz => ?_); (try simp only at hz); cbv)
    | (refine rq (by first | exact trivial | omega | (dsimp only; omega) | (simp only [sm] at *; omega)) ?_; cbv)
    | (refine QC.tt (by first | omega | (dsimp only; omega) | exact rfl | (simp only [sm] at *; omega)) ?_; cbv)
    | (refine QC.tt ?_ ?_; (focus (simp only [decide_true, Bool.and_true, Bool.and_self] <;> fail)); cbv)
    | (refine QC.ff ?_ ?_; (focus (simp only [decide_true, Bool.and_true, Bool.and_self, decide_false, Bool.false_and, reduceCtorEq, not_false_eq_true] <;> fail)); cbv)
    | (refine QC.ff (by first | omega | (dsimp only; omega) | (simp only [sm] at *; omega)) ?_; cbv)
    | (refine QC.mk (fun hc => ?_) (fun hc => ?_) <;> (try dsimp only at hc) <;> cbv)
    | (refine br_mk2 (fun hb => ?_) (fun hb => ?_) <;> (try subst hb) <;> cbv)))
  (refine callq (g1) rfl rfl ?_; cbv; (repeat' (first
    | (refine q1 (by first | exact trivial | omega | (dsimp only; omega) | exact pow62 _ (by omega) | exact mul9 (by omega) (by omega) | (simp only [sm] at *; omega)) (fun z hz => ?_); (try simp only at hz); cbv)
    | (refine rq (by first | exact trivial | omega | (dsimp only; omega) | (simp only [sm] at *; omega)) ?_; cbv)
    | (refine QC.tt (by first | omega | (dsimp only; omega) | exact rfl | (simp only [sm] at *; omega)) ?_; cbv)
    | (refine QC.tt ?_ ?_; (focus (simp only [decide_true, Bool.and_true, Bool.and_self] <;> fail)); cbv)
    | (refine QC.ff ?_ ?_; (focus (simp only [decide_true, Bool.and_true, Bool.and_self, decide_false, Bool.false_and, reduceCtorEq, not_false_eq_true] <;> fail)); cbv)
    | (refine QC.ff (by first | omega | (dsimp only; omega) | (simp only [sm] at *; omega)) ?_; cbv)
    | (refine QC.mk (fun hc => ?_) (fun hc => ?_) <;> (try dsimp only at hc) <;> cbv)
    | (refine br_mk2 (fun hb => ?_) (fun hb => ?_) <;> (try subst hb) <;> cbv))))
  refine loopQ (A := Nat × Int) (fun p => p.2 = p.1 ∧ p.1 ≤ ps.length) (fun p => ps.length - p.1) (fun p => [(18, .int .i64 p.2), (4, .row 4)]) (fun p => [(4, .row none 5 (G p.1))]) (0, 0) ⟨rfl, Nat.zero_le _⟩ ?_ ?_
  · cbv
    refine ⟨?_, trivial⟩
    show Blk.row none 5 [] = .row none 5 (G 0)
    rw [hG0]
  · intro ⟨i, j⟩ hh
    have hj : j = (i : Int) := hh.1
    have hi : i ≤ ps.length := hh.2
    clear hh
    have hmq : True := trivial
    cbv
    (repeat' (first
    | (refine q1 (by first | exact trivial | omega | (dsimp only; omega) | exact pow62 _ (by omega) | exact mul9 (by omega) (by omega) | (simp only [sm] at *; omega)) (fun z hz => ?_); (try simp only at hz); cbv)
    | (refine rq (by first | exact trivial | omega | (dsimp only; omega) | (simp only [sm] at *; omega)) ?_; cbv)
    | (refine QC.tt (by first | omega | (dsimp only; omega) | exact rfl | (simp only [sm] at *; omega)) ?_; cbv)
    | (refine QC.tt ?_ ?_; (focus (simp only [decide_true, Bool.and_true, Bool.and_self] <;> fail)); cbv)
    | (refine QC.ff ?_ ?_; (focus (simp only [decide_true, Bool.and_true, Bool.and_self, decide_false, Bool.false_and, reduceCtorEq, not_false_eq_true] <;> fail)); cbv)
    | (refine QC.ff (by first | omega | (dsimp only; omega) | (simp only [sm] at *; omega)) ?_; cbv)
    | (refine QC.mk (fun hc => ?_) (fun hc => ?_) <;> (try dsimp only at hc) <;> cbv)
    | (refine br_mk2 (fun hb => ?_) (fun hb => ?_) <;> (try subst hb) <;> cbv)))
    · have hlt : i < ps.length := by (first | omega | (simp only [cst] at *; omega) | (simp only [sm] at *; omega))
      obtain ⟨b, B, hbi, hB, hEi⟩ := hE i hlt
      have hs := hGs i b hbi
      rw [← hB] at hs
      have h1 := hGl (i + 1)
      rw [← hs, List.length_append] at h1
      (refine qv (i, _) ⟨hj, hEi⟩ ?_; cbv; (repeat' (first
    | (refine q1 (by first | exact trivial | omega | (dsimp only; omega) | exact pow62 _ (by omega) | exact mul9 (by omega) (by omega) | (simp only [sm] at *; omega)) (fun z hz => ?_); (try simp only at hz); cbv)
    | (refine rq (by first | exact trivial | omega | (dsimp only; omega) | (simp only [sm] at *; omega)) ?_; cbv)
    | (refine QC.tt (by first | omega | (dsimp only; omega) | exact rfl | (simp only [sm] at *; omega)) ?_; cbv)
    | (refine QC.tt ?_ ?_; (focus (simp only [decide_true, Bool.and_true, Bool.and_self] <;> fail)); cbv)
    | (refine QC.ff ?_ ?_; (focus (simp only [decide_true, Bool.and_true, Bool.and_self, decide_false, Bool.false_and, reduceCtorEq, not_false_eq_true] <;> fail)); cbv)
    | (refine QC.ff (by first | omega | (dsimp only; omega) | (simp only [sm] at *; omega)) ?_; cbv)
    | (refine QC.mk (fun hc => ?_) (fun hc => ?_) <;> (try dsimp only at hc) <;> cbv)
    | (refine br_mk2 (fun hb => ?_) (fun hb => ?_) <;> (try subst hb) <;> cbv))))
      refine ⟨(i + 1, z), ⟨by show z = ((i + 1 : Nat) : Int); (first | omega | (simp only [cst] at *; omega) | (simp only [sm] at *; omega)), by show i + 1 ≤ ps.length; omega⟩, by show ps.length - (i + 1) < ps.length - i; omega, ?_⟩
      cbv
      refine ⟨?_, trivial⟩
      show Blk.row none 5 (apL (G i) B) = .row none 5 (G (i + 1))
      rw [apL_eq, hs]
    · have e : i = ps.length := by (first | omega | (simp only [cst] at *; omega) | (simp only [sm] at *; omega))
      refine Fin.mk ?_ rfl rfl
      show SV.tup [.lst none (G i), _] = _
      rw [e, hGn]
theorem rdgram_yes (tag cnt hv : Int) (ps : List (List UInt8)) (R : List SV) (hR : R = rowsB ps) (hf : Rcv.fits ⟨tag, cnt, ps, hv, true⟩) (hv1 : VRc tag cnt ps hv true) (hl : ps.flatten.length ≤ 140737488351232) (L : List SV) (hL : L = u8l ps.flatten) :
    Good 35 (pu [.agg [.int .u8 tag, .int .i64 cnt, .lst none R, .int .u32 hv, .bool true]] (.tup [.lst none L, .bool true])) := by
  have g1 := rvreceiver_c tag cnt hv true ps R hR hf true ⟨fun _ => hv1, fun _ => rfl⟩
  have hRl : R.length = ps.length := by rw [hR, rowsB_len]
  have hE := fun i hi => rowsB_at hR i hi
  obtain ⟨G, hG⟩ : ∃ G : Nat → List SV, ∀ i, G i = u8l (ps.take i).flatten := ⟨_, fun _ => rfl⟩
  have hG0 : G 0 = [] := by rw [hG]; rfl
  have hGs : ∀ i b, ps[i]? = some b → G i ++ u8l b = G (i + 1) := fun i b h => by rw [hG, hG, flat_take ps i b h, u8l_app]
  have hGl : ∀ i, (G i).length ≤ 140737488351232 := fun i => by rw [hG, u8l_len]; have := flat_le ps i; omega
  have hGn : G ps.length = L := by rw [hG, hL, List.take_length]
  have hfn := hf.n
  clear hv1 hG hL hf
  refine Good.of Try.func35 rfl (by rfl) (by kernel_rfl) ?_
  cbv
  have hmk : True := trivial
  (repeat' (first
    | (refine q1 (by first | exact trivial | omega | (dsimp only; omega) | exact pow62 _ (by omega) | exact mul9 (by omega) (by omega) | (simp only [sm] at *; omega)) (fun z hz => ?_); (try simp only at hz); cbv)
    | (refine rq (by first | exact trivial | omega | (dsimp only; omega) | (simp only [sm] at *; omega)) ?_; cbv)
    | (refine QC.tt (by first | omega | (dsimp only; omega) | exact rfl | (simp only [sm] at *; omega)) ?_; cbv)
    | (refine QC.tt ?_ ?_; (focus (simp only [decide_true, Bool.and_true, Bool.and_self] <;> fail)); cbv)
    | (refine QC.ff ?_ ?_; (focus (simp only [decide_true, Bool.and_true, Bool.and_self, decide_false, Bool.false_and, reduceCtorEq, not_false_eq_true] <;> fail)); cbv)
    | (refine QC.ff (by first | omega | (dsimp only; omega) | (simp only [sm] at *; omega)) ?_; cbv)
    | (refine QC.mk (fun hc => ?_) (fun hc => ?_) <;> (try dsimp only at hc) <;> cbv)
    | (refine br_mk2 (fun hb => ?_) (fun hb => ?_) <;> (try subst hb) <;> cbv)))
  (refine callq (g1) rfl rfl ?_; cbv; (repeat' (first
    | (refine q1 (by first | exact trivial | omega | (dsimp only; omega) | exact pow62 _ (by omega) | exact mul9 (by omega) (by omega) | (simp only [sm] at *; omega)) (fun z hz => ?_); (try simp only at hz); cbv)
    | (refine rq (by first | exact trivial | omega | (dsimp only; omega) | (simp only [sm] at *; omega)) ?_; cbv)
    | (refine QC.tt (by first | omega | (dsimp only; omega) | exact rfl | (simp only [sm] at *; omega)) ?_; cbv)
    | (refine QC.tt ?_ ?_; (focus (simp only [decide_true, Bool.and_true, Bool.and_self] <;> fail)); cbv)
    | (refine QC.ff ?_ ?_; (focus (simp only [decide_true, Bool.and_true, Bool.and_self, decide_false, Bool.false_and, reduceCtorEq, not_false_eq_true] <;> fail)); cbv)
    | (refine QC.ff (by first | omega | (dsimp only; omega) | (simp only [sm] at *; omega)) ?_; cbv)
    | (refine QC.mk (fun hc => ?_) (fun hc => ?_) <;> (try dsimp only at hc) <;> cbv)
    | (refine br_mk2 (fun hb => ?_) (fun hb => ?_) <;> (try subst hb) <;> cbv))))
  refine loopQ (A := Nat × Int) (fun p => p.2 = p.1 ∧ p.1 ≤ ps.length) (fun p => ps.length - p.1) (fun p => [(5, .int .i64 p.2), (4, .row 4)]) (fun p => [(4, .row none 5 (G p.1))]) (0, 0) ⟨rfl, Nat.zero_le _⟩ ?_ ?_
  · cbv
    refine ⟨?_, trivial⟩
    show Blk.row none 5 [] = .row none 5 (G 0)
    rw [hG0]
  · intro ⟨i, j⟩ hh
    have hj : j = (i : Int) := hh.1
    have hi : i ≤ ps.length := hh.2
    clear hh
    have hmq : True := trivial
    cbv
    (repeat' (first
    | (refine q1 (by first | exact trivial | omega | (dsimp only; omega) | exact pow62 _ (by omega) | exact mul9 (by omega) (by omega) | (simp only [sm] at *; omega)) (fun z hz => ?_); (try simp only at hz); cbv)
    | (refine rq (by first | exact trivial | omega | (dsimp only; omega) | (simp only [sm] at *; omega)) ?_; cbv)
    | (refine QC.tt (by first | omega | (dsimp only; omega) | exact rfl | (simp only [sm] at *; omega)) ?_; cbv)
    | (refine QC.tt ?_ ?_; (focus (simp only [decide_true, Bool.and_true, Bool.and_self] <;> fail)); cbv)
    | (refine QC.ff ?_ ?_; (focus (simp only [decide_true, Bool.and_true, Bool.and_self, decide_false, Bool.false_and, reduceCtorEq, not_false_eq_true] <;> fail)); cbv)
    | (refine QC.ff (by first | omega | (dsimp only; omega) | (simp only [sm] at *; omega)) ?_; cbv)
    | (refine QC.mk (fun hc => ?_) (fun hc => ?_) <;> (try dsimp only at hc) <;> cbv)
    | (refine br_mk2 (fun hb => ?_) (fun hb => ?_) <;> (try subst hb) <;> cbv)))
    · have hlt : i < ps.length := by (first | omega | (simp only [cst] at *; omega) | (simp only [sm] at *; omega))
      obtain ⟨b, B, hbi, hB, hEi⟩ := hE i hlt
      have hs := hGs i b hbi
      rw [← hB] at hs
      have h1 := hGl (i + 1)
      rw [← hs, List.length_append] at h1
      (refine qv (i, _) ⟨hj, hEi⟩ ?_; cbv; (repeat' (first
    | (refine q1 (by first | exact trivial | omega | (dsimp only; omega) | exact pow62 _ (by omega) | exact mul9 (by omega) (by omega) | (simp only [sm] at *; omega)) (fun z hz => ?_); (try simp only at hz); cbv)
    | (refine rq (by first | exact trivial | omega | (dsimp only; omega) | (simp only [sm] at *; omega)) ?_; cbv)
    | (refine QC.tt (by first | omega | (dsimp only; omega) | exact rfl | (simp only [sm] at *; omega)) ?_; cbv)
    | (refine QC.tt ?_ ?_; (focus (simp only [decide_true, Bool.and_true, Bool.and_self] <;> fail)); cbv)
    | (refine QC.ff ?_ ?_; (focus (simp only [decide_true, Bool.and_true, Bool.and_self, decide_false, Bool.false_and, reduceCtorEq, not_false_eq_true] <;> fail)); cbv)
    | (refine QC.ff (by first | omega | (dsimp only; omega) | (simp only [sm] at *; omega)) ?_; cbv)
    | (refine QC.mk (fun hc => ?_) (fun hc => ?_) <;> (try dsimp only at hc) <;> cbv)
    | (refine br_mk2 (fun hb => ?_) (fun hb => ?_) <;> (try subst hb) <;> cbv))))
      refine ⟨(i + 1, z), ⟨by show z = ((i + 1 : Nat) : Int); (first | omega | (simp only [cst] at *; omega) | (simp only [sm] at *; omega)), by show i + 1 ≤ ps.length; omega⟩, by show ps.length - (i + 1) < ps.length - i; omega, ?_⟩
      cbv
      refine ⟨?_, trivial⟩
      show Blk.row none 5 (apL (G i) B) = .row none 5 (G (i + 1))
      rw [apL_eq, hs]
    · have e : i = ps.length := by (first | omega | (simp only [cst] at *; omega) | (simp only [sm] at *; omega))
      refine Fin.mk ?_ rfl rfl
      show SV.tup [.lst none (G i), _] = _
      rw [e, hGn]
end Go.Proofs.Ytjhicdoigllblaa
/- The sender of a datagram that fits: plain laws. -/
namespace Go.Proofs.Ytjhicdoigllblaa
set_option linter.unusedVariables false
set_option linter.unusedSimpArgs false
open Go.RowKit
theorem tape1 (zs : List Int) (hz : ∀ v ∈ zs, -9223372036854775808 ≤ v ∧ v ≤ 9223372036854775807) : Tp ((ints .i64 zs).take 400) 0 :=
  ⟨⟨zs.take 400, by simp [ints], fun v hv => hz v (List.mem_of_mem_take hv), by rw [List.length_take]; omega⟩, by omega⟩
/-- A list of pieces that a sender may have. -/
structure Pcs (ps : List (List UInt8)) : Prop where
  n1 : 1 ≤ ps.length
  n2 : ps.length ≤ 32
  ne : ∀ p ∈ ps, p ≠ []
  b : ∀ p ∈ ps, p.length ≤ 140737488351232
theorem Pcs.fits {ps : List (List UInt8)} (h : Pcs ps) {st tag ak rd un : Int} (h1 : 0 ≤ st ∧ st ≤ 3) (h2 : 0 ≤ tag ∧ tag ≤ 255) (h3 : 0 ≤ ak ∧ ak ≤ 4294967295) (h4 : 0 ≤ rd ∧ rd ≤ 8) (h5 : 0 ≤ un ∧ un ≤ 1099511627776) : Snd.fits ⟨st, tag, ps, ak, rd, un⟩ :=
  ⟨by dsimp only; omega, h2, h3, by dsimp only; omega, by dsimp only; omega, by have := h.n2; dsimp only; omega, h.b⟩
theorem allI_pos {n : Nat} (h : 1 ≤ n) : 1 ≤ allI n := by
  rw [allI_nat]
  have : 2 ^ 1 ≤ 2 ^ n := Nat.pow_le_pow_right (by omega) h
  omega
theorem Pcs.vs {ps : List (List UInt8)} (h : Pcs ps) {st tag ak rd un : Int} (h1 : st = 1 ∨ st = 3) (h3 : ak < allI ps.length) (h4 : 0 ≤ rd ∧ rd ≤ 8) (h5 : 0 ≤ un ∧ un ≤ 1099511627776) : vs ⟨st, tag, ps, ak, rd, un⟩ = true :=
  (vs_iff _).2 ⟨h.n1, h.n2, h.ne, by dsimp only; omega, h4.1, h4.2, h5.1, h5.2, fun e => by dsimp only at e; omega, fun _ => h1⟩
theorem Pcs.vs2 {ps : List (List UInt8)} (h : Pcs ps) {tag ak rd un : Int} (h3 : ak = allI ps.length) (h4 : 0 ≤ rd ∧ rd ≤ 8) (h5 : 0 ≤ un ∧ un ≤ 1099511627776) : Go.Proofs.Ytjhicdoigllblaa.vs ⟨2, tag, ps, ak, rd, un⟩ = true :=
  (vs_iff _).2 ⟨h.n1, h.n2, h.ne, by dsimp only; omega, h4.1, h4.2, h5.1, h5.2, fun e => rfl, fun e => absurd h3 e⟩
/-- What Begin makes of a datagram that fits. -/
theorem beg_ok (b : List UInt8) (tag : Int) (sz : Nat) (hb : b.length ≤ 140737488351232) (h1 : 1 ≤ b.length) (hs : 1 ≤ sz) (hn : (b.length - 1) / sz < 32) :
    begP b tag (4 + sz) = (⟨1, tag, chk sz b (nPc b.length sz), 0, 0, 0⟩, 0) ∧ Pcs (chk sz b (nPc b.length sz)) := by
  have e1 : (4 + (sz : Int) - 4).toNat = sz := by omega
  have e2 : ((b.length : Int) - 1) / (4 + (sz : Int) - 4) = (((b.length - 1) / sz : Nat) : Int) := by
    rw [show (4 + (sz : Int) - 4) = sz by omega, show ((b.length : Int) - 1) = ((b.length - 1 : Nat) : Int) by omega]
    exact (Int.natCast_ediv _ _).symm
  refine ⟨?_, ?_, ?_, ?_, ?_⟩
  · rw [begP, if_neg (show ¬ (4 + (sz : Int) ≤ 4) by omega), if_neg (show ¬ (b.length = 0 ∨ 32 ≤ ((b.length : Int) - 1) / (4 + (sz : Int) - 4)) by rw [e2]; omega), e1]
  · rw [chk_len, nPc]; exact Nat.le_add_left 1 _
  · rw [chk_len, nPc]; exact hn
  · intro p hp
    simp only [chk, List.mem_map, List.mem_range] at hp
    obtain ⟨i, hi, rfl⟩ := hp
    have := nPc_lt h1 hs hi
    intro e
    have := congrArg List.length e
    rw [List.length_take, List.length_drop, List.length_nil] at this
    omega
  · intro p hp
    simp only [chk, List.mem_map] at hp
    obtain ⟨i, _, rfl⟩ := hp
    rw [List.length_take, List.length_drop]
    omega
theorem nextP_send {ps : List (List UInt8)} (h : Pcs ps) {tag ak rd un now : Int} (hak : 0 ≤ ak ∧ ak < allI ps.length) (hrd : 0 ≤ rd ∧ rd < 8) (hun : 0 ≤ un ∧ un ≤ 1099511627776) (hnow : un ≤ now ∧ now ≤ 1099511627776) :
    nextP ⟨1, tag, ps, ak, rd, un⟩ now = (⟨1, tag, ps, ak, rd + 1, min (now + 8) 1099511627776⟩, mark (pre tag ps ak (min (opn ak ps.length).length 8)), 0) ∧ 1 ≤ (opn ak ps.length).length := by
  refine ⟨?_, opn_pos hak.1 (by omega) (by omega)⟩
  rw [nextP, if_neg (by rw [h.vs (.inl rfl) hak.2 (by omega) hun]; simp), if_neg (by omega), if_neg (by dsimp only; omega), if_neg (by dsimp only; omega)]
theorem nextP_wait {ps : List (List UInt8)} (h : Pcs ps) {tag ak rd un now : Int} (hak : 0 ≤ ak ∧ ak < allI ps.length) (hrd : 0 ≤ rd ∧ rd ≤ 8) (hun : 0 ≤ un ∧ un ≤ 1099511627776) (hnow : 0 ≤ now ∧ now < un) :
    nextP ⟨1, tag, ps, ak, rd, un⟩ now = (⟨1, tag, ps, ak, rd, un⟩, [], 0) := by
  rw [nextP, if_neg (by rw [h.vs (.inl rfl) hak.2 hrd hun]; simp), if_neg (by omega), if_pos (by dsimp only; omega)]
theorem nextP_fail {ps : List (List UInt8)} (h : Pcs ps) {tag ak un now : Int} (hak : 0 ≤ ak ∧ ak < allI ps.length) (hun : 0 ≤ un ∧ un ≤ 1099511627776) (hnow : un ≤ now ∧ now ≤ 1099511627776) :
    nextP ⟨1, tag, ps, ak, 8, un⟩ now = (⟨3, tag, ps, ak, 8, un⟩, [], 0) := by
  rw [nextP, if_neg (by rw [h.vs (.inl rfl) hak.2 (by omega) hun]; simp), if_neg (by omega), if_neg (by dsimp only; omega), if_pos (by dsimp only)]
theorem sent_len (tag : Int) (ps : List (List UInt8)) (ak : Int) : (mark (pre tag ps ak (min (opn ak ps.length).length 8))).length = min (opn ak ps.length).length 8 := by
  rw [mark_len, pre_len _ _ _ _ (by omega)]
end Go.Proofs.Ytjhicdoigllblaa
/- A receiver of the pieces of one datagram: plain laws. -/
namespace Go.Proofs.Ytjhicdoigllblaa
set_option linter.unusedVariables false
set_option linter.unusedSimpArgs false
open Go.RowKit
/-- A receiver of pieces of P, not the zero one. -/
structure RI1 (P : List (List UInt8)) (r : Rcv) : Prop where
  tag : r.tag = 3
  cnt : r.cnt = P.length
  len : r.ps.length = P.length
  ps : ∀ i, i < P.length → r.ps.getD i [] = [] ∨ r.ps.getD i [] = P.getD i []
  hv : r.hv = hasN r.ps r.ps.length
  nz : r.hv ≠ 0
  dn : r.dn = decide (r.hv = allI P.length)
def RI (P : List (List UInt8)) (r : Rcv) : Prop := r = zR ∨ RI1 P r
theorem RI1.vrc {P : List (List UInt8)} {r : Rcv} (hP : Pcs P) (h : RI1 P r) : vrc r = true := by
  have h1 := hP.n1
  have h2 := hP.n2
  refine (vrc_iff r).2 (.inr ⟨by rw [h.cnt]; omega, by rw [h.cnt]; omega, by rw [h.cnt, h.len], h.nz, h.hv, ?_⟩)
  rw [h.dn, h.len, decide_eq_true_iff]
theorem zR_vrc : Go.Proofs.Ytjhicdoigllblaa.vrc zR = true := (vrc_iff zR).2 (.inl rfl)
theorem RI1.nzero {P : List (List UInt8)} {r : Rcv} (hP : Pcs P) (h : RI1 P r) : zeroB r.tag r.cnt r.ps.length r.hv r.dn = false := by
  cases hz : zeroB r.tag r.cnt r.ps.length r.hv r.dn
  · rfl
  · have := (zeroB_iff hz).2.2.2.1
    exact absurd this h.nz
theorem putP_get (ps P : List (List UInt8)) (n i : Nat) (hn : n < ps.length) (hl : ps.length = P.length) (hi : i < P.length) (h : ∀ i, i < P.length → ps.getD i [] = [] ∨ ps.getD i [] = P.getD i []) : (putP ps n (P.getD n [])).getD i [] = [] ∨ (putP ps n (P.getD n [])).getD i [] = P.getD i [] := by
  unfold putP
  split
  · by_cases e : n = i
    · subst e
      right
      simp [List.getD_eq_getElem?_getD, hn]
    · have := h i hi
      simpa [List.getD_eq_getElem?_getD, List.getElem?_set, e] using this
  · exact h i hi
theorem recvN_ri {P : List (List UInt8)} (hP : Pcs P) (ps : List (List UInt8)) (hl : ps.length = P.length) (h : ∀ i, i < P.length → ps.getD i [] = [] ∨ ps.getD i [] = P.getD i []) (n : Nat) (hn : n < P.length) (k : Bool) :
    RI1 P (recvN 3 P.length ps ⟨3, n, P.length, k, P.getD n []⟩) ∧ (recvN 3 P.length ps ⟨3, n, P.length, k, P.getD n []⟩).hv.toNat = hasN ps ps.length ||| 2 ^ n := by
  have hd : 0 < (P.getD n []).length := by
    have h1 := hP.ne P[n] (List.getElem_mem hn)
    rw [List.getD_eq_getElem?_getD, List.getElem?_eq_getElem hn]
    exact List.length_pos_iff.2 h1
  have hh := hasN_put ps n (P.getD n []) (by omega) hd
  have hq : (recvN 3 P.length ps ⟨3, n, P.length, k, P.getD n []⟩).hv.toNat = hasN ps ps.length ||| 2 ^ n := by
    rw [hh]; simp [recvN]
  refine ⟨⟨rfl, rfl, ?_, fun i hi => ?_, by simp [recvN], fun e => ?_, ?_⟩, hq⟩
  · simp [recvN, putP_len, hl]
  · have := putP_get ps P n i (by omega) hl hi h
    simpa [recvN] using this
  · rw [e] at hq
    have h1 := congrArg (fun x => x.testBit n) hq
    simp at h1
  · simp [recvN, hl]
theorem RI.recv {P : List (List UInt8)} {r : Rcv} (hP : Pcs P) (h : RI P r) (n : Nat) (hn : n < P.length) (k : Bool) :
    ∃ r', recvP r ⟨3, n, P.length, k, P.getD n []⟩ = (r', 0) ∧ RI1 P r' ∧ r'.hv.toNat = r.hv.toNat ||| 2 ^ n := by
  have hv : valP (n : Int) (P.length : Int) (P.getD n []).length = true := by
    have h1 := hP.ne P[n] (List.getElem_mem hn)
    have h2 := hP.n2
    have hd : 0 < (P.getD n []).length := by
      rw [List.getD_eq_getElem?_getD, List.getElem?_eq_getElem hn]
      exact List.length_pos_iff.2 h1
    exact decide_eq_true ⟨by omega, by omega, by omega, by omega, hd⟩
  unfold recvP
  rcases h with rfl | h
  · obtain ⟨a, b⟩ := recvN_ri hP (List.replicate P.length []) (by simp) (fun i hi => .inl (by simp [hi])) n hn k
    refine ⟨_, ?_, a, ?_⟩
    · rw [if_neg (fun h => h.elim (fun h1 => by rw [zR_vrc] at h1; cases h1) (fun h1 => by have h2 := hv.symm.trans h1; cases h2)), if_pos (show zeroB zR.tag zR.cnt zR.ps.length zR.hv zR.dn = true from rfl)]
      rfl
    · rw [b]
      congr 1
      have : ∀ m, bm (fun i => decide (0 < ((List.replicate P.length ([] : List UInt8)).getD i []).length)) m = 0 := fun m => by
        induction m with
        | zero => rfl
        | succ m ih =>
          rw [bm, ih, if_neg]
          rw [List.getD_eq_getElem?_getD]
          by_cases hm : m < P.length <;> simp [hm]
      exact this _
  · obtain ⟨a, b⟩ := recvN_ri hP r.ps h.len h.ps n hn k
    refine ⟨_, ?_, a, ?_⟩
    · rw [if_neg (fun h' => h'.elim (fun h1 => by rw [h.vrc hP] at h1; cases h1) (fun h1 => by have h2 := hv.symm.trans h1; cases h2)), if_neg (by rw [h.nzero hP]; simp), if_neg (by rw [h.tag, h.cnt]; simp), h.tag, h.cnt]
    · rw [b, h.hv]; rfl
end Go.Proofs.Ytjhicdoigllblaa
/- How many pieces are open: plain laws. -/
namespace Go.Proofs.Ytjhicdoigllblaa
set_option linter.unusedVariables false
set_option linter.unusedSimpArgs false
open Go.RowKit
theorem opn_succ (a : Int) (n : Nat) : opn a (n + 1) = opn a n ++ (if a / 2 ^ n % 2 = 0 then [n] else []) := by
  rw [opn, opn, List.range_succ, List.filter_append]
  congr 1
  by_cases h : a / 2 ^ n % 2 = 0 <;> simp [h]
theorem opn_mono (a o : Int) : ∀ n : Nat, (∀ i, i < n → o / 2 ^ i % 2 = 0 → a / 2 ^ i % 2 = 0) → (opn o n).length ≤ (opn a n).length
  | 0, _ => Nat.le_refl _
  | n + 1, h => by
    have ih := opn_mono a o n fun i hi => h i (by omega)
    have hn := h n (by omega)
    rw [opn_succ, opn_succ, List.length_append, List.length_append]
    by_cases ho : o / 2 ^ n % 2 = 0
    · rw [if_pos ho, if_pos (hn ho)]; simp only [List.length_cons, List.length_nil]; omega
    · rw [if_neg ho]; simp only [List.length_nil]; omega
theorem opn_lt2 (a o : Int) (k : Nat) (hk : a / 2 ^ k % 2 = 0) (hk2 : ¬ o / 2 ^ k % 2 = 0) : ∀ n : Nat, k < n → (∀ i, i < n → o / 2 ^ i % 2 = 0 → a / 2 ^ i % 2 = 0) → (opn o n).length < (opn a n).length
  | 0, hn, _ => absurd hn (Nat.not_lt_zero _)
  | n + 1, hn, h => by
    rw [opn_succ, opn_succ, List.length_append, List.length_append]
    by_cases e : k = n
    · subst e
      have := opn_mono a o k fun i hi => h i (by omega)
      rw [if_pos hk, if_neg hk2]; simp only [List.length_cons, List.length_nil]; omega
    · have ih := opn_lt2 a o k hk hk2 n (by omega) fun i hi => h i (by omega)
      have hn := h n (by omega)
      by_cases ho : o / 2 ^ n % 2 = 0
      · rw [if_pos ho, if_pos (hn ho)]; simp only [List.length_cons, List.length_nil]; omega
      · rw [if_neg ho]; simp only [List.length_nil]; omega
theorem opn_len_le (a : Int) (n : Nat) : (opn a n).length ≤ n := by
  rw [opn]
  exact Nat.le_trans (List.length_filter_le _ _) (by simp)
/-- A bit of a number, in the way of opn. -/
theorem bit_opn (a : Nat) (i : Nat) : ((a : Int) / 2 ^ i % 2 = 0) ↔ a.testBit i = false := by
  have e : ((a : Int) / 2 ^ i % 2) = ((a / 2 ^ i % 2 : Nat) : Int) := by simp
  rw [e, Nat.testBit_eq_decide_div_mod_eq]
  simp only [decide_eq_false_iff_not]
  omega
end Go.Proofs.Ytjhicdoigllblaa
/- A sender and its receiver: what stays true while they talk. -/
namespace Go.Proofs.Ytjhicdoigllblaa
set_option linter.unusedVariables false
set_option linter.unusedSimpArgs false
open Go.RowKit
/-- What holds of a sender and a receiver at a time t. -/
structure EI (P : List (List UInt8)) (s : Snd) (r : Rcv) (t : Int) : Prop where
  tag : s.tag = 3
  ps : s.ps = P
  v : VS s
  ak0 : 0 ≤ s.ak
  sub : ∀ i, s.ak.toNat.testBit i = true → r.hv.toNat.testBit i = true
  ri : RI P r
  pot : s.st = 1 → 72 * ((opn s.ak P.length).length : Int) + 8 * (8 - s.rd) + max (s.un - t) 0 + t ≤ 2368
theorem EI.fits {P : List (List UInt8)} {s : Snd} {r : Rcv} {t : Int} (hP : Pcs P) (h : EI P s r t) : s.fits := by
  have v := h.v
  have hst : s.st = 1 ∨ s.st = 2 ∨ s.st = 3 := by
    by_cases e : s.ak = allI s.ps.length
    · exact .inr (.inl (v.d e))
    · rcases v.a e with h | h
      · exact .inl h
      · exact .inr (.inr h)
  have hb := allI_b v.n2
  have := v.ak
  have := h.ak0
  have := v.r1
  have := v.r2
  have := v.u1
  have := v.u2
  have := v.n2
  exact ⟨by omega, by rw [h.tag]; omega, by omega, by omega, by omega, by omega, by rw [h.ps]; exact hP.b⟩
/-- The receiver takes a piece. -/
theorem EI.recv {P : List (List UInt8)} {s : Snd} {r : Rcv} {t : Int} (hP : Pcs P) (h : EI P s r t) (n : Nat) (hn : n < P.length) (k : Bool) :
    ∃ r', recvP r ⟨3, n, P.length, k, P.getD n []⟩ = (r', 0) ∧ RI1 P r' ∧ EI P s r' t ∧ r'.hv.toNat = r.hv.toNat ||| 2 ^ n := by
  obtain ⟨r', h1, h2, h3⟩ := h.ri.recv hP n hn k
  refine ⟨r', h1, h2, ⟨h.tag, h.ps, h.v, h.ak0, fun i hi => ?_, .inr h2, h.pot⟩, h3⟩
  rw [h3, Nat.testBit_or, h.sub i hi, Bool.true_or]
/-- A tick of an active sender. -/
theorem EI.next {P : List (List UInt8)} {s : Snd} {r : Rcv} {t : Int} (hP : Pcs P) (h : EI P s r t) (hst : s.st = 1) (ht : 0 ≤ t ∧ t ≤ 5000) :
    ∃ s' l, nextP s t = (s', l, 0) ∧ EI P s' r (t + 1) ∧ (l = [] ∨ l = mark (pre 3 P s.ak (min (opn s.ak P.length).length 8))) := by
  have v := h.v
  have hpot := h.pot hst
  obtain ⟨st, tag, ps, ak, rd, un⟩ := s
  have htag : tag = 3 := h.tag
  have hps : ps = P := h.ps
  subst htag hps
  have hst : st = 1 := hst
  subst hst
  have r1 : 0 ≤ rd := v.r1
  have r2 : rd ≤ 8 := v.r2
  have u1 : 0 ≤ un := v.u1
  have u2 : un ≤ 1099511627776 := v.u2
  have hne : ak ≠ allI ps.length := fun e => by have := v.d e; exact absurd (show (1 : Int) = 2 from this) (by decide)
  have hak : 0 ≤ ak ∧ ak < allI ps.length := ⟨h.ak0, by have := v.ak; dsimp only at this; omega⟩
  dsimp only at hpot
  rcases Int.lt_or_le t un with hw | hw
  · refine ⟨_, _, nextP_wait hP hak ⟨r1, r2⟩ ⟨u1, u2⟩ ⟨ht.1, hw⟩, ⟨rfl, rfl, v, h.ak0, h.sub, h.ri, fun _ => ?_⟩, .inl rfl⟩
    dsimp only
    omega
  · by_cases h8 : rd = 8
    · subst h8
      refine ⟨_, _, nextP_fail hP hak ⟨u1, u2⟩ ⟨hw, by omega⟩, ⟨rfl, rfl, ⟨v.n1, v.n2, v.ne, v.ak, v.r1, v.r2, v.u1, v.u2, fun e => absurd e hne, fun _ => .inr rfl⟩, h.ak0, h.sub, h.ri, fun e => ?_⟩, .inl rfl⟩
      exact absurd (show (3 : Int) = 1 from e) (by decide)
    · obtain ⟨x1, x2⟩ := nextP_send hP (tag := 3) hak ⟨r1, by omega⟩ ⟨u1, u2⟩ ⟨hw, by omega⟩
      refine ⟨_, _, x1, ⟨rfl, rfl, ⟨v.n1, v.n2, v.ne, v.ak, by dsimp only; omega, by dsimp only; omega, by dsimp only; omega, by dsimp only; omega, fun e => absurd e hne, fun _ => .inl rfl⟩, h.ak0, h.sub, h.ri, fun _ => ?_⟩, .inr rfl⟩
      dsimp only
      rw [Int.min_eq_left (by omega)]
      omega
end Go.Proofs.Ytjhicdoigllblaa
/- An acknowledgement keeps what is true of a sender and its receiver. -/
namespace Go.Proofs.Ytjhicdoigllblaa
set_option linter.unusedVariables false
set_option linter.unusedSimpArgs false
open Go.RowKit
theorem RI1.hvb {P : List (List UInt8)} {r : Rcv} (hP : Pcs P) (h : RI1 P r) : 0 ≤ r.hv ∧ r.hv ≤ allI P.length ∧ r.hv.toNat < 2 ^ P.length := by
  have h1 := bm_lt (fun i => decide (0 < (r.ps.getD i []).length)) r.ps.length
  have h2 := h.hv
  have h3 := h.len
  rw [show hasN r.ps r.ps.length = bm (fun i => decide (0 < (r.ps.getD i []).length)) r.ps.length from rfl] at h2
  rw [h3] at h1 h2
  rw [allI_nat]
  omega
theorem testBit_ge {a n i : Nat} (h : a < 2 ^ n) (hi : n ≤ i) : a.testBit i = false :=
  Nat.testBit_lt_two_pow (Nat.lt_of_lt_of_le h (Nat.pow_le_pow_right (by omega) hi))
theorem EI.ack {P : List (List UInt8)} {s : Snd} {r : Rcv} {t : Int} (hP : Pcs P) (h : EI P s r t) (hr : RI1 P r) (ht : 0 ≤ t) :
    ∃ s', ackP s 3 r.hv = (s', 0) ∧ EI P s' r t := by
  have v := h.v
  obtain ⟨b1, b2, b3⟩ := hr.hvb hP
  by_cases hst : s.st = 1
  · obtain ⟨st, tag, ps, ak, rd, un⟩ := s
    have hpot := h.pot hst
    have htag : tag = 3 := h.tag
    have hps : ps = P := h.ps
    have hst : st = 1 := hst
    subst htag hps hst
    have hak0 : 0 ≤ ak := h.ak0
    have hsub : ∀ i, ak.toNat.testBit i = true → r.hv.toNat.testBit i = true := h.sub
    have hle : ak ≤ allI ps.length := v.ak
    have r1 : 0 ≤ rd := v.r1
    have r2 : rd ≤ 8 := v.r2
    have u1 : 0 ≤ un := v.u1
    have hn1 := hP.n1
    have hn2 := hP.n2
    have hpw : 1 ≤ 2 ^ ps.length := Nat.one_le_two_pow
    have hw : ackW r.hv ps.length = r.hv := by
      have : r.hv.toNat &&& (allI ps.length).toNat = r.hv.toNat := by
        rw [allI_nat, Int.toNat_natCast, Nat.and_two_pow_sub_one_eq_mod, Nat.mod_eq_of_lt b3]
      rw [ackW, this]; omega
    have hor : ak.toNat ||| r.hv.toNat = r.hv.toNat := by
      apply Nat.eq_of_testBit_eq
      intro i
      rw [Nat.testBit_or]
      cases hb : ak.toNat.testBit i
      · simp
      · rw [hsub i hb]; rfl
    have ho : ackO r.hv ak = r.hv := by rw [ackO, hor]; omega
    have hne := hr.nz
    have e0 : ackP ⟨1, 3, ps, ak, rd, un⟩ 3 r.hv = (⟨if r.hv = allI ps.length then 2 else 1, 3, ps, r.hv, if ackD r.hv ak = 0 then rd else 0, 0⟩, 0) := by
      rw [ackP, if_neg (by rw [(vs_iff _).2 v]; simp), if_neg (by simp), if_neg (by simp), ackS]
      dsimp only
      rw [hw, if_neg hne, ho]
    refine ⟨_, e0, rfl, rfl, ⟨hn1, hn2, hP.ne, b2, ?_, ?_, by dsimp only; omega, by dsimp only; omega, fun e => if_pos e, fun e => .inl (if_neg e)⟩, b1, fun i hi => hi, h.ri, fun e1 => ?_⟩
    · dsimp only; split <;> omega
    · dsimp only; split <;> omega
    · dsimp only at e1 hpot ⊢
      split at e1
      · omega
      rename_i hna
      have mono : ∀ i, i < ps.length → r.hv / 2 ^ i % 2 = 0 → ak / 2 ^ i % 2 = 0 := fun i _ hb => by
        rw [← Int.toNat_of_nonneg b1] at hb
        rw [← Int.toNat_of_nonneg hak0]
        rw [bit_opn] at hb ⊢
        cases hb2 : ak.toNat.testBit i
        · rfl
        · rw [hsub i hb2] at hb; cases hb
      split
      · rename_i hd
        have := opn_mono ak r.hv ps.length mono
        omega
      · rename_i hd
        have : ∃ k, k < ps.length ∧ r.hv.toNat.testBit k = true ∧ ak.toNat.testBit k = false := by
          refine Classical.byContradiction fun hno => hd ?_
          have e : r.hv.toNat ^^^ (r.hv.toNat &&& ak.toNat) = 0 := by
            apply Nat.eq_of_testBit_eq
            intro i
            rw [Nat.testBit_xor, Nat.testBit_and, Nat.zero_testBit]
            cases h1 : r.hv.toNat.testBit i
            · rfl
            · cases h2 : ak.toNat.testBit i
              · exfalso
                refine hno ⟨i, ?_, h1, h2⟩
                rcases Nat.lt_or_ge i ps.length with h3 | h3
                · exact h3
                · rw [testBit_ge b3 h3] at h1; cases h1
              · rfl
          rw [ackD, e]; rfl
        obtain ⟨k, k1, k2, k3⟩ := this
        have := opn_lt2 ak r.hv k (by rw [← Int.toNat_of_nonneg hak0, bit_opn]; exact k3) (by rw [← Int.toNat_of_nonneg b1, bit_opn, k2]; simp) ps.length k1 mono
        omega
  · refine ⟨s, ?_, h⟩
    rw [ackP, if_neg (by rw [(vs_iff _).2 v]; simp), if_neg (by rw [h.tag]; simp), if_pos hst]
/-- A sender that is done has a receiver that has everything. -/
theorem EI.done {P : List (List UInt8)} {s : Snd} {r : Rcv} {t : Int} (hP : Pcs P) (h : EI P s r t) (hd : s.st = 2) : r.dn = true := by
  have v := h.v
  have hak : s.ak = allI P.length := by
    rw [← h.ps]
    refine Classical.byContradiction fun e => ?_
    have := v.a e
    omega
  have hall : ∀ i, i < P.length → r.hv.toNat.testBit i = true := fun i hi => h.sub i (by
    rw [hak, allI_nat, Int.toNat_natCast, Nat.testBit_two_pow_sub_one]; simpa using hi)
  have hn1 := hP.n1
  rcases h.ri with rfl | hr
  · have := hall 0 (by omega)
    simp [zR] at this
  · obtain ⟨b1, b2, b3⟩ := hr.hvb hP
    rw [hr.dn, decide_eq_true_iff]
    have : r.hv.toNat = 2 ^ P.length - 1 := by
      apply Nat.eq_of_testBit_eq
      intro i
      rw [Nat.testBit_two_pow_sub_one]
      rcases Nat.lt_or_ge i P.length with h1 | h1
      · rw [hall i h1]; simp [h1]
      · rw [testBit_ge b3 h1]; simp [Nat.not_lt.2 h1]
    rw [allI_nat]; omega
/-- A receiver that has everything has the pieces. -/
theorem RI.whole {P : List (List UInt8)} {r : Rcv} (hP : Pcs P) (h : RI P r) (hd : r.dn = true) : r.ps = P ∧ VRc r.tag r.cnt r.ps r.hv true := by
  rcases h with rfl | hr
  · cases hd
  · have hv := (vrc_iff r).1 (hr.vrc hP)
    rw [hd] at hv
    refine ⟨?_, hv⟩
    have h1 := hr.dn
    rw [hd] at h1
    have h2 := of_decide_eq_true h1.symm
    rw [hr.hv, allI_nat] at h2
    have h3 : hasN r.ps r.ps.length = 2 ^ P.length - 1 := by omega
    rw [← hr.len] at h3
    have h4 := (bm_full _ _).1 h3
    apply List.ext_getElem hr.len
    intro i i1 i2
    have h5 := h4 i i1
    have h6 := hr.ps i i2
    have h7 : r.ps.getD i [] = r.ps[i] := by simp [i1]
    have h8 : P.getD i [] = P[i] := by simp [i2]
    rw [h7, h8] at h6
    rw [h7] at h5
    have h9 := of_decide_eq_true h5
    rcases h6 with h6 | h6
    · rw [h6] at h9; simp at h9
    · exact h6
theorem RI.fits {P : List (List UInt8)} {r : Rcv} (hP : Pcs P) (h : RI P r) : r.fits := by
  have hn := hP.n2
  rcases h with rfl | hr
  · exact ⟨by decide, by decide, by decide, by decide, fun p hp => by cases hp⟩
  · obtain ⟨b1, b2, b3⟩ := hr.hvb hP
    have := allI_b hn
    refine ⟨by rw [hr.tag]; omega, by rw [hr.cnt]; omega, by omega, by rw [hr.len]; omega, fun p hp => ?_⟩
    obtain ⟨i, hi, rfl⟩ := List.mem_iff_getElem.1 hp
    have h6 := hr.ps i (by rw [← hr.len]; exact hi)
    have h7 : r.ps.getD i [] = r.ps[i] := by simp [hi]
    rw [h7] at h6
    rcases h6 with h6 | h6
    · rw [h6]; simp
    · rw [h6]
      have i2 : i < P.length := by rw [← hr.len]; exact hi
      have h8 : P.getD i [] = P[i] := by simp [i2]
      rw [h8]
      exact hP.b _ (List.getElem_mem i2)
end Go.Proofs.Ytjhicdoigllblaa
/- The walk of the law RecoveryWindow. -/
namespace Go.Proofs.Ytjhicdoigllblaa
set_option linter.unusedVariables false
set_option linter.unusedSimpArgs false
open Go.RowKit
set_option maxHeartbeats 16000000
theorem mark_get : ∀ (l : List Pce) (i : Nat) (p : Pce), l[i]? = some p → (mark l)[i]? = some { p with ack := if i + 1 = l.length then true else p.ack }
  | [], _, _, h => by cases h
  | [q], i, p, h => by
    cases i with
    | zero => injection h with h; subst h; rfl
    | succ i => cases h
  | q :: r :: l, i, p, h => by
    cases i with
    | zero =>
      injection h with h; subst h
      rw [mark, List.getElem?_cons_zero, if_neg (by simp)]
    | succ i =>
      rw [mark]
      have := mark_get (r :: l) i p h
      rw [List.getElem?_cons_succ, this]
      simp
theorem pre_get {tag : Int} {ps : List (List UInt8)} {ak : Int} {k i j : Nat} (hi : i < k) (h : (opn ak ps.length)[i]? = some j) : (pre tag ps ak k)[i]? = some ⟨tag, j, ps.length, false, ps.getD j []⟩ := by
  rw [pre, List.getElem?_map, List.getElem?_take, if_pos hi, h]; rfl
/-- The sender of the law Window after the acknowledgement. -/
theorem ackS_win {ps : List (List UInt8)} (h : Pcs ps) (m : Int) : ∃ st ak rd un : Int, ackS ⟨1, 9, ps, 0, 0, 0⟩ m = ⟨st, 9, ps, ak, rd, un⟩ ∧ (st = 1 → 0 ≤ ak ∧ ak < allI ps.length ∧ rd = 0 ∧ un = 0) := by
  unfold ackS
  dsimp only
  have hw := ackW_b m ps.length h.n2
  have hw2 : ackW m ps.length ≤ allI ps.length := by
    have h1 := Nat.and_le_right (n := m.toNat) (m := (allI ps.length).toNat)
    have := allI_pos h.n1
    rw [ackW]; omega
  have ho : ackO (ackW m ps.length) 0 = ackW m ps.length := by
    rw [ackO, show Int.toNat 0 = 0 from rfl, Nat.zero_or]; omega
  split
  · exact ⟨_, _, _, _, rfl, fun h => by omega⟩
  · refine ⟨_, _, _, _, rfl, fun h => ?_⟩
    rw [ho] at h
    rw [ho]
    split at h
    · omega
    · exact ⟨hw.1, by omega, by split <;> rfl, rfl⟩
set_option maxRecDepth 4000 in
theorem window_c (zs : List Int) (m : Int) (hz : ∀ v ∈ zs, -9223372036854775808 ≤ v ∧ v ≤ 9223372036854775807) (hm : 0 ≤ m ∧ m ≤ 4294967295) :
    Good 5 (pu [.lst none (ints .i64 zs), .int .u32 m] (.bool true)) := by
  obtain ⟨T, hT⟩ : ∃ T, T = (ints .i64 zs).take 400 := ⟨_, rfl⟩
  have h0 := new_c (ints .i64 zs) T hT
  have t0 : Tp T 0 := hT ▸ tape1 zs hz
  obtain ⟨N0, a0, hN1, hN2, t1, g0⟩ := next_e t0 300 (by omega)
  obtain ⟨N, hN⟩ : ∃ N, N = 1 + N0 := ⟨_, rfl⟩
  obtain ⟨R0, ys, a1, hR0, hyl, hy, t2, g1⟩ := fill_e t1 N (by omega)
  obtain ⟨bs, hbs, hbl⟩ := u8l_of ys hy
  have hRb : R0 = u8l bs := hR0.trans hbs
  have hRl : R0.length = bs.length := by rw [hRb, u8l_len]
  obtain ⟨sz, hsz⟩ : ∃ sz, sz = (bs.length + 31) / 32 := ⟨_, rfl⟩
  obtain ⟨q1', P0⟩ := beg_ok bs 9 sz (by omega) (by omega) (by omega) (by rw [Nat.div_lt_iff_lt_mul (by omega)]; omega)
  obtain ⟨ps, hps⟩ : ∃ ps, ps = chk sz bs (nPc bs.length sz) := ⟨_, rfl⟩
  rw [← hps] at q1' P0
  obtain ⟨R, hR⟩ : ∃ R, R = rowsB ps := ⟨_, rfl⟩
  have hRn : R.length = ps.length := by rw [hR, rowsB_len]
  obtain ⟨rm, hrm⟩ : ∃ rm : Int, rm = 4 + sz := ⟨_, rfl⟩
  have g2 := begin_p bs R0 hRb (by omega) 9 (4 + sz) (by omega) ⟨1, 9, ps, 0, 0, 0⟩ R hR 0 q1'
  rw [← hrm] at g2
  have ha : (0 : Int) ≤ 0 ∧ 0 < allI ps.length := ⟨by omega, by have := allI_pos P0.n1; omega⟩
  have hv0 := P0.vs (st := 1) (tag := 9) (ak := 0) (rd := 0) (un := 0) (.inl rfl) ha.2 (by omega) (by omega)
  obtain ⟨st, ak, rd, un, k1, k2⟩ := ackS_win P0 m
  have hack : ackP ⟨1, 9, ps, 0, 0, 0⟩ 9 m = (⟨st, 9, ps, ak, rd, un⟩, 0) := by
    rw [ackP, if_neg (by rw [hv0]; simp), if_neg (by simp), if_neg (by simp), k1]
  have g3 := ack_p ⟨1, 9, ps, 0, 0, 0⟩ R hR (P0.fits (by omega) (by omega) (by omega) (by omega) (by omega)) 9 m (by omega) hm _ R hR 0 hack
  have hf1 := ack_fits ⟨1, 9, ps, 0, 0, 0⟩ 9 m (P0.fits (by omega) (by omega) (by omega) (by omega) (by omega))
  rw [hack] at hf1
  have hk := known_c
  clear hz hack k1 hv0 q1' hps t0 t1 t2 hR0 hbs hT
  have hE := fun i hi => rowsB_at hR i hi
  have hfb := P0.b
  have main : st = 1 → ∃ (k W : Nat) (L : List SV) (cn : Nat → Nat) (bt : Nat → Int) (s2 : SV), k = min W 8 ∧ L.length = k ∧ cn 0 = 0 ∧ cn ps.length = W ∧ (∀ i, i < ps.length → cn (i + 1) = cn i + (if bt i = 0 then 1 else 0)) ∧
      (∀ i, bt i = (((ak / 2 ^ i).toNat &&& 1 : Nat) : Int)) ∧ (∀ i, bt i = 0 ∨ bt i = 1) ∧
      (∀ i B, i < ps.length → bt i = 0 → cn i < k → R[i]? = some (.lst none B) → ∃ κ : Bool, (κ = true ↔ cn i + 1 = k) ∧ L[cn i]? = some (.agg [.int .u8 9, .int .i64 (i : Int), .int .i64 (ps.length : Int), .bool κ, .lst none B])) ∧
      Good 15 (pu [.agg [.int .i64 1, .int .u8 9, .lst none R, .int .u32 ak, .int .i64 rd, .int .i64 un], .int .i64 0] (.tup [.agg [.int .i64 1, .int .u8 9, .lst none R, .int .u32 ak, .int .i64 1, .int .i64 8], .lst (some 5) L, .int .i64 0])) := fun hst => by
    obtain ⟨y1, y2, rfl, rfl⟩ := k2 hst
    subst hst
    obtain ⟨x1, x2⟩ := nextP_send P0 (tag := 9) (ak := ak) (rd := 0) (un := 0) (now := 0) ⟨y1, y2⟩ (by omega) (by omega) (by omega)
    have hw1 := fun i => and1n ak y1 i
    refine ⟨_, (opn ak ps.length).length, _, cntF ak 0, fun i => (((ak / 2 ^ i).toNat &&& 1 : Nat) : Int), .nil, rfl, ?_, rfl, opn_cnt ak _, fun i hi => ?_, fun _ => rfl, fun i => ?_, fun i B hi hb hik hRi => ?_, next_p _ R hR hf1 0 (by omega) _ R hR _ _ rfl 0 x1⟩
    · rw [pcL_len, sent_len]
    · show cntF ak 0 (i + 1) = cntF ak 0 i + (if (((ak / 2 ^ i).toNat &&& 1 : Nat) : Int) = 0 then 1 else 0)
      rw [hw1, cntF_succ, Nat.zero_add]
    · show (((ak / 2 ^ i).toNat &&& 1 : Nat) : Int) = 0 ∨ (((ak / 2 ^ i).toNat &&& 1 : Nat) : Int) = 1
      rw [hw1]; omega
    · have hb : (((ak / 2 ^ i).toNat &&& 1 : Nat) : Int) = 0 := hb
      rw [hw1] at hb
      have h1 := pre_get (tag := 9) (ps := ps) (ak := ak) hik (opn_at hi hb)
      have h2 := mark_get _ _ _ h1
      refine ⟨if cntF ak 0 i + 1 = (pre 9 ps ak (min (opn ak ps.length).length 8)).length then true else false, ?_, ?_⟩
      · rw [pre_len _ _ _ _ (by omega)]
        split <;> simp_all
      · obtain ⟨b, B', e1, e2, e3⟩ := hE i hi
        rw [hRi] at e3
        injection e3 with e3
        injection e3 with _ e3
        rw [pcL, List.getElem?_map, h2, e3, e2]
        have : ps.getD i [] = b := by rw [List.getD_eq_getElem?_getD, e1]; rfl
        rw [this]
        rfl
  obtain ⟨n, hn⟩ : ∃ n, n = ps.length := ⟨_, rfl⟩
  have hn32 := P0.n2
  rw [← hn] at main hRn hn32
  simp only [← hn] at hE
  have hakb : 0 ≤ ak ∧ ak ≤ 4294967295 := by have := hf1.ak; dsimp only at this; omega
  clear P0 hR ha hf1
  generalize ints .i64 zs = Z at *
  refine Good.of Try.func5 rfl (by rfl) (by kernel_rfl) ?_
  cbv
  have hmk : True := trivial
  (repeat' (first
    | (refine q1 (by first | exact trivial | omega | (dsimp only; omega) | exact pow62 _ (by omega) | exact mul9 (by omega) (by omega) | (simp only [sm] at *; omega)) (fun z hz => ?_); (try simp only at hz); cbv)
    | (refine rq (by first | exact trivial | omega | (dsimp only; omega) | (simp only [sm] at *; omega)) ?_; cbv)
    | (refine QC.tt (by first | omega | (dsimp only; omega) | exact rfl | (simp only [sm] at *; omega)) ?_; cbv)
    | (refine QC.tt ?_ ?_; (focus (simp only [decide_true, Bool.and_true, Bool.and_self] <;> fail)); cbv)
    | (refine QC.ff ?_ ?_; (focus (simp only [decide_true, Bool.and_true, Bool.and_self, decide_false, Bool.false_and, reduceCtorEq, not_false_eq_true] <;> fail)); cbv)
    | (refine QC.ff (by first | omega | (dsimp only; omega) | (simp only [sm] at *; omega)) ?_; cbv)
    | (refine QC.mk (fun hc => ?_) (fun hc => ?_) <;> (try dsimp only at hc) <;> cbv)
    | (refine br_mk2 (fun hb => ?_) (fun hb => ?_) <;> (try subst hb) <;> cbv)))
  (refine callq (h0) rfl rfl ?_; cbv; (repeat' (first
    | (refine q1 (by first | exact trivial | omega | (dsimp only; omega) | exact pow62 _ (by omega) | exact mul9 (by omega) (by omega) | (simp only [sm] at *; omega)) (fun z hz => ?_); (try simp only at hz); cbv)
    | (refine rq (by first | exact trivial | omega | (dsimp only; omega) | (simp only [sm] at *; omega)) ?_; cbv)
    | (refine QC.tt (by first | omega | (dsimp only; omega) | exact rfl | (simp only [sm] at *; omega)) ?_; cbv)
    | (refine QC.tt ?_ ?_; (focus (simp only [decide_true, Bool.and_true, Bool.and_self] <;> fail)); cbv)
    | (refine QC.ff ?_ ?_; (focus (simp only [decide_true, Bool.and_true, Bool.and_self, decide_false, Bool.false_and, reduceCtorEq, not_false_eq_true] <;> fail)); cbv)
    | (refine QC.ff (by first | omega | (dsimp only; omega) | (simp only [sm] at *; omega)) ?_; cbv)
    | (refine QC.mk (fun hc => ?_) (fun hc => ?_) <;> (try dsimp only at hc) <;> cbv)
    | (refine br_mk2 (fun hb => ?_) (fun hb => ?_) <;> (try subst hb) <;> cbv))))
  (refine callq (g0) rfl rfl ?_; cbv; (repeat' (first
    | (refine q1 (by first | exact trivial | omega | (dsimp only; omega) | exact pow62 _ (by omega) | exact mul9 (by omega) (by omega) | (simp only [sm] at *; omega)) (fun z hz => ?_); (try simp only at hz); cbv)
    | (refine rq (by first | exact trivial | omega | (dsimp only; omega) | (simp only [sm] at *; omega)) ?_; cbv)
    | (refine QC.tt (by first | omega | (dsimp only; omega) | exact rfl | (simp only [sm] at *; omega)) ?_; cbv)
    | (refine QC.tt ?_ ?_; (focus (simp only [decide_true, Bool.and_true, Bool.and_self] <;> fail)); cbv)
    | (refine QC.ff ?_ ?_; (focus (simp only [decide_true, Bool.and_true, Bool.and_self, decide_false, Bool.false_and, reduceCtorEq, not_false_eq_true] <;> fail)); cbv)
    | (refine QC.ff (by first | omega | (dsimp only; omega) | (simp only [sm] at *; omega)) ?_; cbv)
    | (refine QC.mk (fun hc => ?_) (fun hc => ?_) <;> (try dsimp only at hc) <;> cbv)
    | (refine br_mk2 (fun hb => ?_) (fun hb => ?_) <;> (try subst hb) <;> cbv))))
  have hzN := hz.trans hN.symm
  subst hzN
  (refine callq (g1) rfl rfl ?_; cbv; (repeat' (first
    | (refine q1 (by first | exact trivial | omega | (dsimp only; omega) | exact pow62 _ (by omega) | exact mul9 (by omega) (by omega) | (simp only [sm] at *; omega)) (fun z hz => ?_); (try simp only at hz); cbv)
    | (refine rq (by first | exact trivial | omega | (dsimp only; omega) | (simp only [sm] at *; omega)) ?_; cbv)
    | (refine QC.tt (by first | omega | (dsimp only; omega) | exact rfl | (simp only [sm] at *; omega)) ?_; cbv)
    | (refine QC.tt ?_ ?_; (focus (simp only [decide_true, Bool.and_true, Bool.and_self] <;> fail)); cbv)
    | (refine QC.ff ?_ ?_; (focus (simp only [decide_true, Bool.and_true, Bool.and_self, decide_false, Bool.false_and, reduceCtorEq, not_false_eq_true] <;> fail)); cbv)
    | (refine QC.ff (by first | omega | (dsimp only; omega) | (simp only [sm] at *; omega)) ?_; cbv)
    | (refine QC.mk (fun hc => ?_) (fun hc => ?_) <;> (try dsimp only at hc) <;> cbv)
    | (refine br_mk2 (fun hb => ?_) (fun hb => ?_) <;> (try subst hb) <;> cbv))))
  have hzq : z = sz := by
    have := hz.1 (by (first | omega | (simp only [cst] at *; omega) | (simp only [sm] at *; omega)))
    (first | omega | (simp only [cst] at *; omega) | (simp only [sm] at *; omega))
  refine q1 ⟨by (first | omega | (simp only [cst] at *; omega) | (simp only [sm] at *; omega)), by (first | omega | (simp only [cst] at *; omega) | (simp only [sm] at *; omega))⟩ ?_
  intro za hza
  have hzr : za = rm := by (first | omega | (simp only [cst] at *; omega) | (simp only [sm] at *; omega))
  subst hzr
  cbv
  (repeat' (first
    | (refine q1 (by first | exact trivial | omega | (dsimp only; omega) | exact pow62 _ (by omega) | exact mul9 (by omega) (by omega) | (simp only [sm] at *; omega)) (fun z hz => ?_); (try simp only at hz); cbv)
    | (refine rq (by first | exact trivial | omega | (dsimp only; omega) | (simp only [sm] at *; omega)) ?_; cbv)
    | (refine QC.tt (by first | omega | (dsimp only; omega) | exact rfl | (simp only [sm] at *; omega)) ?_; cbv)
    | (refine QC.tt ?_ ?_; (focus (simp only [decide_true, Bool.and_true, Bool.and_self] <;> fail)); cbv)
    | (refine QC.ff ?_ ?_; (focus (simp only [decide_true, Bool.and_true, Bool.and_self, decide_false, Bool.false_and, reduceCtorEq, not_false_eq_true] <;> fail)); cbv)
    | (refine QC.ff (by first | omega | (dsimp only; omega) | (simp only [sm] at *; omega)) ?_; cbv)
    | (refine QC.mk (fun hc => ?_) (fun hc => ?_) <;> (try dsimp only at hc) <;> cbv)
    | (refine br_mk2 (fun hb => ?_) (fun hb => ?_) <;> (try subst hb) <;> cbv)))
  (refine callq (g2) rfl rfl ?_; cbv; (repeat' (first
    | (refine q1 (by first | exact trivial | omega | (dsimp only; omega) | exact pow62 _ (by omega) | exact mul9 (by omega) (by omega) | (simp only [sm] at *; omega)) (fun z hz => ?_); (try simp only at hz); cbv)
    | (refine rq (by first | exact trivial | omega | (dsimp only; omega) | (simp only [sm] at *; omega)) ?_; cbv)
    | (refine QC.tt (by first | omega | (dsimp only; omega) | exact rfl | (simp only [sm] at *; omega)) ?_; cbv)
    | (refine QC.tt ?_ ?_; (focus (simp only [decide_true, Bool.and_true, Bool.and_self] <;> fail)); cbv)
    | (refine QC.ff ?_ ?_; (focus (simp only [decide_true, Bool.and_true, Bool.and_self, decide_false, Bool.false_and, reduceCtorEq, not_false_eq_true] <;> fail)); cbv)
    | (refine QC.ff (by first | omega | (dsimp only; omega) | (simp only [sm] at *; omega)) ?_; cbv)
    | (refine QC.mk (fun hc => ?_) (fun hc => ?_) <;> (try dsimp only at hc) <;> cbv)
    | (refine br_mk2 (fun hb => ?_) (fun hb => ?_) <;> (try subst hb) <;> cbv))))
  (refine callq (g3) rfl rfl ?_; cbv; (repeat' (first
    | (refine q1 (by first | exact trivial | omega | (dsimp only; omega) | exact pow62 _ (by omega) | exact mul9 (by omega) (by omega) | (simp only [sm] at *; omega)) (fun z hz => ?_); (try simp only at hz); cbv)
    | (refine rq (by first | exact trivial | omega | (dsimp only; omega) | (simp only [sm] at *; omega)) ?_; cbv)
    | (refine QC.tt (by first | omega | (dsimp only; omega) | exact rfl | (simp only [sm] at *; omega)) ?_; cbv)
    | (refine QC.tt ?_ ?_; (focus (simp only [decide_true, Bool.and_true, Bool.and_self] <;> fail)); cbv)
    | (refine QC.ff ?_ ?_; (focus (simp only [decide_true, Bool.and_true, Bool.and_self, decide_false, Bool.false_and, reduceCtorEq, not_false_eq_true] <;> fail)); cbv)
    | (refine QC.ff (by first | omega | (dsimp only; omega) | (simp only [sm] at *; omega)) ?_; cbv)
    | (refine QC.mk (fun hc => ?_) (fun hc => ?_) <;> (try dsimp only at hc) <;> cbv)
    | (refine br_mk2 (fun hb => ?_) (fun hb => ?_) <;> (try subst hb) <;> cbv))))
  · (refine callq (hk) rfl rfl ?_; cbv; (repeat' (first
    | (refine q1 (by first | exact trivial | omega | (dsimp only; omega) | exact pow62 _ (by omega) | exact mul9 (by omega) (by omega) | (simp only [sm] at *; omega)) (fun z hz => ?_); (try simp only at hz); cbv)
    | (refine rq (by first | exact trivial | omega | (dsimp only; omega) | (simp only [sm] at *; omega)) ?_; cbv)
    | (refine QC.tt (by first | omega | (dsimp only; omega) | exact rfl | (simp only [sm] at *; omega)) ?_; cbv)
    | (refine QC.tt ?_ ?_; (focus (simp only [decide_true, Bool.and_true, Bool.and_self] <;> fail)); cbv)
    | (refine QC.ff ?_ ?_; (focus (simp only [decide_true, Bool.and_true, Bool.and_self, decide_false, Bool.false_and, reduceCtorEq, not_false_eq_true] <;> fail)); cbv)
    | (refine QC.ff (by first | omega | (dsimp only; omega) | (simp only [sm] at *; omega)) ?_; cbv)
    | (refine QC.mk (fun hc => ?_) (fun hc => ?_) <;> (try dsimp only at hc) <;> cbv)
    | (refine br_mk2 (fun hb => ?_) (fun hb => ?_) <;> (try subst hb) <;> cbv))))
    exact ⟨rfl, rfl, rfl⟩
  · have hst : st = 1 := Classical.not_not.1 hc
    obtain ⟨k, W, L, cn, bt, s2, hkW, hLl, hc0, hcn, hcs, hbt, hb01, hLe, g4⟩ := main hst
    subst hst
    clear main k2 g3 g2 g1 g0 h0
    have hak : 0 ≤ ak ∧ ak ≤ 4294967295 := hakb
    have hkm : True := trivial
    (refine callq (g4) rfl rfl ?_; cbv; (repeat' (first
    | (refine q1 (by first | exact trivial | omega | (dsimp only; omega) | exact pow62 _ (by omega) | exact mul9 (by omega) (by omega) | (simp only [sm] at *; omega)) (fun z hz => ?_); (try simp only at hz); cbv)
    | (refine rq (by first | exact trivial | omega | (dsimp only; omega) | (simp only [sm] at *; omega)) ?_; cbv)
    | (refine QC.tt (by first | omega | (dsimp only; omega) | exact rfl | (simp only [sm] at *; omega)) ?_; cbv)
    | (refine QC.tt ?_ ?_; (focus (simp only [decide_true, Bool.and_true, Bool.and_self] <;> fail)); cbv)
    | (refine QC.ff ?_ ?_; (focus (simp only [decide_true, Bool.and_true, Bool.and_self, decide_false, Bool.false_and, reduceCtorEq, not_false_eq_true] <;> fail)); cbv)
    | (refine QC.ff (by first | omega | (dsimp only; omega) | (simp only [sm] at *; omega)) ?_; cbv)
    | (refine QC.mk (fun hc => ?_) (fun hc => ?_) <;> (try dsimp only at hc) <;> cbv)
    | (refine br_mk2 (fun hb => ?_) (fun hb => ?_) <;> (try subst hb) <;> cbv))))
    refine loopQ (A := (Nat × Int) × (Nat × Int)) (fun p => (p.1.2 = p.1.1 ∧ p.2.2 = p.2.1) ∧ p.2.1 ≤ n ∧ p.1.1 ≤ k ∧ cn p.2.1 = p.1.1) (fun p => k - p.1.1) (fun p => [(14, .int .i64 p.1.2), (13, .int .i64 p.2.2)]) (fun p => []) ((0, 0), (0, 0)) ⟨⟨rfl, rfl⟩, Nat.zero_le _, Nat.zero_le _, hc0⟩ ?_ ?_
    · cbv
    · intro ⟨⟨i, j⟩, ⟨a, b⟩⟩ hh
      have hj : j = (i : Int) := hh.1.1
      have hb : b = (a : Int) := hh.1.2
      have han : a ≤ n := hh.2.1
      have hik : i ≤ k := hh.2.2.1
      have hca : cn a = i := hh.2.2.2
      clear hh
      have hkl : True := trivial
      cbv
      (repeat' (first
    | (refine q1 (by first | exact trivial | omega | (dsimp only; omega) | exact pow62 _ (by omega) | exact mul9 (by omega) (by omega) | (simp only [sm] at *; omega)) (fun z hz => ?_); (try simp only at hz); cbv)
    | (refine rq (by first | exact trivial | omega | (dsimp only; omega) | (simp only [sm] at *; omega)) ?_; cbv)
    | (refine QC.tt (by first | omega | (dsimp only; omega) | exact rfl | (simp only [sm] at *; omega)) ?_; cbv)
    | (refine QC.tt ?_ ?_; (focus (simp only [decide_true, Bool.and_true, Bool.and_self] <;> fail)); cbv)
    | (refine QC.ff ?_ ?_; (focus (simp only [decide_true, Bool.and_true, Bool.and_self, decide_false, Bool.false_and, reduceCtorEq, not_false_eq_true] <;> fail)); cbv)
    | (refine QC.ff (by first | omega | (dsimp only; omega) | (simp only [sm] at *; omega)) ?_; cbv)
    | (refine QC.mk (fun hc => ?_) (fun hc => ?_) <;> (try dsimp only at hc) <;> cbv)
    | (refine br_mk2 (fun hb => ?_) (fun hb => ?_) <;> (try subst hb) <;> cbv)))
      · refine loopQ (A := Nat × Int) (fun p => p.2 = p.1 ∧ p.1 ≤ n ∧ cn p.1 = i) (fun p => n - p.1) (fun p => [(13, .int .i64 p.2)]) (fun p => []) (a, b) ⟨hb, han, hca⟩ ?_ ?_
        · cbv
        · intro ⟨a2, b2⟩ hh
          have hb2 : b2 = (a2 : Int) := hh.1
          have ha2 : a2 ≤ n := hh.2.1
          have hc2 : cn a2 = i := hh.2.2
          clear hh
          have hkk : True := trivial
          cbv
          (repeat' (first
    | (refine q1 (by first | exact trivial | omega | (dsimp only; omega) | exact pow62 _ (by omega) | exact mul9 (by omega) (by omega) | (simp only [sm] at *; omega)) (fun z hz => ?_); (try simp only at hz); cbv)
    | (refine rq (by first | exact trivial | omega | (dsimp only; omega) | (simp only [sm] at *; omega)) ?_; cbv)
    | (refine QC.tt (by first | omega | (dsimp only; omega) | exact rfl | (simp only [sm] at *; omega)) ?_; cbv)
    | (refine QC.tt ?_ ?_; (focus (simp only [decide_true, Bool.and_true, Bool.and_self] <;> fail)); cbv)
    | (refine QC.ff ?_ ?_; (focus (simp only [decide_true, Bool.and_true, Bool.and_self, decide_false, Bool.false_and, reduceCtorEq, not_false_eq_true] <;> fail)); cbv)
    | (refine QC.ff (by first | omega | (dsimp only; omega) | (simp only [sm] at *; omega)) ?_; cbv)
    | (refine QC.mk (fun hc => ?_) (fun hc => ?_) <;> (try dsimp only at hc) <;> cbv)
    | (refine br_mk2 (fun hb => ?_) (fun hb => ?_) <;> (try subst hb) <;> cbv)))
          · rename_i zr hzr hcr zj hzj
            have hiL : a2 < n := by (first | omega | (simp only [cst] at *; omega) | (simp only [sm] at *; omega))
            have hji : zj.toNat = a2 := by (first | omega | (simp only [cst] at *; omega) | (simp only [sm] at *; omega))
            have hz0 : 0 ≤ z := by rw [hz]; exact Int.ediv_nonneg hak.1 (Int.pow_nonneg (by omega))
            have hz4 : z ≤ ak := by rw [hz]; exact Int.ediv_le_self _ hak.1
            have hzz : ((z.toNat &&& Int.toNat 1 : Nat) : Int) = bt a2 := by rw [hbt, hz, hji]; rfl
            have hs := hcs a2 hiL
            have hb0 := hb01 a2
            obtain ⟨bb, B, hbi, hB, hEi⟩ := hE a2 hiL
            have hbl := hfb bb (List.mem_of_getElem? hbi)
            have hL2 := hLe a2 B hiL
            rw [hc2] at hL2
            refine q1 ⟨hz0, by omega, by omega, by omega⟩ ?_
            intro za hza
            have hza := hza.trans hzz
            clear hz hzz
            cbv
            (repeat' (first
    | (refine q1 (by first | exact trivial | omega | (dsimp only; omega) | exact pow62 _ (by omega) | exact mul9 (by omega) (by omega) | (simp only [sm] at *; omega)) (fun z hz => ?_); (try simp only at hz); cbv)
    | (refine rq (by first | exact trivial | omega | (dsimp only; omega) | (simp only [sm] at *; omega)) ?_; cbv)
    | (refine QC.tt (by first | omega | (dsimp only; omega) | exact rfl | (simp only [sm] at *; omega)) ?_; cbv)
    | (refine QC.tt ?_ ?_; (focus (simp only [decide_true, Bool.and_true, Bool.and_self] <;> fail)); cbv)
    | (refine QC.ff ?_ ?_; (focus (simp only [decide_true, Bool.and_true, Bool.and_self, decide_false, Bool.false_and, reduceCtorEq, not_false_eq_true] <;> fail)); cbv)
    | (refine QC.ff (by first | omega | (dsimp only; omega) | (simp only [sm] at *; omega)) ?_; cbv)
    | (refine QC.mk (fun hc => ?_) (fun hc => ?_) <;> (try dsimp only at hc) <;> cbv)
    | (refine br_mk2 (fun hb => ?_) (fun hb => ?_) <;> (try subst hb) <;> cbv)))
            · have hs2 : cn (a2 + 1) = i := by rw [hs, if_neg (by omega), hc2, Nat.add_zero]
              refine ⟨(a2 + 1, z), ⟨by show z = ((a2 + 1 : Nat) : Int); (first | omega | (simp only [cst] at *; omega) | (simp only [sm] at *; omega)), by show a2 + 1 ≤ n; omega, hs2⟩, by show n - (a2 + 1) < n - a2; omega, ?_⟩
              cbv
            · have hb3 : bt a2 = 0 := by omega
              have hs2 : cn (a2 + 1) = i + 1 := by rw [hs, if_pos hb3, hc2]
              have hik2 : i < k := by (first | omega | (simp only [cst] at *; omega) | (simp only [sm] at *; omega))
              obtain ⟨κ, hκ, hL3⟩ := hL2 hb3 hik2 hEi
              have gs := same_c bb bb B B true hB hB (by omega) (by omega) (by simp)
              rw [← hb2] at hL3
              clear hL2 hs hbi hB
              have hkj : True := trivial
              cases κ
              · have hne : ¬ i + 1 = k := fun h => by have := hκ.2 h; cases this
                (refine qv (i, _) ⟨hj, hL3⟩ ?_; cbv; (repeat' (first
    | (refine q1 (by first | exact trivial | omega | (dsimp only; omega) | exact pow62 _ (by omega) | exact mul9 (by omega) (by omega) | (simp only [sm] at *; omega)) (fun z hz => ?_); (try simp only at hz); cbv)
    | (refine rq (by first | exact trivial | omega | (dsimp only; omega) | (simp only [sm] at *; omega)) ?_; cbv)
    | (refine QC.tt (by first | omega | (dsimp only; omega) | exact rfl | (simp only [sm] at *; omega)) ?_; cbv)
    | (refine QC.tt ?_ ?_; (focus (simp only [decide_true, Bool.and_true, Bool.and_self] <;> fail)); cbv)
    | (refine QC.ff ?_ ?_; (focus (simp only [decide_true, Bool.and_true, Bool.and_self, decide_false, Bool.false_and, reduceCtorEq, not_false_eq_true] <;> fail)); cbv)
    | (refine QC.ff (by first | omega | (dsimp only; omega) | (simp only [sm] at *; omega)) ?_; cbv)
    | (refine QC.mk (fun hc => ?_) (fun hc => ?_) <;> (try dsimp only at hc) <;> cbv)
    | (refine br_mk2 (fun hb => ?_) (fun hb => ?_) <;> (try subst hb) <;> cbv))))
                (refine qv (i, _) ⟨hj, hL3⟩ ?_; cbv; (repeat' (first
    | (refine q1 (by first | exact trivial | omega | (dsimp only; omega) | exact pow62 _ (by omega) | exact mul9 (by omega) (by omega) | (simp only [sm] at *; omega)) (fun z hz => ?_); (try simp only at hz); cbv)
    | (refine rq (by first | exact trivial | omega | (dsimp only; omega) | (simp only [sm] at *; omega)) ?_; cbv)
    | (refine QC.tt (by first | omega | (dsimp only; omega) | exact rfl | (simp only [sm] at *; omega)) ?_; cbv)
    | (refine QC.tt ?_ ?_; (focus (simp only [decide_true, Bool.and_true, Bool.and_self] <;> fail)); cbv)
    | (refine QC.ff ?_ ?_; (focus (simp only [decide_true, Bool.and_true, Bool.and_self, decide_false, Bool.false_and, reduceCtorEq, not_false_eq_true] <;> fail)); cbv)
    | (refine QC.ff (by first | omega | (dsimp only; omega) | (simp only [sm] at *; omega)) ?_; cbv)
    | (refine QC.mk (fun hc => ?_) (fun hc => ?_) <;> (try dsimp only at hc) <;> cbv)
    | (refine br_mk2 (fun hb => ?_) (fun hb => ?_) <;> (try subst hb) <;> cbv))))
                (refine qv (i, _) ⟨hj, hL3⟩ ?_; cbv; (repeat' (first
    | (refine q1 (by first | exact trivial | omega | (dsimp only; omega) | exact pow62 _ (by omega) | exact mul9 (by omega) (by omega) | (simp only [sm] at *; omega)) (fun z hz => ?_); (try simp only at hz); cbv)
    | (refine rq (by first | exact trivial | omega | (dsimp only; omega) | (simp only [sm] at *; omega)) ?_; cbv)
    | (refine QC.tt (by first | omega | (dsimp only; omega) | exact rfl | (simp only [sm] at *; omega)) ?_; cbv)
    | (refine QC.tt ?_ ?_; (focus (simp only [decide_true, Bool.and_true, Bool.and_self] <;> fail)); cbv)
    | (refine QC.ff ?_ ?_; (focus (simp only [decide_true, Bool.and_true, Bool.and_self, decide_false, Bool.false_and, reduceCtorEq, not_false_eq_true] <;> fail)); cbv)
    | (refine QC.ff (by first | omega | (dsimp only; omega) | (simp only [sm] at *; omega)) ?_; cbv)
    | (refine QC.mk (fun hc => ?_) (fun hc => ?_) <;> (try dsimp only at hc) <;> cbv)
    | (refine br_mk2 (fun hb => ?_) (fun hb => ?_) <;> (try subst hb) <;> cbv))))
                (refine qv (a2, _) ⟨hb2, hEi⟩ ?_; cbv; (repeat' (first
    | (refine q1 (by first | exact trivial | omega | (dsimp only; omega) | exact pow62 _ (by omega) | exact mul9 (by omega) (by omega) | (simp only [sm] at *; omega)) (fun z hz => ?_); (try simp only at hz); cbv)
    | (refine rq (by first | exact trivial | omega | (dsimp only; omega) | (simp only [sm] at *; omega)) ?_; cbv)
    | (refine QC.tt (by first | omega | (dsimp only; omega) | exact rfl | (simp only [sm] at *; omega)) ?_; cbv)
    | (refine QC.tt ?_ ?_; (focus (simp only [decide_true, Bool.and_true, Bool.and_self] <;> fail)); cbv)
    | (refine QC.ff ?_ ?_; (focus (simp only [decide_true, Bool.and_true, Bool.and_self, decide_false, Bool.false_and, reduceCtorEq, not_false_eq_true] <;> fail)); cbv)
    | (refine QC.ff (by first | omega | (dsimp only; omega) | (simp only [sm] at *; omega)) ?_; cbv)
    | (refine QC.mk (fun hc => ?_) (fun hc => ?_) <;> (try dsimp only at hc) <;> cbv)
    | (refine br_mk2 (fun hb => ?_) (fun hb => ?_) <;> (try subst hb) <;> cbv))))
                (refine callq (gs) rfl rfl ?_; cbv; (repeat' (first
    | (refine q1 (by first | exact trivial | omega | (dsimp only; omega) | exact pow62 _ (by omega) | exact mul9 (by omega) (by omega) | (simp only [sm] at *; omega)) (fun z hz => ?_); (try simp only at hz); cbv)
    | (refine rq (by first | exact trivial | omega | (dsimp only; omega) | (simp only [sm] at *; omega)) ?_; cbv)
    | (refine QC.tt (by first | omega | (dsimp only; omega) | exact rfl | (simp only [sm] at *; omega)) ?_; cbv)
    | (refine QC.tt ?_ ?_; (focus (simp only [decide_true, Bool.and_true, Bool.and_self] <;> fail)); cbv)
    | (refine QC.ff ?_ ?_; (focus (simp only [decide_true, Bool.and_true, Bool.and_self, decide_false, Bool.false_and, reduceCtorEq, not_false_eq_true] <;> fail)); cbv)
    | (refine QC.ff (by first | omega | (dsimp only; omega) | (simp only [sm] at *; omega)) ?_; cbv)
    | (refine QC.mk (fun hc => ?_) (fun hc => ?_) <;> (try dsimp only at hc) <;> cbv)
    | (refine br_mk2 (fun hb => ?_) (fun hb => ?_) <;> (try subst hb) <;> cbv))))
                rename_i zj1 hzj1 zLn hzLn zRn hzRn zat hzat
                refine ⟨((i + 1, z), (a2 + 1, zat)), ⟨⟨by show z = ((i + 1 : Nat) : Int); (first | omega | (simp only [cst] at *; omega) | (simp only [sm] at *; omega)), by show zat = ((a2 + 1 : Nat) : Int); (first | omega | (simp only [cst] at *; omega) | (simp only [sm] at *; omega))⟩, by show a2 + 1 ≤ n; omega, by show i + 1 ≤ k; omega, hs2⟩, by show k - (i + 1) < k - i; omega, ?_⟩
                cbv
              · have hne : i + 1 = k := hκ.1 rfl
                (refine qv (i, _) ⟨hj, hL3⟩ ?_; cbv; (repeat' (first
    | (refine q1 (by first | exact trivial | omega | (dsimp only; omega) | exact pow62 _ (by omega) | exact mul9 (by omega) (by omega) | (simp only [sm] at *; omega)) (fun z hz => ?_); (try simp only at hz); cbv)
    | (refine rq (by first | exact trivial | omega | (dsimp only; omega) | (simp only [sm] at *; omega)) ?_; cbv)
    | (refine QC.tt (by first | omega | (dsimp only; omega) | exact rfl | (simp only [sm] at *; omega)) ?_; cbv)
    | (refine QC.tt ?_ ?_; (focus (simp only [decide_true, Bool.and_true, Bool.and_self] <;> fail)); cbv)
    | (refine QC.ff ?_ ?_; (focus (simp only [decide_true, Bool.and_true, Bool.and_self, decide_false, Bool.false_and, reduceCtorEq, not_false_eq_true] <;> fail)); cbv)
    | (refine QC.ff (by first | omega | (dsimp only; omega) | (simp only [sm] at *; omega)) ?_; cbv)
    | (refine QC.mk (fun hc => ?_) (fun hc => ?_) <;> (try dsimp only at hc) <;> cbv)
    | (refine br_mk2 (fun hb => ?_) (fun hb => ?_) <;> (try subst hb) <;> cbv))))
                (refine qv (i, _) ⟨hj, hL3⟩ ?_; cbv; (repeat' (first
    | (refine q1 (by first | exact trivial | omega | (dsimp only; omega) | exact pow62 _ (by omega) | exact mul9 (by omega) (by omega) | (simp only [sm] at *; omega)) (fun z hz => ?_); (try simp only at hz); cbv)
    | (refine rq (by first | exact trivial | omega | (dsimp only; omega) | (simp only [sm] at *; omega)) ?_; cbv)
    | (refine QC.tt (by first | omega | (dsimp only; omega) | exact rfl | (simp only [sm] at *; omega)) ?_; cbv)
    | (refine QC.tt ?_ ?_; (focus (simp only [decide_true, Bool.and_true, Bool.and_self] <;> fail)); cbv)
    | (refine QC.ff ?_ ?_; (focus (simp only [decide_true, Bool.and_true, Bool.and_self, decide_false, Bool.false_and, reduceCtorEq, not_false_eq_true] <;> fail)); cbv)
    | (refine QC.ff (by first | omega | (dsimp only; omega) | (simp only [sm] at *; omega)) ?_; cbv)
    | (refine QC.mk (fun hc => ?_) (fun hc => ?_) <;> (try dsimp only at hc) <;> cbv)
    | (refine br_mk2 (fun hb => ?_) (fun hb => ?_) <;> (try subst hb) <;> cbv))))
                (refine qv (i, _) ⟨hj, hL3⟩ ?_; cbv; (repeat' (first
    | (refine q1 (by first | exact trivial | omega | (dsimp only; omega) | exact pow62 _ (by omega) | exact mul9 (by omega) (by omega) | (simp only [sm] at *; omega)) (fun z hz => ?_); (try simp only at hz); cbv)
    | (refine rq (by first | exact trivial | omega | (dsimp only; omega) | (simp only [sm] at *; omega)) ?_; cbv)
    | (refine QC.tt (by first | omega | (dsimp only; omega) | exact rfl | (simp only [sm] at *; omega)) ?_; cbv)
    | (refine QC.tt ?_ ?_; (focus (simp only [decide_true, Bool.and_true, Bool.and_self] <;> fail)); cbv)
    | (refine QC.ff ?_ ?_; (focus (simp only [decide_true, Bool.and_true, Bool.and_self, decide_false, Bool.false_and, reduceCtorEq, not_false_eq_true] <;> fail)); cbv)
    | (refine QC.ff (by first | omega | (dsimp only; omega) | (simp only [sm] at *; omega)) ?_; cbv)
    | (refine QC.mk (fun hc => ?_) (fun hc => ?_) <;> (try dsimp only at hc) <;> cbv)
    | (refine br_mk2 (fun hb => ?_) (fun hb => ?_) <;> (try subst hb) <;> cbv))))
                (refine qv (a2, _) ⟨hb2, hEi⟩ ?_; cbv; (repeat' (first
    | (refine q1 (by first | exact trivial | omega | (dsimp only; omega) | exact pow62 _ (by omega) | exact mul9 (by omega) (by omega) | (simp only [sm] at *; omega)) (fun z hz => ?_); (try simp only at hz); cbv)
    | (refine rq (by first | exact trivial | omega | (dsimp only; omega) | (simp only [sm] at *; omega)) ?_; cbv)
    | (refine QC.tt (by first | omega | (dsimp only; omega) | exact rfl | (simp only [sm] at *; omega)) ?_; cbv)
    | (refine QC.tt ?_ ?_; (focus (simp only [decide_true, Bool.and_true, Bool.and_self] <;> fail)); cbv)
    | (refine QC.ff ?_ ?_; (focus (simp only [decide_true, Bool.and_true, Bool.and_self, decide_false, Bool.false_and, reduceCtorEq, not_false_eq_true] <;> fail)); cbv)
    | (refine QC.ff (by first | omega | (dsimp only; omega) | (simp only [sm] at *; omega)) ?_; cbv)
    | (refine QC.mk (fun hc => ?_) (fun hc => ?_) <;> (try dsimp only at hc) <;> cbv)
    | (refine br_mk2 (fun hb => ?_) (fun hb => ?_) <;> (try subst hb) <;> cbv))))
                (refine callq (gs) rfl rfl ?_; cbv; (repeat' (first
    | (refine q1 (by first | exact trivial | omega | (dsimp only; omega) | exact pow62 _ (by omega) | exact mul9 (by omega) (by omega) | (simp only [sm] at *; omega)) (fun z hz => ?_); (try simp only at hz); cbv)
    | (refine rq (by first | exact trivial | omega | (dsimp only; omega) | (simp only [sm] at *; omega)) ?_; cbv)
    | (refine QC.tt (by first | omega | (dsimp only; omega) | exact rfl | (simp only [sm] at *; omega)) ?_; cbv)
    | (refine QC.tt ?_ ?_; (focus (simp only [decide_true, Bool.and_true, Bool.and_self] <;> fail)); cbv)
    | (refine QC.ff ?_ ?_; (focus (simp only [decide_true, Bool.and_true, Bool.and_self, decide_false, Bool.false_and, reduceCtorEq, not_false_eq_true] <;> fail)); cbv)
    | (refine QC.ff (by first | omega | (dsimp only; omega) | (simp only [sm] at *; omega)) ?_; cbv)
    | (refine QC.mk (fun hc => ?_) (fun hc => ?_) <;> (try dsimp only at hc) <;> cbv)
    | (refine br_mk2 (fun hb => ?_) (fun hb => ?_) <;> (try subst hb) <;> cbv))))
                rename_i zj1 hzj1 zLn hzLn zRn hzRn zat hzat
                refine ⟨((i + 1, z), (a2 + 1, zat)), ⟨⟨by show z = ((i + 1 : Nat) : Int); (first | omega | (simp only [cst] at *; omega) | (simp only [sm] at *; omega)), by show zat = ((a2 + 1 : Nat) : Int); (first | omega | (simp only [cst] at *; omega) | (simp only [sm] at *; omega))⟩, by show a2 + 1 ≤ n; omega, by show i + 1 ≤ k; omega, hs2⟩, by show k - (i + 1) < k - i; omega, ?_⟩
                cbv
          · have hii : a2 = n := by (first | omega | (simp only [cst] at *; omega) | (simp only [sm] at *; omega))
            have hc3 : cn n = i := by rw [← hii]; exact hc2
            have hik2 : i < k := by (first | omega | (simp only [cst] at *; omega) | (simp only [sm] at *; omega))
            exfalso
            rw [hcn] at hc3
            omega
      · have hik2 : i = k := by (first | omega | (simp only [cst] at *; omega) | (simp only [sm] at *; omega))
        clear hLe
        refine loopQ (A := (Nat × Int) × Int) (fun p => p.1.2 = p.1.1 ∧ p.1.1 ≤ n ∧ p.2 = cn p.1.1 ∧ cn p.1.1 ≤ p.1.1) (fun p => n - p.1.1) (fun p => [(16, .int .i64 p.1.2), (15, .int .i64 p.2)]) (fun p => []) ((0, 0), 0) ⟨rfl, Nat.zero_le _, by show (0 : Int) = ((cn 0 : Nat) : Int); rw [hc0]; rfl, Nat.le_of_eq hc0⟩ ?_ ?_
        · cbv
        · intro ⟨⟨a2, b2⟩, o⟩ hh
          have hb2 : b2 = (a2 : Int) := hh.1
          have ha2 : a2 ≤ n := hh.2.1
          have ho : o = (cn a2 : Int) := hh.2.2.1
          have hcle : cn a2 ≤ a2 := hh.2.2.2
          clear hh
          have hkk : True := trivial
          cbv
          (repeat' (first
    | (refine q1 (by first | exact trivial | omega | (dsimp only; omega) | exact pow62 _ (by omega) | exact mul9 (by omega) (by omega) | (simp only [sm] at *; omega)) (fun z hz => ?_); (try simp only at hz); cbv)
    | (refine rq (by first | exact trivial | omega | (dsimp only; omega) | (simp only [sm] at *; omega)) ?_; cbv)
    | (refine QC.tt (by first | omega | (dsimp only; omega) | exact rfl | (simp only [sm] at *; omega)) ?_; cbv)
    | (refine QC.tt ?_ ?_; (focus (simp only [decide_true, Bool.and_true, Bool.and_self] <;> fail)); cbv)
    | (refine QC.ff ?_ ?_; (focus (simp only [decide_true, Bool.and_true, Bool.and_self, decide_false, Bool.false_and, reduceCtorEq, not_false_eq_true] <;> fail)); cbv)
    | (refine QC.ff (by first | omega | (dsimp only; omega) | (simp only [sm] at *; omega)) ?_; cbv)
    | (refine QC.mk (fun hc => ?_) (fun hc => ?_) <;> (try dsimp only at hc) <;> cbv)
    | (refine br_mk2 (fun hb => ?_) (fun hb => ?_) <;> (try subst hb) <;> cbv)))
          · rename_i zr hzr hcr zj hzj
            have hiL : a2 < n := by (first | omega | (simp only [cst] at *; omega) | (simp only [sm] at *; omega))
            have hji : zj.toNat = a2 := by (first | omega | (simp only [cst] at *; omega) | (simp only [sm] at *; omega))
            have hz0 : 0 ≤ z := by rw [hz]; exact Int.ediv_nonneg hak.1 (Int.pow_nonneg (by omega))
            have hz4 : z ≤ ak := by rw [hz]; exact Int.ediv_le_self _ hak.1
            have hzz : ((z.toNat &&& Int.toNat 1 : Nat) : Int) = bt a2 := by rw [hbt, hz, hji]; rfl
            have hs := hcs a2 hiL
            have hb0 := hb01 a2
            refine q1 ⟨hz0, by omega, by omega, by omega⟩ ?_
            intro za hza
            have hza := hza.trans hzz
            clear hz hzz
            cbv
            (repeat' (first
    | (refine q1 (by first | exact trivial | omega | (dsimp only; omega) | exact pow62 _ (by omega) | exact mul9 (by omega) (by omega) | (simp only [sm] at *; omega)) (fun z hz => ?_); (try simp only at hz); cbv)
    | (refine rq (by first | exact trivial | omega | (dsimp only; omega) | (simp only [sm] at *; omega)) ?_; cbv)
    | (refine QC.tt (by first | omega | (dsimp only; omega) | exact rfl | (simp only [sm] at *; omega)) ?_; cbv)
    | (refine QC.tt ?_ ?_; (focus (simp only [decide_true, Bool.and_true, Bool.and_self] <;> fail)); cbv)
    | (refine QC.ff ?_ ?_; (focus (simp only [decide_true, Bool.and_true, Bool.and_self, decide_false, Bool.false_and, reduceCtorEq, not_false_eq_true] <;> fail)); cbv)
    | (refine QC.ff (by first | omega | (dsimp only; omega) | (simp only [sm] at *; omega)) ?_; cbv)
    | (refine QC.mk (fun hc => ?_) (fun hc => ?_) <;> (try dsimp only at hc) <;> cbv)
    | (refine br_mk2 (fun hb => ?_) (fun hb => ?_) <;> (try subst hb) <;> cbv)))
            · have hs2 : cn (a2 + 1) = cn a2 + 1 := by rw [hs, if_pos (by omega)]
              rename_i zo hzo
              refine ⟨((a2 + 1, z), zo), ⟨by show z = ((a2 + 1 : Nat) : Int); (first | omega | (simp only [cst] at *; omega) | (simp only [sm] at *; omega)), by show a2 + 1 ≤ n; omega, by show zo = ((cn (a2 + 1) : Nat) : Int); (first | omega | (simp only [cst] at *; omega) | (simp only [sm] at *; omega)), by show cn (a2 + 1) ≤ a2 + 1; omega⟩, by show n - (a2 + 1) < n - a2; omega, ?_⟩
              cbv
            · have hs2 : cn (a2 + 1) = cn a2 := by rw [hs, if_neg (by omega), Nat.add_zero]
              refine ⟨((a2 + 1, z), o), ⟨by show z = ((a2 + 1 : Nat) : Int); (first | omega | (simp only [cst] at *; omega) | (simp only [sm] at *; omega)), by show a2 + 1 ≤ n; omega, by show o = ((cn (a2 + 1) : Nat) : Int); rw [hs2]; exact ho, by show cn (a2 + 1) ≤ a2 + 1; omega⟩, by show n - (a2 + 1) < n - a2; omega, ?_⟩
              cbv
          · have hii : a2 = n := by (first | omega | (simp only [cst] at *; omega) | (simp only [sm] at *; omega))
            rw [hii, hcn] at ho
            (refine callq (hk) rfl rfl ?_; cbv; (repeat' (first
    | (refine q1 (by first | exact trivial | omega | (dsimp only; omega) | exact pow62 _ (by omega) | exact mul9 (by omega) (by omega) | (simp only [sm] at *; omega)) (fun z hz => ?_); (try simp only at hz); cbv)
    | (refine rq (by first | exact trivial | omega | (dsimp only; omega) | (simp only [sm] at *; omega)) ?_; cbv)
    | (refine QC.tt (by first | omega | (dsimp only; omega) | exact rfl | (simp only [sm] at *; omega)) ?_; cbv)
    | (refine QC.tt ?_ ?_; (focus (simp only [decide_true, Bool.and_true, Bool.and_self] <;> fail)); cbv)
    | (refine QC.ff ?_ ?_; (focus (simp only [decide_true, Bool.and_true, Bool.and_self, decide_false, Bool.false_and, reduceCtorEq, not_false_eq_true] <;> fail)); cbv)
    | (refine QC.ff (by first | omega | (dsimp only; omega) | (simp only [sm] at *; omega)) ?_; cbv)
    | (refine QC.mk (fun hc => ?_) (fun hc => ?_) <;> (try dsimp only at hc) <;> cbv)
    | (refine br_mk2 (fun hb => ?_) (fun hb => ?_) <;> (try subst hb) <;> cbv))))
            exact ⟨rfl, rfl, rfl⟩
end Go.Proofs.Ytjhicdoigllblaa
/- What a sender and a receiver do in some ticks: plain laws. -/
namespace Go.Proofs.Ytjhicdoigllblaa
set_option linter.unusedVariables false
set_option linter.unusedSimpArgs false
open Go.RowKit
/-- A piece of the datagram. -/
def PcOf (P : List (List UInt8)) (p : Pce) : Prop := ∃ (j : Nat) (κ : Bool), j < P.length ∧ p = ⟨3, j, P.length, κ, P.getD j []⟩
theorem EI.tick {P : List (List UInt8)} {s : Snd} {r : Rcv} {t : Int} (hP : Pcs P) (h : EI P s r t) (hst : s.st = 1) (ht : 0 ≤ t ∧ t ≤ 5000) :
    ∃ s' l, nextP s t = (s', l, 0) ∧ EI P s' r (t + 1) ∧ l.length ≤ 8 ∧ ∀ k, k < l.length → ∃ p, l[k]? = some p ∧ PcOf P p := by
  obtain ⟨s', l, h1, h2, h3⟩ := h.next hP hst ht
  refine ⟨s', l, h1, h2, ?_⟩
  rcases h3 with rfl | rfl
  · exact ⟨by simp, fun k hk => by simp at hk⟩
  · rw [sent_len]
    refine ⟨by omega, fun k hk => ?_⟩
    obtain ⟨j, hj⟩ : ∃ j, (opn s.ak P.length)[k]? = some j := ⟨_, List.getElem?_eq_getElem (show k < (opn s.ak P.length).length by omega)⟩
    have e1 := pre_get (tag := 3) (ps := P) (k := min (opn s.ak P.length).length 8) hk hj
    exact ⟨_, mark_get _ _ _ e1, j, _, (opn_lt hj).1, rfl⟩
/-- Whether the script says that what is sent at a place is lost. -/
def lost (sc : List UInt8) (n : Nat) : Bool := decide (n / 8 < sc.length ∧ (sc.getD (n / 8) 0).toNat / 2 ^ (n % 8) % 2 = 1)
structure XS where
  s : Snd
  r : Rcv
  n : Nat
noncomputable def stepX (sc : List UInt8) (x : XS) (p : Pce) : XS :=
  if lost sc x.n = true then ⟨x.s, x.r, x.n + 1⟩
  else if p.ack = true ∧ lost sc (x.n + 1) = false then ⟨(ackP x.s 3 (recvP x.r p).1.hv).1, (recvP x.r p).1, x.n + 2⟩
  else ⟨x.s, (recvP x.r p).1, x.n + 2⟩
def pc0 : Pce := ⟨0, 0, 0, false, []⟩
noncomputable def foldX (sc : List UInt8) (l : List Pce) (x : XS) : Nat → XS
  | 0 => x
  | k + 1 => stepX sc (foldX sc l x k) (l.getD k pc0)
theorem stepX_ei {P : List (List UInt8)} (hP : Pcs P) (sc : List UInt8) {t : Int} (ht : 0 ≤ t) {x : XS} (h : EI P x.s x.r t) {p : Pce} (hp : PcOf P p) : EI P (stepX sc x p).s (stepX sc x p).r t ∧ (stepX sc x p).n ≤ x.n + 2 := by
  obtain ⟨j, κ, hj, rfl⟩ := hp
  unfold stepX
  split
  · exact ⟨h, Nat.le_succ _⟩
  obtain ⟨r', h1, h2, h3, h4⟩ := h.recv hP j hj κ
  rw [h1]
  split
  · obtain ⟨s', g1, g2⟩ := h3.ack hP h2 ht
    rw [g1]
    exact ⟨g2, Nat.le_refl _⟩
  · exact ⟨h3, Nat.le_refl _⟩
theorem foldX_ei {P : List (List UInt8)} (hP : Pcs P) (sc : List UInt8) {t : Int} (ht : 0 ≤ t) {x : XS} (h : EI P x.s x.r t) {l : List Pce} (hl : ∀ k, k < l.length → ∃ p, l[k]? = some p ∧ PcOf P p) : ∀ k, k ≤ l.length → EI P (foldX sc l x k).s (foldX sc l x k).r t ∧ (foldX sc l x k).n ≤ x.n + 2 * k
  | 0, _ => ⟨h, Nat.le_refl _⟩
  | k + 1, hk => by
    obtain ⟨a, b⟩ := foldX_ei hP sc ht h hl k (by omega)
    obtain ⟨p, e, hp⟩ := hl k (by omega)
    have e2 : l.getD k pc0 = p := by rw [List.getD_eq_getElem?_getD, e]; rfl
    rw [foldX, e2]
    obtain ⟨c, d⟩ := stepX_ei hP sc ht a hp
    exact ⟨c, by omega⟩
structure TS where
  s : Snd
  r : Rcv
  n : Nat
  rounds : Nat
noncomputable def tickX (sc : List UInt8) (t : TS) (now : Nat) : TS :=
  ⟨(foldX sc (nextP t.s now).2.1 ⟨(nextP t.s now).1, t.r, t.n⟩ (nextP t.s now).2.1.length).s, (foldX sc (nextP t.s now).2.1 ⟨(nextP t.s now).1, t.r, t.n⟩ (nextP t.s now).2.1.length).r,
    (foldX sc (nextP t.s now).2.1 ⟨(nextP t.s now).1, t.r, t.n⟩ (nextP t.s now).2.1.length).n, t.rounds + if (nextP t.s now).2.1.length = 0 then 0 else 1⟩
noncomputable def runX (sc : List UInt8) (t : TS) : Nat → TS
  | 0 => t
  | k + 1 => if (runX sc t k).s.st = 1 then tickX sc (runX sc t k) k else runX sc t k
theorem runX_ei {P : List (List UInt8)} (hP : Pcs P) (sc : List UInt8) {t : TS} (h : EI P t.s t.r 0) (hn : t.n = 0) (hr : t.rounds = 0) : ∀ k : Nat, k ≤ 5000 → EI P (runX sc t k).s (runX sc t k).r k ∧ (runX sc t k).n ≤ 16 * k ∧ (runX sc t k).rounds ≤ k
  | 0, _ => ⟨h, by rw [runX, hn]; omega, by rw [runX, hr]; omega⟩
  | k + 1, hk => by
    obtain ⟨a, b, c⟩ := runX_ei hP sc h hn hr k (by omega)
    rw [runX]
    split
    · rename_i hst
      obtain ⟨s', l, e1, e2, e3, e4⟩ := a.tick hP hst (by omega)
      have e5 := foldX_ei hP sc (t := (k : Int) + 1) (by omega) (x := ⟨s', (runX sc t k).r, (runX sc t k).n⟩) e2 e4 l.length (Nat.le_refl _)
      rw [tickX, e1]
      refine ⟨e5.1, ?_, ?_⟩
      · have := e5.2; dsimp only at this ⊢; omega
      · dsimp only; split <;> omega
    · rename_i hst
      exact ⟨⟨a.tag, a.ps, a.v, a.ak0, a.sub, a.ri, fun e => absurd e hst⟩, by omega, by omega⟩
theorem runX_stop (sc : List UInt8) (t : TS) (k : Nat) (h : (runX sc t k).s.st ≠ 1) : ∀ m, runX sc t (k + m) = runX sc t k
  | 0 => rfl
  | m + 1 => by
    have ih := runX_stop sc t k h m
    rw [← Nat.add_assoc, runX, ih, if_neg h]
end Go.Proofs.Ytjhicdoigllblaa
/- The walk of exchange. -/
namespace Go.Proofs.Ytjhicdoigllblaa
set_option linter.unusedVariables false
set_option linter.unusedSimpArgs false
open Go.RowKit
set_option maxHeartbeats 16000000
abbrev sndV (R : List SV) (st ak rd un : Int) : SV := .agg [.int .i64 st, .int .u8 3, .lst none R, .int .u32 ak, .int .i64 rd, .int .i64 un]
abbrev rcvV (R : List SV) (tg cn hv : Int) (dn : Bool) : SV := .agg [.int .u8 tg, .int .i64 cn, .lst none R, .int .u32 hv, .bool dn]
/-- What the walk needs of a piece that is sent. -/
structure PieceF (RP L : List SV) (sc : List UInt8) (st ak rd un tg cn hv : Nat → Int) (RR : Nat → List SV) (dn : Nat → Bool) (pl : Nat → Nat) (k : Nat) : Prop where
  gone : lost sc (pl k) = true → st (k + 1) = st k ∧ ak (k + 1) = ak k ∧ rd (k + 1) = rd k ∧ un (k + 1) = un k ∧ tg (k + 1) = tg k ∧ cn (k + 1) = cn k ∧ hv (k + 1) = hv k ∧ RR (k + 1) = RR k ∧ dn (k + 1) = dn k ∧ pl (k + 1) = pl k + 1
  got : lost sc (pl k) = false → ∃ (j c : Int) (κ : Bool) (B : List SV), L[k]? = some (.agg [.int .u8 3, .int .i64 j, .int .i64 c, .bool κ, .lst none B]) ∧ pl (k + 1) = pl k + 2 ∧
    Good 31 (pu [rcvV (RR k) (tg k) (cn k) (hv k) (dn k), .agg [.int .u8 3, .int .i64 j, .int .i64 c, .bool κ, .lst none B]] (.tup [rcvV (RR (k + 1)) (tg (k + 1)) (cn (k + 1)) (hv (k + 1)) (dn (k + 1)), .int .u32 (if κ = true then hv (k + 1) else 0), .bool κ, .int .i64 0])) ∧
    (κ = true → lost sc (pl k + 1) = false → Good 17 (pu [sndV RP (st k) (ak k) (rd k) (un k), .int .u8 3, .int .u32 (hv (k + 1))] (.tup [sndV RP (st (k + 1)) (ak (k + 1)) (rd (k + 1)) (un (k + 1)), .int .i64 0]))) ∧
    (¬ (κ = true ∧ lost sc (pl k + 1) = false) → st (k + 1) = st k ∧ ak (k + 1) = ak k ∧ rd (k + 1) = rd k ∧ un (k + 1) = un k)
theorem sndW {P : List (List UInt8)} {RP : List SV} (s : Snd) (h1 : s.tag = 3) : s.w RP = sndV RP s.st s.ak s.rd s.un := by
  obtain ⟨a, b, c, d, e, f⟩ := s
  have h1 : b = 3 := h1
  subst h1
  rfl
theorem tick_w {P : List (List UInt8)} (hP : Pcs P) {RP : List SV} (hRP : RP = rowsB P) (sc : List UInt8) (x : TS) (t : Nat) (ht : t ≤ 5000) (h : EI P x.s x.r t) (hst : x.s.st = 1) :
    ∃ (L : List SV) (st ak rd un tg cn hv : Nat → Int) (RR : Nat → List SV) (dn : Nat → Bool) (pl : Nat → Nat), L.length ≤ 8 ∧
      Good 15 (pu [sndV RP x.s.st x.s.ak x.s.rd x.s.un, .int .i64 t] (.tup [sndV RP (st 0) (ak 0) (rd 0) (un 0), .lst (some 5) L, .int .i64 0])) ∧
      (tg 0 = x.r.tag ∧ cn 0 = x.r.cnt ∧ hv 0 = x.r.hv ∧ dn 0 = x.r.dn ∧ RR 0 = rowsB x.r.ps ∧ pl 0 = x.n) ∧
      (∀ k, k < L.length → PieceF RP L sc st ak rd un tg cn hv RR dn pl k) ∧ (∀ k, k ≤ L.length → pl k ≤ x.n + 2 * k) ∧
      (tickX sc x t).s.st = st L.length ∧ (tickX sc x t).s.ak = ak L.length ∧ (tickX sc x t).s.rd = rd L.length ∧ (tickX sc x t).s.un = un L.length ∧
      (tickX sc x t).r.tag = tg L.length ∧ (tickX sc x t).r.cnt = cn L.length ∧ (tickX sc x t).r.hv = hv L.length ∧ (tickX sc x t).r.dn = dn L.length ∧ rowsB (tickX sc x t).r.ps = RR L.length ∧
      (tickX sc x t).n = pl L.length ∧ (tickX sc x t).rounds = x.rounds + if L.length = 0 then 0 else 1 := by
  obtain ⟨s', l, e1, e2, e3, e4⟩ := h.tick hP hst (by omega)
  have hfold := foldX_ei hP sc (t := (t : Int) + 1) (by omega) (x := ⟨s', x.r, x.n⟩) e2 e4
  obtain ⟨F, hF⟩ : ∃ F : Nat → XS, ∀ k, F k = foldX sc l ⟨s', x.r, x.n⟩ k := ⟨_, fun _ => rfl⟩
  have hF0 : F 0 = ⟨s', x.r, x.n⟩ := by rw [hF]; rfl
  have hFs : ∀ k p, l[k]? = some p → F (k + 1) = stepX sc (F k) p := fun k p hp => by
    rw [hF, hF, foldX, List.getD_eq_getElem?_getD, hp]; rfl
  simp only [← hF] at hfold
  have htick : tickX sc x t = ⟨(F l.length).s, (F l.length).r, (F l.length).n, x.rounds + if l.length = 0 then 0 else 1⟩ := by
    rw [tickX, e1, hF]
  have hLl : (pcL l).length = l.length := pcL_len l
  rw [htick]
  refine ⟨pcL l, fun k => (F k).s.st, fun k => (F k).s.ak, fun k => (F k).s.rd, fun k => (F k).s.un, fun k => (F k).r.tag, fun k => (F k).r.cnt, fun k => (F k).r.hv, fun k => rowsB (F k).r.ps, fun k => (F k).r.dn, fun k => (F k).n, by omega, ?_, ?_, fun k hk => ?_, fun k hk => (hfold k (by omega)).2, ?_⟩
  · have g := next_p x.s RP (by rw [h.ps]; exact hRP) (h.fits hP) t (by omega) s' RP (by rw [e2.ps]; exact hRP) l _ rfl 0 e1
    rw [sndW (P := P) x.s h.tag, sndW (P := P) s' e2.tag] at g
    dsimp only
    rw [hF0]
    exact g
  · dsimp only
    rw [hF0]; exact ⟨rfl, rfl, rfl, rfl, rfl, rfl⟩
  · rw [hLl] at hk
    obtain ⟨p, hp, hpc⟩ := e4 k hk
    have hs := hFs k p hp
    obtain ⟨a, b⟩ := hfold k (by omega)
    refine ⟨fun hl => ?_, fun hl => ?_⟩
    · have hl : lost sc (F k).n = true := hl
      rw [stepX, if_pos hl] at hs
      rw [hs]
      exact ⟨rfl, rfl, rfl, rfl, rfl, rfl, rfl, rfl, rfl, rfl⟩
    · have hl : lost sc (F k).n = false := hl
      rw [stepX, if_neg (by rw [hl]; simp)] at hs
      obtain ⟨j, κ, hj, rfl⟩ := hpc
      obtain ⟨r', h1, h2, h3, h4⟩ := a.recv hP j hj κ
      rw [h1] at hs
      have hr : (F (k + 1)).r = r' := by rw [hs]; split <;> rfl
      have hn : (F (k + 1)).n = (F k).n + 2 := by rw [hs]; split <;> rfl
      have gr := recv_p (F k).r _ rfl (a.ri.fits hP) ⟨3, j, P.length, κ, P.getD j []⟩ _ rfl (by
        dsimp only
        rw [List.getD_eq_getElem?_getD, List.getElem?_eq_getElem hj]
        exact hP.b _ (List.getElem_mem hj)) r' _ rfl 0 h1
      refine ⟨j, P.length, κ, u8l (P.getD j []), ?_, hn, ?_, fun hk1 hl2 => ?_, fun hno => ?_⟩
      · rw [pcL, List.getElem?_map, hp]; rfl
      · rw [hr]
        exact gr
      · have hl2 : lost sc ((F k).n + 1) = false := hl2
        obtain ⟨s2, g1, g2⟩ := h3.ack hP h2 (by omega)
        rw [if_pos ⟨hk1, hl2⟩] at hs
        dsimp only at hs
        rw [g1] at hs
        obtain ⟨b1, b2, b3⟩ := h2.hvb hP
        have hb := allI_b hP.n2
        have ga := ack_p (F k).s RP (by rw [a.ps]; exact hRP) (a.fits hP) 3 r'.hv (by omega) (by omega) s2 RP (by rw [g2.ps]; exact hRP) 0 g1
        rw [sndW (P := P) _ a.tag, sndW (P := P) _ g2.tag] at ga
        rw [hr, hs]
        exact ga
      · rw [if_neg hno] at hs
        rw [hs]
        exact ⟨rfl, rfl, rfl, rfl⟩
  · rw [hLl]
    exact ⟨rfl, rfl, rfl, rfl, rfl, rfl, rfl, rfl, rfl, rfl, rfl⟩
/-- The values after n ticks. -/
structure RunF (RP : List SV) (sc : List UInt8) (ST AK RD UN TG CN HV : Nat → Int) (RR : Nat → List SV) (DN : Nat → Bool) (PL RO : Nat → Nat) (n : Nat) : Prop where
  stop : ST n ≠ 1 → ST 3000 = ST n ∧ AK 3000 = AK n ∧ RD 3000 = RD n ∧ UN 3000 = UN n ∧ TG 3000 = TG n ∧ CN 3000 = CN n ∧ HV 3000 = HV n ∧ RR 3000 = RR n ∧ DN 3000 = DN n ∧ RO 3000 = RO n
  go : ST n = 1 → n < 3000 ∧ ∃ (L : List SV) (st ak rd un tg cn hv : Nat → Int) (rr : Nat → List SV) (dn : Nat → Bool) (pl : Nat → Nat), L.length ≤ 8 ∧
      (∀ j : Int, j = n → Good 15 (pu [sndV RP (ST n) (AK n) (RD n) (UN n), .int .i64 j] (.tup [sndV RP (st 0) (ak 0) (rd 0) (un 0), .lst (some 5) L, .int .i64 0]))) ∧
      (tg 0 = TG n ∧ cn 0 = CN n ∧ hv 0 = HV n ∧ dn 0 = DN n ∧ rr 0 = RR n ∧ pl 0 = PL n) ∧
      (∀ k, k < L.length → PieceF RP L sc st ak rd un tg cn hv rr dn pl k) ∧ (∀ k, k ≤ L.length → pl k ≤ PL n + 2 * k) ∧
      (ST (n + 1) = st L.length ∧ AK (n + 1) = ak L.length ∧ RD (n + 1) = rd L.length ∧ UN (n + 1) = un L.length ∧
      TG (n + 1) = tg L.length ∧ CN (n + 1) = cn L.length ∧ HV (n + 1) = hv L.length ∧ DN (n + 1) = dn L.length ∧ RR (n + 1) = rr L.length ∧
      PL (n + 1) = pl L.length ∧ RO (n + 1) = RO n + if L.length = 0 then 0 else 1)
  pl : n ≤ 3000 → PL n ≤ 16 * n
  ro : n ≤ 3000 → RO n ≤ n
theorem run_w {P : List (List UInt8)} (hP : Pcs P) {RP : List SV} (hRP : RP = rowsB P) (sc : List UInt8) (x : TS) (h : EI P x.s x.r 0) (hn : x.n = 0) (hr : x.rounds = 0) (n : Nat) (hn3 : n ≤ 3000) :
    RunF RP sc (fun n => (runX sc x n).s.st) (fun n => (runX sc x n).s.ak) (fun n => (runX sc x n).s.rd) (fun n => (runX sc x n).s.un) (fun n => (runX sc x n).r.tag) (fun n => (runX sc x n).r.cnt) (fun n => (runX sc x n).r.hv)
      (fun n => rowsB (runX sc x n).r.ps) (fun n => (runX sc x n).r.dn) (fun n => (runX sc x n).n) (fun n => (runX sc x n).rounds) n := by
  obtain ⟨a, b, c⟩ := runX_ei hP sc h hn hr n (by omega)
  refine ⟨fun hs => ?_, fun hs => ?_, fun _ => b, fun _ => c⟩
  · have hs : (runX sc x n).s.st ≠ 1 := hs
    have := runX_stop sc x n hs (3000 - n)
    rw [show n + (3000 - n) = 3000 by omega] at this
    rw [this]
    exact ⟨rfl, rfl, rfl, rfl, rfl, rfl, rfl, rfl, rfl, rfl⟩
  · have hs : (runX sc x n).s.st = 1 := hs
    have hlt : n < 3000 := by
      have := a.pot hs
      have := a.v.r2
      omega
    refine ⟨hlt, ?_⟩
    have e : runX sc x (n + 1) = tickX sc (runX sc x n) n := by rw [runX, if_pos hs]
    have := tick_w hP hRP sc (runX sc x n) n (by omega) a hs
    rw [← e] at this
    obtain ⟨L, st, ak, rd, un, tg, cn, hv, rr, dn, pl, h1, h2, h3, h4, h5, h6⟩ := this
    exact ⟨L, st, ak, rd, un, tg, cn, hv, rr, dn, pl, h1, fun j hj => by subst hj; exact h2, ⟨h3.1.trans rfl, h3.2.1, h3.2.2.1, h3.2.2.2.1, h3.2.2.2.2.1, h3.2.2.2.2.2⟩, h4, h5, h6⟩
end Go.Proofs.Ytjhicdoigllblaa
/- The walk of exchange. -/
namespace Go.Proofs.Ytjhicdoigllblaa
set_option linter.unusedVariables false
set_option linter.unusedSimpArgs false
open Go.RowKit
set_option maxHeartbeats 16000000
theorem lost_out {sc : List UInt8} {n : Nat} (h : ¬ n / 8 < sc.length) : lost sc n = false := decide_eq_false fun h2 => h h2.1
theorem lost_in {sc : List UInt8} {n : Nat} {b : Int} (h : n / 8 < sc.length) (hb : b = ((sc.getD (n / 8) 0).toNat : Int)) (z : Int) (hz : z = (((b / 2 ^ (n % 8)).toNat &&& 1 : Nat) : Int)) : (lost sc n = true ↔ z = 1) := by
  subst hb
  rw [lost, decide_eq_true_iff, hz]
  have e : ((((sc.getD (n / 8) 0).toNat : Int) / 2 ^ (n % 8)).toNat &&& 1 : Nat) = (sc.getD (n / 8) 0).toNat / 2 ^ (n % 8) % 2 := by
    have : (((sc.getD (n / 8) 0).toNat : Int) / 2 ^ (n % 8)).toNat = (sc.getD (n / 8) 0).toNat / 2 ^ (n % 8) := by
      have h2 : (((sc.getD (n / 8) 0).toNat : Int) / 2 ^ (n % 8)) = (((sc.getD (n / 8) 0).toNat / 2 ^ (n % 8) : Nat) : Int) := by simp
      rw [h2, Int.toNat_natCast]
    rw [this, Nat.and_one_is_mod]
  rw [e]
  constructor
  · intro h2; rw [h2.2]; rfl
  · intro h2; exact ⟨h, by omega⟩
set_option maxRecDepth 4000 in
theorem exch_c (RP SC : List SV) (sc : List UInt8) (hSC : SC = u8l sc) (hsl : sc.length ≤ 140737488351232) (ST AK RD UN TG CN HV : Nat → Int) (RR : Nat → List SV) (DN : Nat → Bool) (PL RO : Nat → Nat)
    (hr : ∀ n, n ≤ 3000 → RunF RP sc ST AK RD UN TG CN HV RR DN PL RO n) (i1 : ST 0 = 1) (i2 : AK 0 = 0) (i3 : RD 0 = 0) (i4 : UN 0 = 0) (i5 : TG 0 = 0) (i6 : CN 0 = 0) (i7 : HV 0 = 0) (i8 : RR 0 = []) (i9 : DN 0 = false) (i10 : PL 0 = 0) (i11 : RO 0 = 0) :
    Good 38 (pu [sndV RP 1 0 0 0, .lst none SC, .int .i64 3000] (.tup [sndV RP (ST 3000) (AK 3000) (RD 3000) (UN 3000), rcvV (RR 3000) (TG 3000) (CN 3000) (HV 3000) (DN 3000), .int .i64 (RO 3000), .bool true])) := by
  have hSl : SC.length = sc.length := by rw [hSC, u8l_len]
  have hE : ∀ i, i < sc.length → ∃ b : Int, b = ((sc.getD i 0).toNat : Int) ∧ (0 ≤ b ∧ b ≤ 255) ∧ SC[i]? = some (.int .u8 b) := fun i hi => ⟨_, rfl, by
    have := (sc.getD i 0).toNat_lt; omega, by
    rw [hSC, u8l, List.getElem?_map, List.getElem?_eq_getElem hi, List.getD_eq_getElem?_getD, List.getElem?_eq_getElem hi]; rfl⟩
  refine Good.of Try.func38 rfl (by rfl) (by kernel_rfl) ?_
  cbv
  have hmk : True := trivial
  (repeat' (first
    | (refine q1 (by first | exact trivial | omega | (dsimp only; omega) | exact pow62 _ (by omega) | exact mul9 (by omega) (by omega) | (simp only [sm] at *; omega)) (fun z hz => ?_); (try simp only at hz); cbv)
    | (refine rq (by first | exact trivial | omega | (dsimp only; omega) | (simp only [sm] at *; omega)) ?_; cbv)
    | (refine QC.tt (by first | omega | (dsimp only; omega) | exact rfl | (simp only [sm] at *; omega)) ?_; cbv)
    | (refine QC.tt ?_ ?_; (focus (simp only [decide_true, Bool.and_true, Bool.and_self] <;> fail)); cbv)
    | (refine QC.ff ?_ ?_; (focus (simp only [decide_true, Bool.and_true, Bool.and_self, decide_false, Bool.false_and, reduceCtorEq, not_false_eq_true] <;> fail)); cbv)
    | (refine QC.ff (by first | omega | (dsimp only; omega) | (simp only [sm] at *; omega)) ?_; cbv)
    | (refine QC.mk (fun hc => ?_) (fun hc => ?_) <;> (try dsimp only at hc) <;> cbv)
    | (refine br_mk2 (fun hb => ?_) (fun hb => ?_) <;> (try subst hb) <;> cbv)))
  refine loopQ (A := (Nat × Int) × (Int × Int)) (fun p => p.1.2 = p.1.1 ∧ p.1.1 ≤ 3000 ∧ p.2.1 = PL p.1.1 ∧ p.2.2 = RO p.1.1) (fun p => 3000 - p.1.1) (fun p => [(13, .int .i64 p.1.2), (11, .int .i64 p.2.1), (12, .int .i64 p.2.2)]) (fun p => [(3, .chunk 25 (sndV RP (ST p.1.1) (AK p.1.1) (RD p.1.1) (UN p.1.1))), (10, .chunk 55 (rcvV (RR p.1.1) (TG p.1.1) (CN p.1.1) (HV p.1.1) (DN p.1.1)))]) ((0, 0), (0, 0)) ⟨rfl, Nat.zero_le _, by show (0 : Int) = (PL 0 : Int); rw [i10]; rfl, by show (0 : Int) = (RO 0 : Int); rw [i11]; rfl⟩ ?_ ?_
  · cbv
    rw [i1, i2, i3, i4, i5, i6, i7, i8, i9]
    repeat' (first | exact rfl | exact trivial | apply And.intro)
  · intro ⟨⟨n, j⟩, ⟨a, r⟩⟩ hh
    have hj : j = (n : Int) := hh.1
    have hn : n ≤ 3000 := hh.2.1
    have ha : a = (PL n : Int) := hh.2.2.1
    have hra : r = (RO n : Int) := hh.2.2.2
    have hrn := hr n hn
    clear hh hr
    have hro := hrn.ro hn
    have hrb : 0 ≤ r ∧ r ≤ 3000 := by omega
    have hPb : PL n ≤ 48000 := by have := hrn.pl hn; omega
    have hab : 0 ≤ a ∧ a ≤ 48000 := by omega
    have hE2 := hE
    have hmq : True := trivial
    cbv
    (repeat' (first
    | (refine q1 (by first | exact trivial | omega | (dsimp only; omega) | exact pow62 _ (by omega) | exact mul9 (by omega) (by omega) | (simp only [sm] at *; omega)) (fun z hz => ?_); (try simp only at hz); cbv)
    | (refine rq (by first | exact trivial | omega | (dsimp only; omega) | (simp only [sm] at *; omega)) ?_; cbv)
    | (refine QC.tt (by first | omega | (dsimp only; omega) | exact rfl | (simp only [sm] at *; omega)) ?_; cbv)
    | (refine QC.tt ?_ ?_; (focus (simp only [decide_true, Bool.and_true, Bool.and_self] <;> fail)); cbv)
    | (refine QC.ff ?_ ?_; (focus (simp only [decide_true, Bool.and_true, Bool.and_self, decide_false, Bool.false_and, reduceCtorEq, not_false_eq_true] <;> fail)); cbv)
    | (refine QC.ff (by first | omega | (dsimp only; omega) | (simp only [sm] at *; omega)) ?_; cbv)
    | (refine QC.mk (fun hc => ?_) (fun hc => ?_) <;> (try dsimp only at hc) <;> cbv)
    | (refine br_mk2 (fun hb => ?_) (fun hb => ?_) <;> (try subst hb) <;> cbv)))
    · obtain ⟨hn3, L, st, ak, rd, un, tg, cn, hv, rr, dn, pl, hL8, gN, ⟨t1, t2, t3, t4, t5, t6⟩, hP, hpl, e1, e2, e3, e4, e5, e6, e7, e8, e9, e10, e11⟩ := hrn.go hc
      have gN := gN j hj
      clear hrn
      (refine callq (gN) rfl rfl ?_; cbv; (repeat' (first
    | (refine q1 (by first | exact trivial | omega | (dsimp only; omega) | exact pow62 _ (by omega) | exact mul9 (by omega) (by omega) | (simp only [sm] at *; omega)) (fun z hz => ?_); (try simp only at hz); cbv)
    | (refine rq (by first | exact trivial | omega | (dsimp only; omega) | (simp only [sm] at *; omega)) ?_; cbv)
    | (refine QC.tt (by first | omega | (dsimp only; omega) | exact rfl | (simp only [sm] at *; omega)) ?_; cbv)
    | (refine QC.tt ?_ ?_; (focus (simp only [decide_true, Bool.and_true, Bool.and_self] <;> fail)); cbv)
    | (refine QC.ff ?_ ?_; (focus (simp only [decide_true, Bool.and_true, Bool.and_self, decide_false, Bool.false_and, reduceCtorEq, not_false_eq_true] <;> fail)); cbv)
    | (refine QC.ff (by first | omega | (dsimp only; omega) | (simp only [sm] at *; omega)) ?_; cbv)
    | (refine QC.mk (fun hc => ?_) (fun hc => ?_) <;> (try dsimp only at hc) <;> cbv)
    | (refine br_mk2 (fun hb => ?_) (fun hb => ?_) <;> (try subst hb) <;> cbv))))
      · revert hz
        revert z
        intro zr hzr
        skip
        refine loopQ (A := (Nat × Int) × Int) (fun p => p.1.2 = p.1.1 ∧ p.1.1 ≤ L.length ∧ p.2 = pl p.1.1) (fun p => L.length - p.1.1) (fun p => [(17, .int .i64 p.1.2), (11, .int .i64 p.2)]) (fun p => [(3, .chunk 25 (sndV RP (st p.1.1) (ak p.1.1) (rd p.1.1) (un p.1.1))), (10, .chunk 55 (rcvV (rr p.1.1) (tg p.1.1) (cn p.1.1) (hv p.1.1) (dn p.1.1)))]) ((0, 0), a) ⟨rfl, Nat.zero_le _, by show a = (pl 0 : Int); rw [t6]; exact ha⟩ ?_ ?_
        · cbv
          rw [t1, t2, t3, t4, t5]
          repeat' (first | exact rfl | exact trivial | apply And.intro)
        · intro ⟨⟨k, i⟩, b⟩ hh
          have hi : i = (k : Int) := hh.1
          have hk : k ≤ L.length := hh.2.1
          have hb : b = (pl k : Int) := hh.2.2
          have hPk := hP k
          have hbb : 0 ≤ b ∧ b ≤ 50000 := by have := hpl k hk; omega
          clear hh hP
          have hmy : True := trivial
          cbv
          (repeat' (first
    | (refine q1 (by first | exact trivial | omega | (dsimp only; omega) | exact pow62 _ (by omega) | exact mul9 (by omega) (by omega) | (simp only [sm] at *; omega)) (fun z hz => ?_); (try simp only at hz); cbv)
    | (refine rq (by first | exact trivial | omega | (dsimp only; omega) | (simp only [sm] at *; omega)) ?_; cbv)
    | (refine QC.tt (by first | omega | (dsimp only; omega) | exact rfl | (simp only [sm] at *; omega)) ?_; cbv)
    | (refine QC.tt ?_ ?_; (focus (simp only [decide_true, Bool.and_true, Bool.and_self] <;> fail)); cbv)
    | (refine QC.ff ?_ ?_; (focus (simp only [decide_true, Bool.and_true, Bool.and_self, decide_false, Bool.false_and, reduceCtorEq, not_false_eq_true] <;> fail)); cbv)
    | (refine QC.ff (by first | omega | (dsimp only; omega) | (simp only [sm] at *; omega)) ?_; cbv)
    | (refine QC.mk (fun hc => ?_) (fun hc => ?_) <;> (try dsimp only at hc) <;> cbv)
    | (refine br_mk2 (fun hb => ?_) (fun hb => ?_) <;> (try subst hb) <;> cbv)))
          · have hkl : k < L.length := by (first | omega | (simp only [cst] at *; omega) | (simp only [sm] at *; omega))
            obtain ⟨qq, hqq⟩ : ∃ qq, qq = pl k := ⟨_, rfl⟩
            have hlt : qq / 8 < sc.length := by (first | omega | (simp only [cst] at *; omega) | (simp only [sm] at *; omega))
            obtain ⟨b0, hb0, hb0r, hEb⟩ := hE2 (qq / 8) hlt
            have hzi : z = ((qq / 8 : Nat) : Int) := by (first | omega | (simp only [cst] at *; omega) | (simp only [sm] at *; omega))
            (refine qv (qq / 8, _) ⟨hzi, hEb⟩ ?_; cbv; (repeat' (first
    | (refine q1 (by first | exact trivial | omega | (dsimp only; omega) | exact pow62 _ (by omega) | exact mul9 (by omega) (by omega) | (simp only [sm] at *; omega)) (fun z hz => ?_); (try simp only at hz); cbv)
    | (refine rq (by first | exact trivial | omega | (dsimp only; omega) | (simp only [sm] at *; omega)) ?_; cbv)
    | (refine QC.tt (by first | omega | (dsimp only; omega) | exact rfl | (simp only [sm] at *; omega)) ?_; cbv)
    | (refine QC.tt ?_ ?_; (focus (simp only [decide_true, Bool.and_true, Bool.and_self] <;> fail)); cbv)
    | (refine QC.ff ?_ ?_; (focus (simp only [decide_true, Bool.and_true, Bool.and_self, decide_false, Bool.false_and, reduceCtorEq, not_false_eq_true] <;> fail)); cbv)
    | (refine QC.ff (by first | omega | (dsimp only; omega) | (simp only [sm] at *; omega)) ?_; cbv)
    | (refine QC.mk (fun hc => ?_) (fun hc => ?_) <;> (try dsimp only at hc) <;> cbv)
    | (refine br_mk2 (fun hb => ?_) (fun hb => ?_) <;> (try subst hb) <;> cbv))))
            skip
            rename_i ra hra rb hrb
            have hz0 : 0 ≤ z := by rw [hz]; exact Int.ediv_nonneg hb0r.1 (Int.pow_nonneg (by omega))
            have hz4 : z ≤ b0 := by rw [hz]; exact Int.ediv_le_self _ hb0r.1
            have e8 : rb.toNat = qq % 8 := by (first | omega | (simp only [cst] at *; omega) | (simp only [sm] at *; omega))
            have hzz : ((z.toNat &&& Int.toNat 1 : Nat) : Int) = (((b0 / 2 ^ (qq % 8)).toNat &&& 1 : Nat) : Int) := by rw [hz, e8]; rfl
            refine q1 ⟨hz0, by omega, by omega, by omega⟩ ?_
            intro zc hzc
            have hlz := lost_in hlt hb0 zc (hzc.trans hzz)
            clear hz hzz hb0 hzc hEb
            cbv
            (repeat' (first
    | (refine q1 (by first | exact trivial | omega | (dsimp only; omega) | exact pow62 _ (by omega) | exact mul9 (by omega) (by omega) | (simp only [sm] at *; omega)) (fun z hz => ?_); (try simp only at hz); cbv)
    | (refine rq (by first | exact trivial | omega | (dsimp only; omega) | (simp only [sm] at *; omega)) ?_; cbv)
    | (refine QC.tt (by first | omega | (dsimp only; omega) | exact rfl | (simp only [sm] at *; omega)) ?_; cbv)
    | (refine QC.tt ?_ ?_; (focus (simp only [decide_true, Bool.and_true, Bool.and_self] <;> fail)); cbv)
    | (refine QC.ff ?_ ?_; (focus (simp only [decide_true, Bool.and_true, Bool.and_self, decide_false, Bool.false_and, reduceCtorEq, not_false_eq_true] <;> fail)); cbv)
    | (refine QC.ff (by first | omega | (dsimp only; omega) | (simp only [sm] at *; omega)) ?_; cbv)
    | (refine QC.mk (fun hc => ?_) (fun hc => ?_) <;> (try dsimp only at hc) <;> cbv)
    | (refine br_mk2 (fun hb => ?_) (fun hb => ?_) <;> (try subst hb) <;> cbv)))
            · obtain ⟨l1, l2, l3, l4, l5, l6, l7, l8, l9, l10⟩ := (hPk hkl).gone (by rw [← hqq]; exact hlz.2 hc)
              rename_i zp hzp
              refine ⟨((k + 1, z), zp), ⟨by show z = ((k + 1 : Nat) : Int); (first | omega | (simp only [cst] at *; omega) | (simp only [sm] at *; omega)), by show k + 1 ≤ L.length; omega, by show zp = (pl (k + 1) : Int); rw [l10]; (first | omega | (simp only [cst] at *; omega) | (simp only [sm] at *; omega))⟩, by show L.length - (k + 1) < L.length - k; omega, ?_⟩
              cbv
              rw [l1, l2, l3, l4, l5, l6, l7, l8, l9]
              repeat' (first | exact rfl | exact trivial | apply And.intro)
            · have hl : lost sc (pl k) = false := by
                cases h : lost sc (pl k)
                · rfl
                · rw [← hqq] at h; exact absurd (hlz.1 h) hc
              clear hlz hqq hra e8 hzi hlt
              clear qq
              rename_i zq hzq0 zw hzw
              skip
              obtain ⟨j2, c2, κ, B, hLk, hpn, gR, gA, gN2⟩ := (hPk hkl).got hl
              clear hPk hl
              obtain ⟨qq, hqq⟩ : ∃ qq, qq = pl k + 1 := ⟨_, rfl⟩
              rw [← hqq] at gA gN2
              have hpn : pl (k + 1) = qq + 1 := by omega
              have hzq : z = (qq : Int) := by (first | omega | (simp only [cst] at *; omega) | (simp only [sm] at *; omega))
              have hqb : 0 ≤ z ∧ z ≤ 50001 := by (first | omega | (simp only [cst] at *; omega) | (simp only [sm] at *; omega))
              clear hz hqq
              cases κ
              · have hno := gN2 (fun h => by cases h.1)
                clear gA gN2
                (refine qv (k, _) ⟨hi, hLk⟩ ?_; cbv; (repeat' (first
    | (refine q1 (by first | exact trivial | omega | (dsimp only; omega) | exact pow62 _ (by omega) | exact mul9 (by omega) (by omega) | (simp only [sm] at *; omega)) (fun z hz => ?_); (try simp only at hz); cbv)
    | (refine rq (by first | exact trivial | omega | (dsimp only; omega) | (simp only [sm] at *; omega)) ?_; cbv)
    | (refine QC.tt (by first | omega | (dsimp only; omega) | exact rfl | (simp only [sm] at *; omega)) ?_; cbv)
    | (refine QC.tt ?_ ?_; (focus (simp only [decide_true, Bool.and_true, Bool.and_self] <;> fail)); cbv)
    | (refine QC.ff ?_ ?_; (focus (simp only [decide_true, Bool.and_true, Bool.and_self, decide_false, Bool.false_and, reduceCtorEq, not_false_eq_true] <;> fail)); cbv)
    | (refine QC.ff (by first | omega | (dsimp only; omega) | (simp only [sm] at *; omega)) ?_; cbv)
    | (refine QC.mk (fun hc => ?_) (fun hc => ?_) <;> (try dsimp only at hc) <;> cbv)
    | (refine br_mk2 (fun hb => ?_) (fun hb => ?_) <;> (try subst hb) <;> cbv))))
                (refine callq (gR) rfl rfl ?_; cbv; (repeat' (first
    | (refine q1 (by first | exact trivial | omega | (dsimp only; omega) | exact pow62 _ (by omega) | exact mul9 (by omega) (by omega) | (simp only [sm] at *; omega)) (fun z hz => ?_); (try simp only at hz); cbv)
    | (refine rq (by first | exact trivial | omega | (dsimp only; omega) | (simp only [sm] at *; omega)) ?_; cbv)
    | (refine QC.tt (by first | omega | (dsimp only; omega) | exact rfl | (simp only [sm] at *; omega)) ?_; cbv)
    | (refine QC.tt ?_ ?_; (focus (simp only [decide_true, Bool.and_true, Bool.and_self] <;> fail)); cbv)
    | (refine QC.ff ?_ ?_; (focus (simp only [decide_true, Bool.and_true, Bool.and_self, decide_false, Bool.false_and, reduceCtorEq, not_false_eq_true] <;> fail)); cbv)
    | (refine QC.ff (by first | omega | (dsimp only; omega) | (simp only [sm] at *; omega)) ?_; cbv)
    | (refine QC.mk (fun hc => ?_) (fun hc => ?_) <;> (try dsimp only at hc) <;> cbv)
    | (refine br_mk2 (fun hb => ?_) (fun hb => ?_) <;> (try subst hb) <;> cbv))))
                · skip
                  have hlt : qq / 8 < sc.length := by (first | omega | (simp only [cst] at *; omega) | (simp only [sm] at *; omega))
                  obtain ⟨b0, hb0, hb0r, hEb⟩ := hE2 (qq / 8) hlt
                  have hzi : z = ((qq / 8 : Nat) : Int) := by (first | omega | (simp only [cst] at *; omega) | (simp only [sm] at *; omega))
                  (refine qv (qq / 8, _) ⟨hzi, hEb⟩ ?_; cbv; (repeat' (first
    | (refine q1 (by first | exact trivial | omega | (dsimp only; omega) | exact pow62 _ (by omega) | exact mul9 (by omega) (by omega) | (simp only [sm] at *; omega)) (fun z hz => ?_); (try simp only at hz); cbv)
    | (refine rq (by first | exact trivial | omega | (dsimp only; omega) | (simp only [sm] at *; omega)) ?_; cbv)
    | (refine QC.tt (by first | omega | (dsimp only; omega) | exact rfl | (simp only [sm] at *; omega)) ?_; cbv)
    | (refine QC.tt ?_ ?_; (focus (simp only [decide_true, Bool.and_true, Bool.and_self] <;> fail)); cbv)
    | (refine QC.ff ?_ ?_; (focus (simp only [decide_true, Bool.and_true, Bool.and_self, decide_false, Bool.false_and, reduceCtorEq, not_false_eq_true] <;> fail)); cbv)
    | (refine QC.ff (by first | omega | (dsimp only; omega) | (simp only [sm] at *; omega)) ?_; cbv)
    | (refine QC.mk (fun hc => ?_) (fun hc => ?_) <;> (try dsimp only at hc) <;> cbv)
    | (refine br_mk2 (fun hb => ?_) (fun hb => ?_) <;> (try subst hb) <;> cbv))))
                  skip
                  rename_i ra hra rb hrb
                  have hz0 : 0 ≤ z := by rw [hz]; exact Int.ediv_nonneg hb0r.1 (Int.pow_nonneg (by omega))
                  have hz4 : z ≤ b0 := by rw [hz]; exact Int.ediv_le_self _ hb0r.1
                  have e8 : rb.toNat = qq % 8 := by (first | omega | (simp only [cst] at *; omega) | (simp only [sm] at *; omega))
                  have hzz : ((z.toNat &&& Int.toNat 1 : Nat) : Int) = (((b0 / 2 ^ (qq % 8)).toNat &&& 1 : Nat) : Int) := by rw [hz, e8]; rfl
                  refine q1 ⟨hz0, by omega, by omega, by omega⟩ ?_
                  intro zc hzc
                  have hlz := lost_in hlt hb0 zc (hzc.trans hzz)
                  clear hz hzz hb0 hzc hEb
                  cbv
                  (repeat' (first
    | (refine q1 (by first | exact trivial | omega | (dsimp only; omega) | exact pow62 _ (by omega) | exact mul9 (by omega) (by omega) | (simp only [sm] at *; omega)) (fun z hz => ?_); (try simp only at hz); cbv)
    | (refine rq (by first | exact trivial | omega | (dsimp only; omega) | (simp only [sm] at *; omega)) ?_; cbv)
    | (refine QC.tt (by first | omega | (dsimp only; omega) | exact rfl | (simp only [sm] at *; omega)) ?_; cbv)
    | (refine QC.tt ?_ ?_; (focus (simp only [decide_true, Bool.and_true, Bool.and_self] <;> fail)); cbv)
    | (refine QC.ff ?_ ?_; (focus (simp only [decide_true, Bool.and_true, Bool.and_self, decide_false, Bool.false_and, reduceCtorEq, not_false_eq_true] <;> fail)); cbv)
    | (refine QC.ff (by first | omega | (dsimp only; omega) | (simp only [sm] at *; omega)) ?_; cbv)
    | (refine QC.mk (fun hc => ?_) (fun hc => ?_) <;> (try dsimp only at hc) <;> cbv)
    | (refine br_mk2 (fun hb => ?_) (fun hb => ?_) <;> (try subst hb) <;> cbv)))
                  · rename_i zp hzp
                    skip
                    obtain ⟨l1, l2, l3, l4⟩ := hno
                    refine ⟨((k + 1, z), zp), ⟨by show z = ((k + 1 : Nat) : Int); (first | omega | (simp only [cst] at *; omega) | (simp only [sm] at *; omega)), by show k + 1 ≤ L.length; omega, by show zp = (pl (k + 1) : Int); rw [hpn]; (first | omega | (simp only [cst] at *; omega) | (simp only [sm] at *; omega))⟩, by show L.length - (k + 1) < L.length - k; omega, ?_⟩
                    cbv
                    rw [l1, l2, l3, l4]
                    repeat' (first | exact rfl | exact trivial | apply And.intro)
                  · rename_i zp hzp
                    skip
                    obtain ⟨l1, l2, l3, l4⟩ := hno
                    refine ⟨((k + 1, z), zp), ⟨by show z = ((k + 1 : Nat) : Int); (first | omega | (simp only [cst] at *; omega) | (simp only [sm] at *; omega)), by show k + 1 ≤ L.length; omega, by show zp = (pl (k + 1) : Int); rw [hpn]; (first | omega | (simp only [cst] at *; omega) | (simp only [sm] at *; omega))⟩, by show L.length - (k + 1) < L.length - k; omega, ?_⟩
                    cbv
                    rw [l1, l2, l3, l4]
                    repeat' (first | exact rfl | exact trivial | apply And.intro)
                · rename_i zp hzp
                  skip
                  obtain ⟨l1, l2, l3, l4⟩ := hno
                  refine ⟨((k + 1, z), zp), ⟨by show z = ((k + 1 : Nat) : Int); (first | omega | (simp only [cst] at *; omega) | (simp only [sm] at *; omega)), by show k + 1 ≤ L.length; omega, by show zp = (pl (k + 1) : Int); rw [hpn]; (first | omega | (simp only [cst] at *; omega) | (simp only [sm] at *; omega))⟩, by show L.length - (k + 1) < L.length - k; omega, ?_⟩
                  cbv
                  rw [l1, l2, l3, l4]
                  repeat' (first | exact rfl | exact trivial | apply And.intro)
              · (refine qv (k, _) ⟨hi, hLk⟩ ?_; cbv; (repeat' (first
    | (refine q1 (by first | exact trivial | omega | (dsimp only; omega) | exact pow62 _ (by omega) | exact mul9 (by omega) (by omega) | (simp only [sm] at *; omega)) (fun z hz => ?_); (try simp only at hz); cbv)
    | (refine rq (by first | exact trivial | omega | (dsimp only; omega) | (simp only [sm] at *; omega)) ?_; cbv)
    | (refine QC.tt (by first | omega | (dsimp only; omega) | exact rfl | (simp only [sm] at *; omega)) ?_; cbv)
    | (refine QC.tt ?_ ?_; (focus (simp only [decide_true, Bool.and_true, Bool.and_self] <;> fail)); cbv)
    | (refine QC.ff ?_ ?_; (focus (simp only [decide_true, Bool.and_true, Bool.and_self, decide_false, Bool.false_and, reduceCtorEq, not_false_eq_true] <;> fail)); cbv)
    | (refine QC.ff (by first | omega | (dsimp only; omega) | (simp only [sm] at *; omega)) ?_; cbv)
    | (refine QC.mk (fun hc => ?_) (fun hc => ?_) <;> (try dsimp only at hc) <;> cbv)
    | (refine br_mk2 (fun hb => ?_) (fun hb => ?_) <;> (try subst hb) <;> cbv))))
                (refine callq (gR) rfl rfl ?_; cbv; (repeat' (first
    | (refine q1 (by first | exact trivial | omega | (dsimp only; omega) | exact pow62 _ (by omega) | exact mul9 (by omega) (by omega) | (simp only [sm] at *; omega)) (fun z hz => ?_); (try simp only at hz); cbv)
    | (refine rq (by first | exact trivial | omega | (dsimp only; omega) | (simp only [sm] at *; omega)) ?_; cbv)
    | (refine QC.tt (by first | omega | (dsimp only; omega) | exact rfl | (simp only [sm] at *; omega)) ?_; cbv)
    | (refine QC.tt ?_ ?_; (focus (simp only [decide_true, Bool.and_true, Bool.and_self] <;> fail)); cbv)
    | (refine QC.ff ?_ ?_; (focus (simp only [decide_true, Bool.and_true, Bool.and_self, decide_false, Bool.false_and, reduceCtorEq, not_false_eq_true] <;> fail)); cbv)
    | (refine QC.ff (by first | omega | (dsimp only; omega) | (simp only [sm] at *; omega)) ?_; cbv)
    | (refine QC.mk (fun hc => ?_) (fun hc => ?_) <;> (try dsimp only at hc) <;> cbv)
    | (refine br_mk2 (fun hb => ?_) (fun hb => ?_) <;> (try subst hb) <;> cbv))))
                · skip
                  have hlt : qq / 8 < sc.length := by (first | omega | (simp only [cst] at *; omega) | (simp only [sm] at *; omega))
                  obtain ⟨b0, hb0, hb0r, hEb⟩ := hE2 (qq / 8) hlt
                  have hzi : z = ((qq / 8 : Nat) : Int) := by (first | omega | (simp only [cst] at *; omega) | (simp only [sm] at *; omega))
                  (refine qv (qq / 8, _) ⟨hzi, hEb⟩ ?_; cbv; (repeat' (first
    | (refine q1 (by first | exact trivial | omega | (dsimp only; omega) | exact pow62 _ (by omega) | exact mul9 (by omega) (by omega) | (simp only [sm] at *; omega)) (fun z hz => ?_); (try simp only at hz); cbv)
    | (refine rq (by first | exact trivial | omega | (dsimp only; omega) | (simp only [sm] at *; omega)) ?_; cbv)
    | (refine QC.tt (by first | omega | (dsimp only; omega) | exact rfl | (simp only [sm] at *; omega)) ?_; cbv)
    | (refine QC.tt ?_ ?_; (focus (simp only [decide_true, Bool.and_true, Bool.and_self] <;> fail)); cbv)
    | (refine QC.ff ?_ ?_; (focus (simp only [decide_true, Bool.and_true, Bool.and_self, decide_false, Bool.false_and, reduceCtorEq, not_false_eq_true] <;> fail)); cbv)
    | (refine QC.ff (by first | omega | (dsimp only; omega) | (simp only [sm] at *; omega)) ?_; cbv)
    | (refine QC.mk (fun hc => ?_) (fun hc => ?_) <;> (try dsimp only at hc) <;> cbv)
    | (refine br_mk2 (fun hb => ?_) (fun hb => ?_) <;> (try subst hb) <;> cbv))))
                  skip
                  rename_i ra hra rb hrb
                  have hz0 : 0 ≤ z := by rw [hz]; exact Int.ediv_nonneg hb0r.1 (Int.pow_nonneg (by omega))
                  have hz4 : z ≤ b0 := by rw [hz]; exact Int.ediv_le_self _ hb0r.1
                  have e8 : rb.toNat = qq % 8 := by (first | omega | (simp only [cst] at *; omega) | (simp only [sm] at *; omega))
                  have hzz : ((z.toNat &&& Int.toNat 1 : Nat) : Int) = (((b0 / 2 ^ (qq % 8)).toNat &&& 1 : Nat) : Int) := by rw [hz, e8]; rfl
                  refine q1 ⟨hz0, by omega, by omega, by omega⟩ ?_
                  intro zc hzc
                  have hlz := lost_in hlt hb0 zc (hzc.trans hzz)
                  clear hz hzz hb0 hzc hEb
                  cbv
                  (repeat' (first
    | (refine q1 (by first | exact trivial | omega | (dsimp only; omega) | exact pow62 _ (by omega) | exact mul9 (by omega) (by omega) | (simp only [sm] at *; omega)) (fun z hz => ?_); (try simp only at hz); cbv)
    | (refine rq (by first | exact trivial | omega | (dsimp only; omega) | (simp only [sm] at *; omega)) ?_; cbv)
    | (refine QC.tt (by first | omega | (dsimp only; omega) | exact rfl | (simp only [sm] at *; omega)) ?_; cbv)
    | (refine QC.tt ?_ ?_; (focus (simp only [decide_true, Bool.and_true, Bool.and_self] <;> fail)); cbv)
    | (refine QC.ff ?_ ?_; (focus (simp only [decide_true, Bool.and_true, Bool.and_self, decide_false, Bool.false_and, reduceCtorEq, not_false_eq_true] <;> fail)); cbv)
    | (refine QC.ff (by first | omega | (dsimp only; omega) | (simp only [sm] at *; omega)) ?_; cbv)
    | (refine QC.mk (fun hc => ?_) (fun hc => ?_) <;> (try dsimp only at hc) <;> cbv)
    | (refine br_mk2 (fun hb => ?_) (fun hb => ?_) <;> (try subst hb) <;> cbv)))
                  · have hno := gN2 (fun h => by have h2 := h.2; rw [hlz.2 hc] at h2; cases h2)
                    rename_i zp hzp
                    skip
                    obtain ⟨l1, l2, l3, l4⟩ := hno
                    refine ⟨((k + 1, z), zp), ⟨by show z = ((k + 1 : Nat) : Int); (first | omega | (simp only [cst] at *; omega) | (simp only [sm] at *; omega)), by show k + 1 ≤ L.length; omega, by show zp = (pl (k + 1) : Int); rw [hpn]; (first | omega | (simp only [cst] at *; omega) | (simp only [sm] at *; omega))⟩, by show L.length - (k + 1) < L.length - k; omega, ?_⟩
                    cbv
                    rw [l1, l2, l3, l4]
                    repeat' (first | exact rfl | exact trivial | apply And.intro)
                  · have gA := gA rfl (by
                      cases h : lost sc qq
                      · rfl
                      · exact absurd (hlz.1 h) hc)
                    skip
                    (refine callq (gA) rfl rfl ?_; cbv; (repeat' (first
    | (refine q1 (by first | exact trivial | omega | (dsimp only; omega) | exact pow62 _ (by omega) | exact mul9 (by omega) (by omega) | (simp only [sm] at *; omega)) (fun z hz => ?_); (try simp only at hz); cbv)
    | (refine rq (by first | exact trivial | omega | (dsimp only; omega) | (simp only [sm] at *; omega)) ?_; cbv)
    | (refine QC.tt (by first | omega | (dsimp only; omega) | exact rfl | (simp only [sm] at *; omega)) ?_; cbv)
    | (refine QC.tt ?_ ?_; (focus (simp only [decide_true, Bool.and_true, Bool.and_self] <;> fail)); cbv)
    | (refine QC.ff ?_ ?_; (focus (simp only [decide_true, Bool.and_true, Bool.and_self, decide_false, Bool.false_and, reduceCtorEq, not_false_eq_true] <;> fail)); cbv)
    | (refine QC.ff (by first | omega | (dsimp only; omega) | (simp only [sm] at *; omega)) ?_; cbv)
    | (refine QC.mk (fun hc => ?_) (fun hc => ?_) <;> (try dsimp only at hc) <;> cbv)
    | (refine br_mk2 (fun hb => ?_) (fun hb => ?_) <;> (try subst hb) <;> cbv))))
                    rename_i zp hzp
                    refine ⟨((k + 1, z), zp), ⟨by show z = ((k + 1 : Nat) : Int); (first | omega | (simp only [cst] at *; omega) | (simp only [sm] at *; omega)), by show k + 1 ≤ L.length; omega, by show zp = (pl (k + 1) : Int); rw [hpn]; (first | omega | (simp only [cst] at *; omega) | (simp only [sm] at *; omega))⟩, by show L.length - (k + 1) < L.length - k; omega, ?_⟩
                    cbv
                    repeat' (first | exact rfl | exact trivial | apply And.intro)
                · have gA := gA rfl (lost_out (by (first | omega | (simp only [cst] at *; omega) | (simp only [sm] at *; omega))))
                  skip
                  (refine callq (gA) rfl rfl ?_; cbv; (repeat' (first
    | (refine q1 (by first | exact trivial | omega | (dsimp only; omega) | exact pow62 _ (by omega) | exact mul9 (by omega) (by omega) | (simp only [sm] at *; omega)) (fun z hz => ?_); (try simp only at hz); cbv)
    | (refine rq (by first | exact trivial | omega | (dsimp only; omega) | (simp only [sm] at *; omega)) ?_; cbv)
    | (refine QC.tt (by first | omega | (dsimp only; omega) | exact rfl | (simp only [sm] at *; omega)) ?_; cbv)
    | (refine QC.tt ?_ ?_; (focus (simp only [decide_true, Bool.and_true, Bool.and_self] <;> fail)); cbv)
    | (refine QC.ff ?_ ?_; (focus (simp only [decide_true, Bool.and_true, Bool.and_self, decide_false, Bool.false_and, reduceCtorEq, not_false_eq_true] <;> fail)); cbv)
    | (refine QC.ff (by first | omega | (dsimp only; omega) | (simp only [sm] at *; omega)) ?_; cbv)
    | (refine QC.mk (fun hc => ?_) (fun hc => ?_) <;> (try dsimp only at hc) <;> cbv)
    | (refine br_mk2 (fun hb => ?_) (fun hb => ?_) <;> (try subst hb) <;> cbv))))
                  rename_i zp hzp
                  refine ⟨((k + 1, z), zp), ⟨by show z = ((k + 1 : Nat) : Int); (first | omega | (simp only [cst] at *; omega) | (simp only [sm] at *; omega)), by show k + 1 ≤ L.length; omega, by show zp = (pl (k + 1) : Int); rw [hpn]; (first | omega | (simp only [cst] at *; omega) | (simp only [sm] at *; omega))⟩, by show L.length - (k + 1) < L.length - k; omega, ?_⟩
                  cbv
                  repeat' (first | exact rfl | exact trivial | apply And.intro)
          · have hkl : k < L.length := by (first | omega | (simp only [cst] at *; omega) | (simp only [sm] at *; omega))
            have hl : lost sc (pl k) = false := lost_out (by (first | omega | (simp only [cst] at *; omega) | (simp only [sm] at *; omega)))
            skip
            obtain ⟨j2, c2, κ, B, hLk, hpn, gR, gA, gN2⟩ := (hPk hkl).got hl
            clear hPk hl
            obtain ⟨qq, hqq⟩ : ∃ qq, qq = pl k + 1 := ⟨_, rfl⟩
            rw [← hqq] at gA gN2
            have hpn : pl (k + 1) = qq + 1 := by omega
            have hzq : z = (qq : Int) := by (first | omega | (simp only [cst] at *; omega) | (simp only [sm] at *; omega))
            have hqb : 0 ≤ z ∧ z ≤ 50001 := by (first | omega | (simp only [cst] at *; omega) | (simp only [sm] at *; omega))
            clear hz hqq
            cases κ
            · have hno := gN2 (fun h => by cases h.1)
              clear gA gN2
              (refine qv (k, _) ⟨hi, hLk⟩ ?_; cbv; (repeat' (first
    | (refine q1 (by first | exact trivial | omega | (dsimp only; omega) | exact pow62 _ (by omega) | exact mul9 (by omega) (by omega) | (simp only [sm] at *; omega)) (fun z hz => ?_); (try simp only at hz); cbv)
    | (refine rq (by first | exact trivial | omega | (dsimp only; omega) | (simp only [sm] at *; omega)) ?_; cbv)
    | (refine QC.tt (by first | omega | (dsimp only; omega) | exact rfl | (simp only [sm] at *; omega)) ?_; cbv)
    | (refine QC.tt ?_ ?_; (focus (simp only [decide_true, Bool.and_true, Bool.and_self] <;> fail)); cbv)
    | (refine QC.ff ?_ ?_; (focus (simp only [decide_true, Bool.and_true, Bool.and_self, decide_false, Bool.false_and, reduceCtorEq, not_false_eq_true] <;> fail)); cbv)
    | (refine QC.ff (by first | omega | (dsimp only; omega) | (simp only [sm] at *; omega)) ?_; cbv)
    | (refine QC.mk (fun hc => ?_) (fun hc => ?_) <;> (try dsimp only at hc) <;> cbv)
    | (refine br_mk2 (fun hb => ?_) (fun hb => ?_) <;> (try subst hb) <;> cbv))))
              (refine callq (gR) rfl rfl ?_; cbv; (repeat' (first
    | (refine q1 (by first | exact trivial | omega | (dsimp only; omega) | exact pow62 _ (by omega) | exact mul9 (by omega) (by omega) | (simp only [sm] at *; omega)) (fun z hz => ?_); (try simp only at hz); cbv)
    | (refine rq (by first | exact trivial | omega | (dsimp only; omega) | (simp only [sm] at *; omega)) ?_; cbv)
    | (refine QC.tt (by first | omega | (dsimp only; omega) | exact rfl | (simp only [sm] at *; omega)) ?_; cbv)
    | (refine QC.tt ?_ ?_; (focus (simp only [decide_true, Bool.and_true, Bool.and_self] <;> fail)); cbv)
    | (refine QC.ff ?_ ?_; (focus (simp only [decide_true, Bool.and_true, Bool.and_self, decide_false, Bool.false_and, reduceCtorEq, not_false_eq_true] <;> fail)); cbv)
    | (refine QC.ff (by first | omega | (dsimp only; omega) | (simp only [sm] at *; omega)) ?_; cbv)
    | (refine QC.mk (fun hc => ?_) (fun hc => ?_) <;> (try dsimp only at hc) <;> cbv)
    | (refine br_mk2 (fun hb => ?_) (fun hb => ?_) <;> (try subst hb) <;> cbv))))
              rename_i zp hzp
              skip
              obtain ⟨l1, l2, l3, l4⟩ := hno
              refine ⟨((k + 1, z), zp), ⟨by show z = ((k + 1 : Nat) : Int); (first | omega | (simp only [cst] at *; omega) | (simp only [sm] at *; omega)), by show k + 1 ≤ L.length; omega, by show zp = (pl (k + 1) : Int); rw [hpn]; (first | omega | (simp only [cst] at *; omega) | (simp only [sm] at *; omega))⟩, by show L.length - (k + 1) < L.length - k; omega, ?_⟩
              cbv
              rw [l1, l2, l3, l4]
              repeat' (first | exact rfl | exact trivial | apply And.intro)
            · (refine qv (k, _) ⟨hi, hLk⟩ ?_; cbv; (repeat' (first
    | (refine q1 (by first | exact trivial | omega | (dsimp only; omega) | exact pow62 _ (by omega) | exact mul9 (by omega) (by omega) | (simp only [sm] at *; omega)) (fun z hz => ?_); (try simp only at hz); cbv)
    | (refine rq (by first | exact trivial | omega | (dsimp only; omega) | (simp only [sm] at *; omega)) ?_; cbv)
    | (refine QC.tt (by first | omega | (dsimp only; omega) | exact rfl | (simp only [sm] at *; omega)) ?_; cbv)
    | (refine QC.tt ?_ ?_; (focus (simp only [decide_true, Bool.and_true, Bool.and_self] <;> fail)); cbv)
    | (refine QC.ff ?_ ?_; (focus (simp only [decide_true, Bool.and_true, Bool.and_self, decide_false, Bool.false_and, reduceCtorEq, not_false_eq_true] <;> fail)); cbv)
    | (refine QC.ff (by first | omega | (dsimp only; omega) | (simp only [sm] at *; omega)) ?_; cbv)
    | (refine QC.mk (fun hc => ?_) (fun hc => ?_) <;> (try dsimp only at hc) <;> cbv)
    | (refine br_mk2 (fun hb => ?_) (fun hb => ?_) <;> (try subst hb) <;> cbv))))
              (refine callq (gR) rfl rfl ?_; cbv; (repeat' (first
    | (refine q1 (by first | exact trivial | omega | (dsimp only; omega) | exact pow62 _ (by omega) | exact mul9 (by omega) (by omega) | (simp only [sm] at *; omega)) (fun z hz => ?_); (try simp only at hz); cbv)
    | (refine rq (by first | exact trivial | omega | (dsimp only; omega) | (simp only [sm] at *; omega)) ?_; cbv)
    | (refine QC.tt (by first | omega | (dsimp only; omega) | exact rfl | (simp only [sm] at *; omega)) ?_; cbv)
    | (refine QC.tt ?_ ?_; (focus (simp only [decide_true, Bool.and_true, Bool.and_self] <;> fail)); cbv)
    | (refine QC.ff ?_ ?_; (focus (simp only [decide_true, Bool.and_true, Bool.and_self, decide_false, Bool.false_and, reduceCtorEq, not_false_eq_true] <;> fail)); cbv)
    | (refine QC.ff (by first | omega | (dsimp only; omega) | (simp only [sm] at *; omega)) ?_; cbv)
    | (refine QC.mk (fun hc => ?_) (fun hc => ?_) <;> (try dsimp only at hc) <;> cbv)
    | (refine br_mk2 (fun hb => ?_) (fun hb => ?_) <;> (try subst hb) <;> cbv))))
              have gA := gA rfl (lost_out (by (first | omega | (simp only [cst] at *; omega) | (simp only [sm] at *; omega))))
              skip
              (refine callq (gA) rfl rfl ?_; cbv; (repeat' (first
    | (refine q1 (by first | exact trivial | omega | (dsimp only; omega) | exact pow62 _ (by omega) | exact mul9 (by omega) (by omega) | (simp only [sm] at *; omega)) (fun z hz => ?_); (try simp only at hz); cbv)
    | (refine rq (by first | exact trivial | omega | (dsimp only; omega) | (simp only [sm] at *; omega)) ?_; cbv)
    | (refine QC.tt (by first | omega | (dsimp only; omega) | exact rfl | (simp only [sm] at *; omega)) ?_; cbv)
    | (refine QC.tt ?_ ?_; (focus (simp only [decide_true, Bool.and_true, Bool.and_self] <;> fail)); cbv)
    | (refine QC.ff ?_ ?_; (focus (simp only [decide_true, Bool.and_true, Bool.and_self, decide_false, Bool.false_and, reduceCtorEq, not_false_eq_true] <;> fail)); cbv)
    | (refine QC.ff (by first | omega | (dsimp only; omega) | (simp only [sm] at *; omega)) ?_; cbv)
    | (refine QC.mk (fun hc => ?_) (fun hc => ?_) <;> (try dsimp only at hc) <;> cbv)
    | (refine br_mk2 (fun hb => ?_) (fun hb => ?_) <;> (try subst hb) <;> cbv))))
              rename_i zp hzp
              refine ⟨((k + 1, z), zp), ⟨by show z = ((k + 1 : Nat) : Int); (first | omega | (simp only [cst] at *; omega) | (simp only [sm] at *; omega)), by show k + 1 ≤ L.length; omega, by show zp = (pl (k + 1) : Int); rw [hpn]; (first | omega | (simp only [cst] at *; omega) | (simp only [sm] at *; omega))⟩, by show L.length - (k + 1) < L.length - k; omega, ?_⟩
              cbv
              repeat' (first | exact rfl | exact trivial | apply And.intro)
          · have hke : k = L.length := by (first | omega | (simp only [cst] at *; omega) | (simp only [sm] at *; omega))
            have hL1 : L.length ≠ 0 := by (first | omega | (simp only [cst] at *; omega) | (simp only [sm] at *; omega))
            have hROe : RO (n + 1) = RO n + 1 := by rw [e11, if_neg hL1]
            skip
            refine ⟨((n + 1, z), (b, zr)), ⟨by show z = ((n + 1 : Nat) : Int); (first | omega | (simp only [cst] at *; omega) | (simp only [sm] at *; omega)), by show n + 1 ≤ 3000; omega, by show b = (PL (n + 1) : Int); rw [e10, ← hke]; exact hb, by show zr = (RO (n + 1) : Int); (first | omega | (simp only [cst] at *; omega) | (simp only [sm] at *; omega))⟩, by show 3000 - (n + 1) < 3000 - n; omega, ?_⟩
            cbv
            rw [e1, e2, e3, e4, e5, e6, e7, e8, e9, ← hke]
            repeat' (first | exact rfl | exact trivial | apply And.intro)
      · have hL0 : L.length = 0 := by (first | omega | (simp only [cst] at *; omega) | (simp only [sm] at *; omega))
        obtain ⟨zr, hzr⟩ : ∃ zr, zr = r := ⟨_, rfl⟩
        rw [← hzr]
        skip
        refine loopQ (A := (Nat × Int) × Int) (fun p => p.1.2 = p.1.1 ∧ p.1.1 ≤ L.length ∧ p.2 = pl p.1.1) (fun p => L.length - p.1.1) (fun p => [(17, .int .i64 p.1.2), (11, .int .i64 p.2)]) (fun p => [(3, .chunk 25 (sndV RP (st p.1.1) (ak p.1.1) (rd p.1.1) (un p.1.1))), (10, .chunk 55 (rcvV (rr p.1.1) (tg p.1.1) (cn p.1.1) (hv p.1.1) (dn p.1.1)))]) ((0, 0), a) ⟨rfl, Nat.zero_le _, by show a = (pl 0 : Int); rw [t6]; exact ha⟩ ?_ ?_
        · cbv
          rw [t1, t2, t3, t4, t5]
          repeat' (first | exact rfl | exact trivial | apply And.intro)
        · intro ⟨⟨k, i⟩, b⟩ hh
          have hi : i = (k : Int) := hh.1
          have hk : k ≤ L.length := hh.2.1
          have hb : b = (pl k : Int) := hh.2.2
          clear hh hP
          have hmy : True := trivial
          cbv
          (repeat' (first
    | (refine q1 (by first | exact trivial | omega | (dsimp only; omega) | exact pow62 _ (by omega) | exact mul9 (by omega) (by omega) | (simp only [sm] at *; omega)) (fun z hz => ?_); (try simp only at hz); cbv)
    | (refine rq (by first | exact trivial | omega | (dsimp only; omega) | (simp only [sm] at *; omega)) ?_; cbv)
    | (refine QC.tt (by first | omega | (dsimp only; omega) | exact rfl | (simp only [sm] at *; omega)) ?_; cbv)
    | (refine QC.tt ?_ ?_; (focus (simp only [decide_true, Bool.and_true, Bool.and_self] <;> fail)); cbv)
    | (refine QC.ff ?_ ?_; (focus (simp only [decide_true, Bool.and_true, Bool.and_self, decide_false, Bool.false_and, reduceCtorEq, not_false_eq_true] <;> fail)); cbv)
    | (refine QC.ff (by first | omega | (dsimp only; omega) | (simp only [sm] at *; omega)) ?_; cbv)
    | (refine QC.mk (fun hc => ?_) (fun hc => ?_) <;> (try dsimp only at hc) <;> cbv)
    | (refine br_mk2 (fun hb => ?_) (fun hb => ?_) <;> (try subst hb) <;> cbv)))
          have hke : k = L.length := by (first | omega | (simp only [cst] at *; omega) | (simp only [sm] at *; omega))
          have hROe : RO (n + 1) = RO n := by rw [e11, if_pos hL0, Nat.add_zero]
          skip
          refine ⟨((n + 1, z), (b, zr)), ⟨by show z = ((n + 1 : Nat) : Int); (first | omega | (simp only [cst] at *; omega) | (simp only [sm] at *; omega)), by show n + 1 ≤ 3000; omega, by show b = (PL (n + 1) : Int); rw [e10, ← hke]; exact hb, by show zr = (RO (n + 1) : Int); (first | omega | (simp only [cst] at *; omega) | (simp only [sm] at *; omega))⟩, by show 3000 - (n + 1) < 3000 - n; omega, ?_⟩
          cbv
          rw [e1, e2, e3, e4, e5, e6, e7, e8, e9, ← hke]
          repeat' (first | exact rfl | exact trivial | apply And.intro)
    · obtain ⟨e1, e2, e3, e4, e5, e6, e7, e8, e9, e10⟩ := hrn.stop hc
      refine Fin.mk ?_ rfl rfl
      show SV.tup [sndV RP (ST n) (AK n) (RD n) (UN n), rcvV (RR n) (TG n) (CN n) (HV n) (DN n), .int .i64 r, .bool true] = _
      rw [e1, e2, e3, e4, e5, e6, e7, e8, e9, hra, e10]
      rfl
    · have e : n = 3000 := by (first | omega | (simp only [cst] at *; omega) | (simp only [sm] at *; omega))
      subst e
      refine Fin.mk ?_ rfl rfl
      show SV.tup [sndV RP (ST 3000) (AK 3000) (RD 3000) (UN 3000), rcvV (RR 3000) (TG 3000) (CN 3000) (HV 3000) (DN 3000), .int .i64 r, .bool true] = _
      rw [hra]
      rfl
end Go.Proofs.Ytjhicdoigllblaa
/- Nothing is lost any more: plain laws. -/
namespace Go.Proofs.Ytjhicdoigllblaa
set_option linter.unusedVariables false
set_option linter.unusedSimpArgs false
open Go.RowKit
theorem bit_allI (m i : Nat) : (allI m / 2 ^ i % 2 = 0) ↔ m ≤ i := by
  rw [allI_nat, bit_opn, Nat.testBit_two_pow_sub_one, decide_eq_false_iff_not, Nat.not_lt]
theorem opn_allI (m : Nat) : ∀ n, opn (allI m) n = List.range' m (n - m)
  | 0 => by simp [opn]
  | n + 1 => by
    rw [opn_succ, opn_allI m n]
    by_cases h : m ≤ n
    · rw [if_pos ((bit_allI m n).2 h), show n + 1 - m = (n - m) + 1 by omega, List.range'_concat]
      congr 2
      omega
    · rw [if_neg (fun e => h ((bit_allI m n).1 e)), show n + 1 - m = 0 by omega, show n - m = 0 by omega]; rfl
/-- The receiver that has the first m pieces. -/
def rM (P : List (List UInt8)) (m : Nat) : Rcv := if m = 0 then zR else ⟨3, P.length, P.take m ++ List.replicate (P.length - m) [], allI m, decide (m = P.length)⟩
theorem rM_ps (P : List (List UInt8)) (m i : Nat) (hi : i < P.length) : (P.take m ++ List.replicate (P.length - m) ([] : List UInt8)).getD i [] = if i < m then P.getD i [] else [] := by
  rw [List.getD_eq_getElem?_getD]
  by_cases h : i < m
  · rw [if_pos h, List.getElem?_append_left (by rw [List.length_take]; omega), List.getElem?_take, if_pos h, List.getD_eq_getElem?_getD]
  · rw [if_neg h, List.getElem?_append_right (by rw [List.length_take]; omega)]
    rw [List.getElem?_replicate]
    split <;> rfl
theorem has_prefix (f : Nat → Bool) (m : Nat) (h : ∀ i, f i = decide (i < m)) : ∀ n, bm f n = 2 ^ (min m n) - 1
  | 0 => by simp [bm]
  | n + 1 => by
    rw [bm, has_prefix f m h n, h n]
    by_cases hn : n < m
    · rw [show min m n = n by omega, show min m (n + 1) = n + 1 by omega, if_pos (by simpa using hn), Nat.pow_succ]
      have : 1 ≤ 2 ^ n := Nat.one_le_two_pow
      omega
    · rw [show min m n = m by omega, show min m (n + 1) = m by omega, if_neg (by simpa using hn)]; rfl
theorem hasN_rM {P : List (List UInt8)} (hP : Pcs P) (m : Nat) (hm : m ≤ P.length) : (hasN (P.take m ++ List.replicate (P.length - m) []) (P.take m ++ List.replicate (P.length - m) []).length : Int) = allI m := by
  have hl : (P.take m ++ List.replicate (P.length - m) ([] : List UInt8)).length = P.length := by simp; omega
  rw [hl, allI_nat]
  congr 1
  have e : ∀ n, n ≤ P.length → hasN (P.take m ++ List.replicate (P.length - m) []) n = bm (fun i => decide (i < m)) n := fun n => by
    induction n with
    | zero => intro _; rfl
    | succ n ih =>
      intro hn
      have := ih (by omega)
      rw [hasN] at this ⊢
      rw [bm, bm, this, rM_ps P m n (by omega)]
      congr 1
      by_cases h : n < m
      · have h1 := hP.ne P[n] (List.getElem_mem (by omega))
        have : 0 < (P.getD n []).length := by
          rw [List.getD_eq_getElem?_getD, List.getElem?_eq_getElem (by omega)]
          exact List.length_pos_iff.2 h1
        rw [if_pos h]
        simp only [this, decide_true, if_true, h]
      · rw [if_neg h]
        simp only [List.length_nil, Nat.lt_irrefl, decide_false, h]
  rw [e _ (Nat.le_refl _), has_prefix _ m (fun i => rfl), Nat.min_eq_left hm]
theorem rM_ri1 {P : List (List UInt8)} (hP : Pcs P) (m : Nat) (h1 : 1 ≤ m) (hm : m ≤ P.length) : RI1 P (rM P m) := by
  have hh := hasN_rM hP m hm
  rw [rM, if_neg (by omega)]
  refine ⟨rfl, rfl, by simp; omega, fun i hi => ?_, hh.symm, ?_, ?_⟩
  · dsimp only
    rw [rM_ps P m i hi]
    split
    · exact .inr rfl
    · exact .inl rfl
  · have := allI_pos h1
    dsimp only
    omega
  · dsimp only
    congr 1
    apply propext
    constructor
    · rintro rfl; rfl
    · intro e
      rw [allI_nat, allI_nat] at e
      have e2 : 2 ^ m - 1 = 2 ^ P.length - 1 := by omega
      have a1 : 1 ≤ 2 ^ m := Nat.one_le_two_pow
      have a2 : 1 ≤ 2 ^ P.length := Nat.one_le_two_pow
      have e3 : 2 ^ m = 2 ^ P.length := by omega
      exact (Nat.pow_right_inj (by omega)).1 e3
theorem rM_ri {P : List (List UInt8)} (hP : Pcs P) (m : Nat) (hm : m ≤ P.length) : RI P (rM P m) := by
  rcases Nat.eq_zero_or_pos m with rfl | h
  · exact .inl (by rw [rM, if_pos rfl])
  · exact .inr (rM_ri1 hP m h hm)
theorem rM_hv {P : List (List UInt8)} (m : Nat) : (rM P m).hv = allI m := by
  rw [rM]
  split
  · rename_i h; subst h; rfl
  · rfl
theorem rM_tag (P : List (List UInt8)) {m : Nat} (h : 1 ≤ m) : rM P m = ⟨3, P.length, P.take m ++ List.replicate (P.length - m) [], allI m, decide (m = P.length)⟩ := by rw [rM, if_neg (by omega)]
theorem take_set {A : Type} (P : List A) (m : Nat) (hm : m < P.length) (d : A) : (P.take m ++ List.replicate (P.length - m) d).set m P[m] = P.take (m + 1) ++ List.replicate (P.length - (m + 1)) d := by
  rw [List.set_append_right (s := P.take m) (h := by rw [List.length_take]; omega)]
  rw [List.length_take, Nat.min_eq_left (by omega), Nat.sub_self, show P.length - m = (P.length - (m + 1)) + 1 by omega, List.replicate_succ, List.set_cons_zero, ← List.take_append_getElem hm, List.append_assoc]
  rfl
/-- The next piece of all. -/
theorem rM_recv {P : List (List UInt8)} (hP : Pcs P) (m : Nat) (hm : m < P.length) (k : Bool) : recvP (rM P m) ⟨3, m, P.length, k, P.getD m []⟩ = (rM P (m + 1), 0) := by
  have hpl : 0 < (P.getD m []).length := by
    have h1 := hP.ne P[m] (List.getElem_mem hm)
    rw [List.getD_eq_getElem?_getD, List.getElem?_eq_getElem hm]
    exact List.length_pos_iff.2 h1
  have hv : valP (m : Int) (P.length : Int) (P.getD m []).length = true := by
    have h2 := hP.n2
    exact decide_eq_true ⟨by omega, by omega, by omega, by omega, hpl⟩
  have hput : putP (P.take m ++ List.replicate (P.length - m) []) m (P.getD m []) = P.take (m + 1) ++ List.replicate (P.length - (m + 1)) [] := by
    rw [putP, if_pos (by rw [rM_ps P m m hm, if_neg (Nat.lt_irrefl _)]; rfl)]
    have := take_set P m hm []
    rw [← this]
    congr 1
    rw [List.getD_eq_getElem?_getD, List.getElem?_eq_getElem hm]; rfl
  have hdn : ∀ n : Nat, n ≤ P.length → (decide (allI (m + 1) = allI n) = decide (m + 1 = n)) := fun n _ => by
    congr 1
    apply propext
    constructor
    · intro e
      rw [allI_nat, allI_nat] at e
      have a1 : 1 ≤ 2 ^ (m + 1) := Nat.one_le_two_pow
      have a2 : 1 ≤ 2 ^ n := Nat.one_le_two_pow
      have e3 : 2 ^ (m + 1) = 2 ^ n := by omega
      exact (Nat.pow_right_inj (by omega)).1 e3
    · rintro rfl; rfl
  have hN : recvN 3 P.length (P.take m ++ List.replicate (P.length - m) []) ⟨3, m, P.length, k, P.getD m []⟩ = rM P (m + 1) := by
    rw [recvN, rM_tag P (by omega)]
    dsimp only
    rw [show ((m : Int)).toNat = m from Int.toNat_natCast m, hput, hasN_rM hP (m + 1) hm]
    have hl : (P.take m ++ List.replicate (P.length - m) ([] : List UInt8)).length = P.length := by simp; omega
    rw [hl, hdn _ (Nat.le_refl _)]
  unfold recvP
  rcases Nat.eq_zero_or_pos m with h0 | h0
  · subst h0
    rw [show rM P 0 = zR from by rw [rM, if_pos rfl]]
    rw [if_neg (fun h => h.elim (fun h1 => by rw [zR_vrc] at h1; cases h1) (fun h1 => by have h2 := hv.symm.trans h1; cases h2)), if_pos (show zeroB zR.tag zR.cnt zR.ps.length zR.hv zR.dn = true from rfl)]
    simp only [List.take_zero, List.nil_append, Nat.sub_zero] at hN
    rw [← hN]
    rfl
  · have hr := rM_ri1 hP m h0 (by omega)
    rw [if_neg (fun h' => h'.elim (fun h1 => by rw [hr.vrc hP] at h1; cases h1) (fun h1 => by have h2 := hv.symm.trans h1; cases h2)), if_neg (by rw [hr.nzero hP]; simp), if_neg (by rw [hr.tag, hr.cnt]; simp), hr.tag, hr.cnt, ← hN]
    rw [rM_tag P h0]
/-- The sender before round k of those that nothing is lost of. -/
def sK (P : List (List UInt8)) (lost k : Nat) : Snd := ⟨if 8 * k < P.length then 1 else 2, 3, P, allI (min (8 * k) P.length), if k = 0 then (lost : Int) else 0, if k = 0 then 8 * (lost : Int) else 0⟩
theorem allI_le {m n : Nat} (h : m ≤ n) : allI m ≤ allI n := by
  rw [allI_nat, allI_nat]
  have := Nat.pow_le_pow_right (show 0 < 2 by omega) h
  omega
theorem allI_lt {m n : Nat} (h : m < n) : allI m < allI n := by
  rw [allI_nat, allI_nat]
  have := Nat.pow_lt_pow_right (show 1 < 2 by omega) h
  have a1 : 1 ≤ 2 ^ m := Nat.one_le_two_pow
  omega
theorem allI_0 (m : Nat) : 0 ≤ allI m := by rw [allI_nat]; omega
/-- The pieces of round k. -/
def lK (P : List (List UInt8)) (k : Nat) : List Pce := mark (pre 3 P (allI (8 * k)) (min (P.length - 8 * k) 8))
theorem sK_next {P : List (List UInt8)} (hP : Pcs P) (lost k : Nat) (hl : lost ≤ 7) (hk : 8 * k < P.length) : ∃ s', nextP (sK P lost k) (8 * lost + k : Int) = (s', lK P k, 0) ∧
    s' = ⟨1, 3, P, allI (8 * k), (if k = 0 then (lost : Int) else 0) + 1, 8 * (lost : Int) + k + 8⟩ := by
  have h2 := hP.n2
  have e1 : (opn (allI (8 * k)) P.length).length = P.length - 8 * k := by rw [opn_allI, List.length_range']
  rw [sK, if_pos hk, Nat.min_eq_left (by omega)]
  obtain ⟨x1, x2⟩ := nextP_send hP (tag := 3) (ak := allI (8 * k)) (rd := if k = 0 then (lost : Int) else 0) (un := if k = 0 then 8 * (lost : Int) else 0) (now := 8 * lost + k) ⟨allI_0 _, allI_lt hk⟩ (by split <;> omega) (by split <;> omega) (by split <;> omega)
  refine ⟨_, ?_, rfl⟩
  rw [x1, e1, lK, Int.min_eq_left (show 8 * (lost : Int) + k + 8 ≤ 1099511627776 by omega)]
theorem lK_len {P : List (List UInt8)} (k : Nat) : (lK P k).length = min (P.length - 8 * k) 8 := by
  rw [lK, mark_len, pre_len _ _ _ _ (by rw [opn_allI, List.length_range']; omega)]
theorem lK_get {P : List (List UInt8)} (k i : Nat) (hi : i < min (P.length - 8 * k) 8) : (lK P k)[i]? = some ⟨3, ((8 * k + i : Nat) : Int), P.length, decide (i + 1 = min (P.length - 8 * k) 8), P.getD (8 * k + i) []⟩ := by
  have e1 : (opn (allI (8 * k)) P.length)[i]? = some (8 * k + i) := by
    rw [opn_allI, List.getElem?_range' (by omega)]; simp
  have h1 := pre_get (tag := 3) (ps := P) (k := min (P.length - 8 * k) 8) hi e1
  have h2 := mark_get _ _ _ h1
  rw [lK, h2, pre_len _ _ _ _ (by rw [opn_allI, List.length_range']; omega)]
  congr 2
theorem sK_ack {P : List (List UInt8)} (hP : Pcs P) (lost k : Nat) (hl : lost ≤ 7) (hk : 8 * k < P.length) :
    ackP ⟨1, 3, P, allI (8 * k), (if k = 0 then (lost : Int) else 0) + 1, 8 * (lost : Int) + k + 8⟩ 3 (allI (min (8 * (k + 1)) P.length)) = (sK P lost (k + 1), 0) := by
  have h2 := hP.n2
  obtain ⟨m, hm⟩ : ∃ m, m = min (8 * (k + 1)) P.length := ⟨_, rfl⟩
  rw [← hm]
  have hmn : m ≤ P.length := by omega
  have hkm : 8 * k < m := by omega
  have p1 : 1 ≤ 2 ^ m := Nat.one_le_two_pow
  have p2 : 2 ^ m ≤ 2 ^ P.length := Nat.pow_le_pow_right (by omega) hmn
  have hw : ackW (allI m) P.length = allI m := by
    rw [ackW, allI_nat, allI_nat, Int.toNat_natCast, Int.toNat_natCast, Nat.and_two_pow_sub_one_eq_mod, Nat.mod_eq_of_lt (by omega)]
  have ho : ackO (allI m) (allI (8 * k)) = allI m := by
    rw [ackO, allI_nat, allI_nat, Int.toNat_natCast, Int.toNat_natCast]
    congr 1
    apply Nat.eq_of_testBit_eq
    intro i
    rw [Nat.testBit_or, Nat.testBit_two_pow_sub_one, Nat.testBit_two_pow_sub_one]
    by_cases h : i < 8 * k
    · simp [h, show i < m by omega]
    · simp [h]
  have hd : ackD (allI m) (allI (8 * k)) ≠ 0 := by
    rw [ackD, allI_nat, allI_nat, Int.toNat_natCast, Int.toNat_natCast]
    intro e
    have e2 : (2 ^ m - 1) ^^^ ((2 ^ m - 1) &&& (2 ^ (8 * k) - 1)) = 0 := by omega
    have := congrArg (fun x => x.testBit (8 * k)) e2
    simp [Nat.testBit_xor, Nat.testBit_and, Nat.testBit_two_pow_sub_one, hkm] at this
  have hv := hP.vs (st := 1) (tag := 3) (ak := allI (8 * k)) (rd := (if k = 0 then (lost : Int) else 0) + 1) (un := 8 * lost + k + 8) (.inl rfl) (allI_lt hk) (by split <;> omega) (by omega)
  have hne : ¬ allI m = 0 := by have := allI_pos (n := m) (by omega); omega
  rw [ackP, if_neg (by rw [hv]; simp), if_neg (by simp), if_neg (by simp), ackS]
  dsimp only
  rw [hw, if_neg hne, ho, if_neg hd, sK, if_neg (show ¬ k + 1 = 0 by omega), if_neg (show ¬ k + 1 = 0 by omega), ← hm]
  by_cases h : 8 * (k + 1) < P.length
  · rw [if_pos h, if_neg (by rw [show m = 8 * (k + 1) by omega]; have := allI_lt h; omega)]
  · rw [if_neg h, if_pos (by rw [show m = P.length by omega])]
theorem sK_fits {P : List (List UInt8)} (hP : Pcs P) (lost k : Nat) (hl : lost ≤ 7) : (sK P lost k).fits := by
  have h2 := hP.n2
  have b := allI_b (n := min (8 * k) P.length) (by omega)
  refine ⟨?_, by rw [sK]; dsimp only; omega, b, ?_, ?_, by rw [sK]; dsimp only; omega, hP.b⟩
  · rw [sK]; dsimp only; split <;> omega
  · rw [sK]; dsimp only; split <;> omega
  · rw [sK]; dsimp only; split <;> omega
end Go.Proofs.Ytjhicdoigllblaa
/- The walk of the law RecoveryDelivers. -/
namespace Go.Proofs.Ytjhicdoigllblaa
set_option linter.unusedVariables false
set_option linter.unusedSimpArgs false
open Go.RowKit
set_option maxHeartbeats 16000000
theorem chk_flat (sz : Nat) (b : List UInt8) : ∀ n, (chk sz b n).flatten = b.take (n * sz)
  | 0 => by simp [chk]
  | n + 1 => by
    rw [chk_succ, List.flatten_append, chk_flat sz b n, Nat.succ_mul]
    simp [List.take_add]
theorem chk_whole {sz : Nat} {b : List UInt8} (h1 : 1 ≤ b.length) (hs : 1 ≤ sz) : (chk sz b (nPc b.length sz)).flatten = b := by
  rw [chk_flat, List.take_of_length_le (nPc_ge h1 hs)]
theorem opn0_len (n : Nat) : (opn 0 n).length = n := by
  have := opn_allI 0 n
  rw [show allI 0 = 0 from rfl] at this
  rw [this, List.length_range', Nat.sub_zero]
theorem EI.start {P : List (List UInt8)} (hP : Pcs P) : EI P ⟨1, 3, P, 0, 0, 0⟩ zR 0 := by
  have h1 := allI_pos hP.n1
  have h2 := hP.n2
  refine ⟨rfl, rfl, ⟨hP.n1, h2, hP.ne, by dsimp only; omega, by dsimp only; omega, by dsimp only; omega, by dsimp only; omega, by dsimp only; omega, fun e => ?_, fun _ => .inl rfl⟩, by dsimp only; omega, fun i hi => by simp at hi, .inl rfl, fun _ => ?_⟩
  · dsimp only at e
    omega
  · dsimp only
    rw [opn0_len]
    omega
set_option maxRecDepth 4000 in
theorem delivers_c (zs : List Int) (n room : Int) (sc : List UInt8) (hz : ∀ v ∈ zs, -9223372036854775808 ≤ v ∧ v ≤ 9223372036854775807) (hn : -9223372036854775808 ≤ n ∧ n ≤ 9223372036854775807) (hr : -9223372036854775808 ≤ room ∧ room ≤ 9223372036854775807) (hsl : sc.length ≤ 140737488351232) :
    Good 7 (pu [.lst none (ints .i64 zs), .int .i64 n, .int .i64 room, .lst none (u8l sc)] (.bool true)) := by
  obtain ⟨T, hT⟩ : ∃ T, T = (ints .i64 zs).take 400 := ⟨_, rfl⟩
  have h0 := new_c (ints .i64 zs) T hT
  have t0 : Tp T 0 := hT ▸ tape1 zs hz
  have hm := mod_c n 200 hn (by omega)
  have hm2 := mod_c room 60 hr (by omega)
  obtain ⟨N0, hN0⟩ : ∃ N, N = n % 200 := ⟨_, rfl⟩
  rw [← hN0] at hm
  have hN1 : 0 ≤ N0 ∧ N0 < 200 := by omega
  obtain ⟨M0, hM0⟩ : ∃ N, N = room % 60 := ⟨_, rfl⟩
  rw [← hM0] at hm2
  have hM1 : 0 ≤ M0 ∧ M0 < 60 := by omega
  obtain ⟨N, hN⟩ : ∃ N, N = 1 + N0 := ⟨_, rfl⟩
  obtain ⟨R0, ys, a1, hR0, hyl, hy, t1, g1⟩ := fill_e t0 N (by omega)
  obtain ⟨bs, hbs, hbl⟩ := u8l_of ys hy
  have hRb : R0 = u8l bs := hR0.trans hbs
  obtain ⟨sz, hsz⟩ : ∃ sz, sz = (7 + M0).toNat := ⟨_, rfl⟩
  obtain ⟨q1', P0⟩ := beg_ok bs 3 sz (by omega) (by omega) (by omega) (by rw [Nat.div_lt_iff_lt_mul (by omega)]; omega)
  have hwh := chk_whole (sz := sz) (b := bs) (by omega) (by omega)
  obtain ⟨ps, hps⟩ : ∃ ps, ps = chk sz bs (nPc bs.length sz) := ⟨_, rfl⟩
  rw [← hps] at q1' P0 hwh
  obtain ⟨R, hR⟩ : ∃ R, R = rowsB ps := ⟨_, rfl⟩
  obtain ⟨rm, hrm⟩ : ∃ rm : Int, rm = 4 + sz := ⟨_, rfl⟩
  have g2 := begin_p bs R0 hRb (by omega) 3 (4 + sz) (by omega) ⟨1, 3, ps, 0, 0, 0⟩ R hR 0 q1'
  rw [← hrm] at g2
  have hei := EI.start P0
  have hrun := fun n hn => run_w P0 hR sc ⟨⟨1, 3, ps, 0, 0, 0⟩, zR, 0, 0⟩ hei rfl rfl n hn
  have hend := (runX_ei P0 sc (t := ⟨⟨1, 3, ps, 0, 0, 0⟩, zR, 0, 0⟩) hei rfl rfl 3000 (by omega)).1
  obtain ⟨SC, hSC⟩ : ∃ SC, SC = u8l sc := ⟨_, rfl⟩
  have g3 := exch_c R SC sc hSC hsl _ _ _ _ _ _ _ _ _ _ _ hrun rfl rfl rfl rfl rfl rfl rfl rfl rfl rfl rfl
  try dsimp only at g3
  generalize runX sc ⟨⟨1, 3, ps, 0, 0, 0⟩, zR, 0, 0⟩ 3000 = X at hend g3
  obtain ⟨s, r, an, rn⟩ := X
  dsimp only at hend g3
  have hst : s.st ≠ 1 := fun h => by
    have h1 := hend.pot h
    have h2 := hend.v.r2
    omega
  have hdone := hend.done P0
  have hfit := hend.ri.fits P0
  have hwhole := hend.ri.whole P0
  have hbl2 : bs.length ≤ 200 := by omega
  have hk := known_c
  have gsm := same_c bs bs R0 R0 true hRb hRb (by omega) (by omega) (by simp)
  have gD : (r.dn = true ∧ Good 34 (pu [rcvV (rowsB r.ps) r.tag r.cnt r.hv true] (.tup [.lst none R0, .bool true]))) ∨ (r.dn = false ∧ s.st ≠ 2 ∧ Good 34 (pu [rcvV (rowsB r.ps) r.tag r.cnt r.hv false] (.tup [.lst none [], .bool false]))) := by
    obtain ⟨tag, cnt, qs, hv, dn⟩ := r
    cases dn
    · exact .inr ⟨rfl, fun h => (by have := hdone h; cases this), dgram_no tag cnt hv false qs _ rfl hfit _ (vrc_iff ⟨tag, cnt, qs, hv, false⟩) (.inr rfl)⟩
    · obtain ⟨w1, w2⟩ := hwhole rfl
      dsimp only at w1 w2
      subst w1
      exact .inl ⟨rfl, dgram_yes tag cnt hv qs _ rfl hfit w2 (by rw [hwh]; omega) R0 (by rw [hwh]; exact hRb)⟩
  rw [← hSC]
  clear hdone hfit hwhole hend hrun hei hwh P0 q1' hbs hR0 hT t0 t1 hps hSC hsl hz
  obtain ⟨sst, _, _, sak, srd, sun⟩ := s
  obtain ⟨tag, cnt, qs, hv, dn⟩ := r
  dsimp only at g3 gD hst
  generalize rowsB qs = Q at *
  generalize ints .i64 zs = Z at *
  obtain ⟨rn', hrn⟩ : ∃ z : Int, z = rn := ⟨_, rfl⟩
  rw [← hrn] at g3
  clear hrn
  cases gD with
  | inl h =>
    obtain ⟨rfl, gD⟩ := h
    refine Good.of Try.func7 rfl (by rfl) (by kernel_rfl) ?_
    cbv
    have hmk : True := trivial
    (repeat' (first
    | (refine q1 (by first | exact trivial | omega | (dsimp only; omega) | exact pow62 _ (by omega) | exact mul9 (by omega) (by omega) | (simp only [sm] at *; omega)) (fun z hz => ?_); (try simp only at hz); cbv)
    | (refine rq (by first | exact trivial | omega | (dsimp only; omega) | (simp only [sm] at *; omega)) ?_; cbv)
    | (refine QC.tt (by first | omega | (dsimp only; omega) | exact rfl | (simp only [sm] at *; omega)) ?_; cbv)
    | (refine QC.tt ?_ ?_; (focus (simp only [decide_true, Bool.and_true, Bool.and_self] <;> fail)); cbv)
    | (refine QC.ff ?_ ?_; (focus (simp only [decide_true, Bool.and_true, Bool.and_self, decide_false, Bool.false_and, reduceCtorEq, not_false_eq_true] <;> fail)); cbv)
    | (refine QC.ff (by first | omega | (dsimp only; omega) | (simp only [sm] at *; omega)) ?_; cbv)
    | (refine QC.mk (fun hc => ?_) (fun hc => ?_) <;> (try dsimp only at hc) <;> cbv)
    | (refine br_mk2 (fun hb => ?_) (fun hb => ?_) <;> (try subst hb) <;> cbv)))
    (refine callq (h0) rfl rfl ?_; cbv; (repeat' (first
    | (refine q1 (by first | exact trivial | omega | (dsimp only; omega) | exact pow62 _ (by omega) | exact mul9 (by omega) (by omega) | (simp only [sm] at *; omega)) (fun z hz => ?_); (try simp only at hz); cbv)
    | (refine rq (by first | exact trivial | omega | (dsimp only; omega) | (simp only [sm] at *; omega)) ?_; cbv)
    | (refine QC.tt (by first | omega | (dsimp only; omega) | exact rfl | (simp only [sm] at *; omega)) ?_; cbv)
    | (refine QC.tt ?_ ?_; (focus (simp only [decide_true, Bool.and_true, Bool.and_self] <;> fail)); cbv)
    | (refine QC.ff ?_ ?_; (focus (simp only [decide_true, Bool.and_true, Bool.and_self, decide_false, Bool.false_and, reduceCtorEq, not_false_eq_true] <;> fail)); cbv)
    | (refine QC.ff (by first | omega | (dsimp only; omega) | (simp only [sm] at *; omega)) ?_; cbv)
    | (refine QC.mk (fun hc => ?_) (fun hc => ?_) <;> (try dsimp only at hc) <;> cbv)
    | (refine br_mk2 (fun hb => ?_) (fun hb => ?_) <;> (try subst hb) <;> cbv))))
    (refine callq (hm) rfl rfl ?_; cbv; (repeat' (first
    | (refine q1 (by first | exact trivial | omega | (dsimp only; omega) | exact pow62 _ (by omega) | exact mul9 (by omega) (by omega) | (simp only [sm] at *; omega)) (fun z hz => ?_); (try simp only at hz); cbv)
    | (refine rq (by first | exact trivial | omega | (dsimp only; omega) | (simp only [sm] at *; omega)) ?_; cbv)
    | (refine QC.tt (by first | omega | (dsimp only; omega) | exact rfl | (simp only [sm] at *; omega)) ?_; cbv)
    | (refine QC.tt ?_ ?_; (focus (simp only [decide_true, Bool.and_true, Bool.and_self] <;> fail)); cbv)
    | (refine QC.ff ?_ ?_; (focus (simp only [decide_true, Bool.and_true, Bool.and_self, decide_false, Bool.false_and, reduceCtorEq, not_false_eq_true] <;> fail)); cbv)
    | (refine QC.ff (by first | omega | (dsimp only; omega) | (simp only [sm] at *; omega)) ?_; cbv)
    | (refine QC.mk (fun hc => ?_) (fun hc => ?_) <;> (try dsimp only at hc) <;> cbv)
    | (refine br_mk2 (fun hb => ?_) (fun hb => ?_) <;> (try subst hb) <;> cbv))))
    have hzN := hz.trans hN.symm
    subst hzN
    (refine callq (g1) rfl rfl ?_; cbv; (repeat' (first
    | (refine q1 (by first | exact trivial | omega | (dsimp only; omega) | exact pow62 _ (by omega) | exact mul9 (by omega) (by omega) | (simp only [sm] at *; omega)) (fun z hz => ?_); (try simp only at hz); cbv)
    | (refine rq (by first | exact trivial | omega | (dsimp only; omega) | (simp only [sm] at *; omega)) ?_; cbv)
    | (refine QC.tt (by first | omega | (dsimp only; omega) | exact rfl | (simp only [sm] at *; omega)) ?_; cbv)
    | (refine QC.tt ?_ ?_; (focus (simp only [decide_true, Bool.and_true, Bool.and_self] <;> fail)); cbv)
    | (refine QC.ff ?_ ?_; (focus (simp only [decide_true, Bool.and_true, Bool.and_self, decide_false, Bool.false_and, reduceCtorEq, not_false_eq_true] <;> fail)); cbv)
    | (refine QC.ff (by first | omega | (dsimp only; omega) | (simp only [sm] at *; omega)) ?_; cbv)
    | (refine QC.mk (fun hc => ?_) (fun hc => ?_) <;> (try dsimp only at hc) <;> cbv)
    | (refine br_mk2 (fun hb => ?_) (fun hb => ?_) <;> (try subst hb) <;> cbv))))
    (refine callq (hm2) rfl rfl ?_; cbv; (repeat' (first
    | (refine q1 (by first | exact trivial | omega | (dsimp only; omega) | exact pow62 _ (by omega) | exact mul9 (by omega) (by omega) | (simp only [sm] at *; omega)) (fun z hz => ?_); (try simp only at hz); cbv)
    | (refine rq (by first | exact trivial | omega | (dsimp only; omega) | (simp only [sm] at *; omega)) ?_; cbv)
    | (refine QC.tt (by first | omega | (dsimp only; omega) | exact rfl | (simp only [sm] at *; omega)) ?_; cbv)
    | (refine QC.tt ?_ ?_; (focus (simp only [decide_true, Bool.and_true, Bool.and_self] <;> fail)); cbv)
    | (refine QC.ff ?_ ?_; (focus (simp only [decide_true, Bool.and_true, Bool.and_self, decide_false, Bool.false_and, reduceCtorEq, not_false_eq_true] <;> fail)); cbv)
    | (refine QC.ff (by first | omega | (dsimp only; omega) | (simp only [sm] at *; omega)) ?_; cbv)
    | (refine QC.mk (fun hc => ?_) (fun hc => ?_) <;> (try dsimp only at hc) <;> cbv)
    | (refine br_mk2 (fun hb => ?_) (fun hb => ?_) <;> (try subst hb) <;> cbv))))
    have hzr : z = rm := by (first | omega | (simp only [cst] at *; omega) | (simp only [sm] at *; omega))
    subst hzr
    (refine callq (g2) rfl rfl ?_; cbv; (repeat' (first
    | (refine q1 (by first | exact trivial | omega | (dsimp only; omega) | exact pow62 _ (by omega) | exact mul9 (by omega) (by omega) | (simp only [sm] at *; omega)) (fun z hz => ?_); (try simp only at hz); cbv)
    | (refine rq (by first | exact trivial | omega | (dsimp only; omega) | (simp only [sm] at *; omega)) ?_; cbv)
    | (refine QC.tt (by first | omega | (dsimp only; omega) | exact rfl | (simp only [sm] at *; omega)) ?_; cbv)
    | (refine QC.tt ?_ ?_; (focus (simp only [decide_true, Bool.and_true, Bool.and_self] <;> fail)); cbv)
    | (refine QC.ff ?_ ?_; (focus (simp only [decide_true, Bool.and_true, Bool.and_self, decide_false, Bool.false_and, reduceCtorEq, not_false_eq_true] <;> fail)); cbv)
    | (refine QC.ff (by first | omega | (dsimp only; omega) | (simp only [sm] at *; omega)) ?_; cbv)
    | (refine QC.mk (fun hc => ?_) (fun hc => ?_) <;> (try dsimp only at hc) <;> cbv)
    | (refine br_mk2 (fun hb => ?_) (fun hb => ?_) <;> (try subst hb) <;> cbv))))
    (refine callq (g3) rfl rfl ?_; cbv; (repeat' (first
    | (refine q1 (by first | exact trivial | omega | (dsimp only; omega) | exact pow62 _ (by omega) | exact mul9 (by omega) (by omega) | (simp only [sm] at *; omega)) (fun z hz => ?_); (try simp only at hz); cbv)
    | (refine rq (by first | exact trivial | omega | (dsimp only; omega) | (simp only [sm] at *; omega)) ?_; cbv)
    | (refine QC.tt (by first | omega | (dsimp only; omega) | exact rfl | (simp only [sm] at *; omega)) ?_; cbv)
    | (refine QC.tt ?_ ?_; (focus (simp only [decide_true, Bool.and_true, Bool.and_self] <;> fail)); cbv)
    | (refine QC.ff ?_ ?_; (focus (simp only [decide_true, Bool.and_true, Bool.and_self, decide_false, Bool.false_and, reduceCtorEq, not_false_eq_true] <;> fail)); cbv)
    | (refine QC.ff (by first | omega | (dsimp only; omega) | (simp only [sm] at *; omega)) ?_; cbv)
    | (refine QC.mk (fun hc => ?_) (fun hc => ?_) <;> (try dsimp only at hc) <;> cbv)
    | (refine br_mk2 (fun hb => ?_) (fun hb => ?_) <;> (try subst hb) <;> cbv))))
    (refine callq (gD) rfl rfl ?_; cbv; (repeat' (first
    | (refine q1 (by first | exact trivial | omega | (dsimp only; omega) | exact pow62 _ (by omega) | exact mul9 (by omega) (by omega) | (simp only [sm] at *; omega)) (fun z hz => ?_); (try simp only at hz); cbv)
    | (refine rq (by first | exact trivial | omega | (dsimp only; omega) | (simp only [sm] at *; omega)) ?_; cbv)
    | (refine QC.tt (by first | omega | (dsimp only; omega) | exact rfl | (simp only [sm] at *; omega)) ?_; cbv)
    | (refine QC.tt ?_ ?_; (focus (simp only [decide_true, Bool.and_true, Bool.and_self] <;> fail)); cbv)
    | (refine QC.ff ?_ ?_; (focus (simp only [decide_true, Bool.and_true, Bool.and_self, decide_false, Bool.false_and, reduceCtorEq, not_false_eq_true] <;> fail)); cbv)
    | (refine QC.ff (by first | omega | (dsimp only; omega) | (simp only [sm] at *; omega)) ?_; cbv)
    | (refine QC.mk (fun hc => ?_) (fun hc => ?_) <;> (try dsimp only at hc) <;> cbv)
    | (refine br_mk2 (fun hb => ?_) (fun hb => ?_) <;> (try subst hb) <;> cbv))))
    (refine callq (hk) rfl rfl ?_; cbv; (repeat' (first
    | (refine q1 (by first | exact trivial | omega | (dsimp only; omega) | exact pow62 _ (by omega) | exact mul9 (by omega) (by omega) | (simp only [sm] at *; omega)) (fun z hz => ?_); (try simp only at hz); cbv)
    | (refine rq (by first | exact trivial | omega | (dsimp only; omega) | (simp only [sm] at *; omega)) ?_; cbv)
    | (refine QC.tt (by first | omega | (dsimp only; omega) | exact rfl | (simp only [sm] at *; omega)) ?_; cbv)
    | (refine QC.tt ?_ ?_; (focus (simp only [decide_true, Bool.and_true, Bool.and_self] <;> fail)); cbv)
    | (refine QC.ff ?_ ?_; (focus (simp only [decide_true, Bool.and_true, Bool.and_self, decide_false, Bool.false_and, reduceCtorEq, not_false_eq_true] <;> fail)); cbv)
    | (refine QC.ff (by first | omega | (dsimp only; omega) | (simp only [sm] at *; omega)) ?_; cbv)
    | (refine QC.mk (fun hc => ?_) (fun hc => ?_) <;> (try dsimp only at hc) <;> cbv)
    | (refine br_mk2 (fun hb => ?_) (fun hb => ?_) <;> (try subst hb) <;> cbv))))
    · (refine callq (gsm) rfl rfl ?_; cbv; (repeat' (first
    | (refine q1 (by first | exact trivial | omega | (dsimp only; omega) | exact pow62 _ (by omega) | exact mul9 (by omega) (by omega) | (simp only [sm] at *; omega)) (fun z hz => ?_); (try simp only at hz); cbv)
    | (refine rq (by first | exact trivial | omega | (dsimp only; omega) | (simp only [sm] at *; omega)) ?_; cbv)
    | (refine QC.tt (by first | omega | (dsimp only; omega) | exact rfl | (simp only [sm] at *; omega)) ?_; cbv)
    | (refine QC.tt ?_ ?_; (focus (simp only [decide_true, Bool.and_true, Bool.and_self] <;> fail)); cbv)
    | (refine QC.ff ?_ ?_; (focus (simp only [decide_true, Bool.and_true, Bool.and_self, decide_false, Bool.false_and, reduceCtorEq, not_false_eq_true] <;> fail)); cbv)
    | (refine QC.ff (by first | omega | (dsimp only; omega) | (simp only [sm] at *; omega)) ?_; cbv)
    | (refine QC.mk (fun hc => ?_) (fun hc => ?_) <;> (try dsimp only at hc) <;> cbv)
    | (refine br_mk2 (fun hb => ?_) (fun hb => ?_) <;> (try subst hb) <;> cbv))))
      exact ⟨rfl, rfl, rfl⟩
    · (refine callq (gsm) rfl rfl ?_; cbv; (repeat' (first
    | (refine q1 (by first | exact trivial | omega | (dsimp only; omega) | exact pow62 _ (by omega) | exact mul9 (by omega) (by omega) | (simp only [sm] at *; omega)) (fun z hz => ?_); (try simp only at hz); cbv)
    | (refine rq (by first | exact trivial | omega | (dsimp only; omega) | (simp only [sm] at *; omega)) ?_; cbv)
    | (refine QC.tt (by first | omega | (dsimp only; omega) | exact rfl | (simp only [sm] at *; omega)) ?_; cbv)
    | (refine QC.tt ?_ ?_; (focus (simp only [decide_true, Bool.and_true, Bool.and_self] <;> fail)); cbv)
    | (refine QC.ff ?_ ?_; (focus (simp only [decide_true, Bool.and_true, Bool.and_self, decide_false, Bool.false_and, reduceCtorEq, not_false_eq_true] <;> fail)); cbv)
    | (refine QC.ff (by first | omega | (dsimp only; omega) | (simp only [sm] at *; omega)) ?_; cbv)
    | (refine QC.mk (fun hc => ?_) (fun hc => ?_) <;> (try dsimp only at hc) <;> cbv)
    | (refine br_mk2 (fun hb => ?_) (fun hb => ?_) <;> (try subst hb) <;> cbv))))
      exact ⟨rfl, rfl, rfl⟩
  | inr h =>
    obtain ⟨rfl, h2, gD⟩ := h
    refine Good.of Try.func7 rfl (by rfl) (by kernel_rfl) ?_
    cbv
    have hmk : True := trivial
    (repeat' (first
    | (refine q1 (by first | exact trivial | omega | (dsimp only; omega) | exact pow62 _ (by omega) | exact mul9 (by omega) (by omega) | (simp only [sm] at *; omega)) (fun z hz => ?_); (try simp only at hz); cbv)
    | (refine rq (by first | exact trivial | omega | (dsimp only; omega) | (simp only [sm] at *; omega)) ?_; cbv)
    | (refine QC.tt (by first | omega | (dsimp only; omega) | exact rfl | (simp only [sm] at *; omega)) ?_; cbv)
    | (refine QC.tt ?_ ?_; (focus (simp only [decide_true, Bool.and_true, Bool.and_self] <;> fail)); cbv)
    | (refine QC.ff ?_ ?_; (focus (simp only [decide_true, Bool.and_true, Bool.and_self, decide_false, Bool.false_and, reduceCtorEq, not_false_eq_true] <;> fail)); cbv)
    | (refine QC.ff (by first | omega | (dsimp only; omega) | (simp only [sm] at *; omega)) ?_; cbv)
    | (refine QC.mk (fun hc => ?_) (fun hc => ?_) <;> (try dsimp only at hc) <;> cbv)
    | (refine br_mk2 (fun hb => ?_) (fun hb => ?_) <;> (try subst hb) <;> cbv)))
    (refine callq (h0) rfl rfl ?_; cbv; (repeat' (first
    | (refine q1 (by first | exact trivial | omega | (dsimp only; omega) | exact pow62 _ (by omega) | exact mul9 (by omega) (by omega) | (simp only [sm] at *; omega)) (fun z hz => ?_); (try simp only at hz); cbv)
    | (refine rq (by first | exact trivial | omega | (dsimp only; omega) | (simp only [sm] at *; omega)) ?_; cbv)
    | (refine QC.tt (by first | omega | (dsimp only; omega) | exact rfl | (simp only [sm] at *; omega)) ?_; cbv)
    | (refine QC.tt ?_ ?_; (focus (simp only [decide_true, Bool.and_true, Bool.and_self] <;> fail)); cbv)
    | (refine QC.ff ?_ ?_; (focus (simp only [decide_true, Bool.and_true, Bool.and_self, decide_false, Bool.false_and, reduceCtorEq, not_false_eq_true] <;> fail)); cbv)
    | (refine QC.ff (by first | omega | (dsimp only; omega) | (simp only [sm] at *; omega)) ?_; cbv)
    | (refine QC.mk (fun hc => ?_) (fun hc => ?_) <;> (try dsimp only at hc) <;> cbv)
    | (refine br_mk2 (fun hb => ?_) (fun hb => ?_) <;> (try subst hb) <;> cbv))))
    (refine callq (hm) rfl rfl ?_; cbv; (repeat' (first
    | (refine q1 (by first | exact trivial | omega | (dsimp only; omega) | exact pow62 _ (by omega) | exact mul9 (by omega) (by omega) | (simp only [sm] at *; omega)) (fun z hz => ?_); (try simp only at hz); cbv)
    | (refine rq (by first | exact trivial | omega | (dsimp only; omega) | (simp only [sm] at *; omega)) ?_; cbv)
    | (refine QC.tt (by first | omega | (dsimp only; omega) | exact rfl | (simp only [sm] at *; omega)) ?_; cbv)
    | (refine QC.tt ?_ ?_; (focus (simp only [decide_true, Bool.and_true, Bool.and_self] <;> fail)); cbv)
    | (refine QC.ff ?_ ?_; (focus (simp only [decide_true, Bool.and_true, Bool.and_self, decide_false, Bool.false_and, reduceCtorEq, not_false_eq_true] <;> fail)); cbv)
    | (refine QC.ff (by first | omega | (dsimp only; omega) | (simp only [sm] at *; omega)) ?_; cbv)
    | (refine QC.mk (fun hc => ?_) (fun hc => ?_) <;> (try dsimp only at hc) <;> cbv)
    | (refine br_mk2 (fun hb => ?_) (fun hb => ?_) <;> (try subst hb) <;> cbv))))
    have hzN := hz.trans hN.symm
    subst hzN
    (refine callq (g1) rfl rfl ?_; cbv; (repeat' (first
    | (refine q1 (by first | exact trivial | omega | (dsimp only; omega) | exact pow62 _ (by omega) | exact mul9 (by omega) (by omega) | (simp only [sm] at *; omega)) (fun z hz => ?_); (try simp only at hz); cbv)
    | (refine rq (by first | exact trivial | omega | (dsimp only; omega) | (simp only [sm] at *; omega)) ?_; cbv)
    | (refine QC.tt (by first | omega | (dsimp only; omega) | exact rfl | (simp only [sm] at *; omega)) ?_; cbv)
    | (refine QC.tt ?_ ?_; (focus (simp only [decide_true, Bool.and_true, Bool.and_self] <;> fail)); cbv)
    | (refine QC.ff ?_ ?_; (focus (simp only [decide_true, Bool.and_true, Bool.and_self, decide_false, Bool.false_and, reduceCtorEq, not_false_eq_true] <;> fail)); cbv)
    | (refine QC.ff (by first | omega | (dsimp only; omega) | (simp only [sm] at *; omega)) ?_; cbv)
    | (refine QC.mk (fun hc => ?_) (fun hc => ?_) <;> (try dsimp only at hc) <;> cbv)
    | (refine br_mk2 (fun hb => ?_) (fun hb => ?_) <;> (try subst hb) <;> cbv))))
    (refine callq (hm2) rfl rfl ?_; cbv; (repeat' (first
    | (refine q1 (by first | exact trivial | omega | (dsimp only; omega) | exact pow62 _ (by omega) | exact mul9 (by omega) (by omega) | (simp only [sm] at *; omega)) (fun z hz => ?_); (try simp only at hz); cbv)
    | (refine rq (by first | exact trivial | omega | (dsimp only; omega) | (simp only [sm] at *; omega)) ?_; cbv)
    | (refine QC.tt (by first | omega | (dsimp only; omega) | exact rfl | (simp only [sm] at *; omega)) ?_; cbv)
    | (refine QC.tt ?_ ?_; (focus (simp only [decide_true, Bool.and_true, Bool.and_self] <;> fail)); cbv)
    | (refine QC.ff ?_ ?_; (focus (simp only [decide_true, Bool.and_true, Bool.and_self, decide_false, Bool.false_and, reduceCtorEq, not_false_eq_true] <;> fail)); cbv)
    | (refine QC.ff (by first | omega | (dsimp only; omega) | (simp only [sm] at *; omega)) ?_; cbv)
    | (refine QC.mk (fun hc => ?_) (fun hc => ?_) <;> (try dsimp only at hc) <;> cbv)
    | (refine br_mk2 (fun hb => ?_) (fun hb => ?_) <;> (try subst hb) <;> cbv))))
    have hzr : z = rm := by (first | omega | (simp only [cst] at *; omega) | (simp only [sm] at *; omega))
    subst hzr
    (refine callq (g2) rfl rfl ?_; cbv; (repeat' (first
    | (refine q1 (by first | exact trivial | omega | (dsimp only; omega) | exact pow62 _ (by omega) | exact mul9 (by omega) (by omega) | (simp only [sm] at *; omega)) (fun z hz => ?_); (try simp only at hz); cbv)
    | (refine rq (by first | exact trivial | omega | (dsimp only; omega) | (simp only [sm] at *; omega)) ?_; cbv)
    | (refine QC.tt (by first | omega | (dsimp only; omega) | exact rfl | (simp only [sm] at *; omega)) ?_; cbv)
    | (refine QC.tt ?_ ?_; (focus (simp only [decide_true, Bool.and_true, Bool.and_self] <;> fail)); cbv)
    | (refine QC.ff ?_ ?_; (focus (simp only [decide_true, Bool.and_true, Bool.and_self, decide_false, Bool.false_and, reduceCtorEq, not_false_eq_true] <;> fail)); cbv)
    | (refine QC.ff (by first | omega | (dsimp only; omega) | (simp only [sm] at *; omega)) ?_; cbv)
    | (refine QC.mk (fun hc => ?_) (fun hc => ?_) <;> (try dsimp only at hc) <;> cbv)
    | (refine br_mk2 (fun hb => ?_) (fun hb => ?_) <;> (try subst hb) <;> cbv))))
    (refine callq (g3) rfl rfl ?_; cbv; (repeat' (first
    | (refine q1 (by first | exact trivial | omega | (dsimp only; omega) | exact pow62 _ (by omega) | exact mul9 (by omega) (by omega) | (simp only [sm] at *; omega)) (fun z hz => ?_); (try simp only at hz); cbv)
    | (refine rq (by first | exact trivial | omega | (dsimp only; omega) | (simp only [sm] at *; omega)) ?_; cbv)
    | (refine QC.tt (by first | omega | (dsimp only; omega) | exact rfl | (simp only [sm] at *; omega)) ?_; cbv)
    | (refine QC.tt ?_ ?_; (focus (simp only [decide_true, Bool.and_true, Bool.and_self] <;> fail)); cbv)
    | (refine QC.ff ?_ ?_; (focus (simp only [decide_true, Bool.and_true, Bool.and_self, decide_false, Bool.false_and, reduceCtorEq, not_false_eq_true] <;> fail)); cbv)
    | (refine QC.ff (by first | omega | (dsimp only; omega) | (simp only [sm] at *; omega)) ?_; cbv)
    | (refine QC.mk (fun hc => ?_) (fun hc => ?_) <;> (try dsimp only at hc) <;> cbv)
    | (refine br_mk2 (fun hb => ?_) (fun hb => ?_) <;> (try subst hb) <;> cbv))))
    (refine callq (gD) rfl rfl ?_; cbv; (repeat' (first
    | (refine q1 (by first | exact trivial | omega | (dsimp only; omega) | exact pow62 _ (by omega) | exact mul9 (by omega) (by omega) | (simp only [sm] at *; omega)) (fun z hz => ?_); (try simp only at hz); cbv)
    | (refine rq (by first | exact trivial | omega | (dsimp only; omega) | (simp only [sm] at *; omega)) ?_; cbv)
    | (refine QC.tt (by first | omega | (dsimp only; omega) | exact rfl | (simp only [sm] at *; omega)) ?_; cbv)
    | (refine QC.tt ?_ ?_; (focus (simp only [decide_true, Bool.and_true, Bool.and_self] <;> fail)); cbv)
    | (refine QC.ff ?_ ?_; (focus (simp only [decide_true, Bool.and_true, Bool.and_self, decide_false, Bool.false_and, reduceCtorEq, not_false_eq_true] <;> fail)); cbv)
    | (refine QC.ff (by first | omega | (dsimp only; omega) | (simp only [sm] at *; omega)) ?_; cbv)
    | (refine QC.mk (fun hc => ?_) (fun hc => ?_) <;> (try dsimp only at hc) <;> cbv)
    | (refine br_mk2 (fun hb => ?_) (fun hb => ?_) <;> (try subst hb) <;> cbv))))
    (refine callq (hk) rfl rfl ?_; cbv; (repeat' (first
    | (refine q1 (by first | exact trivial | omega | (dsimp only; omega) | exact pow62 _ (by omega) | exact mul9 (by omega) (by omega) | (simp only [sm] at *; omega)) (fun z hz => ?_); (try simp only at hz); cbv)
    | (refine rq (by first | exact trivial | omega | (dsimp only; omega) | (simp only [sm] at *; omega)) ?_; cbv)
    | (refine QC.tt (by first | omega | (dsimp only; omega) | exact rfl | (simp only [sm] at *; omega)) ?_; cbv)
    | (refine QC.tt ?_ ?_; (focus (simp only [decide_true, Bool.and_true, Bool.and_self] <;> fail)); cbv)
    | (refine QC.ff ?_ ?_; (focus (simp only [decide_true, Bool.and_true, Bool.and_self, decide_false, Bool.false_and, reduceCtorEq, not_false_eq_true] <;> fail)); cbv)
    | (refine QC.ff (by first | omega | (dsimp only; omega) | (simp only [sm] at *; omega)) ?_; cbv)
    | (refine QC.mk (fun hc => ?_) (fun hc => ?_) <;> (try dsimp only at hc) <;> cbv)
    | (refine br_mk2 (fun hb => ?_) (fun hb => ?_) <;> (try subst hb) <;> cbv))))
    exact ⟨rfl, rfl, rfl⟩
theorem delivers_l (zs : List Int) (n room : Int) (ss : List Int) (hz : ∀ v ∈ zs, -9223372036854775808 ≤ v ∧ v ≤ 9223372036854775807) (hn : -9223372036854775808 ≤ n ∧ n ≤ 9223372036854775807) (hr : -9223372036854775808 ≤ room ∧ room ≤ 9223372036854775807) (hs : ∀ v ∈ ss, 0 ≤ v ∧ v ≤ 255) (hsl : ss.length ≤ 140737488351232) :
    Good 7 (pu [.lst none (ints .i64 zs), .int .i64 n, .int .i64 room, .lst none (ints .u8 ss)] (.bool true)) := by
  obtain ⟨b, h1, h2⟩ := u8l_of ss hs
  rw [h1]
  exact delivers_c zs n room b hz hn hr (by omega)
end Go.Proofs.Ytjhicdoigllblaa
/- The walk of the law RecoveryEnds. -/
namespace Go.Proofs.Ytjhicdoigllblaa
set_option linter.unusedVariables false
set_option linter.unusedSimpArgs false
open Go.RowKit
set_option maxHeartbeats 16000000
/-- What the walk needs of the sender's and the receiver's steps. -/
theorem ends_w {P : List (List UInt8)} (hP : Pcs P) {R : List SV} (hR : R = rowsB P) (lost : Nat) (hl : lost ≤ 7) (bs : List UInt8) (hbs : P.flatten = bs) (hb2 : bs.length ≤ 200) (R0 : List SV) (hR0 : R0 = u8l bs) :
    ∃ (b1 b2 s1 s2 s3 s4 m2 m3 m4 r1 r2 r4 : Nat → Int) (r3 : Nat → List SV) (r5 : Nat → Bool) (L : Nat → List SV),
      (b1 0 = 0 ∧ b2 0 = 0 ∧ s1 0 = 1 ∧ s2 0 = 0 ∧ s3 0 = b1 lost ∧ s4 0 = b2 lost ∧ r1 0 = 0 ∧ r2 0 = 0 ∧ r3 0 = [] ∧ r4 0 = 0 ∧ r5 0 = false) ∧
      (∀ (i : Nat) (t : Int), i < lost → t = 8 * (i : Int) → ∃ L0, Good 15 (pu [sndV R 1 0 (b1 i) (b2 i), .int .i64 t] (.tup [sndV R 1 0 (b1 (i + 1)) (b2 (i + 1)), .lst (some 5) L0, .int .i64 0]))) ∧
      (∀ (k : Nat) (t : Int), 8 * k < P.length → t = 8 * (lost : Int) + k → Good 15 (pu [sndV R (s1 k) (s2 k) (s3 k) (s4 k), .int .i64 t] (.tup [sndV R 1 (m2 k) (m3 k) (m4 k), .lst (some 5) (L k), .int .i64 0]))) ∧
      (∀ k, (L k).length = min (P.length - 8 * k) 8) ∧
      (∀ (k i m : Nat), m = 8 * k + i → i < min (P.length - 8 * k) 8 → ∃ (B : List SV), (L k)[i]? = some (.agg [.int .u8 3, .int .i64 (m : Int), .int .i64 (P.length : Int), .bool (decide (i + 1 = min (P.length - 8 * k) 8)), .lst none B]) ∧
        ∀ κ : Bool, Good 31 (pu [rcvV (r3 m) (r1 m) (r2 m) (r4 m) (r5 m), .agg [.int .u8 3, .int .i64 (m : Int), .int .i64 (P.length : Int), .bool κ, .lst none B]] (.tup [rcvV (r3 (m + 1)) (r1 (m + 1)) (r2 (m + 1)) (r4 (m + 1)) (r5 (m + 1)), .int .u32 (if κ = true then r4 (m + 1) else 0), .bool κ, .int .i64 0]))) ∧
      (∀ (k m : Nat), 8 * k < P.length → m = min (8 * (k + 1)) P.length → Good 17 (pu [sndV R 1 (m2 k) (m3 k) (m4 k), .int .u8 3, .int .u32 (r4 m)] (.tup [sndV R (s1 (k + 1)) (s2 (k + 1)) (s3 (k + 1)) (s4 (k + 1)), .int .i64 0]))) ∧
      (∀ m, m = P.length → Good 34 (pu [rcvV (r3 m) (r1 m) (r2 m) (r4 m) (r5 m)] (.tup [.lst none R0, .bool true]))) ∧
      (∀ k, 8 * k < P.length → s1 k = 1) ∧ (∀ k, P.length ≤ 8 * k → s1 k = 2) := by
  have hn1 := hP.n1
  have hn2 := hP.n2
  refine ⟨fun i => i, fun i => 8 * i, fun k => (sK P lost k).st, fun k => (sK P lost k).ak, fun k => (sK P lost k).rd, fun k => (sK P lost k).un, fun k => allI (8 * k), fun k => (if k = 0 then (lost : Int) else 0) + 1, fun k => 8 * (lost : Int) + k + 8,
    fun m => (rM P m).tag, fun m => (rM P m).cnt, fun m => (rM P m).hv, fun m => rowsB (rM P m).ps, fun m => (rM P m).dn, fun k => pcL (lK P k), ?_, fun i t hi ht => ?_, fun k t hk ht => ?_, fun k => ?_, fun k i m hm hi => ?_, fun k m hk hm => ?_, fun m hm => ?_, fun k hk => ?_, fun k hk => ?_⟩
  · refine ⟨rfl, rfl, ?_, ?_, ?_, ?_, ?_, ?_, ?_, ?_, ?_⟩
    · show (if 8 * 0 < P.length then (1 : Int) else 2) = 1
      rw [if_pos (by omega)]
    · show allI (min (8 * 0) P.length) = 0
      rw [show min (8 * 0) P.length = 0 by omega]; rfl
    · rfl
    · rfl
    all_goals rfl
  · subst ht
    have ha : (0 : Int) ≤ 0 ∧ 0 < allI P.length := ⟨by omega, by have := allI_pos hP.n1; omega⟩
    obtain ⟨x1, x2⟩ := nextP_send hP (tag := 3) (ak := 0) (rd := i) (un := 8 * (i : Int)) (now := 8 * (i : Int)) ha (by omega) (by omega) (by omega)
    rw [Int.min_eq_left (show 8 * (i : Int) + 8 ≤ 1099511627776 by omega)] at x1
    have g := next_p _ R hR (hP.fits (by omega) (by omega) (by omega) (by omega) (by omega)) (8 * (i : Int)) (by omega) _ R hR _ _ rfl 0 x1
    refine ⟨pcL (mark (pre 3 P 0 (min (opn 0 P.length).length 8))), ?_⟩
    have e1 : ((i + 1 : Nat) : Int) = (i : Int) + 1 := by omega
    have e2 : 8 * ((i + 1 : Nat) : Int) = 8 * (i : Int) + 8 := by omega
    dsimp only
    rw [e2, e1]
    exact g
  · obtain ⟨s', h1, h2⟩ := sK_next hP lost k hl hk
    subst ht h2
    have g := next_p (sK P lost k) R hR (sK_fits hP lost k hl) (8 * (lost : Int) + k) (by omega) _ R hR _ _ rfl 0 h1
    exact g
  · rw [pcL_len, lK_len]
  · have h1 := lK_get (P := P) k i hi
    have hmP : m < P.length := by omega
    rw [← hm] at h1
    refine ⟨u8l (P.getD m []), ?_, fun κ => ?_⟩
    · show (pcL (lK P k))[i]? = _
      rw [pcL, List.getElem?_map, h1]; rfl
    · have h2 := rM_recv hP m hmP κ
      exact recv_p (rM P m) _ rfl ((rM_ri hP m (by omega)).fits hP) ⟨3, m, P.length, κ, P.getD m []⟩ _ rfl (by
        dsimp only
        rw [List.getD_eq_getElem?_getD, List.getElem?_eq_getElem hmP]
        exact hP.b _ (List.getElem_mem hmP)) _ _ rfl 0 h2
  · subst hm
    have h1 := sK_ack hP lost k hl hk
    have b := allI_b (n := min (8 * (k + 1)) P.length) (by omega)
    have b2 := allI_b (n := 8 * k) (by omega)
    have g := ack_p _ R hR (hP.fits (st := 1) (tag := 3) (ak := allI (8 * k)) (rd := (if k = 0 then (lost : Int) else 0) + 1) (un := 8 * (lost : Int) + k + 8) (by omega) (by omega) b2 (by split <;> omega) (by omega)) 3 (allI (min (8 * (k + 1)) P.length)) (by omega) (by omega) _ R hR 0 h1
    dsimp only
    rw [rM_hv]
    exact g
  · subst hm
    have hr1 := rM_ri1 hP P.length hn1 (Nat.le_refl _)
    have hd : (rM P P.length).dn = true := by rw [rM_tag P hn1]; simp
    obtain ⟨w1, w2⟩ := RI.whole hP (.inr hr1) hd
    have hf := RI.fits hP (.inr hr1)
    dsimp only
    generalize rM P P.length = q at *
    obtain ⟨tag, cnt, qs, hv, dn⟩ := q
    have hd : dn = true := hd
    subst hd
    have w1 : qs = P := w1
    subst w1
    exact dgram_yes tag cnt hv qs _ rfl hf w2 (by rw [hbs]; omega) R0 (by rw [hbs]; exact hR0)
  · show (if 8 * k < P.length then (1 : Int) else 2) = 1
    rw [if_pos hk]
  · show (if 8 * k < P.length then (1 : Int) else 2) = 2
    rw [if_neg (by omega)]
end Go.Proofs.Ytjhicdoigllblaa
