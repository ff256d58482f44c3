/- Texts put together: OF. -/
import Derived.Test.YtapcbkcnokoljaaZ02
namespace Go.Proofs.Ytapcbkcnokoljaa
set_option linter.unusedVariables false
set_option linter.unusedSimpArgs false
open Go.RowKit
set_option maxHeartbeats 2000000
set_option linter.unusedSimpArgs false
theorem known_c : Good 13 (pu [] (.bool true)) := by
  have h1 := append_c [1] [.int .u8 1] _ 515 2 2 rfl rfl (by omega) (by omega) (by simp) rfl
  have h2 := uint_c ([1] ++ bytesOf 515 2) _ 1 2 515 1 2 rfl rfl rfl (by omega) (by omega) (by simp [bytesOf_length]) (by simp [bytesOf_length]) (by decide)
  generalize u8l ([1] ++ bytesOf 515 2) = R at h1 h2
  refine Good.of Try.func13 rfl (by rfl) (by kernel_rfl) ?_
  cbv
  (repeat' (first
| (refine q1w (fun z hz => ?_); (try simp only at hz); cbv)
| (refine rqw ?_; cbv)
| (refine rq (show kfitQ _ _ from by simp [kfitQ, IntKind.min, IntKind.max, IntKind.signed, IntKind.bits]; omega) ?_; cbv)
| (refine chpA ?_; cbv)
| (refine QC.tw ?_; cbv)
| (refine QC.tt ?_ ?_; (focus (simp only [decide_true, Bool.and_true, Bool.and_self] <;> fail)); cbv)
| (refine QC.ff ?_ ?_; (focus (simp only [decide_true, Bool.and_true, Bool.and_self, decide_false, Bool.false_and, reduceCtorEq, not_false_eq_true] <;> fail)); cbv)
| (refine QC.fw ?_; cbv)
| (refine QC.mk (fun hc => ?_) (fun hc => ?_) <;> (try dsimp only at hc) <;> cbv)
| (refine br_mk2 (fun hb => ?_) (fun hb => ?_) <;> (try subst hb) <;> cbv)))
  (refine callq (h1) rfl rfl ?_; cbv; (repeat' (first
| (refine q1w (fun z hz => ?_); (try simp only at hz); cbv)
| (refine rqw ?_; cbv)
| (refine rq (show kfitQ _ _ from by simp [kfitQ, IntKind.min, IntKind.max, IntKind.signed, IntKind.bits]; omega) ?_; cbv)
| (refine chpA ?_; cbv)
| (refine QC.tw ?_; cbv)
| (refine QC.tt ?_ ?_; (focus (simp only [decide_true, Bool.and_true, Bool.and_self] <;> fail)); cbv)
| (refine QC.ff ?_ ?_; (focus (simp only [decide_true, Bool.and_true, Bool.and_self, decide_false, Bool.false_and, reduceCtorEq, not_false_eq_true] <;> fail)); cbv)
| (refine QC.fw ?_; cbv)
| (refine QC.mk (fun hc => ?_) (fun hc => ?_) <;> (try dsimp only at hc) <;> cbv)
| (refine br_mk2 (fun hb => ?_) (fun hb => ?_) <;> (try subst hb) <;> cbv))))
  (refine callq (h2) rfl rfl ?_; cbv; (repeat' (first
| (refine q1w (fun z hz => ?_); (try simp only at hz); cbv)
| (refine rqw ?_; cbv)
| (refine rq (show kfitQ _ _ from by simp [kfitQ, IntKind.min, IntKind.max, IntKind.signed, IntKind.bits]; omega) ?_; cbv)
| (refine chpA ?_; cbv)
| (refine QC.tw ?_; cbv)
| (refine QC.tt ?_ ?_; (focus (simp only [decide_true, Bool.and_true, Bool.and_self] <;> fail)); cbv)
| (refine QC.ff ?_ ?_; (focus (simp only [decide_true, Bool.and_true, Bool.and_self, decide_false, Bool.false_and, reduceCtorEq, not_false_eq_true] <;> fail)); cbv)
| (refine QC.fw ?_; cbv)
| (refine QC.mk (fun hc => ?_) (fun hc => ?_) <;> (try dsimp only at hc) <;> cbv)
| (refine br_mk2 (fun hb => ?_) (fun hb => ?_) <;> (try subst hb) <;> cbv))))
  exact ⟨rfl, rfl, rfl⟩

theorem lawbits_e {L0 : List SV} (h0 : ∃ l, L0 = ints .i64 l ∧ (∀ v ∈ l, -9223372036854775808 ≤ v ∧ v ≤ 9223372036854775807)) : ∃ bs R len, R = u8l bs ∧ bs.length ≤ 100 ∧ -100 ≤ len ∧ len ≤ 100 ∧
    Good 15 (pu [.lst none L0] (.agg [.lst none R, .int .i64 len])) := by
  obtain ⟨l, hL0, hl⟩ := h0
  have g0 := new_c L0 (L0.take 400) rfl
  have t0 : Tp (L0.take 400) 0 := ⟨⟨l.take 400, by rw [hL0, ints_take], fun v hv => hl v (List.mem_of_mem_take hv), by simp; omega⟩, by omega⟩
  obtain ⟨x1, b1, p1, u1, t1, g1⟩ := next_e t0 40 (by omega)
  obtain ⟨z2, hz2⟩ : ∃ z : Int, z = (x1 + 7) / 8 := ⟨_, rfl⟩
  obtain ⟨R2, l2, b2, hR2, hlen2, hv2, t2, g2⟩ := fill_e t1 z2 (by omega)
  obtain ⟨bs, hbs, hbl⟩ := u8l_of l2 hv2
  rw [hbs] at hR2
  generalize List.take 400 L0 = L at *
  have hRl : R2.length = bs.length := by rw [hR2, u8l_len]
  by_cases hrem : x1 % 8 > 0
  · obtain ⟨x3, b3, p3, u3, t3, g3⟩ := next_e t2 8 (by omega)
    obtain ⟨r4, b4, t4, g4⟩ := bool_e t3 10 (by omega)
    obtain ⟨x5, b5, p5, u5, t5, g5⟩ := next_e t4 20 (by omega)
    by_cases h3 : x3 > 0
    · obtain ⟨q, hq⟩ : ∃ q, q = bs.length - 1 := ⟨_, rfl⟩
      have hel := u8l_at (l := bs) q (by omega)
      rw [← hR2] at hel
      have hyl := (bs.getD q 0).toNat_lt
      obtain ⟨y, hy⟩ : ∃ y : Int, y = (bs.getD q 0).toNat := ⟨_, rfl⟩
      rw [← hy] at hel
      obtain ⟨w, hw⟩ : ∃ w : Int, w = y / 2 ^ (8 - x1.toNat % 8) * 2 ^ (8 - x1.toNat % 8) % 256 := ⟨_, rfl⟩
      have hw0 : 0 ≤ w ∧ w < 256 := by omega
      obtain ⟨R3, hR3⟩ : ∃ R3, R3 = u8l (bs.set q (UInt8.ofNat w.toNat)) := ⟨_, rfl⟩
      have hR3' : O.st R2 q (.int .u8 w) = R3 := by
        rw [hR3, ← u8l_set, ost, hR2]
        congr 2
        simp
        omega
      cases r4
      · refine ⟨_, R3, x1, hR3, by simp; omega, by omega, by omega, ?_⟩
        refine Good.of Try.func15 rfl (by rfl) (by kernel_rfl) ?_
        cbv
        (repeat' (first
| (refine q1w (fun z hz => ?_); (try simp only at hz); cbv)
| (refine rqw ?_; cbv)
| (refine rq (show kfitQ _ _ from by simp [kfitQ, IntKind.min, IntKind.max, IntKind.signed, IntKind.bits]; omega) ?_; cbv)
| (refine chpA ?_; cbv)
| (refine QC.tw ?_; cbv)
| (refine QC.tt ?_ ?_; (focus (simp only [decide_true, Bool.and_true, Bool.and_self] <;> fail)); cbv)
| (refine QC.ff ?_ ?_; (focus (simp only [decide_true, Bool.and_true, Bool.and_self, decide_false, Bool.false_and, reduceCtorEq, not_false_eq_true] <;> fail)); cbv)
| (refine QC.fw ?_; cbv)
| (refine QC.mk (fun hc => ?_) (fun hc => ?_) <;> (try dsimp only at hc) <;> cbv)
| (refine br_mk2 (fun hb => ?_) (fun hb => ?_) <;> (try subst hb) <;> cbv)))
        (refine callq (g0) rfl rfl ?_; cbv; (repeat' (first
| (refine q1w (fun z hz => ?_); (try simp only at hz); cbv)
| (refine rqw ?_; cbv)
| (refine rq (show kfitQ _ _ from by simp [kfitQ, IntKind.min, IntKind.max, IntKind.signed, IntKind.bits]; omega) ?_; cbv)
| (refine chpA ?_; cbv)
| (refine QC.tw ?_; cbv)
| (refine QC.tt ?_ ?_; (focus (simp only [decide_true, Bool.and_true, Bool.and_self] <;> fail)); cbv)
| (refine QC.ff ?_ ?_; (focus (simp only [decide_true, Bool.and_true, Bool.and_self, decide_false, Bool.false_and, reduceCtorEq, not_false_eq_true] <;> fail)); cbv)
| (refine QC.fw ?_; cbv)
| (refine QC.mk (fun hc => ?_) (fun hc => ?_) <;> (try dsimp only at hc) <;> cbv)
| (refine br_mk2 (fun hb => ?_) (fun hb => ?_) <;> (try subst hb) <;> cbv))))
        (refine callq (g1) rfl rfl ?_; cbv; (repeat' (first
| (refine q1w (fun z hz => ?_); (try simp only at hz); cbv)
| (refine rqw ?_; cbv)
| (refine rq (show kfitQ _ _ from by simp [kfitQ, IntKind.min, IntKind.max, IntKind.signed, IntKind.bits]; omega) ?_; cbv)
| (refine chpA ?_; cbv)
| (refine QC.tw ?_; cbv)
| (refine QC.tt ?_ ?_; (focus (simp only [decide_true, Bool.and_true, Bool.and_self] <;> fail)); cbv)
| (refine QC.ff ?_ ?_; (focus (simp only [decide_true, Bool.and_true, Bool.and_self, decide_false, Bool.false_and, reduceCtorEq, not_false_eq_true] <;> fail)); cbv)
| (refine QC.fw ?_; cbv)
| (refine QC.mk (fun hc => ?_) (fun hc => ?_) <;> (try dsimp only at hc) <;> cbv)
| (refine br_mk2 (fun hb => ?_) (fun hb => ?_) <;> (try subst hb) <;> cbv))))
        have e : z = z2 := by (first | omega | (simp only [cst] at *; omega) | (simp only [sm] at *; omega))
        subst e
        (refine callq (g2) rfl rfl ?_; cbv; (repeat' (first
| (refine q1w (fun z hz => ?_); (try simp only at hz); cbv)
| (refine rqw ?_; cbv)
| (refine rq (show kfitQ _ _ from by simp [kfitQ, IntKind.min, IntKind.max, IntKind.signed, IntKind.bits]; omega) ?_; cbv)
| (refine chpA ?_; cbv)
| (refine QC.tw ?_; cbv)
| (refine QC.tt ?_ ?_; (focus (simp only [decide_true, Bool.and_true, Bool.and_self] <;> fail)); cbv)
| (refine QC.ff ?_ ?_; (focus (simp only [decide_true, Bool.and_true, Bool.and_self, decide_false, Bool.false_and, reduceCtorEq, not_false_eq_true] <;> fail)); cbv)
| (refine QC.fw ?_; cbv)
| (refine QC.mk (fun hc => ?_) (fun hc => ?_) <;> (try dsimp only at hc) <;> cbv)
| (refine br_mk2 (fun hb => ?_) (fun hb => ?_) <;> (try subst hb) <;> cbv))))
        (refine callq (g3) rfl rfl ?_; cbv; (repeat' (first
| (refine q1w (fun z hz => ?_); (try simp only at hz); cbv)
| (refine rqw ?_; cbv)
| (refine rq (show kfitQ _ _ from by simp [kfitQ, IntKind.min, IntKind.max, IntKind.signed, IntKind.bits]; omega) ?_; cbv)
| (refine chpA ?_; cbv)
| (refine QC.tw ?_; cbv)
| (refine QC.tt ?_ ?_; (focus (simp only [decide_true, Bool.and_true, Bool.and_self] <;> fail)); cbv)
| (refine QC.ff ?_ ?_; (focus (simp only [decide_true, Bool.and_true, Bool.and_self, decide_false, Bool.false_and, reduceCtorEq, not_false_eq_true] <;> fail)); cbv)
| (refine QC.fw ?_; cbv)
| (refine QC.mk (fun hc => ?_) (fun hc => ?_) <;> (try dsimp only at hc) <;> cbv)
| (refine br_mk2 (fun hb => ?_) (fun hb => ?_) <;> (try subst hb) <;> cbv))))
        refine qv q (by (first | omega | (simp only [cst] at *; omega) | (simp only [sm] at *; omega))) ?_
        cbv
        (repeat' (first
| (refine q1w (fun z hz => ?_); (try simp only at hz); cbv)
| (refine rqw ?_; cbv)
| (refine rq (show kfitQ _ _ from by simp [kfitQ, IntKind.min, IntKind.max, IntKind.signed, IntKind.bits]; omega) ?_; cbv)
| (refine chpA ?_; cbv)
| (refine QC.tw ?_; cbv)
| (refine QC.tt ?_ ?_; (focus (simp only [decide_true, Bool.and_true, Bool.and_self] <;> fail)); cbv)
| (refine QC.ff ?_ ?_; (focus (simp only [decide_true, Bool.and_true, Bool.and_self, decide_false, Bool.false_and, reduceCtorEq, not_false_eq_true] <;> fail)); cbv)
| (refine QC.fw ?_; cbv)
| (refine QC.mk (fun hc => ?_) (fun hc => ?_) <;> (try dsimp only at hc) <;> cbv)
| (refine br_mk2 (fun hb => ?_) (fun hb => ?_) <;> (try subst hb) <;> cbv)))
        refine qv (.int .u8 y) hel ?_
        cbv
        (repeat' (first
| (refine q1w (fun z hz => ?_); (try simp only at hz); cbv)
| (refine rqw ?_; cbv)
| (refine rq (show kfitQ _ _ from by simp [kfitQ, IntKind.min, IntKind.max, IntKind.signed, IntKind.bits]; omega) ?_; cbv)
| (refine chpA ?_; cbv)
| (refine QC.tw ?_; cbv)
| (refine QC.tt ?_ ?_; (focus (simp only [decide_true, Bool.and_true, Bool.and_self] <;> fail)); cbv)
| (refine QC.ff ?_ ?_; (focus (simp only [decide_true, Bool.and_true, Bool.and_self, decide_false, Bool.false_and, reduceCtorEq, not_false_eq_true] <;> fail)); cbv)
| (refine QC.fw ?_; cbv)
| (refine QC.mk (fun hc => ?_) (fun hc => ?_) <;> (try dsimp only at hc) <;> cbv)
| (refine br_mk2 (fun hb => ?_) (fun hb => ?_) <;> (try subst hb) <;> cbv)))
        refine qv q (by (first | omega | (simp only [cst] at *; omega) | (simp only [sm] at *; omega))) ?_
        rename_i k1 hk1 k2 hk2 v1 hv1 k3 hk3 k4 hk4
        have ew : z = w := by
          rw [hz, hw, hv1, show k2.toNat = 8 - x1.toNat % 8 by (first | omega | (simp only [cst] at *; omega) | (simp only [sm] at *; omega)), show k4.toNat = 8 - x1.toNat % 8 by (first | omega | (simp only [cst] at *; omega) | (simp only [sm] at *; omega))]
        clear hz hw
        subst ew
        cbv
        (repeat' (first
| (refine q1w (fun z hz => ?_); (try simp only at hz); cbv)
| (refine rqw ?_; cbv)
| (refine rq (show kfitQ _ _ from by simp [kfitQ, IntKind.min, IntKind.max, IntKind.signed, IntKind.bits]; omega) ?_; cbv)
| (refine chpA ?_; cbv)
| (refine QC.tw ?_; cbv)
| (refine QC.tt ?_ ?_; (focus (simp only [decide_true, Bool.and_true, Bool.and_self] <;> fail)); cbv)
| (refine QC.ff ?_ ?_; (focus (simp only [decide_true, Bool.and_true, Bool.and_self, decide_false, Bool.false_and, reduceCtorEq, not_false_eq_true] <;> fail)); cbv)
| (refine QC.fw ?_; cbv)
| (refine QC.mk (fun hc => ?_) (fun hc => ?_) <;> (try dsimp only at hc) <;> cbv)
| (refine br_mk2 (fun hb => ?_) (fun hb => ?_) <;> (try subst hb) <;> cbv)))
        (refine callq (g4) rfl rfl ?_; cbv; (repeat' (first
| (refine q1w (fun z hz => ?_); (try simp only at hz); cbv)
| (refine rqw ?_; cbv)
| (refine rq (show kfitQ _ _ from by simp [kfitQ, IntKind.min, IntKind.max, IntKind.signed, IntKind.bits]; omega) ?_; cbv)
| (refine chpA ?_; cbv)
| (refine QC.tw ?_; cbv)
| (refine QC.tt ?_ ?_; (focus (simp only [decide_true, Bool.and_true, Bool.and_self] <;> fail)); cbv)
| (refine QC.ff ?_ ?_; (focus (simp only [decide_true, Bool.and_true, Bool.and_self, decide_false, Bool.false_and, reduceCtorEq, not_false_eq_true] <;> fail)); cbv)
| (refine QC.fw ?_; cbv)
| (refine QC.mk (fun hc => ?_) (fun hc => ?_) <;> (try dsimp only at hc) <;> cbv)
| (refine br_mk2 (fun hb => ?_) (fun hb => ?_) <;> (try subst hb) <;> cbv))))
        refine ⟨?_, rfl, rfl⟩
        rw [← hR3']
        rfl
      · obtain ⟨len, hlen⟩ : ∃ n, n = x1 + (x5 - 10) := ⟨_, rfl⟩
        refine ⟨_, R3, len, hR3, by simp; omega, by omega, by omega, ?_⟩
        refine Good.of Try.func15 rfl (by rfl) (by kernel_rfl) ?_
        cbv
        (repeat' (first
| (refine q1w (fun z hz => ?_); (try simp only at hz); cbv)
| (refine rqw ?_; cbv)
| (refine rq (show kfitQ _ _ from by simp [kfitQ, IntKind.min, IntKind.max, IntKind.signed, IntKind.bits]; omega) ?_; cbv)
| (refine chpA ?_; cbv)
| (refine QC.tw ?_; cbv)
| (refine QC.tt ?_ ?_; (focus (simp only [decide_true, Bool.and_true, Bool.and_self] <;> fail)); cbv)
| (refine QC.ff ?_ ?_; (focus (simp only [decide_true, Bool.and_true, Bool.and_self, decide_false, Bool.false_and, reduceCtorEq, not_false_eq_true] <;> fail)); cbv)
| (refine QC.fw ?_; cbv)
| (refine QC.mk (fun hc => ?_) (fun hc => ?_) <;> (try dsimp only at hc) <;> cbv)
| (refine br_mk2 (fun hb => ?_) (fun hb => ?_) <;> (try subst hb) <;> cbv)))
        (refine callq (g0) rfl rfl ?_; cbv; (repeat' (first
| (refine q1w (fun z hz => ?_); (try simp only at hz); cbv)
| (refine rqw ?_; cbv)
| (refine rq (show kfitQ _ _ from by simp [kfitQ, IntKind.min, IntKind.max, IntKind.signed, IntKind.bits]; omega) ?_; cbv)
| (refine chpA ?_; cbv)
| (refine QC.tw ?_; cbv)
| (refine QC.tt ?_ ?_; (focus (simp only [decide_true, Bool.and_true, Bool.and_self] <;> fail)); cbv)
| (refine QC.ff ?_ ?_; (focus (simp only [decide_true, Bool.and_true, Bool.and_self, decide_false, Bool.false_and, reduceCtorEq, not_false_eq_true] <;> fail)); cbv)
| (refine QC.fw ?_; cbv)
| (refine QC.mk (fun hc => ?_) (fun hc => ?_) <;> (try dsimp only at hc) <;> cbv)
| (refine br_mk2 (fun hb => ?_) (fun hb => ?_) <;> (try subst hb) <;> cbv))))
        (refine callq (g1) rfl rfl ?_; cbv; (repeat' (first
| (refine q1w (fun z hz => ?_); (try simp only at hz); cbv)
| (refine rqw ?_; cbv)
| (refine rq (show kfitQ _ _ from by simp [kfitQ, IntKind.min, IntKind.max, IntKind.signed, IntKind.bits]; omega) ?_; cbv)
| (refine chpA ?_; cbv)
| (refine QC.tw ?_; cbv)
| (refine QC.tt ?_ ?_; (focus (simp only [decide_true, Bool.and_true, Bool.and_self] <;> fail)); cbv)
| (refine QC.ff ?_ ?_; (focus (simp only [decide_true, Bool.and_true, Bool.and_self, decide_false, Bool.false_and, reduceCtorEq, not_false_eq_true] <;> fail)); cbv)
| (refine QC.fw ?_; cbv)
| (refine QC.mk (fun hc => ?_) (fun hc => ?_) <;> (try dsimp only at hc) <;> cbv)
| (refine br_mk2 (fun hb => ?_) (fun hb => ?_) <;> (try subst hb) <;> cbv))))
        have e : z = z2 := by (first | omega | (simp only [cst] at *; omega) | (simp only [sm] at *; omega))
        subst e
        (refine callq (g2) rfl rfl ?_; cbv; (repeat' (first
| (refine q1w (fun z hz => ?_); (try simp only at hz); cbv)
| (refine rqw ?_; cbv)
| (refine rq (show kfitQ _ _ from by simp [kfitQ, IntKind.min, IntKind.max, IntKind.signed, IntKind.bits]; omega) ?_; cbv)
| (refine chpA ?_; cbv)
| (refine QC.tw ?_; cbv)
| (refine QC.tt ?_ ?_; (focus (simp only [decide_true, Bool.and_true, Bool.and_self] <;> fail)); cbv)
| (refine QC.ff ?_ ?_; (focus (simp only [decide_true, Bool.and_true, Bool.and_self, decide_false, Bool.false_and, reduceCtorEq, not_false_eq_true] <;> fail)); cbv)
| (refine QC.fw ?_; cbv)
| (refine QC.mk (fun hc => ?_) (fun hc => ?_) <;> (try dsimp only at hc) <;> cbv)
| (refine br_mk2 (fun hb => ?_) (fun hb => ?_) <;> (try subst hb) <;> cbv))))
        (refine callq (g3) rfl rfl ?_; cbv; (repeat' (first
| (refine q1w (fun z hz => ?_); (try simp only at hz); cbv)
| (refine rqw ?_; cbv)
| (refine rq (show kfitQ _ _ from by simp [kfitQ, IntKind.min, IntKind.max, IntKind.signed, IntKind.bits]; omega) ?_; cbv)
| (refine chpA ?_; cbv)
| (refine QC.tw ?_; cbv)
| (refine QC.tt ?_ ?_; (focus (simp only [decide_true, Bool.and_true, Bool.and_self] <;> fail)); cbv)
| (refine QC.ff ?_ ?_; (focus (simp only [decide_true, Bool.and_true, Bool.and_self, decide_false, Bool.false_and, reduceCtorEq, not_false_eq_true] <;> fail)); cbv)
| (refine QC.fw ?_; cbv)
| (refine QC.mk (fun hc => ?_) (fun hc => ?_) <;> (try dsimp only at hc) <;> cbv)
| (refine br_mk2 (fun hb => ?_) (fun hb => ?_) <;> (try subst hb) <;> cbv))))
        refine qv q (by (first | omega | (simp only [cst] at *; omega) | (simp only [sm] at *; omega))) ?_
        cbv
        (repeat' (first
| (refine q1w (fun z hz => ?_); (try simp only at hz); cbv)
| (refine rqw ?_; cbv)
| (refine rq (show kfitQ _ _ from by simp [kfitQ, IntKind.min, IntKind.max, IntKind.signed, IntKind.bits]; omega) ?_; cbv)
| (refine chpA ?_; cbv)
| (refine QC.tw ?_; cbv)
| (refine QC.tt ?_ ?_; (focus (simp only [decide_true, Bool.and_true, Bool.and_self] <;> fail)); cbv)
| (refine QC.ff ?_ ?_; (focus (simp only [decide_true, Bool.and_true, Bool.and_self, decide_false, Bool.false_and, reduceCtorEq, not_false_eq_true] <;> fail)); cbv)
| (refine QC.fw ?_; cbv)
| (refine QC.mk (fun hc => ?_) (fun hc => ?_) <;> (try dsimp only at hc) <;> cbv)
| (refine br_mk2 (fun hb => ?_) (fun hb => ?_) <;> (try subst hb) <;> cbv)))
        refine qv (.int .u8 y) hel ?_
        cbv
        (repeat' (first
| (refine q1w (fun z hz => ?_); (try simp only at hz); cbv)
| (refine rqw ?_; cbv)
| (refine rq (show kfitQ _ _ from by simp [kfitQ, IntKind.min, IntKind.max, IntKind.signed, IntKind.bits]; omega) ?_; cbv)
| (refine chpA ?_; cbv)
| (refine QC.tw ?_; cbv)
| (refine QC.tt ?_ ?_; (focus (simp only [decide_true, Bool.and_true, Bool.and_self] <;> fail)); cbv)
| (refine QC.ff ?_ ?_; (focus (simp only [decide_true, Bool.and_true, Bool.and_self, decide_false, Bool.false_and, reduceCtorEq, not_false_eq_true] <;> fail)); cbv)
| (refine QC.fw ?_; cbv)
| (refine QC.mk (fun hc => ?_) (fun hc => ?_) <;> (try dsimp only at hc) <;> cbv)
| (refine br_mk2 (fun hb => ?_) (fun hb => ?_) <;> (try subst hb) <;> cbv)))
        refine qv q (by (first | omega | (simp only [cst] at *; omega) | (simp only [sm] at *; omega))) ?_
        rename_i k1 hk1 k2 hk2 v1 hv1 k3 hk3 k4 hk4
        have ew : z = w := by
          rw [hz, hw, hv1, show k2.toNat = 8 - x1.toNat % 8 by (first | omega | (simp only [cst] at *; omega) | (simp only [sm] at *; omega)), show k4.toNat = 8 - x1.toNat % 8 by (first | omega | (simp only [cst] at *; omega) | (simp only [sm] at *; omega))]
        clear hz hw
        subst ew
        cbv
        (repeat' (first
| (refine q1w (fun z hz => ?_); (try simp only at hz); cbv)
| (refine rqw ?_; cbv)
| (refine rq (show kfitQ _ _ from by simp [kfitQ, IntKind.min, IntKind.max, IntKind.signed, IntKind.bits]; omega) ?_; cbv)
| (refine chpA ?_; cbv)
| (refine QC.tw ?_; cbv)
| (refine QC.tt ?_ ?_; (focus (simp only [decide_true, Bool.and_true, Bool.and_self] <;> fail)); cbv)
| (refine QC.ff ?_ ?_; (focus (simp only [decide_true, Bool.and_true, Bool.and_self, decide_false, Bool.false_and, reduceCtorEq, not_false_eq_true] <;> fail)); cbv)
| (refine QC.fw ?_; cbv)
| (refine QC.mk (fun hc => ?_) (fun hc => ?_) <;> (try dsimp only at hc) <;> cbv)
| (refine br_mk2 (fun hb => ?_) (fun hb => ?_) <;> (try subst hb) <;> cbv)))
        (refine callq (g4) rfl rfl ?_; cbv; (repeat' (first
| (refine q1w (fun z hz => ?_); (try simp only at hz); cbv)
| (refine rqw ?_; cbv)
| (refine rq (show kfitQ _ _ from by simp [kfitQ, IntKind.min, IntKind.max, IntKind.signed, IntKind.bits]; omega) ?_; cbv)
| (refine chpA ?_; cbv)
| (refine QC.tw ?_; cbv)
| (refine QC.tt ?_ ?_; (focus (simp only [decide_true, Bool.and_true, Bool.and_self] <;> fail)); cbv)
| (refine QC.ff ?_ ?_; (focus (simp only [decide_true, Bool.and_true, Bool.and_self, decide_false, Bool.false_and, reduceCtorEq, not_false_eq_true] <;> fail)); cbv)
| (refine QC.fw ?_; cbv)
| (refine QC.mk (fun hc => ?_) (fun hc => ?_) <;> (try dsimp only at hc) <;> cbv)
| (refine br_mk2 (fun hb => ?_) (fun hb => ?_) <;> (try subst hb) <;> cbv))))
        (refine callq (g5) rfl rfl ?_; cbv; (repeat' (first
| (refine q1w (fun z hz => ?_); (try simp only at hz); cbv)
| (refine rqw ?_; cbv)
| (refine rq (show kfitQ _ _ from by simp [kfitQ, IntKind.min, IntKind.max, IntKind.signed, IntKind.bits]; omega) ?_; cbv)
| (refine chpA ?_; cbv)
| (refine QC.tw ?_; cbv)
| (refine QC.tt ?_ ?_; (focus (simp only [decide_true, Bool.and_true, Bool.and_self] <;> fail)); cbv)
| (refine QC.ff ?_ ?_; (focus (simp only [decide_true, Bool.and_true, Bool.and_self, decide_false, Bool.false_and, reduceCtorEq, not_false_eq_true] <;> fail)); cbv)
| (refine QC.fw ?_; cbv)
| (refine QC.mk (fun hc => ?_) (fun hc => ?_) <;> (try dsimp only at hc) <;> cbv)
| (refine br_mk2 (fun hb => ?_) (fun hb => ?_) <;> (try subst hb) <;> cbv))))
        refine ⟨?_, rfl, rfl⟩
        rw [← hR3', show z = len by (first | omega | (simp only [cst] at *; omega) | (simp only [sm] at *; omega))]
        rfl
    · cases r4
      · refine ⟨bs, R2, x1, hR2, by omega, by omega, by omega, ?_⟩
        refine Good.of Try.func15 rfl (by rfl) (by kernel_rfl) ?_
        cbv
        (repeat' (first
| (refine q1w (fun z hz => ?_); (try simp only at hz); cbv)
| (refine rqw ?_; cbv)
| (refine rq (show kfitQ _ _ from by simp [kfitQ, IntKind.min, IntKind.max, IntKind.signed, IntKind.bits]; omega) ?_; cbv)
| (refine chpA ?_; cbv)
| (refine QC.tw ?_; cbv)
| (refine QC.tt ?_ ?_; (focus (simp only [decide_true, Bool.and_true, Bool.and_self] <;> fail)); cbv)
| (refine QC.ff ?_ ?_; (focus (simp only [decide_true, Bool.and_true, Bool.and_self, decide_false, Bool.false_and, reduceCtorEq, not_false_eq_true] <;> fail)); cbv)
| (refine QC.fw ?_; cbv)
| (refine QC.mk (fun hc => ?_) (fun hc => ?_) <;> (try dsimp only at hc) <;> cbv)
| (refine br_mk2 (fun hb => ?_) (fun hb => ?_) <;> (try subst hb) <;> cbv)))
        (refine callq (g0) rfl rfl ?_; cbv; (repeat' (first
| (refine q1w (fun z hz => ?_); (try simp only at hz); cbv)
| (refine rqw ?_; cbv)
| (refine rq (show kfitQ _ _ from by simp [kfitQ, IntKind.min, IntKind.max, IntKind.signed, IntKind.bits]; omega) ?_; cbv)
| (refine chpA ?_; cbv)
| (refine QC.tw ?_; cbv)
| (refine QC.tt ?_ ?_; (focus (simp only [decide_true, Bool.and_true, Bool.and_self] <;> fail)); cbv)
| (refine QC.ff ?_ ?_; (focus (simp only [decide_true, Bool.and_true, Bool.and_self, decide_false, Bool.false_and, reduceCtorEq, not_false_eq_true] <;> fail)); cbv)
| (refine QC.fw ?_; cbv)
| (refine QC.mk (fun hc => ?_) (fun hc => ?_) <;> (try dsimp only at hc) <;> cbv)
| (refine br_mk2 (fun hb => ?_) (fun hb => ?_) <;> (try subst hb) <;> cbv))))
        (refine callq (g1) rfl rfl ?_; cbv; (repeat' (first
| (refine q1w (fun z hz => ?_); (try simp only at hz); cbv)
| (refine rqw ?_; cbv)
| (refine rq (show kfitQ _ _ from by simp [kfitQ, IntKind.min, IntKind.max, IntKind.signed, IntKind.bits]; omega) ?_; cbv)
| (refine chpA ?_; cbv)
| (refine QC.tw ?_; cbv)
| (refine QC.tt ?_ ?_; (focus (simp only [decide_true, Bool.and_true, Bool.and_self] <;> fail)); cbv)
| (refine QC.ff ?_ ?_; (focus (simp only [decide_true, Bool.and_true, Bool.and_self, decide_false, Bool.false_and, reduceCtorEq, not_false_eq_true] <;> fail)); cbv)
| (refine QC.fw ?_; cbv)
| (refine QC.mk (fun hc => ?_) (fun hc => ?_) <;> (try dsimp only at hc) <;> cbv)
| (refine br_mk2 (fun hb => ?_) (fun hb => ?_) <;> (try subst hb) <;> cbv))))
        have e : z = z2 := by (first | omega | (simp only [cst] at *; omega) | (simp only [sm] at *; omega))
        subst e
        (refine callq (g2) rfl rfl ?_; cbv; (repeat' (first
| (refine q1w (fun z hz => ?_); (try simp only at hz); cbv)
| (refine rqw ?_; cbv)
| (refine rq (show kfitQ _ _ from by simp [kfitQ, IntKind.min, IntKind.max, IntKind.signed, IntKind.bits]; omega) ?_; cbv)
| (refine chpA ?_; cbv)
| (refine QC.tw ?_; cbv)
| (refine QC.tt ?_ ?_; (focus (simp only [decide_true, Bool.and_true, Bool.and_self] <;> fail)); cbv)
| (refine QC.ff ?_ ?_; (focus (simp only [decide_true, Bool.and_true, Bool.and_self, decide_false, Bool.false_and, reduceCtorEq, not_false_eq_true] <;> fail)); cbv)
| (refine QC.fw ?_; cbv)
| (refine QC.mk (fun hc => ?_) (fun hc => ?_) <;> (try dsimp only at hc) <;> cbv)
| (refine br_mk2 (fun hb => ?_) (fun hb => ?_) <;> (try subst hb) <;> cbv))))
        (refine callq (g3) rfl rfl ?_; cbv; (repeat' (first
| (refine q1w (fun z hz => ?_); (try simp only at hz); cbv)
| (refine rqw ?_; cbv)
| (refine rq (show kfitQ _ _ from by simp [kfitQ, IntKind.min, IntKind.max, IntKind.signed, IntKind.bits]; omega) ?_; cbv)
| (refine chpA ?_; cbv)
| (refine QC.tw ?_; cbv)
| (refine QC.tt ?_ ?_; (focus (simp only [decide_true, Bool.and_true, Bool.and_self] <;> fail)); cbv)
| (refine QC.ff ?_ ?_; (focus (simp only [decide_true, Bool.and_true, Bool.and_self, decide_false, Bool.false_and, reduceCtorEq, not_false_eq_true] <;> fail)); cbv)
| (refine QC.fw ?_; cbv)
| (refine QC.mk (fun hc => ?_) (fun hc => ?_) <;> (try dsimp only at hc) <;> cbv)
| (refine br_mk2 (fun hb => ?_) (fun hb => ?_) <;> (try subst hb) <;> cbv))))
        (refine callq (g4) rfl rfl ?_; cbv; (repeat' (first
| (refine q1w (fun z hz => ?_); (try simp only at hz); cbv)
| (refine rqw ?_; cbv)
| (refine rq (show kfitQ _ _ from by simp [kfitQ, IntKind.min, IntKind.max, IntKind.signed, IntKind.bits]; omega) ?_; cbv)
| (refine chpA ?_; cbv)
| (refine QC.tw ?_; cbv)
| (refine QC.tt ?_ ?_; (focus (simp only [decide_true, Bool.and_true, Bool.and_self] <;> fail)); cbv)
| (refine QC.ff ?_ ?_; (focus (simp only [decide_true, Bool.and_true, Bool.and_self, decide_false, Bool.false_and, reduceCtorEq, not_false_eq_true] <;> fail)); cbv)
| (refine QC.fw ?_; cbv)
| (refine QC.mk (fun hc => ?_) (fun hc => ?_) <;> (try dsimp only at hc) <;> cbv)
| (refine br_mk2 (fun hb => ?_) (fun hb => ?_) <;> (try subst hb) <;> cbv))))
        exact ⟨rfl, rfl, rfl⟩
      · obtain ⟨len, hlen⟩ : ∃ n, n = x1 + (x5 - 10) := ⟨_, rfl⟩
        refine ⟨bs, R2, len, hR2, by omega, by omega, by omega, ?_⟩
        refine Good.of Try.func15 rfl (by rfl) (by kernel_rfl) ?_
        cbv
        (repeat' (first
| (refine q1w (fun z hz => ?_); (try simp only at hz); cbv)
| (refine rqw ?_; cbv)
| (refine rq (show kfitQ _ _ from by simp [kfitQ, IntKind.min, IntKind.max, IntKind.signed, IntKind.bits]; omega) ?_; cbv)
| (refine chpA ?_; cbv)
| (refine QC.tw ?_; cbv)
| (refine QC.tt ?_ ?_; (focus (simp only [decide_true, Bool.and_true, Bool.and_self] <;> fail)); cbv)
| (refine QC.ff ?_ ?_; (focus (simp only [decide_true, Bool.and_true, Bool.and_self, decide_false, Bool.false_and, reduceCtorEq, not_false_eq_true] <;> fail)); cbv)
| (refine QC.fw ?_; cbv)
| (refine QC.mk (fun hc => ?_) (fun hc => ?_) <;> (try dsimp only at hc) <;> cbv)
| (refine br_mk2 (fun hb => ?_) (fun hb => ?_) <;> (try subst hb) <;> cbv)))
        (refine callq (g0) rfl rfl ?_; cbv; (repeat' (first
| (refine q1w (fun z hz => ?_); (try simp only at hz); cbv)
| (refine rqw ?_; cbv)
| (refine rq (show kfitQ _ _ from by simp [kfitQ, IntKind.min, IntKind.max, IntKind.signed, IntKind.bits]; omega) ?_; cbv)
| (refine chpA ?_; cbv)
| (refine QC.tw ?_; cbv)
| (refine QC.tt ?_ ?_; (focus (simp only [decide_true, Bool.and_true, Bool.and_self] <;> fail)); cbv)
| (refine QC.ff ?_ ?_; (focus (simp only [decide_true, Bool.and_true, Bool.and_self, decide_false, Bool.false_and, reduceCtorEq, not_false_eq_true] <;> fail)); cbv)
| (refine QC.fw ?_; cbv)
| (refine QC.mk (fun hc => ?_) (fun hc => ?_) <;> (try dsimp only at hc) <;> cbv)
| (refine br_mk2 (fun hb => ?_) (fun hb => ?_) <;> (try subst hb) <;> cbv))))
        (refine callq (g1) rfl rfl ?_; cbv; (repeat' (first
| (refine q1w (fun z hz => ?_); (try simp only at hz); cbv)
| (refine rqw ?_; cbv)
| (refine rq (show kfitQ _ _ from by simp [kfitQ, IntKind.min, IntKind.max, IntKind.signed, IntKind.bits]; omega) ?_; cbv)
| (refine chpA ?_; cbv)
| (refine QC.tw ?_; cbv)
| (refine QC.tt ?_ ?_; (focus (simp only [decide_true, Bool.and_true, Bool.and_self] <;> fail)); cbv)
| (refine QC.ff ?_ ?_; (focus (simp only [decide_true, Bool.and_true, Bool.and_self, decide_false, Bool.false_and, reduceCtorEq, not_false_eq_true] <;> fail)); cbv)
| (refine QC.fw ?_; cbv)
| (refine QC.mk (fun hc => ?_) (fun hc => ?_) <;> (try dsimp only at hc) <;> cbv)
| (refine br_mk2 (fun hb => ?_) (fun hb => ?_) <;> (try subst hb) <;> cbv))))
        have e : z = z2 := by (first | omega | (simp only [cst] at *; omega) | (simp only [sm] at *; omega))
        subst e
        (refine callq (g2) rfl rfl ?_; cbv; (repeat' (first
| (refine q1w (fun z hz => ?_); (try simp only at hz); cbv)
| (refine rqw ?_; cbv)
| (refine rq (show kfitQ _ _ from by simp [kfitQ, IntKind.min, IntKind.max, IntKind.signed, IntKind.bits]; omega) ?_; cbv)
| (refine chpA ?_; cbv)
| (refine QC.tw ?_; cbv)
| (refine QC.tt ?_ ?_; (focus (simp only [decide_true, Bool.and_true, Bool.and_self] <;> fail)); cbv)
| (refine QC.ff ?_ ?_; (focus (simp only [decide_true, Bool.and_true, Bool.and_self, decide_false, Bool.false_and, reduceCtorEq, not_false_eq_true] <;> fail)); cbv)
| (refine QC.fw ?_; cbv)
| (refine QC.mk (fun hc => ?_) (fun hc => ?_) <;> (try dsimp only at hc) <;> cbv)
| (refine br_mk2 (fun hb => ?_) (fun hb => ?_) <;> (try subst hb) <;> cbv))))
        (refine callq (g3) rfl rfl ?_; cbv; (repeat' (first
| (refine q1w (fun z hz => ?_); (try simp only at hz); cbv)
| (refine rqw ?_; cbv)
| (refine rq (show kfitQ _ _ from by simp [kfitQ, IntKind.min, IntKind.max, IntKind.signed, IntKind.bits]; omega) ?_; cbv)
| (refine chpA ?_; cbv)
| (refine QC.tw ?_; cbv)
| (refine QC.tt ?_ ?_; (focus (simp only [decide_true, Bool.and_true, Bool.and_self] <;> fail)); cbv)
| (refine QC.ff ?_ ?_; (focus (simp only [decide_true, Bool.and_true, Bool.and_self, decide_false, Bool.false_and, reduceCtorEq, not_false_eq_true] <;> fail)); cbv)
| (refine QC.fw ?_; cbv)
| (refine QC.mk (fun hc => ?_) (fun hc => ?_) <;> (try dsimp only at hc) <;> cbv)
| (refine br_mk2 (fun hb => ?_) (fun hb => ?_) <;> (try subst hb) <;> cbv))))
        (refine callq (g4) rfl rfl ?_; cbv; (repeat' (first
| (refine q1w (fun z hz => ?_); (try simp only at hz); cbv)
| (refine rqw ?_; cbv)
| (refine rq (show kfitQ _ _ from by simp [kfitQ, IntKind.min, IntKind.max, IntKind.signed, IntKind.bits]; omega) ?_; cbv)
| (refine chpA ?_; cbv)
| (refine QC.tw ?_; cbv)
| (refine QC.tt ?_ ?_; (focus (simp only [decide_true, Bool.and_true, Bool.and_self] <;> fail)); cbv)
| (refine QC.ff ?_ ?_; (focus (simp only [decide_true, Bool.and_true, Bool.and_self, decide_false, Bool.false_and, reduceCtorEq, not_false_eq_true] <;> fail)); cbv)
| (refine QC.fw ?_; cbv)
| (refine QC.mk (fun hc => ?_) (fun hc => ?_) <;> (try dsimp only at hc) <;> cbv)
| (refine br_mk2 (fun hb => ?_) (fun hb => ?_) <;> (try subst hb) <;> cbv))))
        (refine callq (g5) rfl rfl ?_; cbv; (repeat' (first
| (refine q1w (fun z hz => ?_); (try simp only at hz); cbv)
| (refine rqw ?_; cbv)
| (refine rq (show kfitQ _ _ from by simp [kfitQ, IntKind.min, IntKind.max, IntKind.signed, IntKind.bits]; omega) ?_; cbv)
| (refine chpA ?_; cbv)
| (refine QC.tw ?_; cbv)
| (refine QC.tt ?_ ?_; (focus (simp only [decide_true, Bool.and_true, Bool.and_self] <;> fail)); cbv)
| (refine QC.ff ?_ ?_; (focus (simp only [decide_true, Bool.and_true, Bool.and_self, decide_false, Bool.false_and, reduceCtorEq, not_false_eq_true] <;> fail)); cbv)
| (refine QC.fw ?_; cbv)
| (refine QC.mk (fun hc => ?_) (fun hc => ?_) <;> (try dsimp only at hc) <;> cbv)
| (refine br_mk2 (fun hb => ?_) (fun hb => ?_) <;> (try subst hb) <;> cbv))))
        refine ⟨?_, rfl, rfl⟩
        rw [show z = len by (first | omega | (simp only [cst] at *; omega) | (simp only [sm] at *; omega))]
  · obtain ⟨r4, b4, t4, g4⟩ := bool_e t2 10 (by omega)
    obtain ⟨x5, b5, p5, u5, t5, g5⟩ := next_e t4 20 (by omega)
    cases r4
    · refine ⟨bs, R2, x1, hR2, by omega, by omega, by omega, ?_⟩
      refine Good.of Try.func15 rfl (by rfl) (by kernel_rfl) ?_
      cbv
      (repeat' (first
| (refine q1w (fun z hz => ?_); (try simp only at hz); cbv)
| (refine rqw ?_; cbv)
| (refine rq (show kfitQ _ _ from by simp [kfitQ, IntKind.min, IntKind.max, IntKind.signed, IntKind.bits]; omega) ?_; cbv)
| (refine chpA ?_; cbv)
| (refine QC.tw ?_; cbv)
| (refine QC.tt ?_ ?_; (focus (simp only [decide_true, Bool.and_true, Bool.and_self] <;> fail)); cbv)
| (refine QC.ff ?_ ?_; (focus (simp only [decide_true, Bool.and_true, Bool.and_self, decide_false, Bool.false_and, reduceCtorEq, not_false_eq_true] <;> fail)); cbv)
| (refine QC.fw ?_; cbv)
| (refine QC.mk (fun hc => ?_) (fun hc => ?_) <;> (try dsimp only at hc) <;> cbv)
| (refine br_mk2 (fun hb => ?_) (fun hb => ?_) <;> (try subst hb) <;> cbv)))
      (refine callq (g0) rfl rfl ?_; cbv; (repeat' (first
| (refine q1w (fun z hz => ?_); (try simp only at hz); cbv)
| (refine rqw ?_; cbv)
| (refine rq (show kfitQ _ _ from by simp [kfitQ, IntKind.min, IntKind.max, IntKind.signed, IntKind.bits]; omega) ?_; cbv)
| (refine chpA ?_; cbv)
| (refine QC.tw ?_; cbv)
| (refine QC.tt ?_ ?_; (focus (simp only [decide_true, Bool.and_true, Bool.and_self] <;> fail)); cbv)
| (refine QC.ff ?_ ?_; (focus (simp only [decide_true, Bool.and_true, Bool.and_self, decide_false, Bool.false_and, reduceCtorEq, not_false_eq_true] <;> fail)); cbv)
| (refine QC.fw ?_; cbv)
| (refine QC.mk (fun hc => ?_) (fun hc => ?_) <;> (try dsimp only at hc) <;> cbv)
| (refine br_mk2 (fun hb => ?_) (fun hb => ?_) <;> (try subst hb) <;> cbv))))
      (refine callq (g1) rfl rfl ?_; cbv; (repeat' (first
| (refine q1w (fun z hz => ?_); (try simp only at hz); cbv)
| (refine rqw ?_; cbv)
| (refine rq (show kfitQ _ _ from by simp [kfitQ, IntKind.min, IntKind.max, IntKind.signed, IntKind.bits]; omega) ?_; cbv)
| (refine chpA ?_; cbv)
| (refine QC.tw ?_; cbv)
| (refine QC.tt ?_ ?_; (focus (simp only [decide_true, Bool.and_true, Bool.and_self] <;> fail)); cbv)
| (refine QC.ff ?_ ?_; (focus (simp only [decide_true, Bool.and_true, Bool.and_self, decide_false, Bool.false_and, reduceCtorEq, not_false_eq_true] <;> fail)); cbv)
| (refine QC.fw ?_; cbv)
| (refine QC.mk (fun hc => ?_) (fun hc => ?_) <;> (try dsimp only at hc) <;> cbv)
| (refine br_mk2 (fun hb => ?_) (fun hb => ?_) <;> (try subst hb) <;> cbv))))
      have e : z = z2 := by (first | omega | (simp only [cst] at *; omega) | (simp only [sm] at *; omega))
      subst e
      (refine callq (g2) rfl rfl ?_; cbv; (repeat' (first
| (refine q1w (fun z hz => ?_); (try simp only at hz); cbv)
| (refine rqw ?_; cbv)
| (refine rq (show kfitQ _ _ from by simp [kfitQ, IntKind.min, IntKind.max, IntKind.signed, IntKind.bits]; omega) ?_; cbv)
| (refine chpA ?_; cbv)
| (refine QC.tw ?_; cbv)
| (refine QC.tt ?_ ?_; (focus (simp only [decide_true, Bool.and_true, Bool.and_self] <;> fail)); cbv)
| (refine QC.ff ?_ ?_; (focus (simp only [decide_true, Bool.and_true, Bool.and_self, decide_false, Bool.false_and, reduceCtorEq, not_false_eq_true] <;> fail)); cbv)
| (refine QC.fw ?_; cbv)
| (refine QC.mk (fun hc => ?_) (fun hc => ?_) <;> (try dsimp only at hc) <;> cbv)
| (refine br_mk2 (fun hb => ?_) (fun hb => ?_) <;> (try subst hb) <;> cbv))))
      (refine callq (g4) rfl rfl ?_; cbv; (repeat' (first
| (refine q1w (fun z hz => ?_); (try simp only at hz); cbv)
| (refine rqw ?_; cbv)
| (refine rq (show kfitQ _ _ from by simp [kfitQ, IntKind.min, IntKind.max, IntKind.signed, IntKind.bits]; omega) ?_; cbv)
| (refine chpA ?_; cbv)
| (refine QC.tw ?_; cbv)
| (refine QC.tt ?_ ?_; (focus (simp only [decide_true, Bool.and_true, Bool.and_self] <;> fail)); cbv)
| (refine QC.ff ?_ ?_; (focus (simp only [decide_true, Bool.and_true, Bool.and_self, decide_false, Bool.false_and, reduceCtorEq, not_false_eq_true] <;> fail)); cbv)
| (refine QC.fw ?_; cbv)
| (refine QC.mk (fun hc => ?_) (fun hc => ?_) <;> (try dsimp only at hc) <;> cbv)
| (refine br_mk2 (fun hb => ?_) (fun hb => ?_) <;> (try subst hb) <;> cbv))))
      exact ⟨rfl, rfl, rfl⟩
    · obtain ⟨len, hlen⟩ : ∃ n, n = x1 + (x5 - 10) := ⟨_, rfl⟩
      refine ⟨bs, R2, len, hR2, by omega, by omega, by omega, ?_⟩
      refine Good.of Try.func15 rfl (by rfl) (by kernel_rfl) ?_
      cbv
      (repeat' (first
| (refine q1w (fun z hz => ?_); (try simp only at hz); cbv)
| (refine rqw ?_; cbv)
| (refine rq (show kfitQ _ _ from by simp [kfitQ, IntKind.min, IntKind.max, IntKind.signed, IntKind.bits]; omega) ?_; cbv)
| (refine chpA ?_; cbv)
| (refine QC.tw ?_; cbv)
| (refine QC.tt ?_ ?_; (focus (simp only [decide_true, Bool.and_true, Bool.and_self] <;> fail)); cbv)
| (refine QC.ff ?_ ?_; (focus (simp only [decide_true, Bool.and_true, Bool.and_self, decide_false, Bool.false_and, reduceCtorEq, not_false_eq_true] <;> fail)); cbv)
| (refine QC.fw ?_; cbv)
| (refine QC.mk (fun hc => ?_) (fun hc => ?_) <;> (try dsimp only at hc) <;> cbv)
| (refine br_mk2 (fun hb => ?_) (fun hb => ?_) <;> (try subst hb) <;> cbv)))
      (refine callq (g0) rfl rfl ?_; cbv; (repeat' (first
| (refine q1w (fun z hz => ?_); (try simp only at hz); cbv)
| (refine rqw ?_; cbv)
| (refine rq (show kfitQ _ _ from by simp [kfitQ, IntKind.min, IntKind.max, IntKind.signed, IntKind.bits]; omega) ?_; cbv)
| (refine chpA ?_; cbv)
| (refine QC.tw ?_; cbv)
| (refine QC.tt ?_ ?_; (focus (simp only [decide_true, Bool.and_true, Bool.and_self] <;> fail)); cbv)
| (refine QC.ff ?_ ?_; (focus (simp only [decide_true, Bool.and_true, Bool.and_self, decide_false, Bool.false_and, reduceCtorEq, not_false_eq_true] <;> fail)); cbv)
| (refine QC.fw ?_; cbv)
| (refine QC.mk (fun hc => ?_) (fun hc => ?_) <;> (try dsimp only at hc) <;> cbv)
| (refine br_mk2 (fun hb => ?_) (fun hb => ?_) <;> (try subst hb) <;> cbv))))
      (refine callq (g1) rfl rfl ?_; cbv; (repeat' (first
| (refine q1w (fun z hz => ?_); (try simp only at hz); cbv)
| (refine rqw ?_; cbv)
| (refine rq (show kfitQ _ _ from by simp [kfitQ, IntKind.min, IntKind.max, IntKind.signed, IntKind.bits]; omega) ?_; cbv)
| (refine chpA ?_; cbv)
| (refine QC.tw ?_; cbv)
| (refine QC.tt ?_ ?_; (focus (simp only [decide_true, Bool.and_true, Bool.and_self] <;> fail)); cbv)
| (refine QC.ff ?_ ?_; (focus (simp only [decide_true, Bool.and_true, Bool.and_self, decide_false, Bool.false_and, reduceCtorEq, not_false_eq_true] <;> fail)); cbv)
| (refine QC.fw ?_; cbv)
| (refine QC.mk (fun hc => ?_) (fun hc => ?_) <;> (try dsimp only at hc) <;> cbv)
| (refine br_mk2 (fun hb => ?_) (fun hb => ?_) <;> (try subst hb) <;> cbv))))
      have e : z = z2 := by (first | omega | (simp only [cst] at *; omega) | (simp only [sm] at *; omega))
      subst e
      (refine callq (g2) rfl rfl ?_; cbv; (repeat' (first
| (refine q1w (fun z hz => ?_); (try simp only at hz); cbv)
| (refine rqw ?_; cbv)
| (refine rq (show kfitQ _ _ from by simp [kfitQ, IntKind.min, IntKind.max, IntKind.signed, IntKind.bits]; omega) ?_; cbv)
| (refine chpA ?_; cbv)
| (refine QC.tw ?_; cbv)
| (refine QC.tt ?_ ?_; (focus (simp only [decide_true, Bool.and_true, Bool.and_self] <;> fail)); cbv)
| (refine QC.ff ?_ ?_; (focus (simp only [decide_true, Bool.and_true, Bool.and_self, decide_false, Bool.false_and, reduceCtorEq, not_false_eq_true] <;> fail)); cbv)
| (refine QC.fw ?_; cbv)
| (refine QC.mk (fun hc => ?_) (fun hc => ?_) <;> (try dsimp only at hc) <;> cbv)
| (refine br_mk2 (fun hb => ?_) (fun hb => ?_) <;> (try subst hb) <;> cbv))))
      (refine callq (g4) rfl rfl ?_; cbv; (repeat' (first
| (refine q1w (fun z hz => ?_); (try simp only at hz); cbv)
| (refine rqw ?_; cbv)
| (refine rq (show kfitQ _ _ from by simp [kfitQ, IntKind.min, IntKind.max, IntKind.signed, IntKind.bits]; omega) ?_; cbv)
| (refine chpA ?_; cbv)
| (refine QC.tw ?_; cbv)
| (refine QC.tt ?_ ?_; (focus (simp only [decide_true, Bool.and_true, Bool.and_self] <;> fail)); cbv)
| (refine QC.ff ?_ ?_; (focus (simp only [decide_true, Bool.and_true, Bool.and_self, decide_false, Bool.false_and, reduceCtorEq, not_false_eq_true] <;> fail)); cbv)
| (refine QC.fw ?_; cbv)
| (refine QC.mk (fun hc => ?_) (fun hc => ?_) <;> (try dsimp only at hc) <;> cbv)
| (refine br_mk2 (fun hb => ?_) (fun hb => ?_) <;> (try subst hb) <;> cbv))))
      (refine callq (g5) rfl rfl ?_; cbv; (repeat' (first
| (refine q1w (fun z hz => ?_); (try simp only at hz); cbv)
| (refine rqw ?_; cbv)
| (refine rq (show kfitQ _ _ from by simp [kfitQ, IntKind.min, IntKind.max, IntKind.signed, IntKind.bits]; omega) ?_; cbv)
| (refine chpA ?_; cbv)
| (refine QC.tw ?_; cbv)
| (refine QC.tt ?_ ?_; (focus (simp only [decide_true, Bool.and_true, Bool.and_self] <;> fail)); cbv)
| (refine QC.ff ?_ ?_; (focus (simp only [decide_true, Bool.and_true, Bool.and_self, decide_false, Bool.false_and, reduceCtorEq, not_false_eq_true] <;> fail)); cbv)
| (refine QC.fw ?_; cbv)
| (refine QC.mk (fun hc => ?_) (fun hc => ?_) <;> (try dsimp only at hc) <;> cbv)
| (refine br_mk2 (fun hb => ?_) (fun hb => ?_) <;> (try subst hb) <;> cbv))))
      refine ⟨?_, rfl, rfl⟩
      rw [show z = len by (first | omega | (simp only [cst] at *; omega) | (simp only [sm] at *; omega))]
end Go.Proofs.Ytapcbkcnokoljaa
