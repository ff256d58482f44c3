/- Texts put together: OH. -/
import Derived.Test.YtapcbkcnokoljaaZ03
namespace Go.Proofs.Ytapcbkcnokoljaa
set_option linter.unusedVariables false
set_option linter.unusedSimpArgs false
open Go.RowKit
set_option maxHeartbeats 2000000
set_option linter.unusedSimpArgs false
theorem bits_no (bs : List UInt8) (X : List SV) (len A N : Int) (hX : X = u8l bs) (hl : bs.length ≤ 140737488352000) (hlen : -9223372036854775808 ≤ len ∧ len ≤ 9223372036854775807)
    (hno : validB bs len = true → ¬ (1 ≤ N ∧ N ≤ 64 ∧ 0 ≤ A ∧ A + N ≤ len)) (hA : -9223372036854775808 ≤ A ∧ A ≤ 9223372036854775807) (hN : -9223372036854775808 ≤ N ∧ N ≤ 9223372036854775807) :
    Good 17 (pu [.agg [.lst none X, .int .i64 len], .int .i64 A, .int .i64 N] (.tup [.int .u64 0, .bool false])) := by
  obtain ⟨vb, hvb⟩ : ∃ b, b = validB bs len := ⟨_, rfl⟩
  have hvc := valid_c bs X len vb hX hl hlen hvb
  rw [← hvb] at hno
  have hpos : vb = true → 0 ≤ len := by
    intro h; rw [hvb] at h; simp only [validB, Bool.and_eq_true, decide_eq_true_eq] at h; exact h.1
  cases vb
  · clear hno hpos
    refine Good.of Try.func17 rfl (by rfl) (by kernel_rfl) ?_
    cbv
    (repeat' (first
| (refine q1w (fun z hz => ?_); (try simp only at hz); cbv)
| (refine rqw ?_; cbv)
| (refine rq (show kfitQ _ _ from by simp [kfitQ, IntKind.min, IntKind.max, IntKind.signed, IntKind.bits]; omega) ?_; cbv)
| (refine chpA ?_; cbv)
| (refine QC.tw ?_; cbv)
| (refine QC.tt ?_ ?_; (focus (simp only [decide_true, Bool.and_true, Bool.and_self] <;> fail)); cbv)
| (refine QC.ff ?_ ?_; (focus (simp only [decide_true, Bool.and_true, Bool.and_self, decide_false, Bool.false_and, reduceCtorEq, not_false_eq_true] <;> fail)); cbv)
| (refine QC.fw ?_; cbv)
| (refine QC.mk (fun hc => ?_) (fun hc => ?_) <;> (try dsimp only at hc) <;> cbv)
| (refine br_mk2 (fun hb => ?_) (fun hb => ?_) <;> (try subst hb) <;> cbv)))
    (refine callq (hvc) rfl rfl ?_; cbv; (repeat' (first
| (refine q1w (fun z hz => ?_); (try simp only at hz); cbv)
| (refine rqw ?_; cbv)
| (refine rq (show kfitQ _ _ from by simp [kfitQ, IntKind.min, IntKind.max, IntKind.signed, IntKind.bits]; omega) ?_; cbv)
| (refine chpA ?_; cbv)
| (refine QC.tw ?_; cbv)
| (refine QC.tt ?_ ?_; (focus (simp only [decide_true, Bool.and_true, Bool.and_self] <;> fail)); cbv)
| (refine QC.ff ?_ ?_; (focus (simp only [decide_true, Bool.and_true, Bool.and_self, decide_false, Bool.false_and, reduceCtorEq, not_false_eq_true] <;> fail)); cbv)
| (refine QC.fw ?_; cbv)
| (refine QC.mk (fun hc => ?_) (fun hc => ?_) <;> (try dsimp only at hc) <;> cbv)
| (refine br_mk2 (fun hb => ?_) (fun hb => ?_) <;> (try subst hb) <;> cbv))))
    all_goals exact ⟨rfl, rfl, rfl⟩
  · have hno := hno rfl
    have hpos := hpos rfl
    refine Good.of Try.func17 rfl (by rfl) (by kernel_rfl) ?_
    cbv
    (repeat' (first
| (refine q1w (fun z hz => ?_); (try simp only at hz); cbv)
| (refine rqw ?_; cbv)
| (refine rq (show kfitQ _ _ from by simp [kfitQ, IntKind.min, IntKind.max, IntKind.signed, IntKind.bits]; omega) ?_; cbv)
| (refine chpA ?_; cbv)
| (refine QC.tw ?_; cbv)
| (refine QC.tt ?_ ?_; (focus (simp only [decide_true, Bool.and_true, Bool.and_self] <;> fail)); cbv)
| (refine QC.ff ?_ ?_; (focus (simp only [decide_true, Bool.and_true, Bool.and_self, decide_false, Bool.false_and, reduceCtorEq, not_false_eq_true] <;> fail)); cbv)
| (refine QC.fw ?_; cbv)
| (refine QC.mk (fun hc => ?_) (fun hc => ?_) <;> (try dsimp only at hc) <;> cbv)
| (refine br_mk2 (fun hb => ?_) (fun hb => ?_) <;> (try subst hb) <;> cbv)))
    (refine callq (hvc) rfl rfl ?_; cbv; (repeat' (first
| (refine q1w (fun z hz => ?_); (try simp only at hz); cbv)
| (refine rqw ?_; cbv)
| (refine rq (show kfitQ _ _ from by simp [kfitQ, IntKind.min, IntKind.max, IntKind.signed, IntKind.bits]; omega) ?_; cbv)
| (refine chpA ?_; cbv)
| (refine QC.tw ?_; cbv)
| (refine QC.tt ?_ ?_; (focus (simp only [decide_true, Bool.and_true, Bool.and_self] <;> fail)); cbv)
| (refine QC.ff ?_ ?_; (focus (simp only [decide_true, Bool.and_true, Bool.and_self, decide_false, Bool.false_and, reduceCtorEq, not_false_eq_true] <;> fail)); cbv)
| (refine QC.fw ?_; cbv)
| (refine QC.mk (fun hc => ?_) (fun hc => ?_) <;> (try dsimp only at hc) <;> cbv)
| (refine br_mk2 (fun hb => ?_) (fun hb => ?_) <;> (try subst hb) <;> cbv))))
    all_goals first | exact ⟨rfl, rfl, rfl⟩ | skip
    all_goals exfalso
    all_goals omega
theorem bit_c (bs : List UInt8) (X : List SV) (I r : Int) (i : Nat) (hX : X = u8l bs) (hI : I = i) (hi : i < 8 * bs.length) (hl : bs.length ≤ 140737488352000) (hr : r = bitAt bs i) :
    Good 33 (pu [.lst none X, .int .i64 I] (.int .u64 r)) := by
  obtain ⟨q, hq⟩ : ∃ q, q = i / 8 := ⟨_, rfl⟩
  have hel := u8l_at (l := bs) q (by omega)
  rw [← hX] at hel
  have hyl := (bs.getD q 0).toNat_lt
  rw [bitAt, ← hq] at hr
  generalize (bs.getD q 0).toNat = y at *
  obtain ⟨Y, hY⟩ : ∃ Y : Int, Y = y := ⟨_, rfl⟩
  rw [← hY] at hel
  refine Good.of Try.func33 rfl (by rfl) (by kernel_rfl) ?_
  cbv
  (repeat' (first
| (refine q1w (fun z hz => ?_); (try simp only at hz); cbv)
| (refine rqw ?_; cbv)
| (refine rq (show kfitQ _ _ from by simp [kfitQ, IntKind.min, IntKind.max, IntKind.signed, IntKind.bits]; omega) ?_; cbv)
| (refine chpA ?_; cbv)
| (refine QC.tw ?_; cbv)
| (refine QC.tt ?_ ?_; (focus (simp only [decide_true, Bool.and_true, Bool.and_self] <;> fail)); cbv)
| (refine QC.ff ?_ ?_; (focus (simp only [decide_true, Bool.and_true, Bool.and_self, decide_false, Bool.false_and, reduceCtorEq, not_false_eq_true] <;> fail)); cbv)
| (refine QC.fw ?_; cbv)
| (refine QC.mk (fun hc => ?_) (fun hc => ?_) <;> (try dsimp only at hc) <;> cbv)
| (refine br_mk2 (fun hb => ?_) (fun hb => ?_) <;> (try subst hb) <;> cbv)))
  refine qv (q, .int .u8 Y) ⟨by show _ = ((q : Nat) : Int); (first | omega | (simp only [cst] at *; omega) | (simp only [sm] at *; omega)), hel⟩ ?_
  cbv
  (repeat' (first
| (refine q1w (fun z hz => ?_); (try simp only at hz); cbv)
| (refine rqw ?_; cbv)
| (refine rq (show kfitQ _ _ from by simp [kfitQ, IntKind.min, IntKind.max, IntKind.signed, IntKind.bits]; omega) ?_; cbv)
| (refine chpA ?_; cbv)
| (refine QC.tw ?_; cbv)
| (refine QC.tt ?_ ?_; (focus (simp only [decide_true, Bool.and_true, Bool.and_self] <;> fail)); cbv)
| (refine QC.ff ?_ ?_; (focus (simp only [decide_true, Bool.and_true, Bool.and_self, decide_false, Bool.false_and, reduceCtorEq, not_false_eq_true] <;> fail)); cbv)
| (refine QC.fw ?_; cbv)
| (refine QC.mk (fun hc => ?_) (fun hc => ?_) <;> (try dsimp only at hc) <;> cbv)
| (refine br_mk2 (fun hb => ?_) (fun hb => ?_) <;> (try subst hb) <;> cbv)))
  rename_i z5 h5 z4 h4 z3 h3 z2 h2 z1 h1 z0 h0
  refine ⟨?_, rfl, rfl⟩
  rw [hz, show Int.toNat 1 = 1 from rfl, Nat.and_one_is_mod, hr]
  have e2 : z2.toNat = 7 - i % 8 := by (first | omega | (simp only [cst] at *; omega) | (simp only [sm] at *; omega))
  have e1 : z1 = ((y / 2 ^ (7 - i % 8) : Nat) : Int) := by rw [h1, e2, hY]; simp
  have e3 := Nat.div_le_self y (2 ^ (7 - i % 8))
  congr 1
  generalize y / 2 ^ (7 - i % 8) = m at *
  (first | omega | (simp only [cst] at *; omega) | (simp only [sm] at *; omega))
theorem rvalid_c (bs : List UInt8) (X : List SV) (len : Int) (r : Bool) (hX : X = u8l bs) (hbl : bs.length ≤ 140737488352000) (hlen : -9223372036854775808 ≤ len ∧ len ≤ 9223372036854775807) (hr : r = validB bs len) :
    Good 26 (pu [.agg [.lst none X, .int .i64 len]] (.bool r)) := by
  have hl : X.length = bs.length := by rw [hX, u8l_len]
  refine Good.of Try.func26 rfl (by rfl) (by kernel_rfl) ?_
  cbv
  (repeat' (first
| (refine q1w (fun z hz => ?_); (try simp only at hz); cbv)
| (refine rqw ?_; cbv)
| (refine rq (show kfitQ _ _ from by simp [kfitQ, IntKind.min, IntKind.max, IntKind.signed, IntKind.bits]; omega) ?_; cbv)
| (refine chpA ?_; cbv)
| (refine QC.tw ?_; cbv)
| (refine QC.tt ?_ ?_; (focus (simp only [decide_true, Bool.and_true, Bool.and_self] <;> fail)); cbv)
| (refine QC.ff ?_ ?_; (focus (simp only [decide_true, Bool.and_true, Bool.and_self, decide_false, Bool.false_and, reduceCtorEq, not_false_eq_true] <;> fail)); cbv)
| (refine QC.fw ?_; cbv)
| (refine QC.mk (fun hc => ?_) (fun hc => ?_) <;> (try dsimp only at hc) <;> cbv)
| (refine br_mk2 (fun hb => ?_) (fun hb => ?_) <;> (try subst hb) <;> cbv)))
  · refine ⟨?_, rfl, rfl⟩
    rw [hr]
    simp [validB, show ¬ 0 ≤ len by omega]
  · refine ⟨?_, rfl, rfl⟩
    have e : ¬ bs.length = (len.toNat + 7) / 8 := by (first | omega | (simp only [cst] at *; omega) | (simp only [sm] at *; omega))
    rw [hr]
    simp [validB, e]
  · have e : bs.length = (len.toNat + 7) / 8 := by (first | omega | (simp only [cst] at *; omega) | (simp only [sm] at *; omega))
    have hv := validB_iff bs len.toNat
    rw [show (len.toNat : Int) = len by omega] at hv
    have hbad : ∀ j, len.toNat ≤ j → bitAt bs j ≠ 0 → r = false := fun j h1 h2 => by
      rw [hr]; by_cases h : validB bs len = true
      · exact absurd ((hv.1 h).2 j h1) h2
      · simpa using h
    have hgood : (∀ j, len.toNat ≤ j → j < 8 * bs.length → bitAt bs j = 0) → r = true := fun h => by
      rw [hr, hv]
      refine ⟨e, fun j hj => ?_⟩
      by_cases h8 : j < 8 * bs.length
      · exact h j hj h8
      · simp [bitAt, List.getElem?_eq_none (show bs.length ≤ j / 8 by omega)]
    obtain ⟨n, hn⟩ : ∃ n, n = len.toNat := ⟨_, rfl⟩
    rw [← hn] at hbad hgood
    obtain ⟨F, hF⟩ : ∃ F : Nat → Int, ∀ i, F i = bitAt bs i := ⟨_, fun _ => rfl⟩
    refine loopQ (A := Nat × Int) (fun p => p.2 = p.1 ∧ n ≤ p.1 ∧ p.1 ≤ 8 * bs.length ∧ ∀ j, n ≤ j → j < p.1 → bitAt bs j = 0) (fun p => 8 * bs.length - p.1) (fun p => [(3, .int .i64 p.2)]) (fun p => []) (n, len) ⟨by simp only [cst]; omega, Nat.le_refl _, by simp only; omega, fun j h1 h2 => absurd h2 (by simp only; omega)⟩ ?_ ?_
    · cbv
    · intro ⟨i, j⟩ h
      have hj : j = (i : Int) := h.1
      have hi : n ≤ i := h.2.1
      have hi2 : i ≤ 8 * bs.length := h.2.2.1
      have hzr : ∀ j, n ≤ j → j < i → bitAt bs j = 0 := h.2.2.2
      clear h
      have hx := hF i
      have hbit := fun hi => bit_c bs X j (F i) i hX hj hi hbl hx
      have hb := hbad i hi
      cbv
      (repeat' (first
| (refine q1w (fun z hz => ?_); (try simp only at hz); cbv)
| (refine rqw ?_; cbv)
| (refine rq (show kfitQ _ _ from by simp [kfitQ, IntKind.min, IntKind.max, IntKind.signed, IntKind.bits]; omega) ?_; cbv)
| (refine chpA ?_; cbv)
| (refine QC.tw ?_; cbv)
| (refine QC.tt ?_ ?_; (focus (simp only [decide_true, Bool.and_true, Bool.and_self] <;> fail)); cbv)
| (refine QC.ff ?_ ?_; (focus (simp only [decide_true, Bool.and_true, Bool.and_self, decide_false, Bool.false_and, reduceCtorEq, not_false_eq_true] <;> fail)); cbv)
| (refine QC.fw ?_; cbv)
| (refine QC.mk (fun hc => ?_) (fun hc => ?_) <;> (try dsimp only at hc) <;> cbv)
| (refine br_mk2 (fun hb => ?_) (fun hb => ?_) <;> (try subst hb) <;> cbv)))
      · have hlt : i < 8 * bs.length := by (first | omega | (simp only [cst] at *; omega) | (simp only [sm] at *; omega))
        have hbit := hbit hlt
        (refine callq (hbit) rfl rfl ?_; cbv; (repeat' (first
| (refine q1w (fun z hz => ?_); (try simp only at hz); cbv)
| (refine rqw ?_; cbv)
| (refine rq (show kfitQ _ _ from by simp [kfitQ, IntKind.min, IntKind.max, IntKind.signed, IntKind.bits]; omega) ?_; cbv)
| (refine chpA ?_; cbv)
| (refine QC.tw ?_; cbv)
| (refine QC.tt ?_ ?_; (focus (simp only [decide_true, Bool.and_true, Bool.and_self] <;> fail)); cbv)
| (refine QC.ff ?_ ?_; (focus (simp only [decide_true, Bool.and_true, Bool.and_self, decide_false, Bool.false_and, reduceCtorEq, not_false_eq_true] <;> fail)); cbv)
| (refine QC.fw ?_; cbv)
| (refine QC.mk (fun hc => ?_) (fun hc => ?_) <;> (try dsimp only at hc) <;> cbv)
| (refine br_mk2 (fun hb => ?_) (fun hb => ?_) <;> (try subst hb) <;> cbv))))
        · refine ⟨?_, rfl, rfl⟩
          rw [hb (by (first | omega | (simp only [cst] at *; omega) | (simp only [sm] at *; omega)))]
        · refine ⟨(i + 1, z), ⟨by (first | omega | (simp only [cst] at *; omega) | (simp only [sm] at *; omega)), by omega, by omega, fun j h1 h2 => ?_⟩, by (first | omega | (simp only [cst] at *; omega) | (simp only [sm] at *; omega)), ?_⟩
          · by_cases h3 : j = i
            · subst h3; (first | omega | (simp only [cst] at *; omega) | (simp only [sm] at *; omega))
            · exact hzr j h1 (by omega)
          · cbv
      · refine ⟨?_, rfl, rfl⟩
        rw [hgood (fun j h1 h2 => hzr j h1 (by (first | omega | (simp only [cst] at *; omega) | (simp only [sm] at *; omega))))]
theorem sameBits_c (xs ys : List UInt8) (X Y : List SV) (lx ly : Int) (r : Bool) (hX : X = u8l xs) (hY : Y = u8l ys) (hlx : xs.length ≤ 140737488352000) (hly : ys.length ≤ 140737488352000) (hr : r = decide (lx = ly ∧ xs = ys)) :
    Good 25 (pu [.agg [.lst none X, .int .i64 lx], .agg [.lst none Y, .int .i64 ly]] (.bool r)) := by
  have hs := same_c xs ys X Y _ hX hY hlx hly rfl
  by_cases h : lx = ly
  · subst h
    rw [show r = decide (xs = ys) by rw [hr]; simp]
    generalize decide (xs = ys) = b at *
    refine Good.of Try.func25 rfl (by rfl) (by kernel_rfl) ?_
    cbv
    (repeat' (first
| (refine q1w (fun z hz => ?_); (try simp only at hz); cbv)
| (refine rqw ?_; cbv)
| (refine rq (show kfitQ _ _ from by simp [kfitQ, IntKind.min, IntKind.max, IntKind.signed, IntKind.bits]; omega) ?_; cbv)
| (refine chpA ?_; cbv)
| (refine QC.tw ?_; cbv)
| (refine QC.tt ?_ ?_; (focus (simp only [decide_true, Bool.and_true, Bool.and_self] <;> fail)); cbv)
| (refine QC.ff ?_ ?_; (focus (simp only [decide_true, Bool.and_true, Bool.and_self, decide_false, Bool.false_and, reduceCtorEq, not_false_eq_true] <;> fail)); cbv)
| (refine QC.fw ?_; cbv)
| (refine QC.mk (fun hc => ?_) (fun hc => ?_) <;> (try dsimp only at hc) <;> cbv)
| (refine br_mk2 (fun hb => ?_) (fun hb => ?_) <;> (try subst hb) <;> cbv)))
    (refine callq (hs) rfl rfl ?_; cbv; (repeat' (first
| (refine q1w (fun z hz => ?_); (try simp only at hz); cbv)
| (refine rqw ?_; cbv)
| (refine rq (show kfitQ _ _ from by simp [kfitQ, IntKind.min, IntKind.max, IntKind.signed, IntKind.bits]; omega) ?_; cbv)
| (refine chpA ?_; cbv)
| (refine QC.tw ?_; cbv)
| (refine QC.tt ?_ ?_; (focus (simp only [decide_true, Bool.and_true, Bool.and_self] <;> fail)); cbv)
| (refine QC.ff ?_ ?_; (focus (simp only [decide_true, Bool.and_true, Bool.and_self, decide_false, Bool.false_and, reduceCtorEq, not_false_eq_true] <;> fail)); cbv)
| (refine QC.fw ?_; cbv)
| (refine QC.mk (fun hc => ?_) (fun hc => ?_) <;> (try dsimp only at hc) <;> cbv)
| (refine br_mk2 (fun hb => ?_) (fun hb => ?_) <;> (try subst hb) <;> cbv))))
    all_goals exact ⟨rfl, rfl, rfl⟩
  · rw [show r = false by rw [hr]; simp [h]]
    refine Good.of Try.func25 rfl (by rfl) (by kernel_rfl) ?_
    cbv
    (repeat' (first
| (refine q1w (fun z hz => ?_); (try simp only at hz); cbv)
| (refine rqw ?_; cbv)
| (refine rq (show kfitQ _ _ from by simp [kfitQ, IntKind.min, IntKind.max, IntKind.signed, IntKind.bits]; omega) ?_; cbv)
| (refine chpA ?_; cbv)
| (refine QC.tw ?_; cbv)
| (refine QC.tt ?_ ?_; (focus (simp only [decide_true, Bool.and_true, Bool.and_self] <;> fail)); cbv)
| (refine QC.ff ?_ ?_; (focus (simp only [decide_true, Bool.and_true, Bool.and_self, decide_false, Bool.false_and, reduceCtorEq, not_false_eq_true] <;> fail)); cbv)
| (refine QC.fw ?_; cbv)
| (refine QC.mk (fun hc => ?_) (fun hc => ?_) <;> (try dsimp only at hc) <;> cbv)
| (refine br_mk2 (fun hb => ?_) (fun hb => ?_) <;> (try subst hb) <;> cbv)))
    all_goals exact ⟨rfl, rfl, rfl⟩
theorem rbits_no (bs : List UInt8) (X : List SV) (len A N : Int) (hX : X = u8l bs) (hl : bs.length ≤ 140737488352000) (hlen : -9223372036854775808 ≤ len ∧ len ≤ 9223372036854775807)
    (hno : validB bs len = true → ¬ (1 ≤ N ∧ N ≤ 64 ∧ 0 ≤ A ∧ A + N ≤ len)) (hA : -9223372036854775808 ≤ A ∧ A ≤ 9223372036854775807) (hN : -9223372036854775808 ≤ N ∧ N ≤ 9223372036854775807) :
    Good 24 (pu [.agg [.lst none X, .int .i64 len], .int .i64 A, .int .i64 N] (.tup [.int .u64 0, .bool false])) := by
  obtain ⟨vb, hvb⟩ : ∃ b, b = validB bs len := ⟨_, rfl⟩
  have hvc := rvalid_c bs X len vb hX hl hlen hvb
  rw [← hvb] at hno
  have hpos : vb = true → 0 ≤ len := by
    intro h; rw [hvb] at h; simp only [validB, Bool.and_eq_true, decide_eq_true_eq] at h; exact h.1
  cases vb
  · clear hno hpos
    refine Good.of Try.func24 rfl (by rfl) (by kernel_rfl) ?_
    cbv
    (repeat' (first
| (refine q1w (fun z hz => ?_); (try simp only at hz); cbv)
| (refine rqw ?_; cbv)
| (refine rq (show kfitQ _ _ from by simp [kfitQ, IntKind.min, IntKind.max, IntKind.signed, IntKind.bits]; omega) ?_; cbv)
| (refine chpA ?_; cbv)
| (refine QC.tw ?_; cbv)
| (refine QC.tt ?_ ?_; (focus (simp only [decide_true, Bool.and_true, Bool.and_self] <;> fail)); cbv)
| (refine QC.ff ?_ ?_; (focus (simp only [decide_true, Bool.and_true, Bool.and_self, decide_false, Bool.false_and, reduceCtorEq, not_false_eq_true] <;> fail)); cbv)
| (refine QC.fw ?_; cbv)
| (refine QC.mk (fun hc => ?_) (fun hc => ?_) <;> (try dsimp only at hc) <;> cbv)
| (refine br_mk2 (fun hb => ?_) (fun hb => ?_) <;> (try subst hb) <;> cbv)))
    (refine callq (hvc) rfl rfl ?_; cbv; (repeat' (first
| (refine q1w (fun z hz => ?_); (try simp only at hz); cbv)
| (refine rqw ?_; cbv)
| (refine rq (show kfitQ _ _ from by simp [kfitQ, IntKind.min, IntKind.max, IntKind.signed, IntKind.bits]; omega) ?_; cbv)
| (refine chpA ?_; cbv)
| (refine QC.tw ?_; cbv)
| (refine QC.tt ?_ ?_; (focus (simp only [decide_true, Bool.and_true, Bool.and_self] <;> fail)); cbv)
| (refine QC.ff ?_ ?_; (focus (simp only [decide_true, Bool.and_true, Bool.and_self, decide_false, Bool.false_and, reduceCtorEq, not_false_eq_true] <;> fail)); cbv)
| (refine QC.fw ?_; cbv)
| (refine QC.mk (fun hc => ?_) (fun hc => ?_) <;> (try dsimp only at hc) <;> cbv)
| (refine br_mk2 (fun hb => ?_) (fun hb => ?_) <;> (try subst hb) <;> cbv))))
    all_goals exact ⟨rfl, rfl, rfl⟩
  · have hno := hno rfl
    have hpos := hpos rfl
    refine Good.of Try.func24 rfl (by rfl) (by kernel_rfl) ?_
    cbv
    (repeat' (first
| (refine q1w (fun z hz => ?_); (try simp only at hz); cbv)
| (refine rqw ?_; cbv)
| (refine rq (show kfitQ _ _ from by simp [kfitQ, IntKind.min, IntKind.max, IntKind.signed, IntKind.bits]; omega) ?_; cbv)
| (refine chpA ?_; cbv)
| (refine QC.tw ?_; cbv)
| (refine QC.tt ?_ ?_; (focus (simp only [decide_true, Bool.and_true, Bool.and_self] <;> fail)); cbv)
| (refine QC.ff ?_ ?_; (focus (simp only [decide_true, Bool.and_true, Bool.and_self, decide_false, Bool.false_and, reduceCtorEq, not_false_eq_true] <;> fail)); cbv)
| (refine QC.fw ?_; cbv)
| (refine QC.mk (fun hc => ?_) (fun hc => ?_) <;> (try dsimp only at hc) <;> cbv)
| (refine br_mk2 (fun hb => ?_) (fun hb => ?_) <;> (try subst hb) <;> cbv)))
    (refine callq (hvc) rfl rfl ?_; cbv; (repeat' (first
| (refine q1w (fun z hz => ?_); (try simp only at hz); cbv)
| (refine rqw ?_; cbv)
| (refine rq (show kfitQ _ _ from by simp [kfitQ, IntKind.min, IntKind.max, IntKind.signed, IntKind.bits]; omega) ?_; cbv)
| (refine chpA ?_; cbv)
| (refine QC.tw ?_; cbv)
| (refine QC.tt ?_ ?_; (focus (simp only [decide_true, Bool.and_true, Bool.and_self] <;> fail)); cbv)
| (refine QC.ff ?_ ?_; (focus (simp only [decide_true, Bool.and_true, Bool.and_self, decide_false, Bool.false_and, reduceCtorEq, not_false_eq_true] <;> fail)); cbv)
| (refine QC.fw ?_; cbv)
| (refine QC.mk (fun hc => ?_) (fun hc => ?_) <;> (try dsimp only at hc) <;> cbv)
| (refine br_mk2 (fun hb => ?_) (fun hb => ?_) <;> (try subst hb) <;> cbv))))
    all_goals first | exact ⟨rfl, rfl, rfl⟩ | skip
    all_goals exfalso
    all_goals omega
theorem rbits_yes (bs : List UInt8) (X : List SV) (len A N r : Int) (a n : Nat) (hX : X = u8l bs) (hl : bs.length ≤ 140737488352000) (hlen : -9223372036854775808 ≤ len ∧ len ≤ 9223372036854775807)
    (hv : validB bs len = true) (hA : A = a) (hN : N = n) (h1 : 1 ≤ n) (hn : n ≤ 64) (hb : A + N ≤ len) (hr : r = numBits bs a n) :
    Good 24 (pu [.agg [.lst none X, .int .i64 len], .int .i64 A, .int .i64 N] (.tup [.int .u64 r, .bool true])) := by
  have hvc := rvalid_c bs X len true hX hl hlen hv.symm
  have h8 : a + n ≤ 8 * bs.length := by
    simp only [validB, Bool.and_eq_true, decide_eq_true_eq] at hv
    omega
  obtain ⟨H, hH⟩ : ∃ H : Nat → Int, ∀ i, H i = numBits bs a i := ⟨_, fun _ => rfl⟩
  obtain ⟨B, hB⟩ : ∃ B : Nat → Int, ∀ i, B i = bitAt bs (a + i) := ⟨_, fun _ => rfl⟩
  obtain ⟨J, hJ⟩ : ∃ J : Nat → Int, ∀ i, J i = (a + i : Nat) := ⟨_, fun _ => rfl⟩
  have hHs : ∀ i, H (i + 1) = H i * 2 + B i := fun i => by rw [hH, hH, hB]; simp [numBits]
  have hBb : ∀ i, 0 ≤ B i ∧ B i < 2 := fun i => by rw [hB]; have := bitAt_lt bs (a + i); omega
  have hHb : ∀ i, i < 64 → 0 ≤ H i ∧ H i < 9223372036854775808 := fun i hi => by
    rw [hH]
    have h1 := numBits_lt bs a i
    have h2 : 2 ^ i ≤ 2 ^ 63 := Nat.pow_le_pow_right (by omega) (by omega)
    omega
  refine Good.of Try.func24 rfl (by rfl) (by kernel_rfl) ?_
  cbv
  (repeat' (first
| (refine q1w (fun z hz => ?_); (try simp only at hz); cbv)
| (refine rqw ?_; cbv)
| (refine rq (show kfitQ _ _ from by simp [kfitQ, IntKind.min, IntKind.max, IntKind.signed, IntKind.bits]; omega) ?_; cbv)
| (refine chpA ?_; cbv)
| (refine QC.tw ?_; cbv)
| (refine QC.tt ?_ ?_; (focus (simp only [decide_true, Bool.and_true, Bool.and_self] <;> fail)); cbv)
| (refine QC.ff ?_ ?_; (focus (simp only [decide_true, Bool.and_true, Bool.and_self, decide_false, Bool.false_and, reduceCtorEq, not_false_eq_true] <;> fail)); cbv)
| (refine QC.fw ?_; cbv)
| (refine QC.mk (fun hc => ?_) (fun hc => ?_) <;> (try dsimp only at hc) <;> cbv)
| (refine br_mk2 (fun hb => ?_) (fun hb => ?_) <;> (try subst hb) <;> cbv)))
  (refine callq (hvc) rfl rfl ?_; cbv; (repeat' (first
| (refine q1w (fun z hz => ?_); (try simp only at hz); cbv)
| (refine rqw ?_; cbv)
| (refine rq (show kfitQ _ _ from by simp [kfitQ, IntKind.min, IntKind.max, IntKind.signed, IntKind.bits]; omega) ?_; cbv)
| (refine chpA ?_; cbv)
| (refine QC.tw ?_; cbv)
| (refine QC.tt ?_ ?_; (focus (simp only [decide_true, Bool.and_true, Bool.and_self] <;> fail)); cbv)
| (refine QC.ff ?_ ?_; (focus (simp only [decide_true, Bool.and_true, Bool.and_self, decide_false, Bool.false_and, reduceCtorEq, not_false_eq_true] <;> fail)); cbv)
| (refine QC.fw ?_; cbv)
| (refine QC.mk (fun hc => ?_) (fun hc => ?_) <;> (try dsimp only at hc) <;> cbv)
| (refine br_mk2 (fun hb => ?_) (fun hb => ?_) <;> (try subst hb) <;> cbv))))
  refine loopQ (A := Nat × Int × Int) (fun p => p.2.1 = p.1 ∧ p.1 ≤ n ∧ p.2.2 = H p.1) (fun p => n - p.1) (fun p => [(8, .int .u64 p.2.2), (9, .int .i64 p.2.1)]) (fun p => []) (0, 0, 0) ⟨rfl, Nat.zero_le _, by rw [hH]; rfl⟩ ?_ ?_
  · cbv
  · intro ⟨i, j, x⟩ h
    have hj : j = (i : Int) := h.1
    have hi : i ≤ n := h.2.1
    have hx : x = H i := h.2.2
    clear h
    have hs := hHs i
    have hb2 := hHb i
    have hb3 := hBb i
    have hI := hJ i
    have hbit := fun h : i < n => bit_c bs X (J i) (B i) (a + i) hX hI (by omega) hl (hB i)
    cbv
    (repeat' (first
| (refine q1w (fun z hz => ?_); (try simp only at hz); cbv)
| (refine rqw ?_; cbv)
| (refine rq (show kfitQ _ _ from by simp [kfitQ, IntKind.min, IntKind.max, IntKind.signed, IntKind.bits]; omega) ?_; cbv)
| (refine chpA ?_; cbv)
| (refine QC.tw ?_; cbv)
| (refine QC.tt ?_ ?_; (focus (simp only [decide_true, Bool.and_true, Bool.and_self] <;> fail)); cbv)
| (refine QC.ff ?_ ?_; (focus (simp only [decide_true, Bool.and_true, Bool.and_self, decide_false, Bool.false_and, reduceCtorEq, not_false_eq_true] <;> fail)); cbv)
| (refine QC.fw ?_; cbv)
| (refine QC.mk (fun hc => ?_) (fun hc => ?_) <;> (try dsimp only at hc) <;> cbv)
| (refine br_mk2 (fun hb => ?_) (fun hb => ?_) <;> (try subst hb) <;> cbv)))
    · have hlt : i < n := by (first | omega | (simp only [cst] at *; omega) | (simp only [sm] at *; omega))
      have hbit := hbit hlt
      have hb2 := hb2 (by omega)
      rename_i z2 h2
      have e : z = J i := by (first | omega | (simp only [cst] at *; omega) | (simp only [sm] at *; omega))
      rw [← e] at hbit
      clear hs
      (refine callq (hbit) rfl rfl ?_; cbv; (repeat' (first
| (refine q1w (fun z hz => ?_); (try simp only at hz); cbv)
| (refine rqw ?_; cbv)
| (refine rq (show kfitQ _ _ from by simp [kfitQ, IntKind.min, IntKind.max, IntKind.signed, IntKind.bits]; omega) ?_; cbv)
| (refine chpA ?_; cbv)
| (refine QC.tw ?_; cbv)
| (refine QC.tt ?_ ?_; (focus (simp only [decide_true, Bool.and_true, Bool.and_self] <;> fail)); cbv)
| (refine QC.ff ?_ ?_; (focus (simp only [decide_true, Bool.and_true, Bool.and_self, decide_false, Bool.false_and, reduceCtorEq, not_false_eq_true] <;> fail)); cbv)
| (refine QC.fw ?_; cbv)
| (refine QC.mk (fun hc => ?_) (fun hc => ?_) <;> (try dsimp only at hc) <;> cbv)
| (refine br_mk2 (fun hb => ?_) (fun hb => ?_) <;> (try subst hb) <;> cbv))))
      rename_i z5 h5
      refine ⟨(i + 1, z, z5), ⟨by (first | omega | (simp only [cst] at *; omega) | (simp only [sm] at *; omega)), by omega, ?_⟩, by (first | omega | (simp only [cst] at *; omega) | (simp only [sm] at *; omega)), ?_⟩
      · have e1 : (2 : Int) ^ Int.toNat 1 = 2 := rfl
        rw [e1] at h2
        show z5 = H (i + 1)
        rw [hHs i]
        omega
      · cbv
    · have e : i = n := by (first | omega | (simp only [cst] at *; omega) | (simp only [sm] at *; omega))
      refine ⟨?_, rfl, rfl⟩
      rw [hx, hr, e, hH]
end Go.Proofs.Ytapcbkcnokoljaa
