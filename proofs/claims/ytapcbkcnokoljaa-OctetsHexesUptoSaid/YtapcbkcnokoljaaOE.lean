/- Contracts of octets.ValidBits, octets.Bits and the like. -/
import Derived.Test.YtapcbkcnokoljaaOD
namespace Go.Proofs.Ytapcbkcnokoljaa
set_option linter.unusedVariables false
set_option linter.unusedSimpArgs false
open Go.RowKit
set_option maxHeartbeats 2000000
set_option linter.unusedSimpArgs false
theorem size_c (N r : Int) (n : Nat) (hN : N = n) (hn : n ≤ 9223372036854775807) (hr : r = ((n + 7) / 8 : Nat)) : Good 31 (pu [.int .i64 N] (.int .i64 r)) := by
  refine Good.of Try.func31 rfl (by rfl) (by kernel_rfl) ?_
  cbv
  (repeat' (first
| (refine q1w (fun z hz => ?_); (try simp only at hz); cbv)
| (refine rqw ?_; cbv)
| (refine QC.tw ?_; cbv)
| (refine QC.tt ?_ ?_; (focus (simp only [decide_true, Bool.and_true, Bool.and_self] <;> fail)); cbv)
| (refine QC.ff ?_ ?_; (focus (simp only [decide_true, Bool.and_true, Bool.and_self, decide_false, Bool.false_and, reduceCtorEq, not_false_eq_true] <;> fail)); cbv)
| (refine QC.fw ?_; cbv)
| (refine QC.mk (fun hc => ?_) (fun hc => ?_) <;> (try dsimp only at hc) <;> cbv)
| (refine br_mk2 (fun hb => ?_) (fun hb => ?_) <;> (try subst hb) <;> cbv)))
  all_goals refine ⟨?_, rfl, rfl⟩
  all_goals congr 1
  all_goals (first | omega | (simp only [cst] at *; omega) | (simp only [sm] at *; omega))
theorem and_low (x k : Nat) (hk : k ≤ 8) : x &&& (255 / 2 ^ k) = x % 2 ^ (8 - k) := by
  have h : 255 / 2 ^ k = 2 ^ (8 - k) - 1 := by
    have hk : k = 0 ∨ k = 1 ∨ k = 2 ∨ k = 3 ∨ k = 4 ∨ k = 5 ∨ k = 6 ∨ k = 7 ∨ k = 8 := by omega
    rcases hk with rfl | rfl | rfl | rfl | rfl | rfl | rfl | rfl | rfl <;> rfl
  rw [h, Nat.and_two_pow_sub_one_eq_mod]
theorem valid_c (bs : List UInt8) (X : List SV) (len : Int) (r : Bool) (hX : X = u8l bs) (hl : bs.length ≤ 140737488352000) (hlen : -9223372036854775808 ≤ len ∧ len ≤ 9223372036854775807) (hr : r = validB bs len) :
    Good 16 (pu [.agg [.lst none X, .int .i64 len]] (.bool r)) := by
  have hl : X.length = bs.length := by rw [hX, u8l_len]
  by_cases h0 : len < 0
  · refine Good.of Try.func16 rfl (by rfl) (by kernel_rfl) ?_
    cbv
    (repeat' (first
| (refine q1w (fun z hz => ?_); (try simp only at hz); cbv)
| (refine rqw ?_; cbv)
| (refine QC.tw ?_; cbv)
| (refine QC.tt ?_ ?_; (focus (simp only [decide_true, Bool.and_true, Bool.and_self] <;> fail)); cbv)
| (refine QC.ff ?_ ?_; (focus (simp only [decide_true, Bool.and_true, Bool.and_self, decide_false, Bool.false_and, reduceCtorEq, not_false_eq_true] <;> fail)); cbv)
| (refine QC.fw ?_; cbv)
| (refine QC.mk (fun hc => ?_) (fun hc => ?_) <;> (try dsimp only at hc) <;> cbv)
| (refine br_mk2 (fun hb => ?_) (fun hb => ?_) <;> (try subst hb) <;> cbv)))
    refine ⟨?_, rfl, rfl⟩
    rw [hr]
    simp [validB, show ¬ 0 ≤ len by omega]
  · have hs := size_c len (((len.toNat + 7) / 8 : Nat) : Int) len.toNat (by omega) (by omega) rfl
    obtain ⟨z, hz⟩ : ∃ z : Int, z = (((len.toNat + 7) / 8 : Nat) : Int) := ⟨_, rfl⟩
    rw [← hz] at hs
    refine Good.of Try.func16 rfl (by rfl) (by kernel_rfl) ?_
    cbv
    (repeat' (first
| (refine q1w (fun z hz => ?_); (try simp only at hz); cbv)
| (refine rqw ?_; cbv)
| (refine QC.tw ?_; cbv)
| (refine QC.tt ?_ ?_; (focus (simp only [decide_true, Bool.and_true, Bool.and_self] <;> fail)); cbv)
| (refine QC.ff ?_ ?_; (focus (simp only [decide_true, Bool.and_true, Bool.and_self, decide_false, Bool.false_and, reduceCtorEq, not_false_eq_true] <;> fail)); cbv)
| (refine QC.fw ?_; cbv)
| (refine QC.mk (fun hc => ?_) (fun hc => ?_) <;> (try dsimp only at hc) <;> cbv)
| (refine br_mk2 (fun hb => ?_) (fun hb => ?_) <;> (try subst hb) <;> cbv)))
    (refine callq (hs) rfl rfl ?_; cbv; (repeat' (first
| (refine q1w (fun z hz => ?_); (try simp only at hz); cbv)
| (refine rqw ?_; cbv)
| (refine QC.tw ?_; cbv)
| (refine QC.tt ?_ ?_; (focus (simp only [decide_true, Bool.and_true, Bool.and_self] <;> fail)); cbv)
| (refine QC.ff ?_ ?_; (focus (simp only [decide_true, Bool.and_true, Bool.and_self, decide_false, Bool.false_and, reduceCtorEq, not_false_eq_true] <;> fail)); cbv)
| (refine QC.fw ?_; cbv)
| (refine QC.mk (fun hc => ?_) (fun hc => ?_) <;> (try dsimp only at hc) <;> cbv)
| (refine br_mk2 (fun hb => ?_) (fun hb => ?_) <;> (try subst hb) <;> cbv))))
    · refine ⟨?_, rfl, rfl⟩
      rename_i hz2 _
      have e : ¬ bs.length = (len.toNat + 7) / 8 := by (first | omega | (simp only [cst] at *; omega) | (simp only [sm] at *; omega))
      rw [hr]
      simp [validB, e]
    · refine ⟨?_, rfl, rfl⟩
      have e : bs.length = (len.toNat + 7) / 8 := by (first | omega | (simp only [cst] at *; omega) | (simp only [sm] at *; omega))
      have e2 : len.toNat % 8 = 0 := by (first | omega | (simp only [cst] at *; omega) | (simp only [sm] at *; omega))
      rw [hr]
      simp [validB, restB, show 0 ≤ len by omega, e, e2]
    · have e : bs.length = (len.toNat + 7) / 8 := by (first | omega | (simp only [cst] at *; omega) | (simp only [sm] at *; omega))
      have e2 : ¬ len.toNat % 8 = 0 := by (first | omega | (simp only [cst] at *; omega) | (simp only [sm] at *; omega))
      have hel := u8l_at (l := bs) (bs.length - 1) (by omega)
      rw [← hX] at hel
      have hyl := (bs.getD (bs.length - 1) 0).toNat_lt
      have hr2 : r = decide ((bs.getD (bs.length - 1) 0).toNat % 2 ^ (8 - len.toNat % 8) = 0) := by
        rw [hr]
        simp only [validB, restB, show 0 ≤ len by omega, e, e2, decide_true, Bool.true_and, false_or]
      generalize (bs.getD (bs.length - 1) 0).toNat = y at hel hyl hr2
      obtain ⟨Y, hY⟩ : ∃ Y : Int, Y = y := ⟨_, rfl⟩
      rw [← hY] at hel
      refine qv (bs.length - 1, .int .u8 Y) ⟨by simp only [cst]; (first | omega | (simp only [cst] at *; omega) | (simp only [sm] at *; omega)), hel⟩ ?_
      cbv
      (repeat' (first
| (refine q1w (fun z hz => ?_); (try simp only at hz); cbv)
| (refine rqw ?_; cbv)
| (refine QC.tw ?_; cbv)
| (refine QC.tt ?_ ?_; (focus (simp only [decide_true, Bool.and_true, Bool.and_self] <;> fail)); cbv)
| (refine QC.ff ?_ ?_; (focus (simp only [decide_true, Bool.and_true, Bool.and_self, decide_false, Bool.false_and, reduceCtorEq, not_false_eq_true] <;> fail)); cbv)
| (refine QC.fw ?_; cbv)
| (refine QC.mk (fun hc => ?_) (fun hc => ?_) <;> (try dsimp only at hc) <;> cbv)
| (refine br_mk2 (fun hb => ?_) (fun hb => ?_) <;> (try subst hb) <;> cbv)))
      rename_i z4 hz4 _ _ _ _
      have ek : z4.toNat = len.toNat % 8 := by (first | omega | (simp only [cst] at *; omega) | (simp only [sm] at *; omega))
      have ez : z = ((255 / 2 ^ (len.toNat % 8) : Nat) : Int) := by
        rw [hz, ek]; simp
      have ez2 := Nat.div_le_self 255 (2 ^ (len.toNat % 8))
      have ean := and_low y (len.toNat % 8) (by omega)
      generalize 255 / 2 ^ (len.toNat % 8) = m at ez ez2 ean
      refine q1 (by (first | omega | (simp only [cst] at *; omega) | (simp only [sm] at *; omega))) (fun z9 hz9 => ?_)
      have e9 : z9 = ((y % 2 ^ (8 - len.toNat % 8) : Nat) : Int) := by
        rw [hz9, show Y.toNat = y by (first | omega | (simp only [cst] at *; omega) | (simp only [sm] at *; omega)), show z.toNat = m by (first | omega | (simp only [cst] at *; omega) | (simp only [sm] at *; omega)), ean]
      generalize y % 2 ^ (8 - len.toNat % 8) = t at e9 hr2
      cbv
      (repeat' (first
| (refine q1w (fun z hz => ?_); (try simp only at hz); cbv)
| (refine rqw ?_; cbv)
| (refine QC.tw ?_; cbv)
| (refine QC.tt ?_ ?_; (focus (simp only [decide_true, Bool.and_true, Bool.and_self] <;> fail)); cbv)
| (refine QC.ff ?_ ?_; (focus (simp only [decide_true, Bool.and_true, Bool.and_self, decide_false, Bool.false_and, reduceCtorEq, not_false_eq_true] <;> fail)); cbv)
| (refine QC.fw ?_; cbv)
| (refine QC.mk (fun hc => ?_) (fun hc => ?_) <;> (try dsimp only at hc) <;> cbv)
| (refine br_mk2 (fun hb => ?_) (fun hb => ?_) <;> (try subst hb) <;> cbv)))
      · refine ⟨?_, rfl, rfl⟩
        rw [hr2, decide_eq_true (by (first | omega | (simp only [cst] at *; omega) | (simp only [sm] at *; omega)))]
      · refine ⟨?_, rfl, rfl⟩
        rw [hr2, decide_eq_false (by (first | omega | (simp only [cst] at *; omega) | (simp only [sm] at *; omega)))]

theorem bitsG (bs : List UInt8) (X : List SV) (hX : X = u8l bs) (a n : Nat) (h : a + n ≤ 8 * bs.length) (hn : n ≤ 64) : ∃ H Y : Nat → Int, H 0 = 0 ∧ (∀ i, 0 ≤ H i ∧ (i < 64 → H i < 9223372036854775808)) ∧ (∀ i, 0 ≤ Y i ∧ Y i < 256) ∧ H n = numBits bs a n ∧
    (∀ i, i < n → H i * 2 + ((Y i).toNat / 2 ^ (7 - (a + i) % 8) % 2 : Nat) = H (i + 1)) ∧ (∀ i, i < n → X[(a + i) / 8]? = some (.int .u8 (Y i))) := by
  refine ⟨fun i => (numBits bs a i : Int), fun i => ((bs.getD ((a + i) / 8) 0).toNat : Int), rfl, ?_, ?_, rfl, ?_, ?_⟩
  · intro i
    refine ⟨by dsimp only; omega, fun hi => ?_⟩
    have h1 := numBits_lt bs a i
    have h2 : 2 ^ i ≤ 2 ^ 63 := Nat.pow_le_pow_right (by omega) (by omega)
    dsimp only
    omega
  · intro i; have := (bs.getD ((a + i) / 8) 0).toNat_lt; dsimp only; omega
  · intro i hi
    simp only [numBits, bitAt, Int.toNat_natCast]
    omega
  · intro i hi
    rw [hX, u8l_at _ (by omega)]
theorem or_b (x y a b z : Int) (hx : 0 ≤ x ∧ x < 9223372036854775808) (hy : 0 ≤ y ∧ y < 2) (ha : a = x * 2 ^ Int.toNat 1 % 18446744073709551616) (hb : b = y % 18446744073709551616) (hz : z = ((a.toNat ||| b.toNat : Nat) : Int)) : z = x * 2 + y := by
  have e1 : (2 : Int) ^ Int.toNat 1 = 2 := rfl
  rw [e1] at ha
  have e2 : a.toNat = x.toNat * 2 := by omega
  have e3 : b = y := by omega
  rw [hz, e2, e3, or_bit _ _ (by omega)]
  omega
theorem bits_yes (bs : List UInt8) (X : List SV) (len A N r : Int) (a n : Nat) (hX : X = u8l bs) (hl : bs.length ≤ 140737488352000) (hlen : -9223372036854775808 ≤ len ∧ len ≤ 9223372036854775807)
    (hv : validB bs len = true) (hA : A = a) (hN : N = n) (h1 : 1 ≤ n) (hn : n ≤ 64) (hb : A + N ≤ len) (hr : r = numBits bs a n) :
    Good 17 (pu [.agg [.lst none X, .int .i64 len], .int .i64 A, .int .i64 N] (.tup [.int .u64 r, .bool true])) := by
  have hvc := valid_c bs X len true hX hl hlen hv.symm
  have h8 : a + n ≤ 8 * bs.length := by
    simp only [validB, Bool.and_eq_true, decide_eq_true_eq] at hv
    omega
  obtain ⟨H, Y, H0, Hb, HY, Hn, Hs, Hy⟩ := bitsG bs X hX a n h8 hn
  refine Good.of Try.func17 rfl (by rfl) (by kernel_rfl) ?_
  cbv
  (repeat' (first
| (refine q1w (fun z hz => ?_); (try simp only at hz); cbv)
| (refine rqw ?_; cbv)
| (refine QC.tw ?_; cbv)
| (refine QC.tt ?_ ?_; (focus (simp only [decide_true, Bool.and_true, Bool.and_self] <;> fail)); cbv)
| (refine QC.ff ?_ ?_; (focus (simp only [decide_true, Bool.and_true, Bool.and_self, decide_false, Bool.false_and, reduceCtorEq, not_false_eq_true] <;> fail)); cbv)
| (refine QC.fw ?_; cbv)
| (refine QC.mk (fun hc => ?_) (fun hc => ?_) <;> (try dsimp only at hc) <;> cbv)
| (refine br_mk2 (fun hb => ?_) (fun hb => ?_) <;> (try subst hb) <;> cbv)))
  (refine callq (hvc) rfl rfl ?_; cbv; (repeat' (first
| (refine q1w (fun z hz => ?_); (try simp only at hz); cbv)
| (refine rqw ?_; cbv)
| (refine QC.tw ?_; cbv)
| (refine QC.tt ?_ ?_; (focus (simp only [decide_true, Bool.and_true, Bool.and_self] <;> fail)); cbv)
| (refine QC.ff ?_ ?_; (focus (simp only [decide_true, Bool.and_true, Bool.and_self, decide_false, Bool.false_and, reduceCtorEq, not_false_eq_true] <;> fail)); cbv)
| (refine QC.fw ?_; cbv)
| (refine QC.mk (fun hc => ?_) (fun hc => ?_) <;> (try dsimp only at hc) <;> cbv)
| (refine br_mk2 (fun hb => ?_) (fun hb => ?_) <;> (try subst hb) <;> cbv))))
  refine loopQ (A := Nat × Int × Int) (fun p => p.2.1 = p.1 ∧ p.1 ≤ n ∧ p.2.2 = H p.1) (fun p => n - p.1) (fun p => [(8, .int .u64 p.2.2), (35, .int .i64 p.2.1)]) (fun p => []) (0, 0, 0) ⟨rfl, Nat.zero_le _, H0.symm⟩ ?_ ?_
  · cbv
  · intro ⟨i, j, x⟩ h
    have hj : j = (i : Int) := h.1
    have hi : i ≤ n := h.2.1
    have hx : x = H i := h.2.2
    clear h
    have hb1 := Hb i
    have hy1 := HY i
    cbv
    (repeat' (first
| (refine q1w (fun z hz => ?_); (try simp only at hz); cbv)
| (refine rqw ?_; cbv)
| (refine QC.tw ?_; cbv)
| (refine QC.tt ?_ ?_; (focus (simp only [decide_true, Bool.and_true, Bool.and_self] <;> fail)); cbv)
| (refine QC.ff ?_ ?_; (focus (simp only [decide_true, Bool.and_true, Bool.and_self, decide_false, Bool.false_and, reduceCtorEq, not_false_eq_true] <;> fail)); cbv)
| (refine QC.fw ?_; cbv)
| (refine QC.mk (fun hc => ?_) (fun hc => ?_) <;> (try dsimp only at hc) <;> cbv)
| (refine br_mk2 (fun hb => ?_) (fun hb => ?_) <;> (try subst hb) <;> cbv)))
    · have hjm : i < n := by (first | omega | (simp only [cst] at *; omega) | (simp only [sm] at *; omega))
      have hs := Hs i hjm
      have hb2 := hb1.2 (by omega)
      have hy2 := Hy i hjm
      generalize Y i = y at hy1 hs hy2
      obtain ⟨q, hq⟩ : ∃ q, q = (a + i) / 8 := ⟨_, rfl⟩
      rw [← hq] at hy2
      refine qv (q, .int .u8 y) ⟨by show _ = ((q : Nat) : Int); (first | omega | (simp only [cst] at *; omega) | (simp only [sm] at *; omega)), hy2⟩ ?_
      cbv
      (repeat' (first
| (refine q1w (fun z hz => ?_); (try simp only at hz); cbv)
| (refine rqw ?_; cbv)
| (refine QC.tw ?_; cbv)
| (refine QC.tt ?_ ?_; (focus (simp only [decide_true, Bool.and_true, Bool.and_self] <;> fail)); cbv)
| (refine QC.ff ?_ ?_; (focus (simp only [decide_true, Bool.and_true, Bool.and_self, decide_false, Bool.false_and, reduceCtorEq, not_false_eq_true] <;> fail)); cbv)
| (refine QC.fw ?_; cbv)
| (refine QC.mk (fun hc => ?_) (fun hc => ?_) <;> (try dsimp only at hc) <;> cbv)
| (refine br_mk2 (fun hb => ?_) (fun hb => ?_) <;> (try subst hb) <;> cbv)))
      rename_i z1 h1 z2 h2 z3 h3
      have ek : z3.toNat = 7 - (a + i) % 8 := by (first | omega | (simp only [cst] at *; omega) | (simp only [sm] at *; omega))
      have ez : z = ((y.toNat / 2 ^ (7 - (a + i) % 8) : Nat) : Int) := by
        rw [hz, ek]
        obtain ⟨m, rfl⟩ := Int.eq_ofNat_of_zero_le hy1.1
        simp
      have ez2 := Nat.div_le_self y.toNat (2 ^ (7 - (a + i) % 8))
      generalize y.toNat / 2 ^ (7 - (a + i) % 8) = m at ez ez2 hs
      refine q1 (by (first | omega | (simp only [cst] at *; omega) | (simp only [sm] at *; omega))) (fun z9 hz9 => ?_)
      have e9 : z9 = ((m % 2 : Nat) : Int) := by
        rw [hz9, show z.toNat = m by (first | omega | (simp only [cst] at *; omega) | (simp only [sm] at *; omega)), show Int.toNat 1 = 1 from rfl, Nat.and_one_is_mod]
      have ht : m % 2 < 2 := by omega
      generalize m % 2 = t at e9 hs ht
      cbv
      (repeat' (first
| (refine q1w (fun z hz => ?_); (try simp only at hz); cbv)
| (refine rqw ?_; cbv)
| (refine QC.tw ?_; cbv)
| (refine QC.tt ?_ ?_; (focus (simp only [decide_true, Bool.and_true, Bool.and_self] <;> fail)); cbv)
| (refine QC.ff ?_ ?_; (focus (simp only [decide_true, Bool.and_true, Bool.and_self, decide_false, Bool.false_and, reduceCtorEq, not_false_eq_true] <;> fail)); cbv)
| (refine QC.fw ?_; cbv)
| (refine QC.mk (fun hc => ?_) (fun hc => ?_) <;> (try dsimp only at hc) <;> cbv)
| (refine br_mk2 (fun hb => ?_) (fun hb => ?_) <;> (try subst hb) <;> cbv)))
      rename_i z5 h5 z6 h6 z7 h7
      have e := or_b x z9 z5 z6 z7 (by (first | omega | (simp only [cst] at *; omega) | (simp only [sm] at *; omega))) (by (first | omega | (simp only [cst] at *; omega) | (simp only [sm] at *; omega))) h5 h6 h7
      refine ⟨(i + 1, z, z7), ⟨by (first | omega | (simp only [cst] at *; omega) | (simp only [sm] at *; omega)), by omega, by (first | omega | (simp only [cst] at *; omega) | (simp only [sm] at *; omega))⟩, by (first | omega | (simp only [cst] at *; omega) | (simp only [sm] at *; omega)), ?_⟩
      cbv
    · have e : i = n := by (first | omega | (simp only [cst] at *; omega) | (simp only [sm] at *; omega))
      refine ⟨?_, rfl, rfl⟩
      rw [hx, hr, e, Hn]
end Go.Proofs.Ytapcbkcnokoljaa
