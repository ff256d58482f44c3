/- Texts put together: QB QD QE. -/
import Derived.Test.YtgfpjhddojhfpaaGreatZ04
import Derived.Test.YtgfpjhddojhfpaaGreatZ12
import Derived.Test.YtgfpjhddojhfpaaGreatZ13
namespace Go.Proofs.YtgfpjhddojhfpaaGreat
set_option linter.unusedVariables false
set_option linter.unusedSimpArgs false
open Go.RowKit
set_option maxHeartbeats 4000000
set_option linter.unusedSimpArgs false
set_option linter.unusedVariables false
theorem or_bit (a b : Nat) (hb : b < 2) : (2 * a) ||| b = 2 * a + b := (Nat.two_pow_add_eq_or_of_lt (i := 1) hb a).symm
theorem qadd (h c n b h' c' : Int) (hh : 0 ≤ h ∧ h ≤ 255) (hc : 0 ≤ c ∧ c ≤ 8) (hb : b = 0 ∨ b = 1) (hh' : h' = 2 * h % 256 + b) (hc' : (c < 8 → c' = c + 1) ∧ (c = 8 → c' = 8)) : Good 64 (pu [qS h c n, .int .u8 b] (qS h' c' n)) := by
  have p1 : (2 : Int) ^ Int.toNat 1 = 2 := rfl
  refine Good.of Tryz.func64 rfl (by rfl) (by kernel_rfl) ?_
  cbv
  (repeat' (first
| (refine q1w (fun z hz => ?_); (try simp only at hz); cbv)
| (refine rqw ?_; cbv)
| (refine rqk ?_; cbv)
| (refine chpA ?_; cbv)
| (refine QC.tw ?_; cbv)
| (refine QC.t3 ?_; cbv)
| (refine QC.f3 ?_; cbv)
| (refine QC.fw ?_; cbv)
| (refine QC.mk (fun hc => ?_) (fun hc => ?_) <;> (try dsimp only at hc) <;> cbv)
| (refine br_mk2 (fun hb => ?_) (fun hb => ?_) <;> (try subst hb) <;> cbv)))
  rename_i z1 h1 z2 h2 z3 h3
  rw [p1] at h1
  have e1 : z1 = 2 * (h % 128) := by omega
  obtain ⟨a, ha⟩ : ∃ a : Nat, h % 128 = (a : Int) := Int.eq_ofNat_of_zero_le (by omega)
  obtain ⟨b', hb'⟩ : ∃ a : Nat, b = (a : Int) := Int.eq_ofNat_of_zero_le (by omega)
  have e2 : z2 = h' := by
    rw [h2, show z1.toNat = 2 * a by omega, show b.toNat = b' by omega, or_bit a b' (by omega)]
    show ((2 * a + b' : Nat) : Int) = h'
    rw [Int.natCast_add, Int.natCast_mul]
    omega
  have e3 : z = c' := by omega
  rw [e2, e3]
  exact ⟨rfl, rfl, rfl⟩
theorem qMissed (h c n h' c' n' : Int) (hc : 1 ≤ c ∧ c ≤ 8) (hh : 1 ≤ h ∧ h < 2 ^ c.toNat) (h255 : h ≤ 255) (hh' : h' = 2 * h % 256) (h0 : h' ≠ 0) (hc' : (c < 8 → c' = c + 1) ∧ (c = 8 → c' = 8)) (hn : 0 ≤ n ∧ n ≤ 65535) (hn' : n' = (n + 1) % 65536) : Good 23 (pu [qS h c n] (qS h' c' n')) := by
  have g1 := qvalid h c n hc hh
  have g2 := qadd h c n 0 h' c' (by omega) (by omega) (by omega) (by omega) hc'
  clear hh
  refine Good.of Tryz.func23 rfl (by rfl) (by kernel_rfl) ?_
  cbv
  (repeat' (first
| (refine q1w (fun z hz => ?_); (try simp only at hz); cbv)
| (refine rqw ?_; cbv)
| (refine rqk ?_; cbv)
| (refine chpA ?_; cbv)
| (refine QC.tw ?_; cbv)
| (refine QC.t3 ?_; cbv)
| (refine QC.f3 ?_; cbv)
| (refine QC.fw ?_; cbv)
| (refine QC.mk (fun hc => ?_) (fun hc => ?_) <;> (try dsimp only at hc) <;> cbv)
| (refine br_mk2 (fun hb => ?_) (fun hb => ?_) <;> (try subst hb) <;> cbv)
| (refine callq (g1) rfl rfl ?_; cbv)
| (refine callq (g2) rfl rfl ?_; cbv)))
  have e : z = n' := by omega
  rw [e]
  exact ⟨rfl, rfl, rfl⟩
theorem qMissed0 (h c n c' : Int) (hc : 1 ≤ c ∧ c ≤ 8) (hh : 1 ≤ h ∧ h < 2 ^ c.toNat) (h255 : h ≤ 255) (hh' : 2 * h % 256 = 0) (hc' : (c < 8 → c' = c + 1) ∧ (c = 8 → c' = 8)) (hn : 0 ≤ n ∧ n ≤ 65535) : Good 23 (pu [qS h c n] qZ) := by
  have g1 := qvalid h c n hc hh
  have g2 := qadd h c n 0 0 c' (by omega) (by omega) (by omega) (by omega) hc'
  clear hh
  refine Good.of Tryz.func23 rfl (by rfl) (by kernel_rfl) ?_
  cbv
  (repeat' (first
| (refine q1w (fun z hz => ?_); (try simp only at hz); cbv)
| (refine rqw ?_; cbv)
| (refine rqk ?_; cbv)
| (refine chpA ?_; cbv)
| (refine QC.tw ?_; cbv)
| (refine QC.t3 ?_; cbv)
| (refine QC.f3 ?_; cbv)
| (refine QC.fw ?_; cbv)
| (refine QC.mk (fun hc => ?_) (fun hc => ?_) <;> (try dsimp only at hc) <;> cbv)
| (refine br_mk2 (fun hb => ?_) (fun hb => ?_) <;> (try subst hb) <;> cbv)
| (refine callq (g1) rfl rfl ?_; cbv)
| (refine callq (g2) rfl rfl ?_; cbv)))
  exact ⟨rfl, rfl, rfl⟩
theorem qHelloZ (s n' : Int) (hs : 0 ≤ s ∧ s ≤ 65535) (hn' : n' = (s + 1) % 65536) : Good 25 (pu [qZ, .int .u16 s] (qS 1 1 n')) := by
  have g1 := qvalidZ
  refine Good.of Tryz.func25 rfl (by rfl) (by kernel_rfl) ?_
  cbv
  (repeat' (first
| (refine q1w (fun z hz => ?_); (try simp only at hz); cbv)
| (refine rqw ?_; cbv)
| (refine rqk ?_; cbv)
| (refine chpA ?_; cbv)
| (refine QC.tw ?_; cbv)
| (refine QC.t3 ?_; cbv)
| (refine QC.f3 ?_; cbv)
| (refine QC.fw ?_; cbv)
| (refine QC.mk (fun hc => ?_) (fun hc => ?_) <;> (try dsimp only at hc) <;> cbv)
| (refine br_mk2 (fun hb => ?_) (fun hb => ?_) <;> (try subst hb) <;> cbv)
| (refine callq (g1) rfl rfl ?_; cbv)))
  have e : z = n' := by omega
  rw [e]
  exact ⟨rfl, rfl, rfl⟩
theorem qHello (h c s h' c' n' : Int) (hc : 1 ≤ c ∧ c ≤ 8) (hh : 1 ≤ h ∧ h < 2 ^ c.toNat) (h255 : h ≤ 255) (hh' : h' = 2 * h % 256 + 1) (hc' : (c < 8 → c' = c + 1) ∧ (c = 8 → c' = 8)) (hs : 0 ≤ s ∧ s ≤ 65535) (hn' : n' = (s + 1) % 65536) : Good 25 (pu [qS h c s, .int .u16 s] (qS h' c' n')) := by
  have g1 := qvalid h c s hc hh
  have g2 := qadd h c s 1 h' c' (by omega) (by omega) (by omega) (by omega) hc'
  clear hh
  refine Good.of Tryz.func25 rfl (by rfl) (by kernel_rfl) ?_
  cbv
  (repeat' (first
| (refine q1w (fun z hz => ?_); (try simp only at hz); cbv)
| (refine rqw ?_; cbv)
| (refine rqk ?_; cbv)
| (refine chpA ?_; cbv)
| (refine QC.tw ?_; cbv)
| (refine QC.t3 ?_; cbv)
| (refine QC.f3 ?_; cbv)
| (refine QC.fw ?_; cbv)
| (refine QC.mk (fun hc => ?_) (fun hc => ?_) <;> (try dsimp only at hc) <;> cbv)
| (refine br_mk2 (fun hb => ?_) (fun hb => ?_) <;> (try subst hb) <;> cbv)
| (refine callq (g1) rfl rfl ?_; cbv)
| (refine callq (g2) rfl rfl ?_; cbv)))
  refine unrollq 2 ?_
  cbv
  (repeat' (first
| (refine q1w (fun z hz => ?_); (try simp only at hz); cbv)
| (refine rqw ?_; cbv)
| (refine rqk ?_; cbv)
| (refine chpA ?_; cbv)
| (refine QC.tw ?_; cbv)
| (refine QC.t3 ?_; cbv)
| (refine QC.f3 ?_; cbv)
| (refine QC.fw ?_; cbv)
| (refine QC.mk (fun hc => ?_) (fun hc => ?_) <;> (try dsimp only at hc) <;> cbv)
| (refine br_mk2 (fun hb => ?_) (fun hb => ?_) <;> (try subst hb) <;> cbv)
| (refine callq (g1) rfl rfl ?_; cbv)
| (refine callq (g2) rfl rfl ?_; cbv)))
  have e : z = n' := by omega
  rw [e]
  exact ⟨rfl, rfl, rfl⟩
def pcI (h : Int) : Int := h % 2 + h / 2 % 2 + h / 4 % 2 + h / 8 % 2 + h / 16 % 2 + h / 32 % 2 + h / 64 % 2 + h / 128 % 2
theorem pcI_pos (h : Int) (hh : 1 ≤ h ∧ h ≤ 255) : 1 ≤ pcI h := by
  have e2 : h / 4 = h / 2 / 2 := by omega
  have e3 : h / 8 = h / 2 / 2 / 2 := by omega
  have e4 : h / 16 = h / 2 / 2 / 2 / 2 := by omega
  have e5 : h / 32 = h / 2 / 2 / 2 / 2 / 2 := by omega
  have e6 : h / 64 = h / 2 / 2 / 2 / 2 / 2 / 2 := by omega
  have e7 : h / 128 = h / 2 / 2 / 2 / 2 / 2 / 2 / 2 := by omega
  unfold pcI
  rw [e2, e3, e4, e5, e6, e7]
  obtain ⟨a1, h1⟩ : ∃ y, y = h / 2 := ⟨_, rfl⟩
  rw [← h1]
  obtain ⟨a2, h2⟩ : ∃ y, y = a1 / 2 := ⟨_, rfl⟩
  rw [← h2]
  obtain ⟨a3, h3⟩ : ∃ y, y = a2 / 2 := ⟨_, rfl⟩
  rw [← h3]
  obtain ⟨a4, h4⟩ : ∃ y, y = a3 / 2 := ⟨_, rfl⟩
  rw [← h4]
  obtain ⟨a5, h5⟩ : ∃ y, y = a4 / 2 := ⟨_, rfl⟩
  rw [← h5]
  obtain ⟨a6, h6⟩ : ∃ y, y = a5 / 2 := ⟨_, rfl⟩
  rw [← h6]
  obtain ⟨a7, h7⟩ : ∃ y, y = a6 / 2 := ⟨_, rfl⟩
  rw [← h7]
  clear e2 e3 e4 e5 e6 e7
  omega
theorem qRxZ : Good 26 (pu [qZ] (.int .i64 65535)) := by
  have g1 := qvalidZ
  refine Good.of Tryz.func26 rfl (by rfl) (by kernel_rfl) ?_
  cbv
  (repeat' (first
| (refine q1w (fun z hz => ?_); (try simp only at hz); cbv)
| (refine rqw ?_; cbv)
| (refine rqk ?_; cbv)
| (refine chpA ?_; cbv)
| (refine QC.tw ?_; cbv)
| (refine QC.t3 ?_; cbv)
| (refine QC.f3 ?_; cbv)
| (refine QC.fw ?_; cbv)
| (refine QC.mk (fun hc => ?_) (fun hc => ?_) <;> (try dsimp only at hc) <;> cbv)
| (refine br_mk2 (fun hb => ?_) (fun hb => ?_) <;> (try subst hb) <;> cbv)
| (refine callq (g1) rfl rfl ?_; cbv)))
  exact ⟨rfl, rfl, rfl⟩
theorem qratio (a b r : Int) (ha : 0 ≤ a ∧ a ≤ 100000) (hb : 1 ≤ b ∧ b ≤ 100000) (hr : r = (a + b - 1) / b) : Good 66 (pu [.int .i64 a, .int .i64 b] (.int .i64 r)) := by
  refine Good.of Tryz.func66 rfl (by rfl) (by kernel_rfl) ?_
  cbv
  (repeat' (first
| (refine q1w (fun z hz => ?_); (try simp only at hz); cbv)
| (refine rqw ?_; cbv)
| (refine rqk ?_; cbv)
| (refine chpA ?_; cbv)
| (refine QC.tw ?_; cbv)
| (refine QC.t3 ?_; cbv)
| (refine QC.f3 ?_; cbv)
| (refine QC.fw ?_; cbv)
| (refine QC.mk (fun hc => ?_) (fun hc => ?_) <;> (try dsimp only at hc) <;> cbv)
| (refine br_mk2 (fun hb => ?_) (fun hb => ?_) <;> (try subst hb) <;> cbv)))
  rename_i z1 h1 z2 h2
  have e := hz.1 (by omega)
  have e2 : z2 = a + b - 1 := by omega
  rw [e, e2, ← hr]
  exact ⟨rfl, rfl, rfl⟩
def pcN (h : Int) : Nat → Int
  | 0 => 0
  | i + 1 => pcN h i + h / 2 ^ i % 2
theorem pcN8 (h : Int) : pcN h 8 = pcI h := by
  unfold pcI
  simp [pcN]
theorem pcN_le (h : Int) : ∀ i : Nat, 0 ≤ pcN h i ∧ pcN h i ≤ i
  | 0 => by simp [pcN]
  | i + 1 => by
    have := pcN_le h i
    have h1 := Int.emod_nonneg (h / 2 ^ i) (show (2 : Int) ≠ 0 by omega)
    have h2 := Int.emod_lt_of_pos (h / 2 ^ i) (show (0 : Int) < 2 by omega)
    rw [pcN]
    omega
theorem pcF (h : Int) (hh : 0 ≤ h ∧ h ≤ 255) : ∃ P : Nat → Int, P 0 = 0 ∧ P 8 = pcI h ∧ (∀ i : Nat, 0 ≤ P i ∧ P i ≤ i) ∧ (∀ (i : Nat) (z : Int), z = h / 2 ^ i → 0 ≤ z ∧ z ≤ 255) ∧ ∀ (i : Nat) (z y : Int), z = h / 2 ^ i → y = ((z.toNat &&& Int.toNat 1 : Nat) : Int) → P (i + 1) = P i + y ∧ 0 ≤ y ∧ y ≤ 1 := by
  have hz : ∀ (i : Nat) (z : Int), z = h / 2 ^ i → 0 ≤ z ∧ z ≤ 255 := by
    intro i z hz
    have hp : (0 : Int) < 2 ^ i := Int.pow_pos (by omega)
    have h1 : 0 ≤ h / 2 ^ i := Int.ediv_nonneg hh.1 (by omega)
    have h2 : h / 2 ^ i ≤ h := Int.ediv_le_self _ hh.1
    omega
  refine ⟨pcN h, rfl, pcN8 h, pcN_le h, hz, fun i z y h1 h2 => ?_⟩
  have h0 := hz i z h1
  have e : y = z % 2 := by
    rw [h2, show Int.toNat 1 = 1 from rfl, Nat.and_one_is_mod]
    omega
  have h3 : pcN h (i + 1) = pcN h i + h / 2 ^ i % 2 := rfl
  rw [h3, ← h1, e]
  omega
theorem qRx (h c n r : Int) (hc : 1 ≤ c ∧ c ≤ 8) (hh : 1 ≤ h ∧ h < 2 ^ c.toNat) (h255 : h ≤ 255) (hr : r = (256 * c + pcI h - 1) / pcI h) : Good 26 (pu [qS h c n] (.int .i64 r)) := by
  have g1 := qvalid h c n hc hh
  obtain ⟨P, P0, P8, hP, hzb, hPs⟩ := pcF h ⟨by omega, h255⟩
  have hp8 := pcI_pos h ⟨hh.1, h255⟩
  clear hh
  refine Good.of Tryz.func26 rfl (by rfl) (by kernel_rfl) ?_
  cbv
  (repeat' (first
| (refine q1w (fun z hz => ?_); (try simp only at hz); cbv)
| (refine rqw ?_; cbv)
| (refine rqk ?_; cbv)
| (refine chpA ?_; cbv)
| (refine QC.tw ?_; cbv)
| (refine QC.t3 ?_; cbv)
| (refine QC.f3 ?_; cbv)
| (refine QC.fw ?_; cbv)
| (refine QC.mk (fun hc => ?_) (fun hc => ?_) <;> (try dsimp only at hc) <;> cbv)
| (refine br_mk2 (fun hb => ?_) (fun hb => ?_) <;> (try subst hb) <;> cbv)
| (refine callq (g1) rfl rfl ?_; cbv)))
  refine loopQ (A := Nat × Int) (fun p => p.2 = p.1 ∧ p.1 ≤ 8) (fun p => 8 - p.1) (fun p => [(10, .int .i64 p.2), (3, .int .i64 (P p.1))]) (fun p => []) (0, 0) ⟨rfl, by omega⟩ ?_ ?_
  · cbv
    refine ⟨⟨?_, trivial⟩, trivial⟩
    show SV.int .i64 0 = SV.int .i64 (P 0)
    rw [P0]
  · intro ⟨i, j⟩ hh
    have hj : j = (i : Int) := hh.1
    have hi : i ≤ 8 := hh.2
    clear hh
    have hPi := hP i
    have hzi := hzb i
    have hsi := hPs i
    have hjn : j.toNat = i := by omega
    cbv
    (repeat' (first
| (refine q1w (fun z hz => ?_); (try simp only at hz); cbv)
| (refine rqw ?_; cbv)
| (refine rqk ?_; cbv)
| (refine chpA ?_; cbv)
| (refine QC.tw ?_; cbv)
| (refine QC.t3 ?_; cbv)
| (refine QC.f3 ?_; cbv)
| (refine QC.fw ?_; cbv)
| (refine QC.mk (fun hc => ?_) (fun hc => ?_) <;> (try dsimp only at hc) <;> cbv)
| (refine br_mk2 (fun hb => ?_) (fun hb => ?_) <;> (try subst hb) <;> cbv)))
    · rw [hjn] at hz
      have b1 := hzi z hz
      refine q1 ⟨by omega, by omega, by omega, by omega⟩ fun y hy => ?_
      cbv
      have b2 := hsi z y hz hy
      (repeat' (first
| (refine q1w (fun z hz => ?_); (try simp only at hz); cbv)
| (refine rqw ?_; cbv)
| (refine rqk ?_; cbv)
| (refine chpA ?_; cbv)
| (refine QC.tw ?_; cbv)
| (refine QC.t3 ?_; cbv)
| (refine QC.f3 ?_; cbv)
| (refine QC.fw ?_; cbv)
| (refine QC.mk (fun hc => ?_) (fun hc => ?_) <;> (try dsimp only at hc) <;> cbv)
| (refine br_mk2 (fun hb => ?_) (fun hb => ?_) <;> (try subst hb) <;> cbv)))
      rename_i z2 h2
      have e2 : z2 = P (i + 1) := by rw [b2.1]; exact h2
      refine ⟨(i + 1, z), ⟨by (first | omega | (simp only [cst] at *; omega) | (simp only [sm] at *; omega)), by (first | omega | (simp only [cst] at *; omega) | (simp only [sm] at *; omega))⟩, by (first | omega | (simp only [cst] at *; omega) | (simp only [sm] at *; omega)), ?_⟩
      cbv
      refine ⟨⟨?_, trivial⟩, trivial⟩
      show SV.int .i64 z2 = SV.int .i64 (P (i + 1))
      rw [e2]
    · have e : i = 8 := by (first | omega | (simp only [cst] at *; omega) | (simp only [sm] at *; omega))
      subst e
      (repeat' (first
| (refine q1w (fun z hz => ?_); (try simp only at hz); cbv)
| (refine rqw ?_; cbv)
| (refine rqk ?_; cbv)
| (refine chpA ?_; cbv)
| (refine QC.tw ?_; cbv)
| (refine QC.t3 ?_; cbv)
| (refine QC.f3 ?_; cbv)
| (refine QC.fw ?_; cbv)
| (refine QC.mk (fun hc => ?_) (fun hc => ?_) <;> (try dsimp only at hc) <;> cbv)
| (refine br_mk2 (fun hb => ?_) (fun hb => ?_) <;> (try subst hb) <;> cbv)))
      have ez : z = 256 * c := by (first | omega | (simp only [cst] at *; omega) | (simp only [sm] at *; omega))
      have hr' : r = (256 * c + P 8 - 1) / P 8 := by rw [P8]; exact hr
      refine callq (qratio z (P 8) r (by omega) (by rw [P8]; omega) (by rw [ez]; exact hr')) rfl rfl ?_
      cbv
      (repeat' (first
| (refine q1w (fun z hz => ?_); (try simp only at hz); cbv)
| (refine rqw ?_; cbv)
| (refine rqk ?_; cbv)
| (refine chpA ?_; cbv)
| (refine QC.tw ?_; cbv)
| (refine QC.t3 ?_; cbv)
| (refine QC.f3 ?_; cbv)
| (refine QC.fw ?_; cbv)
| (refine QC.mk (fun hc => ?_) (fun hc => ?_) <;> (try dsimp only at hc) <;> cbv)
| (refine br_mk2 (fun hb => ?_) (fun hb => ?_) <;> (try subst hb) <;> cbv)))
      exact ⟨rfl, rfl, rfl⟩
end Go.Proofs.YtgfpjhddojhfpaaGreat
namespace Go.Proofs.YtgfpjhddojhfpaaGreat
set_option linter.unusedVariables false
set_option linter.unusedSimpArgs false
open Go.RowKit
set_option linter.unusedVariables false
def b2i (b : Bool) : Int := if b = true then 1 else 0
def bitsN (W : List Bool) : Int := W.foldl (fun a b => 2 * a + b2i b) 0
def cntB (W : List Bool) : Int := W.foldl (fun a b => a + b2i b) 0
theorem b2i_le (b : Bool) : 0 ≤ b2i b ∧ b2i b ≤ 1 := by cases b <;> simp [b2i]
theorem bitsN_snoc (W : List Bool) (b : Bool) : bitsN (W ++ [b]) = 2 * bitsN W + b2i b := by simp [bitsN, List.foldl_append]
theorem cntB_snoc (W : List Bool) (b : Bool) : cntB (W ++ [b]) = cntB W + b2i b := by simp [cntB, List.foldl_append]
theorem bits_from (W : List Bool) : ∀ a : Int, W.foldl (fun a b => 2 * a + b2i b) a = a * 2 ^ W.length + bitsN W := by
  induction W with
  | nil => intro a; simp [bitsN]
  | cons b W ih =>
    intro a
    have e1 : bitsN (b :: W) = b2i b * 2 ^ W.length + bitsN W := by
      show (b :: W).foldl (fun a b => 2 * a + b2i b) 0 = _
      rw [List.foldl_cons, ih]
      simp
    rw [List.foldl_cons, ih, e1, List.length_cons, Int.pow_succ]
    generalize (2 : Int) ^ W.length = p
    generalize bitsN W = q
    generalize b2i b = r
    rw [Int.add_mul, Int.mul_comm p 2, ← Int.mul_assoc, Int.mul_comm 2 a, Int.mul_assoc a 2 p, Int.add_assoc]
theorem bits_cons (b : Bool) (W : List Bool) : bitsN (b :: W) = b2i b * 2 ^ W.length + bitsN W := by
  show (b :: W).foldl (fun a b => 2 * a + b2i b) 0 = _
  rw [List.foldl_cons, bits_from]
  simp
theorem bits_lt : ∀ W : List Bool, 0 ≤ bitsN W ∧ bitsN W < 2 ^ W.length
  | [] => by simp [bitsN]
  | b :: W => by
    have := bits_lt W
    rw [bits_cons, List.length_cons, Int.pow_succ]
    cases b
    · simp only [b2i, Bool.false_eq_true, if_false]; omega
    · simp only [b2i, if_true]; omega
theorem pc_push (x b : Int) (hx : 0 ≤ x ∧ x < 128) (hb : 0 ≤ b ∧ b ≤ 1) : pcI (2 * x + b) = pcI x + b := by
  have e0 : (2 * x + b) % 2 = b := by omega
  have e1 : (2 * x + b) / 2 = x := by omega
  have e2 : (2 * x + b) / 4 = x / 2 := by omega
  have e3 : (2 * x + b) / 8 = x / 4 := by omega
  have e4 : (2 * x + b) / 16 = x / 8 := by omega
  have e5 : (2 * x + b) / 32 = x / 16 := by omega
  have e6 : (2 * x + b) / 64 = x / 32 := by omega
  have e7 : (2 * x + b) / 128 = x / 64 := by omega
  have e8 : x / 128 = 0 := by omega
  unfold pcI
  rw [e0, e1, e2, e3, e4, e5, e6, e7, e8]
  omega
theorem pc_cnt : ∀ (n : Nat) (W : List Bool), W.length = n → n ≤ 8 → pcI (bitsN W) = cntB W
  | 0, W, h, _ => by
    have : W = [] := List.eq_nil_of_length_eq_zero h
    subst this
    rfl
  | n + 1, W, h, hn => by
    rcases List.eq_nil_or_concat W with rfl | ⟨V, b, rfl⟩
    · simp at h
    · rw [List.concat_eq_append] at *
      have hV : V.length = n := by simpa using h
      have hb := bits_lt V
      have h7 : (2 : Int) ^ V.length ≤ 2 ^ 7 := by
        have := Nat.pow_le_pow_right (n := 2) (by omega) (show V.length ≤ 7 by omega)
        exact_mod_cast this
      have e7 : (2 : Int) ^ 7 = 128 := rfl
      rw [bitsN_snoc, cntB_snoc, pc_push _ _ (by omega) (b2i_le b), pc_cnt n V hV (by omega)]
def pushW (W : List Bool) (b : Bool) : List Bool := if W.length = 8 then (W ++ [b]).drop 1 else W ++ [b]
theorem pushW_len (W : List Bool) (b : Bool) (h : W.length ≤ 8) : ((pushW W b).length : Int) = if (W.length : Int) = 8 then 8 else W.length + 1 := by
  unfold pushW
  split
  · rw [if_pos (by omega), List.length_drop, List.length_append]; simp; omega
  · rw [if_neg (by omega)]; simp
theorem pushW_bits (W : List Bool) (b : Bool) (h : W.length ≤ 8) : bitsN (pushW W b) = 2 * bitsN W % 256 + b2i b := by
  have hb := bits_lt W
  have hb' := b2i_le b
  unfold pushW
  split
  · rename_i h8
    cases W with
    | nil => simp at h8
    | cons a V =>
      have hV : V.length = 7 := by simpa using h8
      have hv := bits_lt V
      have e7 : (2 : Int) ^ V.length = 128 := by rw [hV]; rfl
      rw [List.cons_append, List.drop_succ_cons, List.drop_zero, bitsN_snoc, bits_cons, e7]
      rw [e7] at hv
      have ha := b2i_le a
      omega
  · rename_i h8
    have h7 : (2 : Int) ^ W.length ≤ 2 ^ 7 := by
      have := Nat.pow_le_pow_right (n := 2) (by omega) (show W.length ≤ 7 by omega)
      exact_mod_cast this
    have e7 : (2 : Int) ^ 7 = 128 := rfl
    rw [bitsN_snoc]
    omega
theorem cnt_pos (W : List Bool) (h : W.length ≤ 8) (h0 : 1 ≤ bitsN W) : 1 ≤ cntB W := by
  have hb := bits_lt W
  have h8 : (2 : Int) ^ W.length ≤ 2 ^ 8 := by
    have := Nat.pow_le_pow_right (n := 2) (by omega) h
    exact_mod_cast this
  have e8 : (2 : Int) ^ 8 = 256 := rfl
  rw [← pc_cnt _ W rfl h]
  exact pcI_pos _ (by omega)
theorem cnt_zero (W : List Bool) (h : W.length ≤ 8) (h0 : bitsN W = 0) : cntB W = 0 := by
  rw [← pc_cnt _ W rfl h, h0]
  rfl
theorem bits_255 (W : List Bool) (h : W.length ≤ 8) : bitsN W ≤ 255 := by
  have hb := bits_lt W
  have h8 : (2 : Int) ^ W.length ≤ 2 ^ 8 := by
    have := Nat.pow_le_pow_right (n := 2) (by omega) h
    exact_mod_cast this
  have e8 : (2 : Int) ^ 8 = 256 := rfl
  omega
end Go.Proofs.YtgfpjhddojhfpaaGreat
namespace Go.Proofs.YtgfpjhddojhfpaaGreat
set_option linter.unusedVariables false
set_option linter.unusedSimpArgs false
open Go.RowKit
set_option maxHeartbeats 4000000
set_option linter.unusedSimpArgs false
set_option linter.unusedVariables false
theorem vm2 (y : Int) (hy : 0 ≤ y ∧ y ≤ 256) : VM [[0, y], [256, 0]] := ⟨by simp, by simp, fun i r h => by
  match i, h with
  | 0, h =>
    simp at h; subst h
    exact ⟨rfl, rfl, fun v hv => by simp at hv; omega⟩
  | 1, h =>
    simp at h; subst h
    exact ⟨rfl, rfl, fun v hv => by simp at hv; omega⟩⟩
theorem vt2 (bs : List UInt8) (h : bs.length ≤ 127) : VT 2 [⟨0, bs⟩] := fun i t ht => by
  match i, ht with
  | 0, ht =>
    simp at ht; subst ht
    exact ⟨by show (-1 : Int) < 0; omega, by show (0 : Int) < 2; omega, h⟩
theorem del1 (bs : List UInt8) (B : List SV) (hB : B = u8l bs) (h : bs.length ≤ 127) :
    Good 21 (pu [.lst none [.lst none [.int .i64 0, .int .i64 256], .lst none [.int .i64 256, .int .i64 0]], .lst (some 2) [.agg [.int .i64 0, .lst none B]], .lst none []] (.tup [.lst (some 3) [.agg [.int .i64 0, .int .i64 1, .lst none B]], .int .i64 0])) :=
  deliver_c [[0, 256], [256, 0]] _ rfl (vm2 256 (by omega)) [⟨0, bs⟩] _ (by rw [hB]; rfl) (vt2 bs h) (by simp) [] _ rfl (by simp) (by simp) _ (by rw [hB]; rfl)
theorem del0 (bs : List UInt8) (B : List SV) (hB : B = u8l bs) (h : bs.length ≤ 127) :
    Good 21 (pu [.lst none [.lst none [.int .i64 0, .int .i64 0], .lst none [.int .i64 256, .int .i64 0]], .lst (some 2) [.agg [.int .i64 0, .lst none B]], .lst none []] (.tup [.lst (some 3) [], .int .i64 0])) :=
  deliver_c [[0, 0], [256, 0]] _ rfl (vm2 0 (by omega)) [⟨0, bs⟩] _ (by rw [hB]; rfl) (vt2 bs h) (by simp) [] _ rfl (by simp) (by simp) _ (by rfl)
theorem away_cells {C : List SV} {x : SV} (j : Nat) (y : SV) (c : Nat × IntKind) (h1 : (cellsS x)[j]? = some y) (h2 : ccls y = some c) (h3 : ∀ z ∈ C, ∃ c', ccls z = some c' ∧ c' ≠ c) : awayC C x := ⟨j, y, c, h1, h2, h3⟩
theorem away_del (bs : List UInt8) (B : List SV) (hB : B = u8l bs) (q1' q2' : Nat) (p q r s : Int) :
    Away [[.rsl q1' none 0 2 (some 2), .rsl q2' none 0 2 (some 2)], [.int .i64 p, .int .i64 q], [.int .i64 r, .int .i64 s]] (.tup [.lst (some 3) [.agg [.int .i64 0, .int .i64 1, .lst none B]], .int .i64 0]) := by
  refine .tup fun x hx => ?_
  simp only [List.mem_cons, List.not_mem_nil, or_false] at hx
  rcases hx with rfl | rfl
  · refine .lst (fun x hx => ?_) (fun x hx C hC => ?_)
    · simp only [List.mem_cons, List.not_mem_nil, or_false] at hx
      subst hx
      refine .agg fun x hx => ?_
      simp only [List.mem_cons, List.not_mem_nil, or_false] at hx
      rcases hx with rfl | rfl | rfl
      · exact .flat rfl
      · exact .flat rfl
      · refine .lst (fun x hx => ?_) (fun x hx C hC => ?_)
        · rw [hB] at hx
          simp only [u8l, List.mem_map] at hx
          obtain ⟨b, _, rfl⟩ := hx
          exact .flat rfl
        · rw [hB] at hx
          simp only [u8l, List.getElem?_map, Option.map_eq_some_iff] at hx
          obtain ⟨b, _, rfl⟩ := hx
          refine away_cells 0 _ _ rfl rfl fun z hz => ?_
          simp only [List.mem_cons, List.not_mem_nil, or_false] at hC
          rcases hC with rfl | rfl | rfl <;> (simp only [List.mem_cons, List.not_mem_nil, or_false] at hz; rcases hz with rfl | rfl <;> exact ⟨_, rfl, by decide⟩)
    · simp at hx
      subst hx
      simp only [List.mem_cons, List.not_mem_nil, or_false] at hC
      rcases hC with rfl | rfl | rfl
      · exact away_cells 0 _ _ rfl rfl fun z hz => by
          simp only [List.mem_cons, List.not_mem_nil, or_false] at hz
          rcases hz with rfl | rfl <;> exact ⟨_, rfl, by decide⟩
      · exact away_cells 2 _ _ rfl rfl fun z hz => by
          simp only [List.mem_cons, List.not_mem_nil, or_false] at hz
          rcases hz with rfl | rfl <;> exact ⟨_, rfl, by decide⟩
      · exact away_cells 2 _ _ rfl rfl fun z hz => by
          simp only [List.mem_cons, List.not_mem_nil, or_false] at hz
          rcases hz with rfl | rfl <;> exact ⟨_, rfl, by decide⟩
  · exact .flat rfl
theorem away_nil (Cs : List (List SV)) : Away Cs (.tup [.lst (some 3) [], .int .i64 0]) := by
  refine .tup fun x hx => ?_
  simp only [List.mem_cons, List.not_mem_nil, or_false] at hx
  rcases hx with rfl | rfl
  · exact .lst (fun x hx => by simp at hx) (fun x hx => by simp at hx)
  · exact .flat rfl
theorem be_two (v : Int) (hv : 0 ≤ v) : (be (bytesOf v 2) : Int) = v % 65536 := by
  obtain ⟨u, rfl⟩ := Int.eq_ofNat_of_zero_le hv
  have h := be_bytesOf 2 u
  have e : (256 : Nat) ^ 2 = 65536 := rfl
  rw [e] at h
  rw [show be (bytesOf (u : Int) 2) = u % 65536 from h]
  omega
end Go.Proofs.YtgfpjhddojhfpaaGreat
