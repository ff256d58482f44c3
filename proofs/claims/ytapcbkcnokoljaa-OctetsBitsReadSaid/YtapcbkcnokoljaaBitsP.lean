/- Plain facts on bit strings: no program's step is taken here. -/
import Derived.Test.YtapcbkcnokoljaaBitsC
namespace Go.Proofs.Ytapcbkcnokoljaa
open Go.RowKit

theorem low_zero (y s : Nat) : y % 2 ^ s = 0 ↔ ∀ j, j < s → y / 2 ^ j % 2 = 0 := by
  constructor
  · intro h j hj
    rw [div_pow_mod]
    have h1 : (y % 2 ^ s).testBit j = false := by rw [h]; simp
    rw [Nat.testBit_mod_two_pow] at h1
    simp [hj] at h1
    simp [h1]
  · intro h
    apply Nat.eq_of_testBit_eq
    intro j
    rw [Nat.testBit_mod_two_pow, Nat.zero_testBit]
    by_cases hj : j < s
    · have := h j hj
      rw [div_pow_mod] at this
      cases hb : y.testBit j
      · simp
      · rw [hb] at this; simp at this
    · simp [hj]
/-- A valid bit string has only zeros behind its bits, and the other way round. -/
theorem restB_iff (bs : List UInt8) (len : Nat) (hl : bs.length = (len + 7) / 8) : restB bs len = true ↔ ∀ j, len ≤ j → bitAt bs j = 0 := by
  unfold restB
  rw [decide_eq_true_eq]
  constructor
  · intro h j hj
    unfold bitAt
    by_cases hb : j / 8 < bs.length
    · have h8 : len % 8 ≠ 0 := by omega
      have hz : (bs.getD (bs.length - 1) 0).toNat % 2 ^ (8 - len % 8) = 0 := by
        rcases h with h | h
        · omega
        · exact h
      have e : j / 8 = bs.length - 1 := by omega
      rw [e]
      exact (low_zero _ _).1 hz _ (by omega)
    · have : bs.getD (j / 8) 0 = 0 := by simp [List.getD, List.getElem?_eq_none (show bs.length ≤ j / 8 by omega)]
      rw [this]
      simp
  · intro h
    by_cases h8 : len % 8 = 0
    · exact .inl h8
    · right
      rw [low_zero]
      intro j hj
      have := h (8 * (bs.length - 1) + (7 - j)) (by omega)
      unfold bitAt at this
      rw [show (8 * (bs.length - 1) + (7 - j)) / 8 = bs.length - 1 by omega, show 7 - (8 * (bs.length - 1) + (7 - j)) % 8 = j by omega] at this
      exact this
theorem validB_iff (bs : List UInt8) (len : Nat) : validB bs len = true ↔ bs.length = (len + 7) / 8 ∧ ∀ j, len ≤ j → bitAt bs j = 0 := by
  simp only [validB, Bool.and_eq_true, decide_eq_true_eq, Int.toNat_natCast]
  constructor
  · rintro ⟨_, h1, h2⟩
    exact ⟨h1, (restB_iff bs len h1).1 h2⟩
  · rintro ⟨h1, h2⟩
    exact ⟨by omega, h1, (restB_iff bs len h1).2 h2⟩
theorem validB_nonneg {bs : List UInt8} {len : Int} (h : validB bs len = true) : ∃ n : Nat, len = n := by
  simp only [validB, Bool.and_eq_true, decide_eq_true_eq] at h
  exact ⟨len.toNat, by omega⟩
@[simp] theorem appBits_length (bs : List UInt8) (len : Nat) (v : Int) (n : Nat) (hl : bs.length = (len + 7) / 8) : (appBits bs len v n).length = (len + n + 7) / 8 := by
  simp [appBits, hl]; omega
theorem bitAt_appBits (bs : List UInt8) (len : Nat) (v : Int) (n i : Nat) (hv : validB bs len = true) :
    bitAt (appBits bs len v n) i = if i < len then bitAt bs i else if i < len + n then bitV v n (i - len) else 0 := by
  obtain ⟨hl, hz⟩ := (validB_iff bs len).1 hv
  have := bitAt_rowP (bs ++ List.replicate ((len + n + 7) / 8 - bs.length) 0) len v n n i (by simp; omega) (fun j hj => by rw [bitAt_append_zeros]; exact hz j hj)
  rw [bitAt_append_zeros] at this
  exact this
theorem validB_appBits (bs : List UInt8) (len : Nat) (v : Int) (n : Nat) (hv : validB bs len = true) : validB (appBits bs len v n) ((len + n : Nat) : Int) = true := by
  obtain ⟨hl, hz⟩ := (validB_iff bs len).1 hv
  rw [validB_iff]
  refine ⟨appBits_length _ _ _ _ hl, fun j hj => ?_⟩
  rw [bitAt_appBits _ _ _ _ _ hv, if_neg (by omega), if_neg (by omega)]
theorem numBits_ext (a b : List UInt8) (p q n : Nat) (h : ∀ i, i < n → bitAt a (p + i) = bitAt b (q + i)) : numBits a p n = numBits b q n := by
  induction n with
  | zero => rfl
  | succ n ih => simp only [numBits]; rw [ih (fun i hi => h i (by omega)), h n (by omega)]
theorem numBits_of (bs : List UInt8) (p : Nat) (u n : Nat) (h : ∀ i, i < n → bitAt bs (p + i) = bitV u n i) : numBits bs p n = u % 2 ^ n := by
  have key : ∀ j, j ≤ n → numBits bs p j = u / 2 ^ (n - j) % 2 ^ j := by
    intro j
    induction j with
    | zero => intro _; simp [numBits, Nat.mod_one]
    | succ j ih =>
      intro hj
      simp only [numBits]
      rw [ih (by omega), h j (by omega)]
      have e : bitV (u : Int) n j = u / 2 ^ (n - (j + 1)) % 2 := by
        unfold bitV
        rw [show n - 1 - j = n - (j + 1) by omega]
        have : (u : Int) / 2 ^ (n - (j + 1)) % 2 = ((u / 2 ^ (n - (j + 1)) % 2 : Nat) : Int) := by simp
        rw [this, Int.toNat_natCast]
      have e2 : u / 2 ^ (n - j) = u / 2 ^ (n - (j + 1)) / 2 := by
        rw [Nat.div_div_eq_div_mul, ← Nat.pow_succ, show (n - (j + 1)).succ = n - j by omega]
      rw [e, e2]
      generalize u / 2 ^ (n - (j + 1)) = x
      rw [Nat.pow_succ, Nat.mul_comm (2 ^ j) 2, Nat.mod_mul]
      omega
  have := key n (Nat.le_refl _)
  simpa using this
theorem wrap_bits (v : Int) (k : Nat) (hv : 0 ≤ v ∧ v < 18446744073709551616) (hk : k ≤ 64) : IntKind.u64.wrap (v * 2 ^ (64 - k)) / 2 ^ (64 - k) = ((v.toNat % 2 ^ k : Nat) : Int) := by
  obtain ⟨u, rfl⟩ := Int.eq_ofNat_of_zero_le hv.1
  rw [IntKind.wrap_u64]
  have e1 : (u : Int) * 2 ^ (64 - k) % 18446744073709551616 / 2 ^ (64 - k) = ((u * 2 ^ (64 - k) % 18446744073709551616 / 2 ^ (64 - k) : Nat) : Int) := by simp
  rw [e1]
  have e2 : (18446744073709551616 : Nat) = 2 ^ k * 2 ^ (64 - k) := by
    rw [← Nat.pow_add, show k + (64 - k) = 64 by omega]
  rw [e2, Nat.mul_mod_mul_right, Nat.mul_div_cancel _ (Nat.pow_pos (by omega))]
  simp
end Go.Proofs.Ytapcbkcnokoljaa
