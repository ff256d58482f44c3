/- Bits of bytes: the plain law of octets.Bits and its like. -/
import Derived.Test.YtapcbkcnokoljaaOS
namespace Go.Proofs.Ytapcbkcnokoljaa
set_option linter.unusedVariables false
set_option linter.unusedSimpArgs false
open Go.RowKit
/-- Is a bit string valid? -/
def restB (bs : List UInt8) (len : Nat) : Bool := decide (len % 8 = 0 ∨ (bs.getD (bs.length - 1) 0).toNat % 2 ^ (8 - len % 8) = 0)
def validB (bs : List UInt8) (len : Int) : Bool := decide (0 ≤ len) && (decide (bs.length = (len.toNat + 7) / 8) && restB bs len.toNat)

/-- Bit i of bytes. -/
def bitAt (bs : List UInt8) (i : Nat) : Nat := (bs.getD (i / 8) 0).toNat / 2 ^ (7 - i % 8) % 2
theorem bitAt_lt (bs : List UInt8) (i : Nat) : bitAt bs i < 2 := Nat.mod_lt _ (by omega)
/-- The number in n bits from bit at on. -/
def numBits (bs : List UInt8) (at_ : Nat) : Nat → Nat
  | 0 => 0
  | n + 1 => numBits bs at_ n * 2 + bitAt bs (at_ + n)
theorem numBits_lt (bs : List UInt8) (at_ n : Nat) : numBits bs at_ n < 2 ^ n := by
  induction n with
  | zero => simp [numBits]
  | succ n ih => have := bitAt_lt bs (at_ + n); simp only [numBits, Nat.pow_succ]; omega
theorem or_bit (a b : Nat) (hb : b < 2) : a * 2 ||| b = a * 2 + b := by
  have := Nat.two_pow_add_eq_or_of_lt (i := 1) (b := b) (by omega) a
  rw [show 2 ^ 1 * a = a * 2 from by omega] at this
  exact this.symm
def okBits (bs : List UInt8) (len at_ n : Int) : Bool := validB bs len && decide (1 ≤ n ∧ n ≤ 64 ∧ 0 ≤ at_ ∧ at_ + n ≤ len)
/-! ### Bits put into bytes -/
def putBit (r : List UInt8) (p : Nat) : List UInt8 := r.set (p / 8) (UInt8.ofNat ((r.getD (p / 8) 0).toNat ||| 2 ^ (7 - p % 8)))
@[simp] theorem putBit_length (r : List UInt8) (p : Nat) : (putBit r p).length = r.length := by simp [putBit]
theorem or_pow_lt (y k : Nat) (hy : y < 256) (hk : k < 8) : y ||| 2 ^ k < 256 :=
  Nat.or_lt_two_pow (n := 8) hy (Nat.pow_lt_pow_right (by omega) hk)
theorem div_pow_mod (x k : Nat) : x / 2 ^ k % 2 = (x.testBit k).toNat := by
  rw [Nat.testBit_eq_decide_div_mod_eq]
  have : x / 2 ^ k % 2 < 2 := Nat.mod_lt _ (by omega)
  by_cases h : x / 2 ^ k % 2 = 1
  · simp [h]
  · have : x / 2 ^ k % 2 = 0 := by omega
    simp [this]
theorem putBit_toNat (r : List UInt8) (p : Nat) (hp : p / 8 < r.length) (j : Nat) : ((putBit r p).getD j 0).toNat = if j = p / 8 then (r.getD (p / 8) 0).toNat ||| 2 ^ (7 - p % 8) else (r.getD j 0).toNat := by
  unfold putBit
  by_cases h : j = p / 8
  · subst h
    rw [if_pos rfl]
    simp only [List.getD, List.getElem?_set_self hp, Option.getD_some, UInt8.toNat_ofNat']
    have := or_pow_lt (r.getD (p / 8) 0).toNat (7 - p % 8) (UInt8.toNat_lt _) (by omega)
    simp only [List.getD] at this
    omega
  · rw [if_neg h]
    simp [List.getD, Ne.symm h]
theorem bitAt_putBit (r : List UInt8) (p i : Nat) (hp : p / 8 < r.length) : bitAt (putBit r p) i = if i = p then 1 else bitAt r i := by
  unfold bitAt
  rw [putBit_toNat r p hp]
  by_cases h8 : i / 8 = p / 8
  · rw [if_pos h8, div_pow_mod, Nat.testBit_or, Nat.testBit_two_pow, div_pow_mod, h8]
    by_cases h : i = p
    · subst h; simp
    · have : ¬ (7 - p % 8 = 7 - i % 8) := by omega
      rw [if_neg h]
      simp [this]
  · have h : i ≠ p := by rintro rfl; exact h8 rfl
    rw [if_neg h8, if_neg h]
theorem bitAt_append_zeros (bs : List UInt8) (k i : Nat) : bitAt (bs ++ List.replicate k 0) i = bitAt bs i := by
  unfold bitAt
  have : (bs ++ List.replicate k 0).getD (i / 8) 0 = bs.getD (i / 8) 0 := by
    by_cases h : i / 8 < bs.length
    · simp only [List.getD, List.getElem?_append_left h]
    · simp only [List.getD, List.getElem?_append_right (show bs.length ≤ i / 8 by omega), List.getElem?_replicate, List.getElem?_eq_none (show bs.length ≤ i / 8 by omega)]
      split <;> rfl
  rw [this]

def bitV (v : Int) (n i : Nat) : Nat := (v / 2 ^ (n - 1 - i) % 2).toNat
def rowP (r0 : List UInt8) (len : Nat) (v : Int) (n : Nat) : Nat → List UInt8
  | 0 => r0
  | k + 1 => if bitV v n k = 1 then putBit (rowP r0 len v n k) (len + k) else rowP r0 len v n k
@[simp] theorem rowP_length (r0 : List UInt8) (len : Nat) (v : Int) (n k : Nat) : (rowP r0 len v n k).length = r0.length := by
  induction k with
  | zero => rfl
  | succ k ih => simp only [rowP]; split <;> simp [ih]
theorem bitV_lt (v : Int) (n i : Nat) : bitV v n i < 2 := by
  unfold bitV
  have h0 := Int.emod_nonneg (v / 2 ^ (n - 1 - i)) (show (2 : Int) ≠ 0 by omega)
  have h1 := Int.emod_lt_of_pos (v / 2 ^ (n - 1 - i)) (show (0 : Int) < 2 by omega)
  omega
/-- The bits of what AppendBits makes. -/
theorem bitAt_rowP (r0 : List UInt8) (len : Nat) (v : Int) (n k i : Nat) (hk : (len + k + 7) / 8 ≤ r0.length) (hz : ∀ j, len ≤ j → bitAt r0 j = 0) :
    bitAt (rowP r0 len v n k) i = if i < len then bitAt r0 i else if i < len + k then bitV v n (i - len) else 0 := by
  induction k with
  | zero =>
    simp only [rowP]
    split
    · rfl
    · rw [if_neg (by omega)]; exact hz i (by omega)
  | succ k ih =>
    have ih := ih (by omega)
    have hlt := bitV_lt v n k
    simp only [rowP]
    by_cases hb : bitV v n k = 1
    · rw [if_pos hb, bitAt_putBit _ _ _ (by simp; omega), ih]
      by_cases h : i = len + k
      · subst h
        rw [if_pos rfl, if_neg (by omega), if_pos (by omega), show len + k - len = k by omega, hb]
      · rw [if_neg h]
        by_cases h1 : i < len
        · simp [h1]
        · by_cases h2 : i < len + k
          · simp [h1, h2, show i < len + (k + 1) by omega]
          · simp [h1, h2, show ¬ i < len + (k + 1) by omega]
    · rw [if_neg hb, ih]
      by_cases h1 : i < len
      · simp [h1]
      · by_cases h2 : i < len + k
        · simp [h1, h2, show i < len + (k + 1) by omega]
        · by_cases h3 : i = len + k
          · subst h3
            rw [if_neg (by omega), if_neg (by omega), if_neg (by omega), if_pos (by omega), show len + k - len = k by omega]
            omega
          · simp [h1, h2, show ¬ i < len + (k + 1) by omega]
/-- The bytes that AppendBits returns. -/
def appBits (bs : List UInt8) (len : Nat) (v : Int) (n : Nat) : List UInt8 := rowP (bs ++ List.replicate ((len + n + 7) / 8 - bs.length) 0) len v n n

theorem low_zero (y s : Nat) : y % 2 ^ s = 0 ↔ ∀ j, j < s → y / 2 ^ j % 2 = 0 := by
  constructor
  · intro h j hj
    rw [div_pow_mod]
    have h1 : (y % 2 ^ s).testBit j = false := by rw [h]; simp
    rw [Nat.testBit_mod_two_pow] at h1
    simp [hj] at h1
    simp [h1]
  · intro h
    apply Nat.eq_of_testBit_eq
    intro j
    rw [Nat.testBit_mod_two_pow, Nat.zero_testBit]
    by_cases hj : j < s
    · have := h j hj
      rw [div_pow_mod] at this
      cases hb : y.testBit j
      · simp
      · rw [hb] at this; simp at this
    · simp [hj]
/-- A valid bit string has only zeros behind its bits, and the other way round. -/
theorem restB_iff (bs : List UInt8) (len : Nat) (hl : bs.length = (len + 7) / 8) : restB bs len = true ↔ ∀ j, len ≤ j → bitAt bs j = 0 := by
  unfold restB
  rw [decide_eq_true_eq]
  constructor
  · intro h j hj
    unfold bitAt
    by_cases hb : j / 8 < bs.length
    · have h8 : len % 8 ≠ 0 := by omega
      have hz : (bs.getD (bs.length - 1) 0).toNat % 2 ^ (8 - len % 8) = 0 := by
        rcases h with h | h
        · omega
        · exact h
      have e : j / 8 = bs.length - 1 := by omega
      rw [e]
      exact (low_zero _ _).1 hz _ (by omega)
    · have : bs.getD (j / 8) 0 = 0 := by simp [List.getD, List.getElem?_eq_none (show bs.length ≤ j / 8 by omega)]
      rw [this]
      simp
  · intro h
    by_cases h8 : len % 8 = 0
    · exact .inl h8
    · right
      rw [low_zero]
      intro j hj
      have := h (8 * (bs.length - 1) + (7 - j)) (by omega)
      unfold bitAt at this
      rw [show (8 * (bs.length - 1) + (7 - j)) / 8 = bs.length - 1 by omega, show 7 - (8 * (bs.length - 1) + (7 - j)) % 8 = j by omega] at this
      exact this
theorem validB_iff (bs : List UInt8) (len : Nat) : validB bs len = true ↔ bs.length = (len + 7) / 8 ∧ ∀ j, len ≤ j → bitAt bs j = 0 := by
  simp only [validB, Bool.and_eq_true, decide_eq_true_eq, Int.toNat_natCast]
  constructor
  · rintro ⟨_, h1, h2⟩
    exact ⟨h1, (restB_iff bs len h1).1 h2⟩
  · rintro ⟨h1, h2⟩
    exact ⟨by omega, h1, (restB_iff bs len h1).2 h2⟩
theorem validB_nonneg {bs : List UInt8} {len : Int} (h : validB bs len = true) : ∃ n : Nat, len = n := by
  simp only [validB, Bool.and_eq_true, decide_eq_true_eq] at h
  exact ⟨len.toNat, by omega⟩
@[simp] theorem appBits_length (bs : List UInt8) (len : Nat) (v : Int) (n : Nat) (hl : bs.length = (len + 7) / 8) : (appBits bs len v n).length = (len + n + 7) / 8 := by
  simp [appBits, hl]; omega
theorem bitAt_appBits (bs : List UInt8) (len : Nat) (v : Int) (n i : Nat) (hv : validB bs len = true) :
    bitAt (appBits bs len v n) i = if i < len then bitAt bs i else if i < len + n then bitV v n (i - len) else 0 := by
  obtain ⟨hl, hz⟩ := (validB_iff bs len).1 hv
  have := bitAt_rowP (bs ++ List.replicate ((len + n + 7) / 8 - bs.length) 0) len v n n i (by simp; omega) (fun j hj => by rw [bitAt_append_zeros]; exact hz j hj)
  rw [bitAt_append_zeros] at this
  exact this
theorem validB_appBits (bs : List UInt8) (len : Nat) (v : Int) (n : Nat) (hv : validB bs len = true) : validB (appBits bs len v n) ((len + n : Nat) : Int) = true := by
  obtain ⟨hl, hz⟩ := (validB_iff bs len).1 hv
  rw [validB_iff]
  refine ⟨appBits_length _ _ _ _ hl, fun j hj => ?_⟩
  rw [bitAt_appBits _ _ _ _ _ hv, if_neg (by omega), if_neg (by omega)]
theorem numBits_ext (a b : List UInt8) (p q n : Nat) (h : ∀ i, i < n → bitAt a (p + i) = bitAt b (q + i)) : numBits a p n = numBits b q n := by
  induction n with
  | zero => rfl
  | succ n ih => simp only [numBits]; rw [ih (fun i hi => h i (by omega)), h n (by omega)]
theorem numBits_of (bs : List UInt8) (p : Nat) (u n : Nat) (h : ∀ i, i < n → bitAt bs (p + i) = bitV u n i) : numBits bs p n = u % 2 ^ n := by
  have key : ∀ j, j ≤ n → numBits bs p j = u / 2 ^ (n - j) % 2 ^ j := by
    intro j
    induction j with
    | zero => intro _; simp [numBits, Nat.mod_one]
    | succ j ih =>
      intro hj
      simp only [numBits]
      rw [ih (by omega), h j (by omega)]
      have e : bitV (u : Int) n j = u / 2 ^ (n - (j + 1)) % 2 := by
        unfold bitV
        rw [show n - 1 - j = n - (j + 1) by omega]
        have : (u : Int) / 2 ^ (n - (j + 1)) % 2 = ((u / 2 ^ (n - (j + 1)) % 2 : Nat) : Int) := by simp
        rw [this, Int.toNat_natCast]
      have e2 : u / 2 ^ (n - j) = u / 2 ^ (n - (j + 1)) / 2 := by
        rw [Nat.div_div_eq_div_mul, ← Nat.pow_succ, show (n - (j + 1)).succ = n - j by omega]
      rw [e, e2]
      generalize u / 2 ^ (n - (j + 1)) = x
      rw [Nat.pow_succ, Nat.mul_comm (2 ^ j) 2, Nat.mod_mul]
      omega
  have := key n (Nat.le_refl _)
  simpa using this
theorem wrap_bits (v : Int) (k : Nat) (hv : 0 ≤ v ∧ v < 18446744073709551616) (hk : k ≤ 64) : IntKind.u64.wrap (v * 2 ^ (64 - k)) / 2 ^ (64 - k) = ((v.toNat % 2 ^ k : Nat) : Int) := by
  obtain ⟨u, rfl⟩ := Int.eq_ofNat_of_zero_le hv.1
  rw [IntKind.wrap_u64]
  have e1 : (u : Int) * 2 ^ (64 - k) % 18446744073709551616 / 2 ^ (64 - k) = ((u * 2 ^ (64 - k) % 18446744073709551616 / 2 ^ (64 - k) : Nat) : Int) := by simp
  rw [e1]
  have e2 : (18446744073709551616 : Nat) = 2 ^ k * 2 ^ (64 - k) := by
    rw [← Nat.pow_add, show k + (64 - k) = 64 by omega]
  rw [e2, Nat.mul_mod_mul_right, Nat.mul_div_cancel _ (Nat.pow_pos (by omega))]
  simp
end Go.Proofs.Ytapcbkcnokoljaa
