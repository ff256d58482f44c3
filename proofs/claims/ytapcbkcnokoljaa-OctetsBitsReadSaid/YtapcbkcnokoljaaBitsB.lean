/- Contract of octets.Bits. -/
import Derived.Test.YtapcbkcnokoljaaBitsA
namespace Go.Proofs.Ytapcbkcnokoljaa
open Go.RowKit

/-- Bit i of bytes. -/
def bitAt (bs : List UInt8) (i : Nat) : Nat := (bs.getD (i / 8) 0).toNat / 2 ^ (7 - i % 8) % 2
theorem bitAt_lt (bs : List UInt8) (i : Nat) : bitAt bs i < 2 := Nat.mod_lt _ (by omega)
/-- The number in n bits from bit at on. -/
def numBits (bs : List UInt8) (at_ : Nat) : Nat → Nat
  | 0 => 0
  | n + 1 => numBits bs at_ n * 2 + bitAt bs (at_ + n)
theorem numBits_lt (bs : List UInt8) (at_ n : Nat) : numBits bs at_ n < 2 ^ n := by
  induction n with
  | zero => simp [numBits]
  | succ n ih => have := bitAt_lt bs (at_ + n); simp only [numBits, Nat.pow_succ]; omega
theorem or_bit (a b : Nat) (hb : b < 2) : a * 2 ||| b = a * 2 + b := by
  have := Nat.two_pow_add_eq_or_of_lt (i := 1) (b := b) (by omega) a
  rw [show 2 ^ 1 * a = a * 2 from by omega] at this
  exact this.symm
theorem u8_and1 (x : Nat) (hx : x < 256) : bits .and .u8 (x : Int) 1 = ((x % 2 : Nat) : Int) := by
  have := u8_and_nat x 1 hx (by omega)
  rw [Nat.and_one_is_mod] at this
  exact this
theorem bits_step (y k : Nat) (x : Nat) (hy : y < 256) (hx : (x : Int) * 2 ≤ 18446744073709551615) :
    bits .or .u64 ((x : Int) * 2) (IntKind.u64.wrap (bits .and .u8 ((y : Int) / 2 ^ k) 1)) = ((x * 2 + y / 2 ^ k % 2 : Nat) : Int) := by
  have e : (y : Int) / 2 ^ k = ((y / 2 ^ k : Nat) : Int) := by simp
  have hlt : y / 2 ^ k < 256 := Nat.lt_of_le_of_lt (Nat.div_le_self _ _) hy
  rw [e, u8_and1 _ hlt, IntWalk.u64_in _ (by omega)]
  have := u64_or_nat (x * 2) (y / 2 ^ k % 2) (by omega) (by omega)
  rw [or_bit _ _ (by omega)] at this
  simp only [Int.natCast_mul] at this
  exact this

def okBits (bs : List UInt8) (len at_ n : Int) : Bool := validB bs len && decide (1 ≤ n ∧ n ≤ 64 ∧ 0 ≤ at_ ∧ at_ + n ≤ len)

theorem bits_yes (A : Option Addr) (l c : Nat) (bs : List UInt8) (len AT N : Int) (at_ n : Nat) (w : World) (hr : Reads w w.heap.size 1 A l (u8s bs)) (hl : l ≤ 281474976710000) (hlen : -9223372036854775808 ≤ len ∧ len ≤ 9223372036854775807)
    (hv : validB bs len = true) (hN : N = n) (hn : 1 ≤ n) (hn64 : n ≤ 64) (hAT : AT = at_) (hat : (at_ : Int) + n ≤ len) :
    Calls Try.prog 17 #[.agg #[.slice A l c, .int .i64 len], .int .i64 AT, .int .i64 N] w fun e w' => e = .returned (.tuple #[.int .u64 (numBits bs at_ n), .bool true]) ∧ Below w.heap.size w w' := by
  subst hN hAT
  have hbl : bs.length = l := by simpa using hr.1
  have h8 : len ≤ 8 * (l : Int) := by
    simp only [validB, Bool.and_eq_true, decide_eq_true_eq] at hv
    omega
  go_enter Try.func17, Try.ntmps17
  go_wp2_with fail
  refine (validBits_c A l c bs len _ ((hr.alloc (Nat.le_refl _) _).more (by simp)) hl hlen).mono ?_
  rintro e w1 ⟨rfl, hb1⟩
  rw [hv]
  obtain ⟨hc1, hf1⟩ := bcell hb1
  have hbw : Below w.heap.size w w1 := ((Below.refl _ _).alloc (Nat.le_refl _) _).trans (hb1.mono (by simp))
  have hr1 := hr.below hbw
  have cS := hc1 w.heap.size 0 (by simp)
  have cL := hc1 w.heap.size 1 (by simp)
  simp [go_sem] at cS cL
  clear hc1 hf1 hb1
  go_wp2
  go_loop [8, 35] (fun v i => ∃ k : Nat, k ≤ n ∧ i = .int .i64 k ∧ v = .int .u64 (numBits bs at_ k)) (fun _ i => n - (intOf i).toNat)
  case atStart => exact ⟨0, Nat.zero_le _, rfl, rfl⟩
  case round =>
    obtain ⟨k, hk, rfl, rfl⟩ := hrel
    by_cases hlt : k < n
    · obtain ⟨b, off, rfl, hb, hcell⟩ := hr1.cells_ (by omega)
      have hi : (at_ + k) / 8 < l := by omega
      have hx := hcell ((at_ + k) / 8) _ (u8s_getD bs _ (by omega))
      have hnb := numBits_lt bs at_ k
      have hle : 2 ^ k ≤ 2 ^ 63 := Nat.pow_le_pow_right (by omega) (by omega)
      have hst : numBits bs at_ (k + 1) = numBits bs at_ k * 2 + (bs.getD ((at_ + k) / 8) 0).toNat / 2 ^ (7 - (at_ + k) % 8) % 2 := rfl
      generalize hy : (bs.getD ((at_ + k) / 8) 0).toNat = y at *
      have hy2 : y < 256 := by rw [← hy]; exact UInt8.toNat_lt _
      generalize numBits bs at_ k = x at *
      have hxb : (x : Int) * 2 ≤ 18446744073709551615 := by omega
      have HST := Lib.hid hst
      clear hy hst hle hnb hcell hr hr1 hv
      go_wp2
      go_round
      case rel =>
        refine ⟨k + 1, by omega, by go_num, ?_⟩
        rw [HST.out]
        exact congrArg (Value.int .u64) (bits_step y _ x hy2 hxb)
      case measure => simp [intOf]; omega
    · clear hr hr1 hv
      go_wp2
      obtain rfl : k = n := by omega
      go_ret2
      exact ⟨rfl, hbw⟩

theorem bits_no (A : Option Addr) (l c : Nat) (bs : List UInt8) (len at_ n : Int) (w : World) (hr : Reads w w.heap.size 1 A l (u8s bs)) (hl : l ≤ 281474976710000) (hlen : -9223372036854775808 ≤ len ∧ len ≤ 9223372036854775807)
    (hn : -9223372036854775808 ≤ n ∧ n ≤ 9223372036854775807) (hv : okBits bs len at_ n = false) :
    Calls Try.prog 17 #[.agg #[.slice A l c, .int .i64 len], .int .i64 at_, .int .i64 n] w fun e w' => e = .returned (.tuple #[.int .u64 0, .bool false]) ∧ Below w.heap.size w w' := by
  have hbl : bs.length = l := by simpa using hr.1
  have h8 : validB bs len = true → 0 ≤ len ∧ len ≤ 8 * (l : Int) := by
    intro hv
    simp only [validB, Bool.and_eq_true, decide_eq_true_eq] at hv
    omega
  have hcase : validB bs len = false ∨ (validB bs len = true ∧ (n < 1 ∨ (1 ≤ n ∧ (64 < n ∨ (n ≤ 64 ∧ (at_ < 0 ∨ (0 ≤ at_ ∧ len - n < at_))))))) := by
    cases h : validB bs len
    · exact .inl rfl
    · simp only [okBits, h, Bool.true_and, decide_eq_false_iff_not] at hv
      have := h8 h
      right
      refine ⟨rfl, ?_⟩
      omega
  go_enter Try.func17, Try.ntmps17
  go_wp2_with fail
  refine (validBits_c A l c bs len _ ((hr.alloc (Nat.le_refl _) _).more (by simp)) hl hlen).mono ?_
  rintro e w1 ⟨rfl, hb1⟩
  obtain ⟨hc1, hf1⟩ := bcell hb1
  have hbw : Below w.heap.size w w1 := ((Below.refl _ _).alloc (Nat.le_refl _) _).trans (hb1.mono (by simp))
  have cL := hc1 w.heap.size 1 (by simp)
  simp [go_sem] at cL
  clear hc1 hf1 hb1 hv hr
  rcases hcase with hv | ⟨hv, h⟩
  · rw [hv]
    clear hv h8
    go_wp2
    go_ret2
    exact ⟨rfl, hbw⟩
  · rw [hv]
    have h88 := h8 hv
    clear hv h8
    rcases h with h | ⟨h1, h | ⟨h2, h | ⟨h3, h⟩⟩⟩
    all_goals
      go_wp2
      go_ret2
      exact ⟨rfl, hbw⟩
end Go.Proofs.Ytapcbkcnokoljaa
