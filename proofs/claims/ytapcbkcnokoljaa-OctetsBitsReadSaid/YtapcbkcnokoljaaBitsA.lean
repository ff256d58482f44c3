/- Contracts of octets.size and octets.ValidBits. -/
import Derived.Test.YtapcbkcnokoljaaOctB
namespace Go.Proofs.Ytapcbkcnokoljaa
open Go.RowKit

theorem size_c (N : Int) (n : Nat) (w : World) (hN : N = n) (hn : n ≤ 9223372036854775807) :
    Calls Try.prog 31 #[.int .i64 N] w fun e w' => e = .returned (.int .i64 ((n + 7) / 8 : Nat)) ∧ w = w' := by
  subst hN
  go_enter Try.func31, Try.ntmps31
  go_wp2
  · have h : ((n : Int) % 8 != 0) = true := by assumption
    have h2 : (n : Int) % 8 ≠ 0 := by simpa using h
    go_ret
    exact ⟨ret_int (by omega), rfl⟩
  · have h : ((n : Int) % 8 != 0) = false := by assumption
    have h2 : (n : Int) % 8 = 0 := by simpa using h
    go_ret
    exact ⟨ret_int (by omega), rfl⟩

theorem mask_low (x k : Nat) (hx : x < 256) (hk : k ≤ 8) : bits .and .u8 (x : Int) (255 / 2 ^ k) = ((x % 2 ^ (8 - k) : Nat) : Int) := by
  have e : (255 : Int) / 2 ^ k = ((255 / 2 ^ k : Nat) : Int) := by simp
  rw [e, u8_and_nat x _ hx (by have := Nat.div_le_self 255 (2 ^ k); omega)]
  have h : 255 / 2 ^ k = 2 ^ (8 - k) - 1 := by
    have hk : k = 0 ∨ k = 1 ∨ k = 2 ∨ k = 3 ∨ k = 4 ∨ k = 5 ∨ k = 6 ∨ k = 7 ∨ k = 8 := by omega
    rcases hk with rfl | rfl | rfl | rfl | rfl | rfl | rfl | rfl | rfl <;> rfl
  rw [h, Nat.and_two_pow_sub_one_eq_mod]

/-- Is a bit string valid? (Closed to the walk.) -/
def restB (bs : List UInt8) (len : Nat) : Bool := decide (len % 8 = 0 ∨ (bs.getD (bs.length - 1) 0).toNat % 2 ^ (8 - len % 8) = 0)
def validB (bs : List UInt8) (len : Int) : Bool := decide (0 ≤ len) && (decide (bs.length = (len.toNat + 7) / 8) && restB bs len.toNat)

theorem validBits_c (A : Option Addr) (l c : Nat) (bs : List UInt8) (len : Int) (w : World) (hr : Reads w w.heap.size 1 A l (u8s bs)) (hl : l ≤ 281474976710000) (hlen : -9223372036854775808 ≤ len ∧ len ≤ 9223372036854775807) :
    Calls Try.prog 16 #[.agg #[.slice A l c, .int .i64 len]] w fun e w' => e = .returned (.bool (validB bs len)) ∧ Below w.heap.size w w' := by
  have hbl : bs.length = l := by simpa using hr.1
  by_cases h0 : len < 0
  · have hd : decide (len < 0) = true := by simpa using h0
    go_enter Try.func16, Try.ntmps16
    go_wp2_with fail
    go_quiet (fail)
    go_wp2
    go_ret
    have : validB bs len = false := by simp [validB]; omega
    exact ⟨ret_bool this.symm, below_drewN ((Below.refl _ _).alloc (Nat.le_refl _) _) _⟩
  · obtain ⟨n, rfl⟩ := Int.eq_ofNat_of_zero_le (show 0 ≤ len by omega)
    have hd : decide ((n : Int) < 0) = false := by simp
    by_cases hs : l = (n + 7) / 8
    · have hs1 : ((l : Int) != ((n : Int) + 7) / 8) = false := by simp; omega
      have HS := Lib.hid hs
      clear hs
      by_cases hz : n % 8 = 0
      · have hz1 : ((n : Int) % 8 == 0) = true := by simp; omega
        have HZ := Lib.hid hz
        clear hz
        go_enter Try.func16, Try.ntmps16
        go_wp2_with fail
        go_quiet ((go_at_call 31; exact quiet_left (size_c _ n _ rfl (by omega))))
        go_wp2
        go_quiet (fail)
        go_wp2
        go_ret
        have hz := HZ.out
        have hs := HS.out
        have : validB bs n = true := by simp [validB, restB, hz]; omega
        exact ⟨ret_bool this.symm, below_drewN (below_drewN ((Below.refl _ _).alloc (Nat.le_refl _) _) _) _⟩
      · have hz1 : ((n : Int) % 8 == 0) = false := by simp; omega
        have hn0 : 0 < l := by have := HS.out; omega
        have HZ := Lib.hid hz
        clear hz
        obtain ⟨b, off, rfl, hb, hcell⟩ := hr.cells_ hn0
        have hx := hcell (l - 1) _ (u8s_getD bs (l - 1) (by omega))
        generalize hy : (bs.getD (l - 1) 0).toNat = y at *
        have hy2 : y < 256 := by rw [← hy]; exact UInt8.toNat_lt _
        have HY := Lib.hid hy
        clear hy
        clear hcell hr
        go_enter Try.func16, Try.ntmps16
        go_wp2_with fail
        go_quiet ((go_at_call 31; exact quiet_left (size_c _ n _ rfl (by omega))))
        go_wp2
        go_quiet (fail)
        go_wp2
        go_ret
        have hz := HZ.out
        have hs := HS.out
        have hy := HY.out
        refine ⟨ret_bool ?_, below_drewN (below_drewN ((Below.refl _ _).alloc (Nat.le_refl _) _) _) _⟩
        rw [mask_low y (n % 8) hy2 (by omega)]
        have e1 : bs.length = (n + 7) / 8 := by omega
        simp only [validB, restB, hbl, hy, Int.toNat_natCast, ← hs, hz, false_or, decide_true, Bool.true_and, show decide ((0 : Int) ≤ n) = true from by simp]
        rw [Bool.eq_iff_iff]
        simp only [beq_iff_eq, decide_eq_true_eq]
        omega
    · have hs1 : ((l : Int) != ((n : Int) + 7) / 8) = true := by simp; omega
      go_enter Try.func16, Try.ntmps16
      go_wp2_with fail
      go_quiet ((go_at_call 31; exact quiet_left (size_c _ n _ rfl (by omega))))
      go_wp2
      go_ret
      have : validB bs n = false := by simp [validB]; omega
      exact ⟨ret_bool this.symm, below_drewN ((Below.refl _ _).alloc (Nat.le_refl _) _) _⟩
end Go.Proofs.Ytapcbkcnokoljaa
