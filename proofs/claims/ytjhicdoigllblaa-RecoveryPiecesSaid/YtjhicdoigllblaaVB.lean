/- Senders, receivers, pieces: the plain words. -/
import Derived.Test.YtjhicdoigllblaaOM
namespace Go.Proofs.Ytjhicdoigllblaa
set_option linter.unusedVariables false
set_option linter.unusedSimpArgs false
open Go.RowKit
def rowsB (l : List (List UInt8)) : List SV := l.map fun b => .lst none (u8l b)
theorem rowsB_len (l : List (List UInt8)) : (rowsB l).length = l.length := by simp [rowsB]
theorem rowsB_at {l : List (List UInt8)} {R : List SV} (hR : R = rowsB l) (i : Nat) (hi : i < l.length) : ∃ b B, l[i]? = some b ∧ B = u8l b ∧ R[i]? = some (.lst none B) :=
  ⟨l[i], _, List.getElem?_eq_getElem hi, rfl, by rw [hR]; simp [rowsB, hi]⟩
/-- The bits of the numbers that f says yes to, below n. -/
def bm (f : Nat → Bool) : Nat → Nat
  | 0 => 0
  | n + 1 => bm f n + if f n then 2 ^ n else 0
theorem bm_lt (f : Nat → Bool) : ∀ n, bm f n < 2 ^ n
  | 0 => by simp [bm]
  | n + 1 => by
    have := bm_lt f n
    rw [bm, Nat.pow_succ]
    split <;> omega
theorem bm_or (f : Nat → Bool) (n : Nat) (h : f n = true) : bm f n ||| 2 ^ n = bm f (n + 1) := by
  rw [bm, if_pos h, Nat.or_comm, Nat.add_comm]
  have := Nat.two_pow_add_eq_or_of_lt (bm_lt f n) 1
  simpa using this.symm
theorem bm_bit (f : Nat → Bool) : ∀ n i, (bm f n).testBit i = (decide (i < n) && f i)
  | 0, i => by simp [bm]
  | n + 1, i => by
    rw [bm]
    by_cases h : f n = true
    · rw [if_pos h]
      have := Nat.two_pow_add_eq_or_of_lt (bm_lt f n) 1
      rw [Nat.add_comm, show 2 ^ n = 2 ^ n * 1 by omega, this, Nat.testBit_or, bm_bit f n i]
      simp only [Nat.mul_one, Nat.testBit_two_pow]
      by_cases hi : i = n
      · subst hi; simp [h]
      · have e1 : decide (n = i) = false := decide_eq_false (by omega)
        rw [e1, Bool.false_or]
        congr 1
        exact decide_eq_decide.2 (by omega)
    · rw [if_neg h, Nat.add_zero, bm_bit f n i]
      by_cases hi : i = n
      · subst hi; simp at h; simp [h]
      · congr 1
        exact decide_eq_decide.2 (by omega)
theorem bm_full (f : Nat → Bool) (n : Nat) : bm f n = 2 ^ n - 1 ↔ ∀ i, i < n → f i = true := by
  constructor
  · intro h i hi
    have := bm_bit f n i
    rw [h, Nat.testBit_two_pow_sub_one] at this
    simpa [hi] using this.symm
  · intro h
    apply Nat.eq_of_testBit_eq
    intro i
    rw [bm_bit, Nat.testBit_two_pow_sub_one]
    by_cases hi : i < n
    · simp [hi, h i hi]
    · simp [hi]
def hasN (ps : List (List UInt8)) (n : Nat) : Nat := bm (fun i => decide (0 < (ps.getD i []).length)) n
structure Snd where
  st : Int
  tag : Int
  ps : List (List UInt8)
  ak : Int
  rd : Int
  un : Int
def Snd.v (s : Snd) : SV := .agg [.int .i64 s.st, .int .u8 s.tag, .lst none (rowsB s.ps), .int .u32 s.ak, .int .i64 s.rd, .int .i64 s.un]
/-- The bitmap of n pieces. -/
def allI (n : Nat) : Int := 2 ^ n - 1
theorem allI_nat (n : Nat) : allI n = ((2 ^ n - 1 : Nat) : Int) := by
  have : 1 ≤ 2 ^ n := Nat.one_le_two_pow
  rw [allI]
  rw [Int.natCast_sub this]
  simp
theorem allI_b {n : Nat} (h : n ≤ 32) : 0 ≤ allI n ∧ allI n ≤ 4294967295 := by
  have h1 : (2 : Nat) ^ n ≤ 2 ^ 32 := Nat.pow_le_pow_right (by omega) h
  have h2 : 1 ≤ 2 ^ n := Nat.one_le_two_pow
  rw [allI_nat]
  omega
/-- A sender. -/
structure VS (s : Snd) : Prop where
  n1 : 1 ≤ s.ps.length
  n2 : s.ps.length ≤ 32
  ne : ∀ p ∈ s.ps, p ≠ []
  ak : s.ak ≤ allI s.ps.length
  r1 : 0 ≤ s.rd
  r2 : s.rd ≤ 8
  u1 : 0 ≤ s.un
  u2 : s.un ≤ 1099511627776
  d : s.ak = allI s.ps.length → s.st = 2
  a : s.ak ≠ allI s.ps.length → s.st = 1 ∨ s.st = 3
/-- The fields' ranges. -/
structure Snd.fits (s : Snd) : Prop where
  st : -9223372036854775808 ≤ s.st ∧ s.st ≤ 9223372036854775807
  tag : 0 ≤ s.tag ∧ s.tag ≤ 255
  ak : 0 ≤ s.ak ∧ s.ak ≤ 4294967295
  rd : -9223372036854775808 ≤ s.rd ∧ s.rd ≤ 9223372036854775807
  un : -9223372036854775808 ≤ s.un ∧ s.un ≤ 9223372036854775807
  n : s.ps.length ≤ 5864062014805
  b : ∀ p ∈ s.ps, p.length ≤ 140737488351232
end Go.Proofs.Ytjhicdoigllblaa
