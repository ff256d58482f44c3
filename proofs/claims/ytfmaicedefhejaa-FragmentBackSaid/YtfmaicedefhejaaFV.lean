/- What bytes are decoded to; that encoding and decoding undo each other. -/
import Derived.Test.YtfmaicedefhejaaFT
namespace Go.Proofs.Ytfmaicedefhejaa
set_option linter.unusedVariables false
set_option linter.unusedSimpArgs false
open Go.RowKit
set_option maxHeartbeats 4000000
theorem bytes2 (x y : UInt8) : bytesOf ((be [x, y] : Nat) : Int) 2 = [x, y] := by
  have h1 := x.toNat_lt
  have h2 := y.toNat_lt
  have e : be [x, y] = x.toNat * 256 + y.toNat := by simp [be]
  rw [e]
  have d0 : digit ((x.toNat * 256 + y.toNat : Nat) : Int) 2 0 = x := by
    apply UInt8.toNat_inj.1
    have := digit_val ((x.toNat * 256 + y.toNat : Nat) : Int) 2 0
    rw [show (2 : Int) ^ (8 * (2 - 1 - 0)) = 256 from rfl] at this
    omega
  have d1 : digit ((x.toNat * 256 + y.toNat : Nat) : Int) 2 1 = y := by
    apply UInt8.toNat_inj.1
    have := digit_val ((x.toNat * 256 + y.toNat : Nat) : Int) 2 1
    rw [show (2 : Int) ^ (8 * (2 - 1 - 1)) = 1 from rfl] at this
    omega
  show [digit _ 2 0, digit _ 2 1] = _
  rw [d0, d1]
theorem byte1 (x : UInt8) : bytesOf (x.toNat : Int) 1 = [x] := by
  have h1 := x.toNat_lt
  have d0 : digit (x.toNat : Int) 1 0 = x := by
    apply UInt8.toNat_inj.1
    have := digit_val (x.toNat : Int) 1 0
    rw [show (2 : Int) ^ (8 * (1 - 1 - 0)) = 1 from rfl] at this
    omega
  show [digit _ 1 0] = _
  rw [d0]
theorem be2 (x y : UInt8) : be [x, y] = x.toNat * 256 + y.toNat := by simp [be]
def chkF (f : Fr) : Option Fr := if f.ok = true then some f else none
/-- The number in the first two bytes. -/
def vOf (x0 x1 : UInt8) : Int := (be [x0, x1] : Nat)
theorem vOf_b (x y : UInt8) : 0 ≤ vOf x y ∧ vOf x y ≤ 65535 := by
  have h1 := x.toNat_lt
  have h2 := y.toNat_lt
  unfold vOf
  rw [be2]
  omega
def decR (x0 x1 x2 x3 : UInt8) (rest : List UInt8) : Option Fr :=
  if vOf x0 x1 / 2048 = 24 then chkF ⟨vOf x0 x1 % 2048, vOf x2 x3, 0, rest⟩
  else if vOf x0 x1 / 2048 = 28 then (match rest with
    | [] => none
    | o :: rest' => if o = 0 then none else chkF ⟨vOf x0 x1 % 2048, vOf x2 x3, 8 * (o.toNat : Int), rest'⟩)
  else none
theorem chkF_some {f g : Fr} (h : chkF f = some g) : g = f ∧ f.ok = true := by
  unfold chkF at h
  split at h
  · rename_i h1; injection h with h; exact ⟨h.symm, h1⟩
  · cases h
/-- What is decoded is encoded to the same bytes. -/
theorem decR_enc {x0 x1 x2 x3 : UInt8} {rest : List UInt8} {f : Fr} (h : decR x0 x1 x2 x3 rest = some f) : f.ok = true ∧ f.fits ∧ encF f.n f.t f.a f.b = x0 :: x1 :: x2 :: x3 :: rest := by
  have hb := vOf_b x0 x1
  have hc := vOf_b x2 x3
  have e1 : bytesOf (vOf x0 x1) 2 = [x0, x1] := bytes2 x0 x1
  have e2 : bytesOf (vOf x2 x3) 2 = [x2, x3] := bytes2 x2 x3
  unfold decR at h
  split at h
  · rename_i h1
    obtain ⟨rfl, hok⟩ := chkF_some h
    have hv := of_decide_eq_true (show validF _ _ _ = true from hok)
    dsimp only at hv
    refine ⟨hok, ⟨by dsimp only; omega, by dsimp only; omega, by dsimp only; omega, by dsimp only; omega⟩, ?_⟩
    simp only [encF]
    rw [if_neg (by omega), if_neg (by omega), show 49152 + vOf x0 x1 % 2048 = vOf x0 x1 by omega, e1, e2]
    rfl
  · split at h
    · rename_i h1
      cases rest with
      | nil => cases h
      | cons o rest =>
        simp only at h
        split at h
        · cases h
        · rename_i ho
          obtain ⟨rfl, hok⟩ := chkF_some h
          have ho' : 0 < o.toNat := by
            rcases Nat.eq_zero_or_pos o.toNat with g | g
            · exact absurd (UInt8.toNat_inj.1 (by simpa using g)) ho
            · exact g
          have ho2 := o.toNat_lt
          have hv := of_decide_eq_true (show validF _ _ _ = true from hok)
          dsimp only at hv
          refine ⟨hok, ⟨by dsimp only; omega, by dsimp only; omega, by dsimp only; omega, by dsimp only; omega⟩, ?_⟩
          simp only [encF]
          rw [if_pos (by omega), if_pos (by omega), show 57344 + vOf x0 x1 % 2048 = vOf x0 x1 by omega, show (8 * (o.toNat : Int)) / 8 = o.toNat by omega, e1, e2, byte1]
          rfl
    · cases h
/-- A fragment is decoded from its encoding. -/
theorem enc_decR {f : Fr} (hok : f.ok = true) (ht : 0 ≤ f.t ∧ f.t ≤ 65535) : ∃ x0 x1 x2 x3 rest, encF f.n f.t f.a f.b = x0 :: x1 :: x2 :: x3 :: rest ∧ decR x0 x1 x2 x3 rest = some f := by
  have hv := of_decide_eq_true (show validF f.n f.a f.b.length = true from hok)
  have key : ∀ v : Int, 0 ≤ v → v ≤ 65535 → ∃ x y, bytesOf v 2 = [x, y] ∧ vOf x y = v := fun v h0 h1 => by
    obtain ⟨u, rfl⟩ := Int.eq_ofNat_of_zero_le h0
    refine ⟨digit u 2 0, digit u 2 1, rfl, ?_⟩
    have := be_bytesOf 2 u
    have e : bytesOf (u : Int) 2 = [digit u 2 0, digit u 2 1] := rfl
    rw [e] at this
    unfold vOf
    rw [this]
    omega
  obtain ⟨x2, x3, e2, v2⟩ := key f.t ht.1 ht.2
  by_cases ha : f.a > 0
  · obtain ⟨x0, x1, e1, v1⟩ := key (57344 + f.n) (by omega) (by omega)
    obtain ⟨o, ho⟩ : ∃ o : UInt8, (o.toNat : Int) = f.a / 8 := ⟨UInt8.ofNat (f.a / 8).toNat, by simp only [UInt8.toNat_ofNat']; omega⟩
    refine ⟨x0, x1, x2, x3, o :: f.b, ?_, ?_⟩
    · simp only [encF]
      rw [if_pos ha, if_pos ha, e1, e2, ← ho, byte1]; rfl
    · unfold decR
      rw [v1, v2, if_neg (by omega), if_pos (by omega)]
      simp only
      rw [if_neg (by rintro rfl; simp at ho; omega)]
      have e : (⟨(57344 + f.n) % 2048, f.t, 8 * (o.toNat : Int), f.b⟩ : Fr) = f := by
        cases f
        simp only [Fr.mk.injEq, and_true, true_and] at *
        omega
      rw [e, chkF, if_pos hok]
  · obtain ⟨x0, x1, e1, v1⟩ := key (49152 + f.n) (by omega) (by omega)
    refine ⟨x0, x1, x2, x3, f.b, ?_, ?_⟩
    · simp only [encF]
      rw [if_neg ha, if_neg ha, e1, e2]; rfl
    · unfold decR
      rw [v1, v2, if_pos (by omega)]
      have e : (⟨(49152 + f.n) % 2048, f.t, 0, f.b⟩ : Fr) = f := by
        cases f
        simp only [Fr.mk.injEq, and_true, true_and] at *
        omega
      rw [e, chkF, if_pos hok]
/-- The bits of a number. -/
theorem and2047 (v : Nat) : v &&& 2047 = v % 2048 := Nat.and_two_pow_sub_one_eq_mod v 11
theorem xor2047 (v : Nat) : v ^^^ (v &&& 2047) = v / 2048 * 2048 := by
  rw [and2047]
  apply Nat.eq_of_testBit_eq
  intro i
  have e : v / 2048 * 2048 = 2 ^ 11 * (v / 2 ^ 11) := by omega
  rw [e, show 2048 = 2 ^ 11 from rfl, Nat.testBit_xor, Nat.testBit_mod_two_pow, Nat.testBit_two_pow_mul, Nat.testBit_div_two_pow]
  by_cases h : i < 11
  · simp [h, show ¬ 11 ≤ i by omega]
  · simp [h, show 11 ≤ i by omega]
end Go.Proofs.Ytfmaicedefhejaa
