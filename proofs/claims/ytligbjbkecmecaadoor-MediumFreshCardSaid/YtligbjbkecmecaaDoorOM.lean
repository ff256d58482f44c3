/- Bytes and numbers: the plain law of octets.Append and octets.Uint. -/
import Derived.Test.YtligbjbkecmecaaDoorOA
namespace Go.Proofs.YtligbjbkecmecaaDoor
set_option linter.unusedVariables false
set_option linter.unusedSimpArgs false
open Go.RowKit
/-- A list of bytes, as values. -/
def u8l (l : List UInt8) : List SV := l.map fun b => SV.int .u8 b.toNat
theorem u8l_len (l : List UInt8) : (u8l l).length = l.length := by simp [u8l]
theorem u8l_at {l : List UInt8} (i : Nat) (h : i < l.length) : (u8l l)[i]? = some (SV.int .u8 (l.getD i 0).toNat) := by simp [u8l, h]
theorem u8l_app (l m : List UInt8) : u8l l ++ u8l m = u8l (l ++ m) := by simp [u8l]
theorem u8l_take (l : List UInt8) (n : Nat) : (u8l l).take n = u8l (l.take n) := by simp [u8l]
theorem u8l_drop (l : List UInt8) (n : Nat) : (u8l l).drop n = u8l (l.drop n) := by simp [u8l]
theorem u8l_set (l : List UInt8) (n : Nat) (v : UInt8) : (u8l l).set n (.int .u8 v.toNat) = u8l (l.set n v) := by simp [u8l, List.map_set]
theorem u8l_rep (n : Nat) : List.replicate n (SV.int .u8 0) = u8l (List.replicate n 0) := by simp [u8l]
theorem u8l_nil : [] = u8l [] := rfl
/-- Whole numbers within a byte are bytes. -/
theorem u8l_of (l : List Int) (h : ∀ v ∈ l, 0 ≤ v ∧ v ≤ 255) : ∃ bs : List UInt8, ints .u8 l = u8l bs ∧ bs.length = l.length := by
  refine ⟨l.map fun v => UInt8.ofNat v.toNat, ?_, by simp⟩
  simp only [ints, u8l, List.map_map]
  apply List.map_congr_left
  intro v hv
  have := h v hv
  simp only [Function.comp_def, UInt8.toNat_ofNat']
  congr 1
  omega

/-- What Append returns. -/
def digit (v : Int) (n i : Nat) : UInt8 := UInt8.ofNat (v / 2 ^ (8 * (n - 1 - i)) % 256).toNat
def bytesOf (v : Int) (n : Nat) : List UInt8 := (List.range n).map (digit v n)
theorem digit_val (v : Int) (n i : Nat) : ((digit v n i).toNat : Int) = v / 2 ^ (8 * (n - 1 - i)) % 256 := by
  have h0 := Int.emod_nonneg (v / 2 ^ (8 * (n - 1 - i))) (show (256 : Int) ≠ 0 by omega)
  have h1 := Int.emod_lt_of_pos (v / 2 ^ (8 * (n - 1 - i))) (show (0 : Int) < 256 by omega)
  unfold digit
  generalize v / 2 ^ (8 * (n - 1 - i)) % 256 = x at *
  simp only [UInt8.toNat_ofNat']
  omega
theorem bytesOf_length (v : Int) (n : Nat) : (bytesOf v n).length = n := by simp [bytesOf]
theorem bytesOf_get (v : Int) (n k : Nat) (h : k < n) : (bytesOf v n)[k]? = some (digit v n k) := by simp [bytesOf, h]
def appRow (bs : List UInt8) (v : Int) (n k : Nat) : List UInt8 := bs ++ ((bytesOf v n).take k ++ List.replicate (n - k) 0)
theorem appRow_zero (bs : List UInt8) (v : Int) (n : Nat) : appRow bs v n 0 = bs ++ List.replicate n 0 := by simp [appRow]
theorem appRow_full (bs : List UInt8) (v : Int) (n : Nat) : appRow bs v n n = bs ++ bytesOf v n := by
  simp [appRow, List.take_of_length_le (Nat.le_of_eq (bytesOf_length v n))]
theorem appRow_get (bs : List UInt8) (v : Int) (n k : Nat) (h : k < n) : (appRow bs v n k)[bs.length + k]? = some 0 := by
  unfold appRow
  rw [List.getElem?_append_right (by omega), List.getElem?_append_right (by rw [List.length_take, bytesOf_length]; omega)]
  have : bs.length + k - bs.length - ((bytesOf v n).take k).length = 0 := by rw [List.length_take, bytesOf_length]; omega
  rw [this, show n - k = (n - (k + 1)) + 1 by omega, List.replicate_succ]
  rfl
theorem appRow_set (bs : List UInt8) (v : Int) (n k : Nat) (h : k < n) : (appRow bs v n k).set (bs.length + k) (digit v n k) = appRow bs v n (k + 1) := by
  unfold appRow
  have hl : ((bytesOf v n).take k).length = k := by rw [List.length_take, bytesOf_length]; omega
  have e : List.take (k + 1) (bytesOf v n) = List.take k (bytesOf v n) ++ [digit v n k] := by
    rw [List.take_add_one, bytesOf_get v n k h]; rfl
  rw [List.set_append_right _ _ (by omega), List.set_append_right _ _ (by omega), hl, e]
  have : bs.length + k - bs.length - k = 0 := by omega
  rw [this, show n - k = (n - (k + 1)) + 1 by omega, List.replicate_succ, List.set_cons_zero, List.append_assoc, List.singleton_append]

/-- The number that bytes are, the most significant one first. -/
def be (bs : List UInt8) : Nat := bs.foldl (fun a b => a * 256 + b.toNat) 0
theorem be_snoc (bs : List UInt8) (b : UInt8) : be (bs ++ [b]) = be bs * 256 + b.toNat := by simp [be]
theorem be_lt (bs : List UInt8) : be bs < 256 ^ bs.length := by
  have key : ∀ (k : Nat) (l : List UInt8), l.length = k → be l < 256 ^ k := by
    intro k
    induction k with
    | zero => intro l hl; rw [List.eq_nil_of_length_eq_zero hl]; simp [be]
    | succ k ih =>
      intro l hl
      have e : l = l.take k ++ [l[k]] := by
        have := List.take_add_one (l := l) (i := k)
        rw [List.getElem?_eq_getElem (by omega), List.take_of_length_le (by omega)] at this
        exact this
      rw [e, be_snoc, Nat.pow_succ]
      have h1 := ih (l.take k) (by simp; omega)
      have h2 := (l[k]).toNat_lt
      omega
  exact key _ _ rfl
theorem be_bytesOf (n : Nat) : ∀ u : Nat, be (bytesOf u n) = u % 256 ^ n := by
  induction n with
  | zero => intro u; simp [bytesOf, be, Nat.mod_one]
  | succ n ih =>
    intro u
    have e : bytesOf (u : Int) (n + 1) = bytesOf ((u / 256 : Nat) : Int) n ++ [digit u (n + 1) n] := by
      unfold bytesOf
      rw [List.range_succ, List.map_append]
      congr 1
      refine List.map_congr_left fun i hi => ?_
      have hi' : i < n := by simpa using hi
      unfold digit
      have e2 : n + 1 - 1 - i = (n - 1 - i) + 1 := by omega
      have e4 : (u : Int) / 2 ^ (8 * (n - 1 - i + 1)) = ((u / 256 : Nat) : Int) / 2 ^ (8 * (n - 1 - i)) := by
        have e5 : (u : Int) / 2 ^ (8 * (n - 1 - i + 1)) = ((u / 2 ^ (8 * (n - 1 - i + 1)) : Nat) : Int) := by simp
        have e6 : ((u / 256 : Nat) : Int) / 2 ^ (8 * (n - 1 - i)) = ((u / 256 / 2 ^ (8 * (n - 1 - i)) : Nat) : Int) := by simp
        rw [e5, e6, Nat.div_div_eq_div_mul, Nat.mul_add, Nat.pow_add, Nat.mul_comm]
      rw [e2, e4]
    have e3 : (digit (u : Int) (n + 1) n).toNat = u % 256 := by
      have := digit_val (u : Int) (n + 1) n
      simp at this
      omega
    rw [e, be_snoc, ih, e3, Nat.pow_succ, Nat.mul_comm (256 ^ n) 256, Nat.mod_mul]
    omega
theorem wrap_shift (v : Int) (k : Nat) (hv : 0 ≤ v ∧ v < 18446744073709551616) (h1 : 1 ≤ k) (h8 : k ≤ 8) :
    ((be (bytesOf v k) : Nat) : Int) = IntKind.u64.wrap (v * 2 ^ (64 - 8 * k)) / 2 ^ (64 - 8 * k) := by
  obtain ⟨u, rfl⟩ := Int.eq_ofNat_of_zero_le hv.1
  rw [be_bytesOf, IntKind.wrap_u64]
  have hk : k = 1 ∨ k = 2 ∨ k = 3 ∨ k = 4 ∨ k = 5 ∨ k = 6 ∨ k = 7 ∨ k = 8 := by omega
  rcases hk with rfl | rfl | rfl | rfl | rfl | rfl | rfl | rfl <;> simp <;> omega
theorem or_byte (a b : Nat) (hb : b < 256) : a * 256 ||| b = a * 256 + b := by
  have := Nat.two_pow_add_eq_or_of_lt (i := 8) (b := b) (by omega) a
  rw [show 2 ^ 8 * a = a * 256 from by omega] at this
  exact this.symm
theorem take_snoc_u8 (bs : List UInt8) (k : Nat) (h : k < bs.length) : bs.take (k + 1) = bs.take k ++ [bs[k]] := by
  rw [List.take_add_one, List.getElem?_eq_getElem h]; rfl

end Go.Proofs.YtligbjbkecmecaaDoor
