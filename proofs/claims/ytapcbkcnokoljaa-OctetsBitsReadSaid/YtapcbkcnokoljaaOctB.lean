/- Contracts of octets.Uint and multihopref01.Same. -/
import Derived.Test.YtapcbkcnokoljaaOctA
namespace Go.Proofs.Ytapcbkcnokoljaa
open Go.RowKit

/-- The number that bytes are, the most significant one first. -/
def be (bs : List UInt8) : Nat := bs.foldl (fun a b => a * 256 + b.toNat) 0
theorem be_snoc (bs : List UInt8) (b : UInt8) : be (bs ++ [b]) = be bs * 256 + b.toNat := by simp [be]
theorem be_lt (bs : List UInt8) : be bs < 256 ^ bs.length := by
  have key : ∀ (k : Nat) (l : List UInt8), l.length = k → be l < 256 ^ k := by
    intro k
    induction k with
    | zero => intro l hl; rw [List.eq_nil_of_length_eq_zero hl]; simp [be]
    | succ k ih =>
      intro l hl
      have e : l = l.take k ++ [l[k]] := by
        have := List.take_add_one (l := l) (i := k)
        rw [List.getElem?_eq_getElem (by omega), List.take_of_length_le (by omega)] at this
        exact this
      rw [e, be_snoc, Nat.pow_succ]
      have h1 := ih (l.take k) (by simp; omega)
      have h2 := (l[k]).toNat_lt
      omega
  exact key _ _ rfl
theorem be_bytesOf (n : Nat) : ∀ u : Nat, be (bytesOf u n) = u % 256 ^ n := by
  induction n with
  | zero => intro u; simp [bytesOf, be, Nat.mod_one]
  | succ n ih =>
    intro u
    have e : bytesOf (u : Int) (n + 1) = bytesOf ((u / 256 : Nat) : Int) n ++ [digit u (n + 1) n] := by
      unfold bytesOf
      rw [List.range_succ, List.map_append]
      congr 1
      refine List.map_congr_left fun i hi => ?_
      have hi' : i < n := by simpa using hi
      unfold digit
      have e2 : n + 1 - 1 - i = (n - 1 - i) + 1 := by omega
      have e4 : (u : Int) / 2 ^ (8 * (n - 1 - i + 1)) = ((u / 256 : Nat) : Int) / 2 ^ (8 * (n - 1 - i)) := by
        have e5 : (u : Int) / 2 ^ (8 * (n - 1 - i + 1)) = ((u / 2 ^ (8 * (n - 1 - i + 1)) : Nat) : Int) := by simp
        have e6 : ((u / 256 : Nat) : Int) / 2 ^ (8 * (n - 1 - i)) = ((u / 256 / 2 ^ (8 * (n - 1 - i)) : Nat) : Int) := by simp
        rw [e5, e6, Nat.div_div_eq_div_mul, Nat.mul_add, Nat.pow_add, Nat.mul_comm]
      rw [e2, e4]
    have e3 : (digit (u : Int) (n + 1) n).toNat = u % 256 := by
      have := digit_val (u : Int) (n + 1) n
      simp at this
      omega
    rw [e, be_snoc, ih, e3, Nat.pow_succ, Nat.mul_comm (256 ^ n) 256, Nat.mod_mul]
    omega
theorem wrap_shift (v : Int) (k : Nat) (hv : 0 ≤ v ∧ v < 18446744073709551616) (h1 : 1 ≤ k) (h8 : k ≤ 8) :
    ((be (bytesOf v k) : Nat) : Int) = IntKind.u64.wrap (v * 2 ^ (64 - 8 * k)) / 2 ^ (64 - 8 * k) := by
  obtain ⟨u, rfl⟩ := Int.eq_ofNat_of_zero_le hv.1
  rw [be_bytesOf, IntKind.wrap_u64]
  have hk : k = 1 ∨ k = 2 ∨ k = 3 ∨ k = 4 ∨ k = 5 ∨ k = 6 ∨ k = 7 ∨ k = 8 := by omega
  rcases hk with rfl | rfl | rfl | rfl | rfl | rfl | rfl | rfl <;> simp <;> omega
theorem or_byte (a b : Nat) (hb : b < 256) : a * 256 ||| b = a * 256 + b := by
  have := Nat.two_pow_add_eq_or_of_lt (i := 8) (b := b) (by omega) a
  rw [show 2 ^ 8 * a = a * 256 from by omega] at this
  exact this.symm
theorem take_snoc_u8 (bs : List UInt8) (k : Nat) (h : k < bs.length) : bs.take (k + 1) = bs.take k ++ [bs[k]] := by
  rw [List.take_add_one, List.getElem?_eq_getElem h]; rfl

theorem uint_c (A : Option Addr) (l c : Nat) (bs : List UInt8) (at_ n : Nat) (w : World) (hr : Reads w w.heap.size 1 A l (u8s bs)) (hl : l ≤ 281474976710000) (hlc : l ≤ c) (_hc : c ≤ 281474976710000)
    (hn : 1 ≤ n) (hn8 : n ≤ 8) (hat : at_ + n ≤ l) :
    Calls Try.prog 12 #[.slice A l c, .int .i64 at_, .int .i64 n] w fun e w' => e = .returned (.tuple #[.int .u64 (be ((bs.drop at_).take n)), .bool true]) ∧ w = w' := by
  have hlen : bs.length = l := by simpa using hr.1
  obtain ⟨b, off, rfl, hb, hcell⟩ := hr.cells_ (by omega)
  have hcc : ¬ c = at_ := by omega
  go_enter Try.func12, Try.ntmps12
  go_wp2
  have hcut : ((bs.drop at_).take n).length = n := by simp; omega
  go_loop [8, 36] (fun v i => ∃ k : Nat, k ≤ n ∧ i = .int .i64 k ∧ v = .int .u64 (be (((bs.drop at_).take n).take k))) (fun _ i => n - (intOf i).toNat)
  case atStart => exact ⟨0, Nat.zero_le _, rfl, rfl⟩
  case round =>
    obtain ⟨k, hk, rfl, rfl⟩ := hrel
    have hxx : ∃ (x y x' : Nat), Hid (be (((bs.drop at_).take n).take k) = x) ∧ Hid (k < n → be (((bs.drop at_).take n).take (k + 1)) = x') ∧ Hid (k < n → x' = x * 256 + y) ∧ (k < n → (x : Int) * 256 ≤ 18446744073709551615) ∧ y < 256 ∧
        (k < n → w.cell? ⟨b, off + at_ + k, none⟩ = some (.int .u8 (y : Int))) := by
      refine ⟨_, (bs.getD (at_ + k) 0).toNat, _, rfl, fun _ => rfl, fun hlt => ?_, fun hlt => ?_, UInt8.toNat_lt _, fun hlt => ?_⟩
      · rw [take_snoc_u8 _ k (by omega), be_snoc]
        congr 2
        simp [List.getD, show at_ + k < bs.length by omega]
      · have := be_lt (((bs.drop at_).take n).take k)
        have hle : 256 ^ (((bs.drop at_).take n).take k).length ≤ 256 ^ 7 := Nat.pow_le_pow_right (by omega) (by simp; omega)
        have : be (((bs.drop at_).take n).take k) < 256 ^ 7 := by omega
        omega
      · rw [Nat.add_assoc]; exact hcell _ _ (u8s_getD bs _ (by omega))
    obtain ⟨x, y, x', HX, HX', HE, hxb, hy, hcr⟩ := hxx
    rw [HX.out]
    go_wp2
    · have hlt : k < n := by assumption
      go_round
      case rel =>
        refine ⟨k + 1, by omega, by go_num, ?_⟩
        rw [HX'.out hlt, HE.out hlt]
        have hb2 := hxb hlt
        have := u64_or_nat (x * 256) y (by omega) (by omega)
        rw [or_byte _ _ hy] at this
        simp only [Int.natCast_mul] at this
        exact congrArg (Value.int .u64) this
      case measure => simp [intOf]; omega
    · obtain rfl : k = n := by omega
      go_ret2
      rw [List.take_of_length_le (by omega)] at HX
      rw [HX.out]
      exact ⟨rfl, rfl⟩

theorem uint_i (A : Option Addr) (l c : Nat) (bs : List UInt8) (AT N : Int) (at_ n : Nat) (w : World) (hr : Reads w w.heap.size 1 A l (u8s bs)) (hl : l ≤ 281474976710000) (hlc : l ≤ c) (hc : c ≤ 281474976710000)
    (hN : N = n) (hn : 1 ≤ n) (hn8 : n ≤ 8) (hAT : AT = at_) (hat : at_ + n ≤ l) :
    Calls Try.prog 12 #[.slice A l c, .int .i64 AT, .int .i64 N] w fun e w' => e = .returned (.tuple #[.int .u64 (be ((bs.drop at_).take n)), .bool true]) ∧ w = w' := by
  subst hN hAT
  exact uint_c A l c bs at_ n w hr hl hlc hc hn hn8 hat

/-- Are two byte strings the same? (Closed to the walk.) -/
def sameB (xs ys : List UInt8) : Bool := decide (xs = ys)
theorem sameB_self (xs : List UInt8) : sameB xs xs = true := by simp [sameB]

theorem same_c (A A' : Option Addr) (l c l' c' : Nat) (xs ys : List UInt8) (B B' : Nat) (w : World) (hr : Reads w B 1 A l (u8s xs)) (hr' : Reads w B' 1 A' l' (u8s ys)) (hl : l ≤ 281474976710656) (hl' : l' ≤ 281474976710656) :
    Calls Try.prog 14 #[.slice A l c, .slice A' l' c'] w fun e w' => e = .returned (.bool (sameB xs ys)) ∧ ∃ m, w' = w.drewN m := by
  have hlen : xs.length = l := by simpa using hr.1
  have hlen' : ys.length = l' := by simpa using hr'.1
  by_cases hll : l = l'
  · subst hll
    go_enter Try.func14, Try.ntmps14
    go_wp2
    go_loopw [5] (fun i wr => ∃ k : Nat, k ≤ l ∧ i = .int .i64 k ∧ Hid (xs.take k = ys.take k) ∧ ∃ m, wr = w.drewN m) (fun i _ => l - (intOf i).toNat)
    case atStart => exact ⟨0, Nat.zero_le _, rfl, rfl, 0, rfl⟩
    case round =>
      obtain ⟨k, hk, rfl, HT, m, rfl⟩ := hrel
      by_cases hlt : k < l
      · obtain ⟨b, off, rfl, hb, hcell⟩ := hr.cells_ (by omega)
        obtain ⟨b', off', rfl, hb', hcell'⟩ := hr'.cells_ (by omega)
        have hx := hcell k _ (u8s_getD xs k (by omega))
        have hy := hcell' k _ (u8s_getD ys k (by omega))
        have ex : xs.take (k + 1) = xs.take k ++ [xs.getD k 0] := by
          rw [List.take_add_one, List.getElem?_eq_getElem (by omega)]; simp [List.getD, show k < xs.length by omega]
        have ey : ys.take (k + 1) = ys.take k ++ [ys.getD k 0] := by
          rw [List.take_add_one, List.getElem?_eq_getElem (by omega)]; simp [List.getD, show k < ys.length by omega]
        have HX := Lib.hid ex
        have HY := Lib.hid ey
        generalize xs.getD k 0 = x at *
        generalize ys.getD k 0 = y at *
        clear ex ey hcell hcell' hr hr'
        go_wp2_with fail
        go_quiet (fail)
        go_wp2
        · have hne : ((x.toNat : Int) != y.toNat) = true := by assumption
          go_ret
          refine ⟨?_, _, World.drewN_drewN _ _ _⟩
          have : sameB xs ys = false := by
            simp only [sameB, decide_eq_false_iff_not]
            intro h
            have h1 := HX.out; have h2 := HY.out
            rw [h, h2] at h1
            have h3 := List.append_cancel_left h1
            simp at h3
            simp [h3] at hne
          rw [this]
          rfl
        · have heq : ((x.toNat : Int) != y.toNat) = false := by assumption
          go_roundw
          case rel =>
            refine ⟨k + 1, by omega, by go_num, ?_, _, rfl⟩
            have hxy : x = y := by
              have : (x.toNat : Int) = y.toNat := by simpa using heq
              exact UInt8.toNat_inj.1 (by omega)
            show xs.take (k + 1) = ys.take (k + 1)
            rw [HX.out, HY.out, HT.out, hxy]
          case measure => simp [intOf]; omega
      · go_wp2
        obtain rfl : k = l := by omega
        go_ret
        refine ⟨?_, _, rfl⟩
        have : sameB xs ys = true := by
          have := HT.out
          rw [List.take_of_length_le (by omega), List.take_of_length_le (by omega)] at this
          simp [sameB, this]
        rw [this]
        rfl
  · have hne : ((l : Int) != (l' : Int)) = true := by simp; omega
    go_enter Try.func14, Try.ntmps14
    go_wp2
    go_ret
    refine ⟨?_, 0, rfl⟩
    have : sameB xs ys = false := by
      simp only [sameB, decide_eq_false_iff_not]
      rintro rfl
      omega
    rw [this]
    rfl
end Go.Proofs.Ytapcbkcnokoljaa
