/- Contracts of octets.Append, multihopmade.Mod. -/
import Derived.Test.YtapcbkcnokoljaaProg
import Derived.Test.YtapcbkcnokoljaaLib
namespace Go.Proofs.Ytapcbkcnokoljaa
open Go.RowKit

theorem u8info : (Try.prog.info? 5).map (fun i => (i.zero, i.size, i.bytes)) = some (some (.int .u8 0), 1, 1) := by kernel_rfl
theorem u8size : (Try.prog.info? 5).map (·.size) = some 1 := by kernel_rfl

theorem mod_c (v n : Int) (w : World) (hn : 1 ≤ n) (hn2 : n ≤ 4611686018427387904) (_hv : -9223372036854775808 ≤ v ∧ v ≤ 9223372036854775807) :
    Calls Try.prog 10 #[.int .i64 v, .int .i64 n] w fun e w' => e = .returned (.int .i64 (v % n)) ∧ w = w' := by
  have h1 : v.tmod n = if 0 ≤ v ∨ v % n = 0 then v % n else v % n - n := by
    rw [Int.tmod_eq_emod]
    have : (n ∣ v) ↔ v % n = 0 := Int.dvd_iff_emod_eq_zero
    have hnn : (n.natAbs : Int) = n := by omega
    simp only [this]
    split <;> simp <;> omega
  have h2 : 0 ≤ v % n := Int.emod_nonneg _ (by omega)
  have h3 : v % n < n := Int.emod_lt_of_pos _ (by omega)
  generalize hm : v % n = m at *
  have H1 := Lib.hid h1
  clear h1 hm
  go_enter Try.func10, Try.ntmps10
  go_wp2
  all_goals (have h1 := H1.out; go_ret; refine ⟨?_, rfl⟩)
  · have hneg : v.tmod n < 0 := by assumption
    rw [h1] at hneg ⊢
    split at hneg
    · omega
    · rename_i hc
      rw [if_neg hc, IntWalk.wrap64_in _ (by omega)]
      simp
  · have hneg : 0 ≤ v.tmod n := by assumption
    rw [h1] at hneg ⊢
    split at hneg
    · rename_i hc
      rw [if_pos hc]
      simp
    · omega

/-- What Append returns. -/
def digit (v : Int) (n i : Nat) : UInt8 := UInt8.ofNat (v / 2 ^ (8 * (n - 1 - i)) % 256).toNat
def bytesOf (v : Int) (n : Nat) : List UInt8 := (List.range n).map (digit v n)
theorem digit_val (v : Int) (n i : Nat) : ((digit v n i).toNat : Int) = v / 2 ^ (8 * (n - 1 - i)) % 256 := by
  have h0 := Int.emod_nonneg (v / 2 ^ (8 * (n - 1 - i))) (show (256 : Int) ≠ 0 by omega)
  have h1 := Int.emod_lt_of_pos (v / 2 ^ (8 * (n - 1 - i))) (show (0 : Int) < 256 by omega)
  unfold digit
  generalize v / 2 ^ (8 * (n - 1 - i)) % 256 = x at *
  simp only [UInt8.toNat_ofNat']
  omega
theorem bytesOf_length (v : Int) (n : Nat) : (bytesOf v n).length = n := by simp [bytesOf]
theorem bytesOf_get (v : Int) (n k : Nat) (h : k < n) : (bytesOf v n)[k]? = some (digit v n k) := by simp [bytesOf, h]
def appRow (bs : List UInt8) (v : Int) (n k : Nat) : List UInt8 := bs ++ ((bytesOf v n).take k ++ List.replicate (n - k) 0)
theorem appRow_zero (bs : List UInt8) (v : Int) (n : Nat) : appRow bs v n 0 = bs ++ List.replicate n 0 := by simp [appRow]
theorem appRow_full (bs : List UInt8) (v : Int) (n : Nat) : appRow bs v n n = bs ++ bytesOf v n := by
  simp [appRow, List.take_of_length_le (Nat.le_of_eq (bytesOf_length v n))]
theorem appRow_get (bs : List UInt8) (v : Int) (n k : Nat) (h : k < n) : (appRow bs v n k)[bs.length + k]? = some 0 := by
  unfold appRow
  rw [List.getElem?_append_right (by omega), List.getElem?_append_right (by rw [List.length_take, bytesOf_length]; omega)]
  have : bs.length + k - bs.length - ((bytesOf v n).take k).length = 0 := by rw [List.length_take, bytesOf_length]; omega
  rw [this, show n - k = (n - (k + 1)) + 1 by omega, List.replicate_succ]
  rfl
theorem appRow_set (bs : List UInt8) (v : Int) (n k : Nat) (h : k < n) : (appRow bs v n k).set (bs.length + k) (digit v n k) = appRow bs v n (k + 1) := by
  unfold appRow
  have hl : ((bytesOf v n).take k).length = k := by rw [List.length_take, bytesOf_length]; omega
  have e : List.take (k + 1) (bytesOf v n) = List.take k (bytesOf v n) ++ [digit v n k] := by
    rw [List.take_add_one, bytesOf_get v n k h]; rfl
  rw [List.set_append_right _ _ (by omega), List.set_append_right _ _ (by omega), hl, e]
  have : bs.length + k - bs.length - k = 0 := by omega
  rw [this, show n - k = (n - (k + 1)) + 1 by omega, List.replicate_succ, List.set_cons_zero, List.append_assoc, List.singleton_append]

theorem append_c (A : Option Addr) (l c : Nat) (bs : List UInt8) (v N : Int) (n : Nat) (w : World) (hr : Reads w w.heap.size 1 A l (u8s bs)) (hl : l ≤ 281474976710000) (_hv : 0 ≤ v ∧ v < 18446744073709551616)
    (hN : N = n) (hn : n ≤ 8) :
    Calls Try.prog 11 #[.slice A l c, .int .u64 v, .int .i64 N] w fun e w' => ∃ g, e = .returned (.slice (some ⟨g, 0, none⟩) (l + n) (l + n)) ∧ w.heap.size ≤ g ∧
      Blk w' g 5 (u8s (bs ++ bytesOf v n)) ∧ Below w.heap.size w w' := by
  obtain ⟨i0, hi0, hz0, hz1, hz2⟩ := info_parts u8info
  subst hN
  have hlen : bs.length = l := by simpa using hr.1
  have e8 : l + n - l = n := by omega
  go_enter Try.func11, Try.ntmps11
  go_wp2_with (first
    | (at_make; refine wpList_make_blk rfl _ _ 22 rfl 5 i0 _ Try.underlying22 hi0 hz0 hz1 rfl _ _ _ _ (l + n) rfl rfl (by omega) (by omega) (by rw [hz2]; omega) (by unfold maxLen; omega) ?_; intro w1 HB hb1 hs1)
    | ((with_reducible show wpList _ _ _ (Oper.mk (some 22) _ _ _ _ _ :: _) _ _); go_loud (refine wpList_copy_blk rfl (.tmp 20) (.tmp 21) 22 22 rfl 5 Try.underlying22 u8size _ _ _ _ _ _ rfl rfl w.heap.size 0 _ 5 HB _ _ (hr.below hb1) (u8s_one _) l (by omega) (fun _ => rfl) (by simp) w.heap.size w hb1 (Nat.le_refl _) ?_; intro w2 HB2 hb2 hs2 _)))
  go_loopw [24] (fun i wr => ∃ k : Nat, k ≤ n ∧ i = .int .i64 k ∧ Hid (Blk wr w.heap.size 5 (u8s (appRow bs v n k))) ∧ Below w.heap.size w wr)
    (fun i _ => n - (intOf i).toNat)
  case atStart =>
    refine ⟨0, Nat.zero_le _, rfl, ?_, hb2⟩
    have := HB2.out
    rw [appRow_zero]
    simpa [splice, e8, hlen, u8s_append, u8s_replicate, List.take_of_length_le] using hide this
  case round =>
    obtain ⟨k, hk, rfl, HBr, hbr⟩ := hrel
    have hcr : k < n → wr.cell? ⟨w.heap.size, l + k, none⟩ = some (.int .u8 0) := fun hlt => by
      rw [HBr.out.cell, u8s_get, ← hlen, appRow_get bs v n k hlt]; rfl
    have hfr := HBr.out.frozen (l + k)
    go_wp2
    · have hlt : k < n := by assumption
      go_roundw
      case rel =>
        refine ⟨k + 1, by omega, by go_num, ?_, hbr.setCell (Nat.le_refl _) _⟩
        have := HBr.out.set_ (l + k) (u8v (digit v n k))
        rw [← u8s_set, ← hlen, appRow_set bs v n k hlt, u8v, digit_val, hlen] at this
        exact this
      case measure => simp [intOf]; omega
    · obtain rfl : k = n := by omega
      go_ret
      refine ⟨_, rfl, Nat.le_refl _, ?_, hbr⟩
      have := HBr.out
      rw [appRow_full] at this
      exact this
end Go.Proofs.Ytapcbkcnokoljaa
