/- The walk of OctetsBitsRead. -/
import Derived.Test.YtapcbkcnokoljaaBitsP
import Derived.Test.YtapcbkcnokoljaaOctC
namespace Go.Proofs.Ytapcbkcnokoljaa
open Go.RowKit

set_option maxHeartbeats 1000000 in
theorem bitsRead_c (v x n m : Int) (w : World) (hv : 0 ≤ v ∧ v < 18446744073709551616) (hx : 0 ≤ x ∧ x < 18446744073709551616)
    (hn : -9223372036854775808 ≤ n ∧ n ≤ 9223372036854775807) (hm : -9223372036854775808 ≤ m ∧ m ≤ 9223372036854775807) :
    Calls Try.prog 9 #[.int .u64 v, .int .u64 x, .int .i64 n, .int .i64 m] w fun e w' => e = .returned (.bool true) ∧ Below w.heap.size w w' := by
  go_enter Try.func9, Try.ntmps9
  go_wp2_with fail
  refine (mod_c n 64 w (by omega) (by omega) hn).mono ?_
  rintro e w' ⟨rfl, rfl⟩
  have hn0 := Int.emod_nonneg n (show (64 : Int) ≠ 0 by omega)
  have hn1 := Int.emod_lt_of_pos n (show (0 : Int) < 64 by omega)
  generalize n % 64 = n' at *
  obtain ⟨a, ha⟩ : ∃ a : Nat, 1 + n' = a := ⟨(1 + n').toNat, by omega⟩
  have hab : 1 ≤ a ∧ a ≤ 64 := by omega
  have HA := Lib.hid ha
  clear ha
  go_wp2_with fail
  rw [HA.out]
  refine (mod_c m 64 w (by omega) (by omega) hm).mono ?_
  rintro e w' ⟨rfl, rfl⟩
  have hm0 := Int.emod_nonneg m (show (64 : Int) ≠ 0 by omega)
  have hm1 := Int.emod_lt_of_pos m (show (0 : Int) < 64 by omega)
  generalize m % 64 = m' at *
  obtain ⟨b, hb⟩ : ∃ b : Nat, 1 + m' = b := ⟨(1 + m').toNat, by omega⟩
  have hbb : 1 ≤ b ∧ b ≤ 64 := by omega
  have HB := Lib.hid hb
  clear hb
  go_wp2_with fail
  rw [HB.out]
  clear HA HB hn0 hn1 hm0 hm1 hn hm
  have hv0 : validB [] ((0 : Nat) : Int) = true := by decide
  refine (appendBits_yes none 0 0 [] 0 v a a w Reads.none_ (by omega) (by omega) hv0 hv rfl hab.2).mono ?_
  rintro e w1 ⟨g1, rfl, hg1, HB1, hb1⟩
  have hv1 := validB_appBits [] 0 v a hv0
  have hl1 : (appBits [] 0 v a).length = (0 + a + 7) / 8 := appBits_length _ _ _ _ rfl
  have hr1 := HB1.reads (n := (0 + a + 7) / 8) (size := 1) (by simp [hl1])
  rw [Nat.zero_add] at *
  go_wp2_with fail
  generalize hS : appBits [] 0 v a = S at *
  have hr1' := hr1.alloc (Nat.le_refl _) (.cells #[.slice (some ⟨g1, 0, none⟩) ((a + 7) / 8) ((a + 7) / 8), .int .i64 a] 34)
  refine (appendBits_yes _ _ _ S a x b b _ (hr1'.more (by simp)) (by omega) (by omega) hv1 hx rfl hbb.2).mono ?_
  rintro e w2 ⟨g2, rfl, hg2, HB2, hb2⟩
  have hv2 := validB_appBits S a x b hv1
  have hl2 : (appBits S a x b).length = (a + b + 7) / 8 := appBits_length _ _ _ _ (by omega)
  have hn1 : numBits (appBits S a x b) 0 a = v.toNat % 2 ^ a := by
    obtain ⟨u, rfl⟩ := Int.eq_ofNat_of_zero_le hv.1
    rw [Int.toNat_natCast]
    refine numBits_of _ _ _ _ fun i hi => ?_
    rw [bitAt_appBits _ _ _ _ _ hv1, if_pos (by omega), ← hS, bitAt_appBits _ _ _ _ _ hv0, if_neg (by omega), if_pos (by omega), show 0 + i - 0 = i by omega]
  have hn2 : numBits (appBits S a x b) a b = x.toNat % 2 ^ b := by
    obtain ⟨u, rfl⟩ := Int.eq_ofNat_of_zero_le hx.1
    rw [Int.toNat_natCast]
    refine numBits_of _ _ _ _ fun i hi => ?_
    rw [bitAt_appBits _ _ _ _ _ hv1, if_neg (by omega), if_pos (by omega), show a + i - a = i by omega]
  have hr2 := HB2.reads (n := (a + b + 7) / 8) (size := 1) (by simp [hl2])
  have hw1 := wrap_bits v a hv hab.2
  have hw2 := wrap_bits x b hx hbb.2
  rw [← hn1] at hw1
  rw [← hn2] at hw2
  generalize appBits S a x b = U at *
  have hbw2 : Below w.heap.size w w2 := (hb1.alloc hb1.size _).trans (hb2.mono (by have := hb1.size; simp; omega))
  have HW1 := Lib.hid hw1
  have HW2 := Lib.hid hw2
  clear hw1 hw2 hn1 hn2 hS hr1 hr1' HB1 HB2 hb2 hb1 hg1 hg2 hl1 hl2 hv1 hv0
  go_wp2_with fail
  have hrx : ∀ o, Reads (w2.alloc o) (w2.alloc o).heap.size 1 (some ⟨g2, 0, none⟩) ((a + b + 7) / 8) (u8s U) := fun o => (hr2.alloc (Nat.le_refl _) o).more (by simp)
  refine (bits_yes _ _ _ U ((a + b : Nat) : Int) 0 a 0 a _ (hrx _) (by omega) (by omega) hv2 rfl hab.1 hab.2 rfl (by omega)).mono ?_
  rintro e w3 ⟨rfl, hb3⟩
  obtain ⟨hc3, hf3⟩ := bcell hb3
  have c0 := hc3 w2.heap.size 0 (by simp)
  have c1 := hc3 w2.heap.size 1 (by simp)
  simp [go_sem] at c0 c1
  have hbw3 : Below w.heap.size w w3 := (hbw2.alloc hbw2.size _).trans (hb3.mono (by have := hbw2.size; simp; omega))
  have hr3 := ((hrx _).below hb3).more hb3.size
  clear hrx hc3 hf3
  go_wp2_with fail
  refine (bits_yes _ _ _ U ((a + b : Nat) : Int) a b a b _ hr3 (by omega) (by omega) hv2 rfl hbb.1 hbb.2 rfl (by omega)).mono ?_
  rintro e w4 ⟨rfl, hb4⟩
  have l3 := World.block_lt_of_cell? w3 _ c0
  have d0 := (hb4.cell (p := ⟨w2.heap.size, 0, none⟩) l3).trans c0
  have d1 := (hb4.cell (p := ⟨w2.heap.size, 1, none⟩) l3).trans c1
  have hbw4 : Below w.heap.size w w4 := hbw3.trans (hb4.mono hbw3.size)
  have hr4 := (hr3.below hb4).more hb4.size
  clear hr3 hb4 hb3 c0 c1 hbw3
  go_wp2_with fail
  refine (known01_c w4).mono ?_
  rintro e w5 ⟨rfl, hb5⟩
  have l4 := World.block_lt_of_cell? w4 _ d0
  have e0 := (hb5.cell (p := ⟨w2.heap.size, 0, none⟩) l4).trans d0
  have e1 := (hb5.cell (p := ⟨w2.heap.size, 1, none⟩) l4).trans d1
  have hbw5 : Below w.heap.size w w5 := hbw4.trans (hb5.mono hbw4.size)
  have hr5 := (hr4.below hb5).more hb5.size
  clear hr4 hb5 d0 d1 hbw4
  go_wp2_with fail
  refine (validBits_c _ _ _ U ((a + b : Nat) : Int) _ hr5 (by omega) (by omega)).mono ?_
  rintro e w6 ⟨rfl, hb6⟩
  have l5 := World.block_lt_of_cell? w5 _ e0
  have f0 := (hb6.cell (p := ⟨w2.heap.size, 0, none⟩) l5).trans e0
  have f1 := (hb6.cell (p := ⟨w2.heap.size, 1, none⟩) l5).trans e1
  have hbw6 : Below w.heap.size w w6 := hbw5.trans (hb6.mono hbw5.size)
  rw [hv2]
  clear hr5 hb6 e0 e1 hbw5 hr2 hbw2
  have hw1 := HW1.out
  have hw2 := HW2.out
  generalize numBits U 0 a = p at *
  generalize numBits U a b = q at *
  have t1 : ((p : Int) == IntKind.u64.wrap (v * 2 ^ (64 - a)) / 2 ^ (64 - a)) = true := by rw [hw1]; simp
  have t2 : ((q : Int) == IntKind.u64.wrap (x * 2 ^ (64 - b)) / 2 ^ (64 - b)) = true := by rw [hw2]; simp
  clear hw1 hw2 HW1 HW2
  go_wp2
  go_ret
  exact ⟨rfl, hbw6⟩
end Go.Proofs.Ytapcbkcnokoljaa
