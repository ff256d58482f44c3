/- multihoplaw01.known, OctetsReads. -/
import Derived.Test.YtapcbkcnokoljaaOctB
namespace Go.Proofs.Ytapcbkcnokoljaa
open Go.RowKit

theorem known01_c (w : World) : Calls Try.prog 13 #[] w fun e w' => e = .returned (.bool true) ∧ Below w.heap.size w w' := by
  go_enter Try.func13, Try.ntmps13
  go_wp2_with fail
  have h0 : Blk (w.alloc (.cells #[.int .u8 1] 5)) w.heap.size 5 (u8s [1]) := Blk.new w 5 #[.int .u8 1]
  have hr0 := h0.reads (n := 1) (size := 1) rfl
  clear h0
  refine (append_c _ 1 1 [1] 515 2 2 _ hr0 (by omega) (by omega) (by omega) (by omega)).mono ?_
  rintro e w1 ⟨g, rfl, hg, hB, hb⟩
  have hr := hB.reads (n := 3) (size := 1) (by simp [bytesOf_length])
  have hbw : Below w.heap.size w w1 := ((Below.refl _ _).alloc (Nat.le_refl _) _).trans (hb.mono (by simp))
  clear hB
  go_wp2_with fail
  refine (uint_i _ 3 3 ([1] ++ bytesOf 515 2) 1 2 1 2 w1 hr (by omega) (by omega) (by omega) (by omega) (by omega) (by omega) (by omega) (by omega)).mono ?_
  rintro e w' ⟨rfl, rfl⟩
  have he : be ((([1] ++ bytesOf 515 2).drop 1).take 2) = 515 := by decide +kernel
  rw [he]
  go_wp2
  go_ret
  exact ⟨rfl, hbw⟩

theorem reads_c (A : Option Addr) (l c : Nat) (bs : List UInt8) (v n : Int) (w : World) (hr : Reads w w.heap.size 1 A l (u8s bs)) (hl : l ≤ 140737488351232) (hlc : l ≤ c) (hc : c ≤ 140737488351232)
    (hv : 0 ≤ v ∧ v < 18446744073709551616) (hn : -9223372036854775808 ≤ n ∧ n ≤ 9223372036854775807) :
    Calls Try.prog 3 #[.slice A l c, .int .u64 v, .int .i64 n] w fun e w' => e = .returned (.bool true) ∧ Below w.heap.size w w' := by
  have hlen : bs.length = l := by simpa using hr.1
  go_enter Try.func3, Try.ntmps3
  go_wp2_with fail
  refine (mod_c n 8 w (by omega) (by omega) hn).mono ?_
  rintro e w' ⟨rfl, rfl⟩
  have hm0 := Int.emod_nonneg n (show (8 : Int) ≠ 0 by omega)
  have hm1 := Int.emod_lt_of_pos n (show (0 : Int) < 8 by omega)
  generalize n % 8 = m at *
  obtain ⟨k, hk⟩ : ∃ k : Nat, 1 + m = k := ⟨(1 + m).toNat, by omega⟩
  have hk1 : 1 ≤ k := by omega
  have hk8 : k ≤ 8 := by omega
  have HK := Lib.hid hk
  clear hk
  go_wp2_with fail
  rw [HK.out]
  clear HK hm0 hm1
  refine (append_c A l c bs v k k w hr (by omega) hv rfl hk8).mono ?_
  rintro e w1 ⟨g, rfl, hg, hB, hb⟩
  have hr1 := hB.reads (n := l + k) (size := 1) (by simp [bytesOf_length, hlen])
  go_wp2_with fail
  refine (uint_i _ _ _ (bs ++ bytesOf v k) l k l k w1 hr1 (by omega) (by omega) (by omega) rfl (by omega) (by omega) rfl (by omega)).mono ?_
  rintro e w' ⟨rfl, rfl⟩
  go_wp2_with fail
  refine (known01_c w1).mono ?_
  rintro e w2 ⟨rfl, hb2⟩
  have hws := wrap_shift v k hv hk1 hk8
  have hcutl : (bs ++ bytesOf v k).take l = bs := by rw [← hlen]; simp
  have hr2 := ((hr1.take_ (k := l) (by omega)).below hb2)
  rw [Nat.mul_one, ← u8s_take, hcutl] at hr2
  have hbx := hb.trans (hb2.mono hb.size)
  have hr3 := hr.below hbx
  have HWS := Lib.hid hws
  clear hr1 hcutl hws hr hlen hB hb hb2 hg
  go_wp2_with fail
  · refine (same_c _ _ _ _ _ _ bs bs _ _ _ hr2 hr3 (by omega) (by omega)).mono ?_
    rintro e w' ⟨rfl, m', rfl⟩
    rw [sameB_self]
    go_wp2
    go_ret
    exact ⟨rfl, below_drewN hbx _⟩
  · have := HWS.out
    have htl : (bytesOf v k).take k = bytesOf v k := List.take_of_length_le (by simp [bytesOf_length])
    rw [← htl] at this
    contradiction
end Go.Proofs.Ytapcbkcnokoljaa
