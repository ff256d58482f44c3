/- Contract of octets.AppendBits. -/
import Derived.Test.YtapcbkcnokoljaaBitsB
namespace Go.Proofs.Ytapcbkcnokoljaa
open Go.RowKit

/-! ### Bits put into bytes -/
def putBit (r : List UInt8) (p : Nat) : List UInt8 := r.set (p / 8) (UInt8.ofNat ((r.getD (p / 8) 0).toNat ||| 2 ^ (7 - p % 8)))
@[simp] theorem putBit_length (r : List UInt8) (p : Nat) : (putBit r p).length = r.length := by simp [putBit]
theorem or_pow_lt (y k : Nat) (hy : y < 256) (hk : k < 8) : y ||| 2 ^ k < 256 :=
  Nat.or_lt_two_pow (n := 8) hy (Nat.pow_lt_pow_right (by omega) hk)
theorem div_pow_mod (x k : Nat) : x / 2 ^ k % 2 = (x.testBit k).toNat := by
  rw [Nat.testBit_eq_decide_div_mod_eq]
  have : x / 2 ^ k % 2 < 2 := Nat.mod_lt _ (by omega)
  by_cases h : x / 2 ^ k % 2 = 1
  · simp [h]
  · have : x / 2 ^ k % 2 = 0 := by omega
    simp [this]
theorem putBit_toNat (r : List UInt8) (p : Nat) (hp : p / 8 < r.length) (j : Nat) : ((putBit r p).getD j 0).toNat = if j = p / 8 then (r.getD (p / 8) 0).toNat ||| 2 ^ (7 - p % 8) else (r.getD j 0).toNat := by
  unfold putBit
  by_cases h : j = p / 8
  · subst h
    rw [if_pos rfl]
    simp only [List.getD, List.getElem?_set_self hp, Option.getD_some, UInt8.toNat_ofNat']
    have := or_pow_lt (r.getD (p / 8) 0).toNat (7 - p % 8) (UInt8.toNat_lt _) (by omega)
    simp only [List.getD] at this
    omega
  · rw [if_neg h]
    simp [List.getD, Ne.symm h]
theorem bitAt_putBit (r : List UInt8) (p i : Nat) (hp : p / 8 < r.length) : bitAt (putBit r p) i = if i = p then 1 else bitAt r i := by
  unfold bitAt
  rw [putBit_toNat r p hp]
  by_cases h8 : i / 8 = p / 8
  · rw [if_pos h8, div_pow_mod, Nat.testBit_or, Nat.testBit_two_pow, div_pow_mod, h8]
    by_cases h : i = p
    · subst h; simp
    · have : ¬ (7 - p % 8 = 7 - i % 8) := by omega
      rw [if_neg h]
      simp [this]
  · have h : i ≠ p := by rintro rfl; exact h8 rfl
    rw [if_neg h8, if_neg h]
theorem bitAt_append_zeros (bs : List UInt8) (k i : Nat) : bitAt (bs ++ List.replicate k 0) i = bitAt bs i := by
  unfold bitAt
  have : (bs ++ List.replicate k 0).getD (i / 8) 0 = bs.getD (i / 8) 0 := by
    by_cases h : i / 8 < bs.length
    · simp only [List.getD, List.getElem?_append_left h]
    · simp only [List.getD, List.getElem?_append_right (show bs.length ≤ i / 8 by omega), List.getElem?_replicate, List.getElem?_eq_none (show bs.length ≤ i / 8 by omega)]
      split <;> rfl
  rw [this]

def bitV (v : Int) (n i : Nat) : Nat := (v / 2 ^ (n - 1 - i) % 2).toNat
def rowP (r0 : List UInt8) (len : Nat) (v : Int) (n : Nat) : Nat → List UInt8
  | 0 => r0
  | k + 1 => if bitV v n k = 1 then putBit (rowP r0 len v n k) (len + k) else rowP r0 len v n k
@[simp] theorem rowP_length (r0 : List UInt8) (len : Nat) (v : Int) (n k : Nat) : (rowP r0 len v n k).length = r0.length := by
  induction k with
  | zero => rfl
  | succ k ih => simp only [rowP]; split <;> simp [ih]
theorem bitV_lt (v : Int) (n i : Nat) : bitV v n i < 2 := by
  unfold bitV
  have h0 := Int.emod_nonneg (v / 2 ^ (n - 1 - i)) (show (2 : Int) ≠ 0 by omega)
  have h1 := Int.emod_lt_of_pos (v / 2 ^ (n - 1 - i)) (show (0 : Int) < 2 by omega)
  omega
/-- The bits of what AppendBits makes. -/
theorem bitAt_rowP (r0 : List UInt8) (len : Nat) (v : Int) (n k i : Nat) (hk : (len + k + 7) / 8 ≤ r0.length) (hz : ∀ j, len ≤ j → bitAt r0 j = 0) :
    bitAt (rowP r0 len v n k) i = if i < len then bitAt r0 i else if i < len + k then bitV v n (i - len) else 0 := by
  induction k with
  | zero =>
    simp only [rowP]
    split
    · rfl
    · rw [if_neg (by omega)]; exact hz i (by omega)
  | succ k ih =>
    have ih := ih (by omega)
    have hlt := bitV_lt v n k
    simp only [rowP]
    by_cases hb : bitV v n k = 1
    · rw [if_pos hb, bitAt_putBit _ _ _ (by simp; omega), ih]
      by_cases h : i = len + k
      · subst h
        rw [if_pos rfl, if_neg (by omega), if_pos (by omega), show len + k - len = k by omega, hb]
      · rw [if_neg h]
        by_cases h1 : i < len
        · simp [h1]
        · by_cases h2 : i < len + k
          · simp [h1, h2, show i < len + (k + 1) by omega]
          · simp [h1, h2, show ¬ i < len + (k + 1) by omega]
    · rw [if_neg hb, ih]
      by_cases h1 : i < len
      · simp [h1]
      · by_cases h2 : i < len + k
        · simp [h1, h2, show i < len + (k + 1) by omega]
        · by_cases h3 : i = len + k
          · subst h3
            rw [if_neg (by omega), if_neg (by omega), if_neg (by omega), if_pos (by omega), show len + k - len = k by omega]
            omega
          · simp [h1, h2, show ¬ i < len + (k + 1) by omega]
theorem or_mask (y j : Nat) (hy : y < 256) (hj : j < 8) : bits .or .u8 (y : Int) (128 / 2 ^ j) = ((y ||| 2 ^ (7 - j) : Nat) : Int) := by
  have e : (128 : Int) / 2 ^ j = ((2 ^ (7 - j) : Nat) : Int) := by
    have hj : j = 0 ∨ j = 1 ∨ j = 2 ∨ j = 3 ∨ j = 4 ∨ j = 5 ∨ j = 6 ∨ j = 7 := by omega
    rcases hj with rfl | rfl | rfl | rfl | rfl | rfl | rfl | rfl <;> rfl
  rw [e]
  exact u8_or_nat y _ hy (Nat.pow_lt_pow_right (n := 8) (by omega) (by omega))
theorem bit_test (v : Int) (n k : Nat) (hv : 0 ≤ v ∧ v < 18446744073709551616) : bits .and .u64 (v / 2 ^ (n - 1 - k)) 1 = (bitV v n k : Int) := by
  obtain ⟨u, rfl⟩ := Int.eq_ofNat_of_zero_le hv.1
  have e : (u : Int) / 2 ^ (n - 1 - k) = ((u / 2 ^ (n - 1 - k) : Nat) : Int) := by simp
  have hlt : u / 2 ^ (n - 1 - k) < 18446744073709551616 := Nat.lt_of_le_of_lt (Nat.div_le_self _ _) (by omega)
  unfold bitV
  rw [e]
  have := u64_and_nat (u / 2 ^ (n - 1 - k)) 1 hlt (by omega)
  rw [Nat.and_one_is_mod] at this
  rw [show (1 : Int) = ((1 : Nat) : Int) from rfl, this]
  omega

/-- The bytes that AppendBits returns. -/
def appBits (bs : List UInt8) (len : Nat) (v : Int) (n : Nat) : List UInt8 := rowP (bs ++ List.replicate ((len + n + 7) / 8 - bs.length) 0) len v n n

set_option maxHeartbeats 1000000 in
theorem appendBits_yes (A : Option Addr) (l c : Nat) (bs : List UInt8) (len : Nat) (v N : Int) (n : Nat) (w : World) (hr : Reads w w.heap.size 1 A l (u8s bs)) (hl : l ≤ 281474976700000) (hlen : len ≤ 4611686018427387904)
    (hval : validB bs len = true) (hv : 0 ≤ v ∧ v < 18446744073709551616) (hN : N = n) (hn64 : n ≤ 64) :
    Calls Try.prog 22 #[.agg #[.slice A l c, .int .i64 len], .int .u64 v, .int .i64 N] w fun e w' => ∃ g, e = .returned (.tuple #[.agg #[.slice (some ⟨g, 0, none⟩) ((len + n + 7) / 8) ((len + n + 7) / 8), .int .i64 (len + n : Nat)], .bool true]) ∧ w.heap.size ≤ g ∧ Blk w' g 5 (u8s (appBits bs len v n)) ∧ Below w.heap.size w w' := by
  subst hN
  obtain ⟨i0, hi0, hz0, hz1, hz2⟩ := info_parts u8info
  have hbl : bs.length = l := by simpa using hr.1
  have h8 : l = (len + 7) / 8 := by
    simp only [validB, Bool.and_eq_true, decide_eq_true_eq] at hval
    omega
  have H8 := Lib.hid h8
  have h8b : len ≤ 8 * l := by omega
  have h8c : (len + n + 7) / 8 ≤ l + 9 := by omega
  clear h8
  go_enter Try.func22, Try.ntmps22
  go_wp2_with fail
  refine (validBits_c A l c bs len _ (((hr.alloc (Nat.le_refl _) _).alloc (by simp) _).more (by simp; omega)) (by omega) (by omega)).mono ?_
  rintro e w1 ⟨rfl, hb1⟩
  rw [hval]
  obtain ⟨hc1, hf1⟩ := bcell hb1
  have R1 : Blk w1 (w.heap.size + 1) 34 [.slice none 0 0, .int .i64 0] := (two_blk w _ _ _ _).2.1.below hb1 (by simp)
  have HR1 := Lib.hid R1
  clear R1
  have hbw : Below w.heap.size w w1 := (((Below.refl _ _).alloc (Nat.le_refl _) _).alloc (by simp) _).trans (hb1.mono (by simp; omega))
  have hr1 := hr.below hbw
  have cS := hc1 w.heap.size 0 (by simp; omega)
  have cL := hc1 w.heap.size 1 (by simp; omega)
  simp [go_sem] at cS cL
  clear hc1 hf1 hb1
  go_wp2_with fail
  generalize hm : (len + n + 7) / 8 = m at *
  have HM := Lib.hid hm
  have hmb : m ≤ 281474976710000 := by omega
  clear hm
  go_cut [8] (fun s8 wc => ∃ g q : Nat, s8 = .pointer (some ⟨q, 0, none⟩) ∧ w1.heap.size ≤ g ∧ w1.heap.size ≤ q ∧ g ≠ q ∧ Hid (Blk wc g 5 (List.replicate m (.int .u8 0))) ∧
      Hid (Blk wc q 34 [.slice (some ⟨g, 0, none⟩) m m, .int .i64 ((len : Int) + n)]) ∧ Below w1.heap.size w1 wc)
  case first =>
    have hm := HM.out
    have ew : IntKind.i64.wrap ((len : Int) + (n : Int)) = (len : Int) + n := IntWalk.i64_in _ (by omega)
    have b1 : (len : Int) + n = ((len + n : Nat) : Int) := by omega
    have b2 : len + n ≤ 9223372036854775807 := by omega
    have b3 : i0.bytes * m ≤ 281474976710656 := by rw [hz2]; omega
    have b4 : m ≤ maxLen := by unfold maxLen; omega
    have B1 := Lib.hid b1
    have hmk := fun W => run_make_u (P := Try.prog) 22 5 i0 _ Try.underlying22 hi0 hz0 hz1 rfl (((len : Int) + n + 7) / 8) m (by omega) b3 b4 W
    clear b1 hm
    go_region_held3 (fun w' => w'.cell? ⟨w.heap.size, 0, none⟩ = some (.slice A l c) ∧ w'.cell? ⟨w.heap.size, 1, none⟩ = some (.int .i64 len)) (first | go_keep) (first | (go_at_call 31; refine (size_c _ (len + n) _ B1.out b2).mono ?_; rintro e w' ⟨rfl, rfl⟩))
    all_goals go_wp2_with fail
    all_goals go_meet
    all_goals
      case rel => first
        | exact ⟨_, _, rfl, by omega, by omega, by omega, (two_blk w1 _ _ _ _).1, (two_blk w1 _ _ _ _).2.1, (two_blk w1 _ _ _ _).2.2.drew⟩
        | exact ⟨_, _, rfl, by omega, by omega, by omega, (two_blk w1 _ _ _ _).2.1, (two_blk w1 _ _ _ _).1, (two_blk w1 _ _ _ _).2.2.drew⟩
  case rest =>
    obtain ⟨g, q, rfl, hg, hq, hgq, HG, HQ, hbc⟩ := hcut
    have hbcw := hbw.trans (hbc.mono hbw.size)
    have cS2 := (hbc.cell (p := ⟨w.heap.size, 0, none⟩) (World.block_lt_of_cell? w1 _ cS)).trans cS
    have cL2 := (hbc.cell (p := ⟨w.heap.size, 1, none⟩) (World.block_lt_of_cell? w1 _ cL)).trans cL
    have q0 := HQ.out.cell 0
    have q1 := HQ.out.cell 1
    simp only [List.getElem?_cons_zero, List.getElem?_cons_succ] at q0 q1
    have hm := HM.out
    have hlm : l ≤ m := by have := H8.out; omega
    clear hm
    go_wp2_with ((with_reducible show wpList _ _ _ (Oper.mk (some 38) _ _ _ _ _ :: _) _ _); go_loud (refine wpList_copy_blk rfl (.tmp 35) (.tmp 37) 22 22 rfl 5 Try.underlying22 u8size _ _ _ _ _ _ rfl rfl g 0 _ 5 HG _ _ (hr.below hbcw) (u8s_one _) l (by omega) (fun _ => rfl) (by simp; omega) w.heap.size w hbcw (by have := hbw.size; omega) ?_); intro w3 HG3 hb3 hs3 ho3)
    have R3 : Blk w3 (w.heap.size + 1) 34 [.slice none 0 0, .int .i64 0] := by
      have := HR1.out.lt
      exact (ho3 _ (by omega)).trans (HR1.out.below hbc (by omega))
    have Q3 : Blk w3 q 34 [.slice (some ⟨g, 0, none⟩) m m, .int .i64 ((len : Int) + n)] := (ho3 _ (by omega)).trans HQ.out
    have S3 : w3.heap[w.heap.size]? = wc.heap[w.heap.size]? := ho3 _ (by have := HR1.out.lt; omega)
    have cL3 := (World.cell?_of_block (a := ⟨w.heap.size, 1, none⟩) S3).trans cL2
    have RR := Lib.hid R3
    have QQ := Lib.hid Q3
    have hgs : w.heap.size ≤ g ∧ w.heap.size ≠ g ∧ w.heap.size + 1 ≠ g := by have := HR1.out.lt; omega
    have hsz3 : w1.heap.size ≤ w3.heap.size := by have := hbc.size; omega
    have hs13 := HR1.out.lt
    obtain ⟨r0, hr0⟩ : ∃ r0, r0 = bs ++ List.replicate (m - l) 0 := ⟨_, rfl⟩
    have hr0l : r0.length = m := by rw [hr0]; simp; omega
    have G3 : Blk w3 g 5 (u8s r0) := by
      have := HG3.out
      rw [hr0]
      have e1 : (u8s bs).take l = u8s bs := List.take_of_length_le (by simp; omega)
      simpa [splice, u8s_append, u8s_replicate, e1, hbl] using this
    have HR0 := Lib.hid hr0
    have HG4 := Lib.hid G3
    have hmn := HM.out
    have hmn2 : (len + n + 7) / 8 ≤ m := by omega
    clear hmn R3 Q3 S3 cS2 cL2 q0 q1 G3 hr0 HG3 ho3 HG HQ hgq
    go_loopw [9, 10, 40] (fun _ _ i wr => ∃ k : Nat, k ≤ n ∧ i = .int .i64 k ∧ Hid (Blk wr g 5 (u8s (rowP r0 len v n k))) ∧ Hid (w3.grownBy wr (some g)))
      (fun _ _ i _ => n - (intOf i).toNat)
    case atStart => exact ⟨0, Nat.zero_le _, rfl, HG4, only_refl _ _⟩
    case round =>
      obtain ⟨k, hk, rfl, HB, HO⟩ := hrel
      have cLr : wr.cell? ⟨w.heap.size, 1, none⟩ = some (.int .i64 len) := (World.cell?_of_block (HO.out.block w.heap.size (by omega) (by simp; omega))).trans cL3
      have hqg : q ≠ g := by
        rintro rfl
        have h1 := QQ.out
        have h2 := HG4.out
        unfold Blk at h1 h2
        rw [h1] at h2
        simp at h2
      have hq4 := QQ.out.only HO.out hqg
      have hr4 := RR.out.only HO.out hgs.2.2
      have q0 := hq4.cell 0
      have q1 := hq4.cell 1
      simp only [List.getElem?_cons_zero, List.getElem?_cons_succ] at q0 q1
      clear hq4
      by_cases hlt : k < n
      · have hp8 : (len + k) / 8 < m := by omega
        have hx := HB.out.cell ((len + k) / 8)
        have hfz := HB.out.frozen ((len + k) / 8)
        rw [u8s_getD _ _ (by simp; omega)] at hx
        have hbt := bit_test v n k hv
        have hgset := HB.out.set_ ((len + k) / 8) (u8v (UInt8.ofNat (((rowP r0 len v n k).getD ((len + k) / 8) 0).toNat ||| 2 ^ (7 - (len + k) % 8))))
        have hoset := only_setCell HO.out (p := ⟨g, (len + k) / 8, none⟩) (.inl rfl) (u8v (UInt8.ofNat (((rowP r0 len v n k).getD ((len + k) / 8) 0).toNat ||| 2 ^ (7 - (len + k) % 8))))
        rw [← u8s_set] at hgset
        have hput : putBit (rowP r0 len v n k) (len + k) = (rowP r0 len v n k).set ((len + k) / 8) (UInt8.ofNat (((rowP r0 len v n k).getD ((len + k) / 8) 0).toNat ||| 2 ^ (7 - (len + k) % 8))) := rfl
        rw [← hput] at hgset
        have hsucc : rowP r0 len v n (k + 1) = if bitV v n k = 1 then putBit (rowP r0 len v n k) (len + k) else rowP r0 len v n k := rfl
        generalize hy : ((rowP r0 len v n k).getD ((len + k) / 8) 0).toNat = y at *
        have hy2 : y < 256 := by rw [← hy]; exact UInt8.toNat_lt _
        have hom := or_mask y ((len + k) % 8) hy2 (by omega)
        have hov : u8v (UInt8.ofNat (y ||| 2 ^ (7 - (len + k) % 8))) = .int .u8 ((y ||| 2 ^ (7 - (len + k) % 8) : Nat) : Int) := by
          have := or_pow_lt y (7 - (len + k) % 8) hy2 (by omega)
          simp only [u8v, UInt8.toNat_ofNat']
          congr 2
          omega
        rw [hov] at hgset hoset
        have HGS := Lib.hid hgset
        have HOS := Lib.hid hoset
        have HSC := Lib.hid hsucc
        have HOM := Lib.hid hom
        clear hgset hoset hput hsucc hy hom hov hr4 hr hr1 hval
        by_cases hb : bitV v n k = 1
        · have hbt1 : (bits .and .u64 (v / 2 ^ (n - 1 - k)) 1 == 1) = true := by rw [hbt, hb]; rfl
          have HBV := Lib.hid hb
          clear hbt hb
          go_wp2_with fail
          go_region
          all_goals go_wp2_with fail
          all_goals
            go_roundw
            case rel =>
              refine ⟨k + 1, by omega, by go_num, ?_, ?_⟩
              · rw [HSC.out, if_pos HBV.out, HOM.out]
                exact HGS.out
              · rw [HOM.out]
                exact only_drew HOS.out
            case measure => simp [intOf]; omega
        · have hbt1 : (bits .and .u64 (v / 2 ^ (n - 1 - k)) 1 == 1) = false := by rw [hbt]; simp; omega
          have HBV := Lib.hid hb
          clear hbt hb
          go_wp2
          go_roundw
          case rel =>
            refine ⟨k + 1, by omega, by go_num, ?_, HO⟩
            rw [HSC.out, if_neg HBV.out]
            exact HB
          case measure => simp [intOf]; omega
      · have rc0 := hr4.cell 0
        have rc1 := hr4.cell 1
        have rf0 := hr4.frozen 0
        have rf1 := hr4.frozen 1
        simp only [List.getElem?_cons_zero, List.getElem?_cons_succ] at rc0 rc1
        clear hr4 hr hr1 hval
        obtain rfl : k = n := by omega
        go_wp2
        refine bodyPost_ret (v := .tuple #[.agg #[.slice (some ⟨g, 0, none⟩) m m, .int .i64 ((len : Int) + k)], .bool true]) (by simp [results, Try.results22, go_sem, rc0, rc1]) rfl ?_
        refine ⟨g, ?_, hgs.1, ?_, ?_⟩
        · rw [HM.out]; simp
        · have h1 := ((HB.out.far (p := ⟨w.heap.size + 1, 0, none⟩) (Ne.symm hgs.2.2) (.slice (some ⟨g, 0, none⟩) m m)).far (p := ⟨w.heap.size + 1, 1, none⟩) (Ne.symm hgs.2.2) (.int .i64 ((len : Int) + k)))
          have e : appBits bs len v k = rowP r0 len v k k := by rw [HR0.out, appBits, HM.out, hbl]
          rw [e]
          exact h1
        · exact (((Below.only hb3 HO.out (by omega) hgs.1).setCell (p := ⟨w.heap.size + 1, 0, none⟩) (by simp) _).setCell (p := ⟨w.heap.size + 1, 1, none⟩) (by simp) _)
end Go.Proofs.Ytapcbkcnokoljaa
