/- Unhex: the plain law; contract of digit. -/
import Derived.Test.YtapcbkcnokoljaaOW
namespace Go.Proofs.Ytapcbkcnokoljaa
set_option linter.unusedVariables false
set_option linter.unusedSimpArgs false
open Go.RowKit
set_option maxHeartbeats 4000000
set_option linter.unusedSimpArgs false
/-- The value of a hexadecimal letter, or -1. -/
def dgI (c : Int) : Int := if 48 ≤ c ∧ c ≤ 57 then c - 48 else if 97 ≤ c ∧ c ≤ 102 then c - 87 else -1
theorem dgI_le (c : Int) : -1 ≤ dgI c ∧ dgI c ≤ 15 := by unfold dgI; split <;> (try split) <;> omega
theorem dgI_pos (c : Int) (h : 0 ≤ dgI c) : (48 ≤ c ∧ c ≤ 57 ∧ dgI c = c - 48) ∨ (97 ≤ c ∧ c ≤ 102 ∧ dgI c = c - 87) := by unfold dgI at *; split <;> (try split) <;> simp_all <;> omega
theorem dgI_of (c : Int) (h : (48 ≤ c ∧ c ≤ 57) ∨ (97 ≤ c ∧ c ≤ 102)) : 0 ≤ dgI c := by unfold dgI; split <;> (try split) <;> omega
theorem hxd_val (k : Nat) (h : k < 16) : ((hxd k).toNat : Int) = if k < 10 then 48 + k else 87 + k := by
  revert k; decide
theorem dg_iff (i : Nat) (hi : i < 16) (c : Int) : byteAt ⟨#[48, 49, 50, 51, 52, 53, 54, 55, 56, 57, 97, 98, 99, 100, 101, 102]⟩ i = c ↔ dgI c = i := by
  rw [dig_at i hi, hxd_val i hi]
  unfold dgI
  split <;> split <;> (try split) <;> omega
theorem byteAt_le (s : ByteArray) (n : Int) : 0 ≤ byteAt s n ∧ byteAt s n ≤ 255 := by
  unfold byteAt
  have := ((s.data.toList[n.toNat]?).getD 0).toNat_lt
  omega
theorem digit_c (c r : Int) (hr : r = dgI c) : Good 32 (pu [.int .u8 c] (.int .i64 r)) := by
  have hle := dgI_le c
  rw [← hr] at hle
  refine Good.of Try.func32 rfl (by rfl) (by kernel_rfl) ?_
  cbv
  (repeat' (first
| (refine q1w (fun z hz => ?_); (try simp only at hz); cbv)
| (refine rqw ?_; cbv)
| (refine QC.tw ?_; cbv)
| (refine QC.tt ?_ ?_; (focus (simp only [decide_true, Bool.and_true, Bool.and_self] <;> fail)); cbv)
| (refine QC.ff ?_ ?_; (focus (simp only [decide_true, Bool.and_true, Bool.and_self, decide_false, Bool.false_and, reduceCtorEq, not_false_eq_true] <;> fail)); cbv)
| (refine QC.fw ?_; cbv)
| (refine QC.mk (fun hc => ?_) (fun hc => ?_) <;> (try dsimp only at hc) <;> cbv)
| (refine br_mk2 (fun hb => ?_) (fun hb => ?_) <;> (try subst hb) <;> cbv)))
  refine loopQ (A := Nat × Int) (fun p => p.2 = p.1 ∧ p.1 ≤ 16 ∧ (r = -1 ∨ p.1 ≤ r)) (fun p => 16 - p.1) (fun p => [(3, .int .i64 p.2)]) (fun p => []) (0, 0) ⟨rfl, by omega, by dsimp only; omega⟩ ?_ ?_
  · cbv
  · intro ⟨i, j⟩ h
    have hj : j = (i : Int) := h.1
    have hi : i ≤ 16 := h.2.1
    have hi2 : r = -1 ∨ i ≤ r := h.2.2
    clear h
    have hdg : i < 16 → (byteAt ⟨#[48, 49, 50, 51, 52, 53, 54, 55, 56, 57, 97, 98, 99, 100, 101, 102]⟩ j = c ↔ dgI c = j) := fun h => by rw [hj]; exact dg_iff i h c
    rw [← hr] at hdg
    cbv
    (repeat' (first
| (refine q1w (fun z hz => ?_); (try simp only at hz); cbv)
| (refine rqw ?_; cbv)
| (refine QC.tw ?_; cbv)
| (refine QC.tt ?_ ?_; (focus (simp only [decide_true, Bool.and_true, Bool.and_self] <;> fail)); cbv)
| (refine QC.ff ?_ ?_; (focus (simp only [decide_true, Bool.and_true, Bool.and_self, decide_false, Bool.false_and, reduceCtorEq, not_false_eq_true] <;> fail)); cbv)
| (refine QC.fw ?_; cbv)
| (refine QC.mk (fun hc => ?_) (fun hc => ?_) <;> (try dsimp only at hc) <;> cbv)
| (refine br_mk2 (fun hb => ?_) (fun hb => ?_) <;> (try subst hb) <;> cbv)))
    · refine q1 (show 0 ≤ j ∧ j < (16 : Int) by (first | omega | (simp only [cst] at *; omega) | (simp only [sm] at *; omega))) fun x1 hx1 => ?_
      cbv
      (repeat' (first
| (refine q1w (fun z hz => ?_); (try simp only at hz); cbv)
| (refine rqw ?_; cbv)
| (refine QC.tw ?_; cbv)
| (refine QC.tt ?_ ?_; (focus (simp only [decide_true, Bool.and_true, Bool.and_self] <;> fail)); cbv)
| (refine QC.ff ?_ ?_; (focus (simp only [decide_true, Bool.and_true, Bool.and_self, decide_false, Bool.false_and, reduceCtorEq, not_false_eq_true] <;> fail)); cbv)
| (refine QC.fw ?_; cbv)
| (refine QC.mk (fun hc => ?_) (fun hc => ?_) <;> (try dsimp only at hc) <;> cbv)
| (refine br_mk2 (fun hb => ?_) (fun hb => ?_) <;> (try subst hb) <;> cbv)))
      · have e := (hdg (by (first | omega | (simp only [cst] at *; omega) | (simp only [sm] at *; omega)))).1 (hx1.symm.trans hc)
        refine ⟨?_, rfl, rfl⟩
        rw [e]
      · have e : ¬ r = j := fun e => hc (hx1.trans ((hdg (by (first | omega | (simp only [cst] at *; omega) | (simp only [sm] at *; omega)))).2 e))
        refine ⟨(i + 1, z), ⟨by show z = ((i + 1 : Nat) : Int); (first | omega | (simp only [cst] at *; omega) | (simp only [sm] at *; omega)), by show i + 1 ≤ 16; (first | omega | (simp only [cst] at *; omega) | (simp only [sm] at *; omega)), by show r = -1 ∨ ((i + 1 : Nat) : Int) ≤ r; (first | omega | (simp only [cst] at *; omega) | (simp only [sm] at *; omega))⟩, by show 16 - (i + 1) < 16 - i; (first | omega | (simp only [cst] at *; omega) | (simp only [sm] at *; omega)), ?_⟩
        cbv
    · refine ⟨?_, rfl, rfl⟩
      rw [show r = -1 by (first | omega | (simp only [cst] at *; omega) | (simp only [sm] at *; omega))]
/-- The byte where the text stands. -/
theorem byteAt_get (s : ByteArray) (p : Nat) (h : p < s.size) : byteAt s p = (s[p]'h).toNat := by
  simp only [byteAt, Int.toNat_natCast]
  rw [List.getElem?_eq_getElem (by simpa using h)]
  rfl
theorem dec_in {s : ByteArray} {p r w : Nat} (h : p < s.size) (hd : Utf8.decode s p = (r, w)) (hr : (48 ≤ r ∧ r ≤ 57) ∨ (97 ≤ r ∧ r ≤ 102)) : w = 1 ∧ byteAt s p = r := by
  rw [byteAt_get s p h]
  by_cases ha : (s[p]'h).toNat < 128
  · have := decode_ascii s p h ha
    rw [hd] at this
    injection this with h1 h2
    exact ⟨h2, by rw [h1]⟩
  · have := decode_high s p h (by omega)
    rw [hd] at this
    dsimp only at this
    omega
theorem dec_of {s : ByteArray} {p r w : Nat} (h : p < s.size) (hd : Utf8.decode s p = (r, w)) (hr : 0 ≤ dgI (byteAt s p)) : w = 1 ∧ (r : Int) = byteAt s p := by
  rw [byteAt_get s p h] at *
  have hb := dgI_pos _ hr
  have := decode_ascii s p h (by omega)
  rw [hd] at this
  injection this with h1 h2
  exact ⟨h2, by rw [h1]⟩
/-- The rows that Unhex goes through. -/
theorem unhG (f : Nat → Int) (n : Nat) (hf : ∀ k, k < 2 * n → 0 ≤ f k ∧ f k ≤ 15) : ∃ (R : Nat → List SV) (C : Nat → Int), R 0 = List.replicate n (.int .u8 0) ∧ (∀ p, (R p).length = n) ∧
    (∀ p, p < 2 * n → (R p)[p / 2]? = some (.int .u8 (C p)) ∧ 0 ≤ C p ∧ C p ≤ 15 ∧ (∀ x, x = C p * 16 + f p → O.st (R p) (p / 2) (.int .u8 x) = R (p + 1))) ∧ R (2 * n) = ints .u8 ((List.range n).map fun k => 16 * f (2 * k) + f (2 * k + 1)) := by
  let cell : Nat → Nat → Int := fun p k => if 2 * k + 1 < p then 16 * f (2 * k) + f (2 * k + 1) else if 2 * k < p then f (2 * k) else 0
  refine ⟨fun p => ints .u8 ((List.range n).map (cell p)), fun p => cell p (p / 2), ?_, ?_, ?_, ?_⟩
  · rw [ints_rep]
    show ints .u8 _ = ints .u8 _
    have e : List.map (cell 0) (List.range n) = List.replicate n 0 := by
      apply List.ext_getElem (by simp)
      intro i h1 h2
      simp [cell]
    rw [e]
  · intro p; simp [ints]
  · intro p hp
    have hk : p / 2 < n := by omega
    refine ⟨?_, ?_⟩
    · apply ints_get; simp [hk]
    have hc : 0 ≤ cell p (p / 2) ∧ cell p (p / 2) ≤ 15 := by
      simp only [cell]
      rw [if_neg (by omega)]
      split
      · exact hf _ (by omega)
      · omega
    refine ⟨hc.1, hc.2, fun x hx => ?_⟩
    dsimp only at *
    rw [ost, ints_set]
    congr 1
    apply List.ext_getElem (by simp)
    intro i h1 h2
    simp only [List.getElem_set, List.getElem_map, List.getElem_range]
    split
    · rename_i hi
      subst hi
      rw [hx]
      simp only [cell]
      rw [if_neg (by omega)]
      rcases Nat.mod_two_eq_zero_or_one p with h0 | h0
      · rw [if_neg (by omega), if_neg (by omega), if_pos (by omega), show 2 * (p / 2) = p by omega]; omega
      · rw [if_pos (by omega), if_pos (by omega), show 2 * (p / 2) + 1 = p by omega]; omega
    · rename_i hi
      simp only [cell]
      by_cases h3 : 2 * i + 1 < p
      · rw [if_pos h3, if_pos (by omega)]
      · rw [if_neg h3, if_neg (by omega), if_neg (by omega), if_neg (by omega)]
  · dsimp only
    congr 1
    apply List.map_congr_left
    intro k hk
    have := List.mem_range.1 hk
    simp only [cell]
    rw [if_pos (by omega)]
end Go.Proofs.Ytapcbkcnokoljaa
