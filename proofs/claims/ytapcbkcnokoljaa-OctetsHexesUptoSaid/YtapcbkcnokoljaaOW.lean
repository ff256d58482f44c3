/- Contract of the other Hex. -/
import Derived.Test.YtapcbkcnokoljaaOV
namespace Go.Proofs.Ytapcbkcnokoljaa
set_option linter.unusedVariables false
set_option linter.unusedSimpArgs false
open Go.RowKit
set_option maxHeartbeats 4000000
set_option linter.unusedSimpArgs false
/-- The texts that the other Hex goes through. -/
theorem hexH (bs : List UInt8) : ∃ (H : Nat → ByteArray) (B : Nat → Int), H 0 = ⟨#[]⟩ ∧ (∀ i, i < bs.length → (u8l bs)[i]? = some (.int .u8 (B i)) ∧ 0 ≤ B i ∧ B i ≤ 255 ∧ ∀ (p q p' q' : Int), p = B i / 16 → q = B i % 16 → p' = p + 1 → q' = q + 1 →
    (subS ⟨#[48, 49, 50, 51, 52, 53, 54, 55, 56, 57, 97, 98, 99, 100, 101, 102]⟩ (some p) (some p')).size = 1 ∧ (subS ⟨#[48, 49, 50, 51, 52, 53, 54, 55, 56, 57, 97, 98, 99, 100, 101, 102]⟩ (some q) (some q')).size = 1 ∧
    H i ++ (subS ⟨#[48, 49, 50, 51, 52, 53, 54, 55, 56, 57, 97, 98, 99, 100, 101, 102]⟩ (some p) (some p') ++ subS ⟨#[48, 49, 50, 51, 52, 53, 54, 55, 56, 57, 97, 98, 99, 100, 101, 102]⟩ (some q) (some q')) = H (i + 1)) ∧ (∀ i, i ≤ bs.length → (H i).size = 2 * i) ∧ H bs.length = hexB bs := by
  refine ⟨fun i => hexB (bs.take i), fun i => ((bs.getD i 0).toNat : Int), by simp [hexL, hexB], ?_, ?_, by simp⟩
  · intro i hi
    have hb := (bs.getD i 0).toNat_lt
    refine ⟨u8l_at i hi, by dsimp only; omega, by dsimp only; omega, ?_⟩
    intro p q p' q' hp hq hp' hq'
    dsimp only at *
    unfold hexB
    rw [take_one bs i 0 hi, hexL_app]
    generalize bs.getD i 0 = b at *
    have h1 := dig_cut (b.toNat / 16) (by omega)
    have h2 := dig_cut (b.toNat % 16) (by omega)
    rw [show ((b.toNat / 16 : Nat) : Int) = p by omega, ← hp'] at h1
    rw [show ((b.toNat % 16 : Nat) : Int) = q by omega, ← hq'] at h2
    refine ⟨by rw [ByteArray.size, h1]; rfl, by rw [ByteArray.size, h2]; rfl, ?_⟩
    apply ByteArray.ext
    simp only [ByteArray.data_append, h1, h2]
    apply Array.ext'
    simp [hexL, hx2]
  · intro i hi
    show (hexL (bs.take i)).toArray.size = _
    rw [List.size_toArray, hexL_len, List.length_take]; omega
theorem q4 : (2 : Int) ^ Int.toNat 4 = 16 := rfl
theorem and15 (b : Int) (h : 0 ≤ b) : (b.toNat &&& Int.toNat 15 : Nat) = b % 16 := by
  have h : b.toNat &&& Int.toNat 15 = b.toNat % 16 := Nat.and_two_pow_sub_one_eq_mod b.toNat 4
  rw [h]; omega
theorem rhex_c (bs : List UInt8) (X : List SV) (h : ByteArray) (hX : X = u8l bs) (hl : bs.length ≤ 4000000) (hh : h = hexB bs) :
    Good 18 (pu [.lst none X] (.str h)) := by
  obtain ⟨H, B, H0, Hs, Hl, Hn⟩ := hexH bs
  have hl' : X.length = bs.length := by rw [hX, u8l_len]
  refine Good.of Try.func18 rfl (by rfl) (by kernel_rfl) ?_
  cbv
  (repeat' (first
| (refine q1w (fun z hz => ?_); (try simp only at hz); cbv)
| (refine rqw ?_; cbv)
| (refine QC.tw ?_; cbv)
| (refine QC.tt ?_ ?_; (focus (simp only [decide_true, Bool.and_true, Bool.and_self] <;> fail)); cbv)
| (refine QC.ff ?_ ?_; (focus (simp only [decide_true, Bool.and_true, Bool.and_self, decide_false, Bool.false_and, reduceCtorEq, not_false_eq_true] <;> fail)); cbv)
| (refine QC.fw ?_; cbv)
| (refine QC.mk (fun hc => ?_) (fun hc => ?_) <;> (try dsimp only at hc) <;> cbv)
| (refine br_mk2 (fun hb => ?_) (fun hb => ?_) <;> (try subst hb) <;> cbv)))
  refine loopQ (A := Nat × Int) (fun p => p.2 = p.1 ∧ p.1 ≤ bs.length) (fun p => bs.length - p.1) (fun p => [(3, .str (H p.1)), (4, .int .i64 p.2)]) (fun p => []) (0, 0) ⟨rfl, Nat.zero_le _⟩ ?_ ?_
  · cbv
    refine ⟨⟨?_, trivial⟩, trivial⟩
    show SV.str _ = SV.str (H 0)
    rw [H0]
  · intro ⟨i, j⟩ h
    have hj : j = (i : Int) := h.1
    have hi : i ≤ bs.length := h.2
    clear h
    have hgs := Hs i
    have hgl := Hl i hi
    cbv
    (repeat' (first
| (refine q1w (fun z hz => ?_); (try simp only at hz); cbv)
| (refine rqw ?_; cbv)
| (refine QC.tw ?_; cbv)
| (refine QC.tt ?_ ?_; (focus (simp only [decide_true, Bool.and_true, Bool.and_self] <;> fail)); cbv)
| (refine QC.ff ?_ ?_; (focus (simp only [decide_true, Bool.and_true, Bool.and_self, decide_false, Bool.false_and, reduceCtorEq, not_false_eq_true] <;> fail)); cbv)
| (refine QC.fw ?_; cbv)
| (refine QC.mk (fun hc => ?_) (fun hc => ?_) <;> (try dsimp only at hc) <;> cbv)
| (refine br_mk2 (fun hb => ?_) (fun hb => ?_) <;> (try subst hb) <;> cbv)))
    · have hlt : i < bs.length := by (first | omega | (simp only [cst] at *; omega) | (simp only [sm] at *; omega))
      obtain ⟨h1, h2, h3, h4⟩ := hgs hlt
      clear hgs
      generalize B i = b at *
      rw [← hX] at h1
      (repeat' (first
| (refine rq (show 0 ≤ _ ∧ _ ≤ _ ∧ _ ≤ (16 : Int) from ?_) ?_; (focus ((try simp only [q4, and15 b h2] at *); omega)); cbv)
| (refine q1w (fun z hz => ?_); (try simp only at hz); cbv)
| (refine rqw ?_; cbv)
| (refine QC.tw ?_; cbv)
| (refine QC.tt ?_ ?_; (focus (simp only [decide_true, Bool.and_true, Bool.and_self] <;> fail)); cbv)
| (refine QC.ff ?_ ?_; (focus (simp only [decide_true, Bool.and_true, Bool.and_self, decide_false, Bool.false_and, reduceCtorEq, not_false_eq_true] <;> fail)); cbv)
| (refine QC.fw ?_; cbv)
| (refine QC.mk (fun hc => ?_) (fun hc => ?_) <;> (try dsimp only at hc) <;> cbv)
| (refine br_mk2 (fun hb => ?_) (fun hb => ?_) <;> (try subst hb) <;> cbv)
| ((refine qv (i, .int .u8 b) ⟨hj, h1⟩ ?_; cbv))
| ((refine qv (subS _ _ _) rfl ?_; generalize hx : subS _ _ _ = x; cbv))))
      rename_i z6 h6 z7 h7 z0 h0 y hy z9 h9 z10 h10
      simp only [q4] at h6 h7
      have e9 : z9 = b % 16 := by rw [h9]; exact and15 b h2
      have e10 : z10 = b % 16 := by rw [h10]; exact and15 b h2
      obtain ⟨s1, s2, s3⟩ := h4 z6 z9 z0 z h6 e9 (by omega) (by omega)
      rw [hy] at s1 s3
      rw [hx] at s2 s3
      refine qv (O.sa y x) ⟨by omega, rfl⟩ ?_
      generalize hw : O.sa y x = w
      have hws : w.size = 2 := by rw [← hw, O.hsa, ByteArray.size_append]; omega
      rw [← O.hsa, ← O.hsa, hw] at s3
      cbv
      refine qv (H (i + 1)) ⟨by show (H i).size + w.size ≤ _; omega, s3.symm⟩ ?_
      cbv
      (repeat' (first
| (refine q1w (fun z hz => ?_); (try simp only at hz); cbv)
| (refine rqw ?_; cbv)
| (refine QC.tw ?_; cbv)
| (refine QC.tt ?_ ?_; (focus (simp only [decide_true, Bool.and_true, Bool.and_self] <;> fail)); cbv)
| (refine QC.ff ?_ ?_; (focus (simp only [decide_true, Bool.and_true, Bool.and_self, decide_false, Bool.false_and, reduceCtorEq, not_false_eq_true] <;> fail)); cbv)
| (refine QC.fw ?_; cbv)
| (refine QC.mk (fun hc => ?_) (fun hc => ?_) <;> (try dsimp only at hc) <;> cbv)
| (refine br_mk2 (fun hb => ?_) (fun hb => ?_) <;> (try subst hb) <;> cbv)))
      refine ⟨(i + 1, z), ⟨by show z = ((i + 1 : Nat) : Int); (first | omega | (simp only [cst] at *; omega) | (simp only [sm] at *; omega)), by omega⟩, by show bs.length - (i + 1) < bs.length - i; omega, ?_⟩
      cbv
      exact ⟨⟨rfl, trivial⟩, trivial⟩
    · have e : i = bs.length := by (first | omega | (simp only [cst] at *; omega) | (simp only [sm] at *; omega))
      refine ⟨?_, rfl, rfl⟩
      show SV.str (H i) = _
      rw [e, Hn, hh]
end Go.Proofs.Ytapcbkcnokoljaa
