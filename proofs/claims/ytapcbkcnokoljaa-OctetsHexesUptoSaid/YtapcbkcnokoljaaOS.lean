/- Contract of multihopref01.Same. -/
import Derived.Test.YtapcbkcnokoljaaOB
namespace Go.Proofs.Ytapcbkcnokoljaa
set_option linter.unusedVariables false
set_option linter.unusedSimpArgs false
open Go.RowKit
set_option maxHeartbeats 2000000
theorem same_c (xs ys : List UInt8) (X Y : List SV) (r : Bool) (hX : X = u8l xs) (hY : Y = u8l ys) (hlx : xs.length ≤ 140737488352000) (hly : ys.length ≤ 140737488352000) (hr : r = decide (xs = ys)) :
    Good 14 (pu [.lst none X, .lst none Y] (.bool r)) := by
  have hl : X.length = xs.length := by rw [hX, u8l_len]
  have hl' : Y.length = ys.length := by rw [hY, u8l_len]
  have hx : ∀ i, i < xs.length → X[i]? = some (.int .u8 (xs.getD i 0).toNat) := fun i hi => by rw [hX]; exact u8l_at i hi
  have hy : ∀ i, i < ys.length → Y[i]? = some (.int .u8 (ys.getD i 0).toNat) := fun i hi => by rw [hY]; exact u8l_at i hi
  obtain ⟨F, hF⟩ : ∃ F : Nat → Int, ∀ i, F i = (xs.getD i 0).toNat := ⟨_, fun _ => rfl⟩
  obtain ⟨G, hG⟩ : ∃ G : Nat → Int, ∀ i, G i = (ys.getD i 0).toNat := ⟨_, fun _ => rfl⟩
  have key : ∀ i, xs.take i = ys.take i → i < xs.length → i < ys.length → F i = G i → xs.take (i + 1) = ys.take (i + 1) := by
    intro i h h1 h2 h3
    rw [take_snoc_u8 _ _ h1, take_snoc_u8 _ _ h2, h]
    rw [hF, hG] at h3
    have : (xs.getD i 0).toNat = (ys.getD i 0).toNat := by omega
    have := UInt8.toNat_inj.1 this
    simp only [List.getD, List.getElem?_eq_getElem h1, List.getElem?_eq_getElem h2, Option.getD_some] at this
    rw [this]
  have key2 : ∀ i, ¬ F i = G i → xs ≠ ys := by
    intro i h e; subst e; rw [hF, hG] at h; exact h rfl
  simp only [← hF] at hx
  simp only [← hG] at hy
  refine Good.of Try.func14 rfl (by rfl) (by kernel_rfl) ?_
  cbv
  (repeat' (first
| (refine q1w (fun z hz => ?_); (try simp only at hz); cbv)
| (refine rqw ?_; cbv)
| (refine QC.tw ?_; cbv)
| (refine QC.tt ?_ ?_; (focus (simp only [decide_true, Bool.and_true, Bool.and_self] <;> fail)); cbv)
| (refine QC.ff ?_ ?_; (focus (simp only [decide_true, Bool.and_true, Bool.and_self, decide_false, Bool.false_and, reduceCtorEq, not_false_eq_true] <;> fail)); cbv)
| (refine QC.fw ?_; cbv)
| (refine QC.mk (fun hc => ?_) (fun hc => ?_) <;> (try dsimp only at hc) <;> cbv)
| (refine br_mk2 (fun hb => ?_) (fun hb => ?_) <;> (try subst hb) <;> cbv)))
  · have e : ¬ xs.length = ys.length := by (first | omega | (simp only [cst] at *; omega) | (simp only [sm] at *; omega))
    have e2 : ¬ xs = ys := fun h => e (by rw [h])
    refine ⟨?_, rfl, rfl⟩
    rw [hr, decide_eq_false e2]
  · have e : xs.length = ys.length := by (first | omega | (simp only [cst] at *; omega) | (simp only [sm] at *; omega))
    refine loopQ (A := Nat × Int) (fun p => p.2 = p.1 ∧ p.1 ≤ xs.length ∧ xs.take p.1 = ys.take p.1) (fun p => xs.length - p.1) (fun p => [(5, .int .i64 p.2)]) (fun p => []) (0, 0) ⟨rfl, Nat.zero_le _, rfl⟩ ?_ ?_
    · cbv
    · intro ⟨i, j⟩ h
      have hj : j = (i : Int) := h.1
      have hi : i ≤ xs.length := h.2.1
      have ht : xs.take i = ys.take i := h.2.2
      clear h
      have h1 := hx i
      have h2 := hy i
      have h3 := key i ht
      have h4 := key2 i
      cbv
      (repeat' (first
| (refine q1w (fun z hz => ?_); (try simp only at hz); cbv)
| (refine rqw ?_; cbv)
| (refine QC.tw ?_; cbv)
| (refine QC.tt ?_ ?_; (focus (simp only [decide_true, Bool.and_true, Bool.and_self] <;> fail)); cbv)
| (refine QC.ff ?_ ?_; (focus (simp only [decide_true, Bool.and_true, Bool.and_self, decide_false, Bool.false_and, reduceCtorEq, not_false_eq_true] <;> fail)); cbv)
| (refine QC.fw ?_; cbv)
| (refine QC.mk (fun hc => ?_) (fun hc => ?_) <;> (try dsimp only at hc) <;> cbv)
| (refine br_mk2 (fun hb => ?_) (fun hb => ?_) <;> (try subst hb) <;> cbv)))
      · have hi2 : i < xs.length := by (first | omega | (simp only [cst] at *; omega) | (simp only [sm] at *; omega))
        have h3 := h3 hi2 (by omega)
        have h1 := h1 hi2
        have h2 := h2 (by omega)
        generalize F i = x at h1 h3 h4
        generalize G i = y at h2 h3 h4
        refine qv (i, .int .u8 x) ⟨hj, h1⟩ ?_
        cbv
        (repeat' (first
| (refine q1w (fun z hz => ?_); (try simp only at hz); cbv)
| (refine rqw ?_; cbv)
| (refine QC.tw ?_; cbv)
| (refine QC.tt ?_ ?_; (focus (simp only [decide_true, Bool.and_true, Bool.and_self] <;> fail)); cbv)
| (refine QC.ff ?_ ?_; (focus (simp only [decide_true, Bool.and_true, Bool.and_self, decide_false, Bool.false_and, reduceCtorEq, not_false_eq_true] <;> fail)); cbv)
| (refine QC.fw ?_; cbv)
| (refine QC.mk (fun hc => ?_) (fun hc => ?_) <;> (try dsimp only at hc) <;> cbv)
| (refine br_mk2 (fun hb => ?_) (fun hb => ?_) <;> (try subst hb) <;> cbv)))
        refine qv (i, .int .u8 y) ⟨hj, h2⟩ ?_
        cbv
        (repeat' (first
| (refine q1w (fun z hz => ?_); (try simp only at hz); cbv)
| (refine rqw ?_; cbv)
| (refine QC.tw ?_; cbv)
| (refine QC.tt ?_ ?_; (focus (simp only [decide_true, Bool.and_true, Bool.and_self] <;> fail)); cbv)
| (refine QC.ff ?_ ?_; (focus (simp only [decide_true, Bool.and_true, Bool.and_self, decide_false, Bool.false_and, reduceCtorEq, not_false_eq_true] <;> fail)); cbv)
| (refine QC.fw ?_; cbv)
| (refine QC.mk (fun hc => ?_) (fun hc => ?_) <;> (try dsimp only at hc) <;> cbv)
| (refine br_mk2 (fun hb => ?_) (fun hb => ?_) <;> (try subst hb) <;> cbv)))
        · refine ⟨?_, rfl, rfl⟩
          rw [hr, decide_eq_false (h4 hc)]
        · refine ⟨(i + 1, z), ⟨by (first | omega | (simp only [cst] at *; omega) | (simp only [sm] at *; omega)), by omega, h3 (by omega)⟩, by (first | omega | (simp only [cst] at *; omega) | (simp only [sm] at *; omega)), ?_⟩
          cbv
      · have e2 : i = xs.length := by (first | omega | (simp only [cst] at *; omega) | (simp only [sm] at *; omega))
        refine ⟨?_, rfl, rfl⟩
        rw [e2, List.take_length, e, List.take_length] at ht
        rw [hr, decide_eq_true ht]
end Go.Proofs.Ytapcbkcnokoljaa
