/- Contract of the other Unhex: the empty text, and where it fails. -/
import Derived.Test.YtapcbkcnokoljaaOZ
namespace Go.Proofs.Ytapcbkcnokoljaa
set_option linter.unusedVariables false
set_option linter.unusedSimpArgs false
open Go.RowKit
set_option maxHeartbeats 4000000
set_option linter.unusedSimpArgs false
theorem runhex_nil (s : ByteArray) (hs : s.size = 0) :
    Good 20 (pu [.str s] (.tup [.lst none [], .bool true])) := by
  refine Good.of Try.func20 rfl (by rfl) (by kernel_rfl) ?_
  cbv
  (repeat' (first
| (refine q1w (fun z hz => ?_); (try simp only at hz); cbv)
| (refine rqw ?_; cbv)
| (refine QC.tw ?_; cbv)
| (refine QC.tt ?_ ?_; (focus (simp only [decide_true, Bool.and_true, Bool.and_self] <;> fail)); cbv)
| (refine QC.ff ?_ ?_; (focus (simp only [decide_true, Bool.and_true, Bool.and_self, decide_false, Bool.false_and, reduceCtorEq, not_false_eq_true] <;> fail)); cbv)
| (refine QC.fw ?_; cbv)
| (refine QC.mk (fun hc => ?_) (fun hc => ?_) <;> (try dsimp only at hc) <;> cbv)
| (refine br_mk2 (fun hb => ?_) (fun hb => ?_) <;> (try subst hb) <;> cbv)))
  refine loopQ (A := Nat) (fun p => True) (fun p => 0) (fun p => [(4, .lst none []), (5, .int .i64 0)]) (fun p => []) 0 trivial ?_ ?_
  · cbv
  · intro i _
    cbv
    (repeat' (first
| (refine q1w (fun z hz => ?_); (try simp only at hz); cbv)
| (refine rqw ?_; cbv)
| (refine QC.tw ?_; cbv)
| (refine QC.tt ?_ ?_; (focus (simp only [decide_true, Bool.and_true, Bool.and_self] <;> fail)); cbv)
| (refine QC.ff ?_ ?_; (focus (simp only [decide_true, Bool.and_true, Bool.and_self, decide_false, Bool.false_and, reduceCtorEq, not_false_eq_true] <;> fail)); cbv)
| (refine QC.fw ?_; cbv)
| (refine QC.mk (fun hc => ?_) (fun hc => ?_) <;> (try dsimp only at hc) <;> cbv)
| (refine br_mk2 (fun hb => ?_) (fun hb => ?_) <;> (try subst hb) <;> cbv)))
    all_goals exact ⟨rfl, rfl, rfl⟩
theorem runhex_no (s : ByteArray) (hl : s.size ≤ 8000000) (hno : s.size % 2 = 1 ∨ ∃ k, k < s.size ∧ dgI (byteAt s (k : Nat)) < 0) :
    Good 20 (pu [.str s] (.tup [.lst none [], .bool false])) := by
  by_cases hodd : s.size % 2 = 1
  · refine Good.of Try.func20 rfl (by rfl) (by kernel_rfl) ?_
    cbv
    (repeat' (first
| (refine q1w (fun z hz => ?_); (try simp only at hz); cbv)
| (refine rqw ?_; cbv)
| (refine QC.tw ?_; cbv)
| (refine QC.tt ?_ ?_; (focus (simp only [decide_true, Bool.and_true, Bool.and_self] <;> fail)); cbv)
| (refine QC.ff ?_ ?_; (focus (simp only [decide_true, Bool.and_true, Bool.and_self, decide_false, Bool.false_and, reduceCtorEq, not_false_eq_true] <;> fail)); cbv)
| (refine QC.fw ?_; cbv)
| (refine QC.mk (fun hc => ?_) (fun hc => ?_) <;> (try dsimp only at hc) <;> cbv)
| (refine br_mk2 (fun hb => ?_) (fun hb => ?_) <;> (try subst hb) <;> cbv)))
    all_goals exact ⟨rfl, rfl, rfl⟩
  · obtain ⟨n, hs⟩ : ∃ n, s.size = 2 * n := ⟨s.size / 2, by omega⟩
    have hex : ∃ k, k < s.size ∧ dgI (byteAt s (k : Nat)) < 0 := by
      rcases hno with h | h
      · omega
      · exact h
    clear hno
    obtain ⟨f, hf⟩ : ∃ f : Nat → Int, ∀ k, f k = dgI (byteAt s (k : Nat)) := ⟨_, fun _ => rfl⟩
    obtain ⟨U, U0, Ul, Us, Un⟩ := runhG f n
    obtain ⟨F, hF⟩ : ∃ F : Int → Int, ∀ c, F c = dgI c := ⟨_, fun _ => rfl⟩
    have hFb : ∀ c, -1 ≤ F c ∧ F c ≤ 15 := fun c => by rw [hF]; exact dgI_le c
    have hD := fun c : Int => digit_c c (F c) (hF c)
    refine Good.of Try.func20 rfl (by rfl) (by kernel_rfl) ?_
    cbv
    (repeat' (first
| (refine q1w (fun z hz => ?_); (try simp only at hz); cbv)
| (refine rqw ?_; cbv)
| (refine QC.tw ?_; cbv)
| (refine QC.tt ?_ ?_; (focus (simp only [decide_true, Bool.and_true, Bool.and_self] <;> fail)); cbv)
| (refine QC.ff ?_ ?_; (focus (simp only [decide_true, Bool.and_true, Bool.and_self, decide_false, Bool.false_and, reduceCtorEq, not_false_eq_true] <;> fail)); cbv)
| (refine QC.fw ?_; cbv)
| (refine QC.mk (fun hc => ?_) (fun hc => ?_) <;> (try dsimp only at hc) <;> cbv)
| (refine br_mk2 (fun hb => ?_) (fun hb => ?_) <;> (try subst hb) <;> cbv)))
    refine loopQ (A := Nat × Int) (fun p => p.2 = 2 * p.1 ∧ p.1 ≤ n ∧ ∀ k, k < 2 * p.1 → 0 ≤ f k) (fun p => n - p.1) (fun p => (5, .int .i64 p.2) :: uhS p.1) (fun p => uhM U p.1) (0, 0) ⟨rfl, Nat.zero_le _, fun k hk => absurd hk (Nat.not_lt_zero _)⟩ ?_ ?_
    · cbv
    · intro ⟨i, j⟩ h
      have hj : j = 2 * (i : Int) := h.1
      have hi : i ≤ n := h.2.1
      have hdone : ∀ k, k < 2 * i → 0 ≤ f k := h.2.2
      clear h
      have hul := Ul i
      have hus := Us i
      have hz0 : ∀ z1 z2 z3 : Int, z1 = byteAt s j → z2 = j + 1 → z3 = byteAt s z2 → F z1 = f (2 * i) ∧ F z3 = f (2 * i + 1) := fun z1 z2 z3 h1 h2 h3 => by
        rw [h3, h1, h2, hj, hF, hF, hf, hf]
        exact ⟨rfl, rfl⟩
      have hnext : 0 ≤ f (2 * i) → 0 ≤ f (2 * i + 1) → ∀ k, k < 2 * (i + 1) → 0 ≤ f k := fun h1 h2 k hk => by
        rcases Nat.lt_or_ge k (2 * i) with h | h
        · exact hdone k h
        · rcases Nat.eq_or_lt_of_le h with h | h
          · rw [← h]; exact h1
          · rw [show k = 2 * i + 1 by omega]; exact h2
      cases i with
      | zero =>
        cbv
        (repeat' (first
| (refine q1w (fun z hz => ?_); (try simp only at hz); cbv)
| (refine rqw ?_; cbv)
| (refine QC.tw ?_; cbv)
| (refine QC.tt ?_ ?_; (focus (simp only [decide_true, Bool.and_true, Bool.and_self] <;> fail)); cbv)
| (refine QC.ff ?_ ?_; (focus (simp only [decide_true, Bool.and_true, Bool.and_self, decide_false, Bool.false_and, reduceCtorEq, not_false_eq_true] <;> fail)); cbv)
| (refine QC.fw ?_; cbv)
| (refine QC.mk (fun hc => ?_) (fun hc => ?_) <;> (try dsimp only at hc) <;> cbv)
| (refine br_mk2 (fun hb => ?_) (fun hb => ?_) <;> (try subst hb) <;> cbv)
| ((refine callq (hD z) rfl rfl ?_; have hb := hFb z; cbv))))
        all_goals first
          | exact ⟨rfl, rfl, rfl⟩
          | (exfalso; obtain ⟨k, hk1, hk2⟩ := hex; omega)
          | (obtain ⟨b1, b2⟩ := hz0 _ _ _ (by assumption) (by assumption) (by assumption)
             rename_i z6 h6 z5 h5 z4 h4
             have hk := hus z4 (by omega)
             rw [U0] at hk
             refine ⟨(1, z), ⟨by show z = 2 * ((1 : Nat) : Int); (first | omega | (simp only [cst] at *; omega) | (simp only [sm] at *; omega)), by show 1 ≤ n; omega, hnext (by omega) (by omega)⟩, by show n - 1 < n - 0; omega, ?_⟩
             cbv
             exact ⟨congrArg (Blk.row none 5) hk, trivial⟩)
      | succ i =>
        cbv
        (repeat' (first
| (refine q1w (fun z hz => ?_); (try simp only at hz); cbv)
| (refine rqw ?_; cbv)
| (refine QC.tw ?_; cbv)
| (refine QC.tt ?_ ?_; (focus (simp only [decide_true, Bool.and_true, Bool.and_self] <;> fail)); cbv)
| (refine QC.ff ?_ ?_; (focus (simp only [decide_true, Bool.and_true, Bool.and_self, decide_false, Bool.false_and, reduceCtorEq, not_false_eq_true] <;> fail)); cbv)
| (refine QC.fw ?_; cbv)
| (refine QC.mk (fun hc => ?_) (fun hc => ?_) <;> (try dsimp only at hc) <;> cbv)
| (refine br_mk2 (fun hb => ?_) (fun hb => ?_) <;> (try subst hb) <;> cbv)
| ((refine callq (hD z) rfl rfl ?_; have hb := hFb z; cbv))))
        all_goals first
          | exact ⟨rfl, rfl, rfl⟩
          | (obtain ⟨b1, b2⟩ := hz0 _ _ _ (by assumption) (by assumption) (by assumption)
             rename_i z6 h6 z5 h5 z4 h4
             have hk := hus z4 (by omega)
             refine ⟨(i + 1 + 1, z), ⟨by show z = 2 * ((i + 1 + 1 : Nat) : Int); (first | omega | (simp only [cst] at *; omega) | (simp only [sm] at *; omega)), by show i + 1 + 1 ≤ n; (first | omega | (simp only [cst] at *; omega) | (simp only [sm] at *; omega)), hnext (by omega) (by omega)⟩, by show n - (i + 1 + 1) < n - (i + 1); (first | omega | (simp only [cst] at *; omega) | (simp only [sm] at *; omega)), ?_⟩
             cbv
             exact ⟨congrArg (Blk.row none 5) hk, trivial⟩)
          | (exfalso
             have e : i + 1 = n := by (first | omega | (simp only [cst] at *; omega) | (simp only [sm] at *; omega))
             obtain ⟨k, hk1, hk2⟩ := hex
             have := hdone k (by omega)
             rw [hf] at this
             omega)
end Go.Proofs.Ytapcbkcnokoljaa
