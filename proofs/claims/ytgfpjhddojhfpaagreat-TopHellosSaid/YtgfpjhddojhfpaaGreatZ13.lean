/- Texts put together: QA. -/
import Derived.Test.YtgfpjhddojhfpaaGreatZ03
import Derived.Test.YtgfpjhddojhfpaaGreatZ04
namespace Go.Proofs.YtgfpjhddojhfpaaGreat
set_option linter.unusedVariables false
set_option linter.unusedSimpArgs false
open Go.RowKit
set_option maxHeartbeats 4000000
set_option linter.unusedSimpArgs false
set_option linter.unusedVariables false
abbrev qS (h c n : Int) : SV := .agg [.bool true, .int .u8 h, .int .i64 c, .int .u16 n, .int .i64 0]
abbrev qZ : SV := .agg [.bool false, .int .u8 0, .int .i64 0, .int .u16 0, .int .i64 0]
theorem qValid (h c n : Int) (hc : 1 ≤ c ∧ c ≤ 8) (hh : 1 ≤ h ∧ h < 2 ^ c.toNat) : Good 126 (pu [qS h c n] (.bool true)) := by
  have hc' : c = 1 ∨ c = 2 ∨ c = 3 ∨ c = 4 ∨ c = 5 ∨ c = 6 ∨ c = 7 ∨ c = 8 := by omega
  have hb : h ≤ 255 := by
    rcases hc' with rfl | rfl | rfl | rfl | rfl | rfl | rfl | rfl <;> (simp at hh; omega)
  rcases hc' with rfl | rfl | rfl | rfl | rfl | rfl | rfl | rfl
  all_goals (
    have h2 := hh.2
    simp only [Int.reduceToNat, Int.reducePow] at h2
    refine Good.of Tryz.func126 rfl (by rfl) (by kernel_rfl) ?_
    cbv
    (repeat' (first
| (refine q1w (fun z hz => ?_); (try simp only at hz); cbv)
| (refine rqw ?_; cbv)
| (refine rqk ?_; cbv)
| (refine chpA ?_; cbv)
| (refine QC.tw ?_; cbv)
| (refine QC.t3 ?_; cbv)
| (refine QC.f3 ?_; cbv)
| (refine QC.fw ?_; cbv)
| (refine QC.mk (fun hc => ?_) (fun hc => ?_) <;> (try dsimp only at hc) <;> cbv)
| (refine br_mk2 (fun hb => ?_) (fun hb => ?_) <;> (try subst hb) <;> cbv))))
  all_goals exact ⟨rfl, rfl, rfl⟩
theorem qValidZ : Good 126 (pu [qZ] (.bool true)) := by
  refine Good.of Tryz.func126 rfl (by rfl) (by kernel_rfl) ?_
  cbv
  (repeat' (first
| (refine QC.ff (fun h => h rfl) ?_; cbv)
| (refine q1w (fun z hz => ?_); (try simp only at hz); cbv)
| (refine rqw ?_; cbv)
| (refine rqk ?_; cbv)
| (refine chpA ?_; cbv)
| (refine QC.tw ?_; cbv)
| (refine QC.t3 ?_; cbv)
| (refine QC.f3 ?_; cbv)
| (refine QC.fw ?_; cbv)
| (refine QC.mk (fun hc => ?_) (fun hc => ?_) <;> (try dsimp only at hc) <;> cbv)
| (refine br_mk2 (fun hb => ?_) (fun hb => ?_) <;> (try subst hb) <;> cbv)))
  all_goals first | exact ⟨rfl, rfl, rfl⟩ | trace_state
theorem qvalid (h c n : Int) (hc : 1 ≤ c ∧ c ≤ 8) (hh : 1 ≤ h ∧ h < 2 ^ c.toNat) : Good 65 (pu [qS h c n] (qS h c n)) := by
  have g1 := qValid h c n hc hh
  clear hc hh
  refine Good.of Tryz.func65 rfl (by rfl) (by kernel_rfl) ?_
  cbv
  (repeat' (first
| (refine q1w (fun z hz => ?_); (try simp only at hz); cbv)
| (refine rqw ?_; cbv)
| (refine rqk ?_; cbv)
| (refine chpA ?_; cbv)
| (refine QC.tw ?_; cbv)
| (refine QC.t3 ?_; cbv)
| (refine QC.f3 ?_; cbv)
| (refine QC.fw ?_; cbv)
| (refine QC.mk (fun hc => ?_) (fun hc => ?_) <;> (try dsimp only at hc) <;> cbv)
| (refine br_mk2 (fun hb => ?_) (fun hb => ?_) <;> (try subst hb) <;> cbv)
| (refine callq (g1) rfl rfl ?_; cbv)))
  exact ⟨rfl, rfl, rfl⟩
theorem qvalidZ : Good 65 (pu [qZ] qZ) := by
  have g1 := qValidZ
  refine Good.of Tryz.func65 rfl (by rfl) (by kernel_rfl) ?_
  cbv
  (repeat' (first
| (refine q1w (fun z hz => ?_); (try simp only at hz); cbv)
| (refine rqw ?_; cbv)
| (refine rqk ?_; cbv)
| (refine chpA ?_; cbv)
| (refine QC.tw ?_; cbv)
| (refine QC.t3 ?_; cbv)
| (refine QC.f3 ?_; cbv)
| (refine QC.fw ?_; cbv)
| (refine QC.mk (fun hc => ?_) (fun hc => ?_) <;> (try dsimp only at hc) <;> cbv)
| (refine br_mk2 (fun hb => ?_) (fun hb => ?_) <;> (try subst hb) <;> cbv)
| (refine callq (g1) rfl rfl ?_; cbv)))
  exact ⟨rfl, rfl, rfl⟩
end Go.Proofs.YtgfpjhddojhfpaaGreat
