/- Texts put together: Snd Sne Snf. -/
import Derived.Test.YtgfpjhddojhfpaaGreatZ04
import Derived.Test.YtgfpjhddojhfpaaGreatZ06
import Derived.Test.YtgfpjhddojhfpaaGreatZ07
namespace Go.Proofs.YtgfpjhddojhfpaaGreat
set_option linter.unusedVariables false
set_option linter.unusedSimpArgs false
set_option maxHeartbeats 40000000
set_option maxRecDepth 100000
theorem w85_7 : Good 85 ⟨[.lst none [.int .u8 96, .int .u8 0, .int .u8 0, .int .u8 0, .int .u8 0, .int .u8 11, .int .u8 17], .int .u64 64, .int .i64 1], none, (.row 1), .any, (.row none 5 [.int .u8 96, .int .u8 0, .int .u8 0, .int .u8 0, .int .u8 0, .int .u8 11, .int .u8 17, .int .u8 64])⟩ := append_c [96, 0, 0, 0, 0, 11, 17] _ _ 64 1 1 (by kernel_rfl) rfl (by decide) (by decide) (by decide) (by kernel_rfl)
theorem w195_0 : Good 195 ⟨[.lst none [], .lst (some 2) [.agg [.int .u64 1610612736, .int .i64 4], .agg [.int .u64 11, .int .i64 2], .agg [.int .u64 17, .int .i64 1], .agg [.int .u64 64, .int .i64 1]]], none, (.row 1), .any, (.row none 5 [.int .u8 96, .int .u8 0, .int .u8 0, .int .u8 0, .int .u8 0, .int .u8 11, .int .u8 17, .int .u8 64])⟩ := by
  refine Good.of Tryz.func195 rfl (by rfl) (by kernel_rfl) ?_
  cbv
  (try (simp only [cwn]; cbv))
  repeat' (first
| ((first
| refine td ?_
| refine fd ?_
| (refine q1w (fun z hz => ?_); (simp [oln, Int.max_def, Int.min_def] at hz); subst hz)
| refine rqw ?_
| refine vI ?_
| refine vA ?_
| refine vS ?_
| refine vR ?_
| refine callq w85_4 rfl rfl ?_
| refine callq w85_5 rfl rfl ?_
| refine callq w85_6 rfl rfl ?_
| refine callq w85_7 rfl rfl ?_
| refine chpA ?_
| refine unrollq 400 ?_); cbv; (try (simp only [cwn]; cbv)))
| (simp only [cwn]; cbv))
  exact ⟨rfl, rfl, rfl⟩
theorem w85_8 : Good 85 ⟨[.lst none [.int .u8 96, .int .u8 0, .int .u8 0, .int .u8 0, .int .u8 0, .int .u8 11, .int .u8 17, .int .u8 64, .int .u8 254, .int .u8 128, .int .u8 0, .int .u8 0, .int .u8 0, .int .u8 0, .int .u8 0, .int .u8 0, .int .u8 0, .int .u8 0, .int .u8 0, .int .u8 0, .int .u8 0, .int .u8 0, .int .u8 0, .int .u8 1, .int .u8 254, .int .u8 128, .int .u8 0, .int .u8 0, .int .u8 0, .int .u8 0, .int .u8 0, .int .u8 0, .int .u8 0, .int .u8 0, .int .u8 0, .int .u8 0, .int .u8 0, .int .u8 0, .int .u8 0, .int .u8 2], .int .u64 61617, .int .i64 2], none, (.row 1), .any, (.row none 5 [.int .u8 96, .int .u8 0, .int .u8 0, .int .u8 0, .int .u8 0, .int .u8 11, .int .u8 17, .int .u8 64, .int .u8 254, .int .u8 128, .int .u8 0, .int .u8 0, .int .u8 0, .int .u8 0, .int .u8 0, .int .u8 0, .int .u8 0, .int .u8 0, .int .u8 0, .int .u8 0, .int .u8 0, .int .u8 0, .int .u8 0, .int .u8 1, .int .u8 254, .int .u8 128, .int .u8 0, .int .u8 0, .int .u8 0, .int .u8 0, .int .u8 0, .int .u8 0, .int .u8 0, .int .u8 0, .int .u8 0, .int .u8 0, .int .u8 0, .int .u8 0, .int .u8 0, .int .u8 2, .int .u8 240, .int .u8 177])⟩ := append_c [96, 0, 0, 0, 0, 11, 17, 64, 254, 128, 0, 0, 0, 0, 0, 0, 0, 0, 0, 0, 0, 0, 0, 1, 254, 128, 0, 0, 0, 0, 0, 0, 0, 0, 0, 0, 0, 0, 0, 2] _ _ 61617 2 2 (by kernel_rfl) rfl (by decide) (by decide) (by decide) (by kernel_rfl)
theorem w85_9 : Good 85 ⟨[.lst none [.int .u8 96, .int .u8 0, .int .u8 0, .int .u8 0, .int .u8 0, .int .u8 11, .int .u8 17, .int .u8 64, .int .u8 254, .int .u8 128, .int .u8 0, .int .u8 0, .int .u8 0, .int .u8 0, .int .u8 0, .int .u8 0, .int .u8 0, .int .u8 0, .int .u8 0, .int .u8 0, .int .u8 0, .int .u8 0, .int .u8 0, .int .u8 1, .int .u8 254, .int .u8 128, .int .u8 0, .int .u8 0, .int .u8 0, .int .u8 0, .int .u8 0, .int .u8 0, .int .u8 0, .int .u8 0, .int .u8 0, .int .u8 0, .int .u8 0, .int .u8 0, .int .u8 0, .int .u8 2, .int .u8 240, .int .u8 177], .int .u64 61618, .int .i64 2], none, (.row 1), .any, (.row none 5 [.int .u8 96, .int .u8 0, .int .u8 0, .int .u8 0, .int .u8 0, .int .u8 11, .int .u8 17, .int .u8 64, .int .u8 254, .int .u8 128, .int .u8 0, .int .u8 0, .int .u8 0, .int .u8 0, .int .u8 0, .int .u8 0, .int .u8 0, .int .u8 0, .int .u8 0, .int .u8 0, .int .u8 0, .int .u8 0, .int .u8 0, .int .u8 1, .int .u8 254, .int .u8 128, .int .u8 0, .int .u8 0, .int .u8 0, .int .u8 0, .int .u8 0, .int .u8 0, .int .u8 0, .int .u8 0, .int .u8 0, .int .u8 0, .int .u8 0, .int .u8 0, .int .u8 0, .int .u8 2, .int .u8 240, .int .u8 177, .int .u8 240, .int .u8 178])⟩ := append_c [96, 0, 0, 0, 0, 11, 17, 64, 254, 128, 0, 0, 0, 0, 0, 0, 0, 0, 0, 0, 0, 0, 0, 1, 254, 128, 0, 0, 0, 0, 0, 0, 0, 0, 0, 0, 0, 0, 0, 2, 240, 177] _ _ 61618 2 2 (by kernel_rfl) rfl (by decide) (by decide) (by decide) (by kernel_rfl)
theorem w85_10 : Good 85 ⟨[.lst none [.int .u8 96, .int .u8 0, .int .u8 0, .int .u8 0, .int .u8 0, .int .u8 11, .int .u8 17, .int .u8 64, .int .u8 254, .int .u8 128, .int .u8 0, .int .u8 0, .int .u8 0, .int .u8 0, .int .u8 0, .int .u8 0, .int .u8 0, .int .u8 0, .int .u8 0, .int .u8 0, .int .u8 0, .int .u8 0, .int .u8 0, .int .u8 1, .int .u8 254, .int .u8 128, .int .u8 0, .int .u8 0, .int .u8 0, .int .u8 0, .int .u8 0, .int .u8 0, .int .u8 0, .int .u8 0, .int .u8 0, .int .u8 0, .int .u8 0, .int .u8 0, .int .u8 0, .int .u8 2, .int .u8 240, .int .u8 177, .int .u8 240, .int .u8 178], .int .u64 11, .int .i64 2], none, (.row 1), .any, (.row none 5 [.int .u8 96, .int .u8 0, .int .u8 0, .int .u8 0, .int .u8 0, .int .u8 11, .int .u8 17, .int .u8 64, .int .u8 254, .int .u8 128, .int .u8 0, .int .u8 0, .int .u8 0, .int .u8 0, .int .u8 0, .int .u8 0, .int .u8 0, .int .u8 0, .int .u8 0, .int .u8 0, .int .u8 0, .int .u8 0, .int .u8 0, .int .u8 1, .int .u8 254, .int .u8 128, .int .u8 0, .int .u8 0, .int .u8 0, .int .u8 0, .int .u8 0, .int .u8 0, .int .u8 0, .int .u8 0, .int .u8 0, .int .u8 0, .int .u8 0, .int .u8 0, .int .u8 0, .int .u8 2, .int .u8 240, .int .u8 177, .int .u8 240, .int .u8 178, .int .u8 0, .int .u8 11])⟩ := append_c [96, 0, 0, 0, 0, 11, 17, 64, 254, 128, 0, 0, 0, 0, 0, 0, 0, 0, 0, 0, 0, 0, 0, 1, 254, 128, 0, 0, 0, 0, 0, 0, 0, 0, 0, 0, 0, 0, 0, 2, 240, 177, 240, 178] _ _ 11 2 2 (by kernel_rfl) rfl (by decide) (by decide) (by decide) (by kernel_rfl)
theorem w85_11 : Good 85 ⟨[.lst none [.int .u8 96, .int .u8 0, .int .u8 0, .int .u8 0, .int .u8 0, .int .u8 11, .int .u8 17, .int .u8 64, .int .u8 254, .int .u8 128, .int .u8 0, .int .u8 0, .int .u8 0, .int .u8 0, .int .u8 0, .int .u8 0, .int .u8 0, .int .u8 0, .int .u8 0, .int .u8 0, .int .u8 0, .int .u8 0, .int .u8 0, .int .u8 1, .int .u8 254, .int .u8 128, .int .u8 0, .int .u8 0, .int .u8 0, .int .u8 0, .int .u8 0, .int .u8 0, .int .u8 0, .int .u8 0, .int .u8 0, .int .u8 0, .int .u8 0, .int .u8 0, .int .u8 0, .int .u8 2, .int .u8 240, .int .u8 177, .int .u8 240, .int .u8 178, .int .u8 0, .int .u8 11], .int .u64 0, .int .i64 2], none, (.row 1), .any, (.row none 5 [.int .u8 96, .int .u8 0, .int .u8 0, .int .u8 0, .int .u8 0, .int .u8 11, .int .u8 17, .int .u8 64, .int .u8 254, .int .u8 128, .int .u8 0, .int .u8 0, .int .u8 0, .int .u8 0, .int .u8 0, .int .u8 0, .int .u8 0, .int .u8 0, .int .u8 0, .int .u8 0, .int .u8 0, .int .u8 0, .int .u8 0, .int .u8 1, .int .u8 254, .int .u8 128, .int .u8 0, .int .u8 0, .int .u8 0, .int .u8 0, .int .u8 0, .int .u8 0, .int .u8 0, .int .u8 0, .int .u8 0, .int .u8 0, .int .u8 0, .int .u8 0, .int .u8 0, .int .u8 2, .int .u8 240, .int .u8 177, .int .u8 240, .int .u8 178, .int .u8 0, .int .u8 11, .int .u8 0, .int .u8 0])⟩ := append_c [96, 0, 0, 0, 0, 11, 17, 64, 254, 128, 0, 0, 0, 0, 0, 0, 0, 0, 0, 0, 0, 0, 0, 1, 254, 128, 0, 0, 0, 0, 0, 0, 0, 0, 0, 0, 0, 0, 0, 2, 240, 177, 240, 178, 0, 11] _ _ 0 2 2 (by kernel_rfl) rfl (by decide) (by decide) (by decide) (by kernel_rfl)
theorem w195_1 : Good 195 ⟨[.lst none [.int .u8 96, .int .u8 0, .int .u8 0, .int .u8 0, .int .u8 0, .int .u8 11, .int .u8 17, .int .u8 64, .int .u8 254, .int .u8 128, .int .u8 0, .int .u8 0, .int .u8 0, .int .u8 0, .int .u8 0, .int .u8 0, .int .u8 0, .int .u8 0, .int .u8 0, .int .u8 0, .int .u8 0, .int .u8 0, .int .u8 0, .int .u8 1, .int .u8 254, .int .u8 128, .int .u8 0, .int .u8 0, .int .u8 0, .int .u8 0, .int .u8 0, .int .u8 0, .int .u8 0, .int .u8 0, .int .u8 0, .int .u8 0, .int .u8 0, .int .u8 0, .int .u8 0, .int .u8 2], .lst (some 2) [.agg [.int .u64 61617, .int .i64 2], .agg [.int .u64 61618, .int .i64 2], .agg [.int .u64 11, .int .i64 2], .agg [.int .u64 0, .int .i64 2]]], none, (.row 1), .any, (.row none 5 [.int .u8 96, .int .u8 0, .int .u8 0, .int .u8 0, .int .u8 0, .int .u8 11, .int .u8 17, .int .u8 64, .int .u8 254, .int .u8 128, .int .u8 0, .int .u8 0, .int .u8 0, .int .u8 0, .int .u8 0, .int .u8 0, .int .u8 0, .int .u8 0, .int .u8 0, .int .u8 0, .int .u8 0, .int .u8 0, .int .u8 0, .int .u8 1, .int .u8 254, .int .u8 128, .int .u8 0, .int .u8 0, .int .u8 0, .int .u8 0, .int .u8 0, .int .u8 0, .int .u8 0, .int .u8 0, .int .u8 0, .int .u8 0, .int .u8 0, .int .u8 0, .int .u8 0, .int .u8 2, .int .u8 240, .int .u8 177, .int .u8 240, .int .u8 178, .int .u8 0, .int .u8 11, .int .u8 0, .int .u8 0])⟩ := by
  refine Good.of Tryz.func195 rfl (by rfl) (by kernel_rfl) ?_
  cbv
  (try (simp only [cwn]; cbv))
  repeat' (first
| ((first
| refine td ?_
| refine fd ?_
| (refine q1w (fun z hz => ?_); (simp [oln, Int.max_def, Int.min_def] at hz); subst hz)
| refine rqw ?_
| refine vI ?_
| refine vA ?_
| refine vS ?_
| refine vR ?_
| refine callq w85_8 rfl rfl ?_
| refine callq w85_9 rfl rfl ?_
| refine callq w85_10 rfl rfl ?_
| refine callq w85_11 rfl rfl ?_
| refine chpA ?_
| refine unrollq 400 ?_); cbv; (try (simp only [cwn]; cbv)))
| (simp only [cwn]; cbv))
  exact ⟨rfl, rfl, rfl⟩
theorem w152_0 : Good 152 ⟨[.agg [.int .u8 0, .int .u32 0, .int .u8 17, .int .u8 64, .int .u8 254, .int .u8 128, .int .u8 0, .int .u8 0, .int .u8 0, .int .u8 0, .int .u8 0, .int .u8 0, .int .u8 0, .int .u8 0, .int .u8 0, .int .u8 0, .int .u8 0, .int .u8 0, .int .u8 0, .int .u8 1, .int .u8 254, .int .u8 128, .int .u8 0, .int .u8 0, .int .u8 0, .int .u8 0, .int .u8 0, .int .u8 0, .int .u8 0, .int .u8 0, .int .u8 0, .int .u8 0, .int .u8 0, .int .u8 0, .int .u8 0, .int .u8 2, .int .u16 61617, .int .u16 61618, .lst none [.int .u8 1, .int .u8 2, .int .u8 3]], .int .u16 0], none, (.row 1), .any, (.row none 5 [.int .u8 96, .int .u8 0, .int .u8 0, .int .u8 0, .int .u8 0, .int .u8 11, .int .u8 17, .int .u8 64, .int .u8 254, .int .u8 128, .int .u8 0, .int .u8 0, .int .u8 0, .int .u8 0, .int .u8 0, .int .u8 0, .int .u8 0, .int .u8 0, .int .u8 0, .int .u8 0, .int .u8 0, .int .u8 0, .int .u8 0, .int .u8 1, .int .u8 254, .int .u8 128, .int .u8 0, .int .u8 0, .int .u8 0, .int .u8 0, .int .u8 0, .int .u8 0, .int .u8 0, .int .u8 0, .int .u8 0, .int .u8 0, .int .u8 0, .int .u8 0, .int .u8 0, .int .u8 2, .int .u8 240, .int .u8 177, .int .u8 240, .int .u8 178, .int .u8 0, .int .u8 11, .int .u8 0, .int .u8 0, .int .u8 1, .int .u8 2, .int .u8 3])⟩ := by
  refine Good.of Tryz.func152 rfl (by rfl) (by kernel_rfl) ?_
  cbv
  (try (simp only [cwn]; cbv))
  repeat' (first
| ((first
| refine td ?_
| refine fd ?_
| (refine q1w (fun z hz => ?_); (simp [oln, Int.max_def, Int.min_def] at hz); subst hz)
| refine rqw ?_
| refine vI ?_
| refine vA ?_
| refine vS ?_
| refine vR ?_
| refine callq w89_0 rfl rfl ?_
| refine callq w195_0 rfl rfl ?_
| refine callq w195_1 rfl rfl ?_
| refine chpA ?_
| refine unrollq 400 ?_); cbv; (try (simp only [cwn]; cbv)))
| (simp only [cwn]; cbv))
  exact ⟨rfl, rfl, rfl⟩
theorem w85_12 : Good 85 ⟨[.lst none [], .int .u64 11, .int .i64 4], none, (.row 1), .any, (.row none 5 [.int .u8 0, .int .u8 0, .int .u8 0, .int .u8 11])⟩ := append_c [] _ _ 11 4 4 (by kernel_rfl) rfl (by decide) (by decide) (by decide) (by kernel_rfl)
theorem w212_0 : Good 212 ⟨[.lst none [.lst none [.int .u8 254, .int .u8 128, .int .u8 0, .int .u8 0, .int .u8 0, .int .u8 0, .int .u8 0, .int .u8 0, .int .u8 0, .int .u8 0, .int .u8 0, .int .u8 0, .int .u8 0, .int .u8 0, .int .u8 0, .int .u8 1, .int .u8 254, .int .u8 128, .int .u8 0, .int .u8 0, .int .u8 0, .int .u8 0, .int .u8 0, .int .u8 0, .int .u8 0, .int .u8 0, .int .u8 0, .int .u8 0, .int .u8 0, .int .u8 0, .int .u8 0, .int .u8 2], .lst none [.int .u8 0, .int .u8 0, .int .u8 0, .int .u8 11], .lst none [.int .u8 0, .int .u8 0, .int .u8 0, .int .u8 17], .lst none [.int .u8 240, .int .u8 177, .int .u8 240, .int .u8 178, .int .u8 0, .int .u8 11], .lst none [.int .u8 0, .int .u8 0], .lst none [.int .u8 1, .int .u8 2, .int .u8 3]]], none, (.int .u64 254607), .any, .no⟩ := by
  refine Good.of Tryz.func212 rfl (by rfl) (by kernel_rfl) ?_
  cbv
  (try (simp only [cwn]; cbv))
  repeat' (first
| ((first
| refine td ?_
| refine fd ?_
| (refine q1w (fun z hz => ?_); (simp [oln, Int.max_def, Int.min_def] at hz); subst hz)
| refine rqw ?_
| refine vI ?_
| refine vA ?_
| refine vS ?_
| refine vR ?_
| refine chpA ?_
| refine unrollq 400 ?_); cbv; (try (simp only [cwn]; cbv)))
| (simp only [cwn]; cbv))
  exact ⟨rfl, rfl, rfl⟩
theorem w211_0 : Good 211 ⟨[.int .u64 254607], none, (.int .u16 58002), .any, .no⟩ := by
  refine Good.of Tryz.func211 rfl (by rfl) (by kernel_rfl) ?_
  cbv
  (try (simp only [cwn]; cbv))
  repeat' (first
| ((first
| refine td ?_
| refine fd ?_
| (refine q1w (fun z hz => ?_); (simp [oln, Int.max_def, Int.min_def] at hz); subst hz)
| refine rqw ?_
| refine vI ?_
| refine vA ?_
| refine vS ?_
| refine vR ?_
| refine chpA ?_
| refine unrollq 400 ?_); cbv; (try (simp only [cwn]; cbv)))
| (simp only [cwn]; cbv))
  exact ⟨rfl, rfl, rfl⟩
theorem w189_0 : Good 189 ⟨[.lst none [.lst none [.int .u8 254, .int .u8 128, .int .u8 0, .int .u8 0, .int .u8 0, .int .u8 0, .int .u8 0, .int .u8 0, .int .u8 0, .int .u8 0, .int .u8 0, .int .u8 0, .int .u8 0, .int .u8 0, .int .u8 0, .int .u8 1, .int .u8 254, .int .u8 128, .int .u8 0, .int .u8 0, .int .u8 0, .int .u8 0, .int .u8 0, .int .u8 0, .int .u8 0, .int .u8 0, .int .u8 0, .int .u8 0, .int .u8 0, .int .u8 0, .int .u8 0, .int .u8 2], .lst none [.int .u8 0, .int .u8 0, .int .u8 0, .int .u8 11], .lst none [.int .u8 0, .int .u8 0, .int .u8 0, .int .u8 17], .lst none [.int .u8 240, .int .u8 177, .int .u8 240, .int .u8 178, .int .u8 0, .int .u8 11], .lst none [.int .u8 0, .int .u8 0], .lst none [.int .u8 1, .int .u8 2, .int .u8 3]]], none, (.int .u16 7533), .any, .no⟩ := by
  refine Good.of Tryz.func189 rfl (by rfl) (by kernel_rfl) ?_
  cbv
  (try (simp only [cwn]; cbv))
  repeat' (first
| ((first
| refine td ?_
| refine fd ?_
| (refine q1w (fun z hz => ?_); (simp [oln, Int.max_def, Int.min_def] at hz); subst hz)
| refine rqw ?_
| refine vI ?_
| refine vA ?_
| refine vS ?_
| refine vR ?_
| refine callq w212_0 rfl rfl ?_
| refine callq w211_0 rfl rfl ?_
| refine chpA ?_
| refine unrollq 400 ?_); cbv; (try (simp only [cwn]; cbv)))
| (simp only [cwn]; cbv))
  exact ⟨rfl, rfl, rfl⟩
theorem w143_0 : Good 143 ⟨[.lst none [.int .u8 96, .int .u8 0, .int .u8 0, .int .u8 0, .int .u8 0, .int .u8 11, .int .u8 17, .int .u8 64, .int .u8 254, .int .u8 128, .int .u8 0, .int .u8 0, .int .u8 0, .int .u8 0, .int .u8 0, .int .u8 0, .int .u8 0, .int .u8 0, .int .u8 0, .int .u8 0, .int .u8 0, .int .u8 0, .int .u8 0, .int .u8 1, .int .u8 254, .int .u8 128, .int .u8 0, .int .u8 0, .int .u8 0, .int .u8 0, .int .u8 0, .int .u8 0, .int .u8 0, .int .u8 0, .int .u8 0, .int .u8 0, .int .u8 0, .int .u8 0, .int .u8 0, .int .u8 2, .int .u8 240, .int .u8 177, .int .u8 240, .int .u8 178, .int .u8 0, .int .u8 11, .int .u8 0, .int .u8 0, .int .u8 1, .int .u8 2, .int .u8 3]], none, (.int .u16 7533), .any, .no⟩ := by
  refine Good.of Tryz.func143 rfl (by rfl) (by kernel_rfl) ?_
  cbv
  (try (simp only [cwn]; cbv))
  repeat' (first
| ((first
| refine td ?_
| refine fd ?_
| (refine q1w (fun z hz => ?_); (simp [oln, Int.max_def, Int.min_def] at hz); subst hz)
| refine rqw ?_
| refine vI ?_
| refine vA ?_
| refine vS ?_
| refine vR ?_
| refine callq w85_12 rfl rfl ?_
| refine callq w189_0 rfl rfl ?_
| refine chpA ?_
| refine unrollq 400 ?_); cbv; (try (simp only [cwn]; cbv)))
| (simp only [cwn]; cbv))
  exact ⟨rfl, rfl, rfl⟩
theorem w90_0 : Good 90 ⟨[.agg [.int .u8 0, .int .u32 0, .int .u8 17, .int .u8 64, .int .u8 254, .int .u8 128, .int .u8 0, .int .u8 0, .int .u8 0, .int .u8 0, .int .u8 0, .int .u8 0, .int .u8 0, .int .u8 0, .int .u8 0, .int .u8 0, .int .u8 0, .int .u8 0, .int .u8 0, .int .u8 1, .int .u8 254, .int .u8 128, .int .u8 0, .int .u8 0, .int .u8 0, .int .u8 0, .int .u8 0, .int .u8 0, .int .u8 0, .int .u8 0, .int .u8 0, .int .u8 0, .int .u8 0, .int .u8 0, .int .u8 0, .int .u8 2, .int .u16 61617, .int .u16 61618, .lst none [.int .u8 1, .int .u8 2, .int .u8 3]]], none, (.int .u16 7533), .any, .no⟩ := by
  refine Good.of Tryz.func90 rfl (by rfl) (by kernel_rfl) ?_
  cbv
  (try (simp only [cwn]; cbv))
  repeat' (first
| ((first
| refine td ?_
| refine fd ?_
| (refine q1w (fun z hz => ?_); (simp [oln, Int.max_def, Int.min_def] at hz); subst hz)
| refine rqw ?_
| refine vI ?_
| refine vA ?_
| refine vS ?_
| refine vR ?_
| refine callq w132_0 rfl rfl ?_
| refine callq w152_0 rfl rfl ?_
| refine callq w143_0 rfl rfl ?_
| refine chpA ?_
| refine unrollq 400 ?_); cbv; (try (simp only [cwn]; cbv)))
| (simp only [cwn]; cbv))
  exact ⟨rfl, rfl, rfl⟩
theorem w85_13 : Good 85 ⟨[.lst none [.int .u8 126, .int .u8 51, .int .u8 243, .int .u8 18], .int .u64 7533, .int .i64 2], none, (.row 1), .any, (.row none 5 [.int .u8 126, .int .u8 51, .int .u8 243, .int .u8 18, .int .u8 29, .int .u8 109])⟩ := append_c [126, 51, 243, 18] _ _ 7533 2 2 (by kernel_rfl) rfl (by decide) (by decide) (by decide) (by kernel_rfl)
theorem w140_2 : Good 140 (gC [.int .u64 7533, .int .i64 2, .ptr 902 0] [(902, 30, .lst none [.int .u8 126, .int .u8 51, .int .u8 243, .int .u8 18], .row 1)] (.tup []) (.row none 5 [.int .u8 126, .int .u8 51, .int .u8 243, .int .u8 18, .int .u8 29, .int .u8 109])) := by
  refine Good.ofG Tryz.func140 rfl (by rfl) (by kernel_rfl) ?_
  cbv
  (try (simp only [cwn]; cbv))
  repeat' (first
| ((first
| refine td ?_
| refine fd ?_
| (refine q1w (fun z hz => ?_); (simp [oln, Int.max_def, Int.min_def] at hz); subst hz)
| refine rqw ?_
| refine vI ?_
| refine vA ?_
| refine vS ?_
| refine vR ?_
| refine callq w85_13 rfl rfl ?_
| refine chpA ?_
| refine unrollq 400 ?_); cbv; (try (simp only [cwn]; cbv)))
| (simp only [cwn]; cbv))
  exact ⟨rfl, rfl, rfl⟩
theorem w74_0 : Good 74 ⟨[.lst none [.int .u8 126, .int .u8 51], .agg [.int .u8 0, .int .u32 0, .int .u8 17, .int .u8 64, .int .u8 254, .int .u8 128, .int .u8 0, .int .u8 0, .int .u8 0, .int .u8 0, .int .u8 0, .int .u8 0, .int .u8 0, .int .u8 0, .int .u8 0, .int .u8 0, .int .u8 0, .int .u8 0, .int .u8 0, .int .u8 1, .int .u8 254, .int .u8 128, .int .u8 0, .int .u8 0, .int .u8 0, .int .u8 0, .int .u8 0, .int .u8 0, .int .u8 0, .int .u8 0, .int .u8 0, .int .u8 0, .int .u8 0, .int .u8 0, .int .u8 0, .int .u8 2, .int .u16 61617, .int .u16 61618, .lst none [.int .u8 1, .int .u8 2, .int .u8 3]]], none, (.row 1), .any, (.row none 5 [.int .u8 126, .int .u8 51, .int .u8 243, .int .u8 18, .int .u8 29, .int .u8 109])⟩ := by
  refine Good.of Tryz.func74 rfl (by rfl) (by kernel_rfl) ?_
  cbv
  (try (simp only [cwn]; cbv))
  repeat' (first
| ((first
| refine td ?_
| refine fd ?_
| (refine q1w (fun z hz => ?_); (simp [oln, Int.max_def, Int.min_def] at hz); subst hz)
| refine rqw ?_
| refine vI ?_
| refine vA ?_
| refine vS ?_
| refine vR ?_
| refine callq w139_0 rfl rfl ?_
| refine callq w139_1 rfl rfl ?_
| refine genq w140_0 rfl rfl ?_
| refine genq w140_1 rfl rfl ?_
| refine callq w90_0 rfl rfl ?_
| refine genq w140_2 rfl rfl ?_
| refine chpB ?_
| refine unrollq 400 ?_); cbv; (try (simp only [cwn]; cbv)))
| (simp only [cwn]; cbv))
  exact ⟨rfl, rfl, rfl⟩
theorem w28_0 : Good 28 ⟨[.agg [.int .u8 0, .int .u32 0, .int .u8 17, .int .u8 64, .int .u8 254, .int .u8 128, .int .u8 0, .int .u8 0, .int .u8 0, .int .u8 0, .int .u8 0, .int .u8 0, .int .u8 0, .int .u8 0, .int .u8 0, .int .u8 0, .int .u8 0, .int .u8 0, .int .u8 0, .int .u8 1, .int .u8 254, .int .u8 128, .int .u8 0, .int .u8 0, .int .u8 0, .int .u8 0, .int .u8 0, .int .u8 0, .int .u8 0, .int .u8 0, .int .u8 0, .int .u8 0, .int .u8 0, .int .u8 0, .int .u8 0, .int .u8 2, .int .u16 61617, .int .u16 61618, .lst none [.int .u8 1, .int .u8 2, .int .u8 3]], .agg [.int .i64 3, .int .u16 0, .int .u64 144115188075855873], .agg [.int .i64 3, .int .u16 0, .int .u64 144115188075855874], .lst (some 20) [], .int .i64 0], none, (.tup [.row 1, .int .i64 0]), .any, (.row none 5 [.int .u8 126, .int .u8 51, .int .u8 243, .int .u8 18, .int .u8 29, .int .u8 109, .int .u8 1, .int .u8 2, .int .u8 3])⟩ := by
  refine Good.of Tryz.func28 rfl (by rfl) (by kernel_rfl) ?_
  cbv
  (try (simp only [cwn]; cbv))
  repeat' (first
| ((first
| refine td ?_
| refine fd ?_
| (refine q1w (fun z hz => ?_); (simp [oln, Int.max_def, Int.min_def] at hz); subst hz)
| refine rqw ?_
| refine vI ?_
| refine vA ?_
| refine vS ?_
| refine vR ?_
| refine callq w73_0 rfl rfl ?_
| refine callq w74_0 rfl rfl ?_
| refine chpA ?_
| refine unrollq 400 ?_); cbv; (try (simp only [cwn]; cbv)))
| (simp only [cwn]; cbv))
  exact ⟨rfl, rfl, rfl⟩
theorem w84_4 : Good 84 ⟨[.lst none [.int .u8 126, .int .u8 51, .int .u8 243, .int .u8 18, .int .u8 29, .int .u8 109, .int .u8 1, .int .u8 2, .int .u8 3], .int .i64 0, .int .i64 1], none, (.tup [.int .u64 126, .bool true]), .any, .no⟩ := by
  refine Good.of Tryz.func84 rfl (by rfl) (by kernel_rfl) ?_
  cbv
  (try (simp only [cwn]; cbv))
  repeat' (first
| ((first
| refine td ?_
| refine fd ?_
| (refine q1w (fun z hz => ?_); (simp [oln, Int.max_def, Int.min_def] at hz); subst hz)
| refine rqw ?_
| refine vI ?_
| refine vA ?_
| refine vS ?_
| refine vR ?_
| refine chpA ?_
| refine unrollq 400 ?_); cbv; (try (simp only [cwn]; cbv)))
| (simp only [cwn]; cbv))
  exact ⟨rfl, rfl, rfl⟩
theorem w190_0 : Good 190 ⟨[.ptr 0 0, .int .i64 1], (some (233, .agg [.lst none [.int .u8 126, .int .u8 51, .int .u8 243, .int .u8 18, .int .u8 29, .int .u8 109, .int .u8 1, .int .u8 2, .int .u8 3], .int .i64 0])), (.tup [.int .u64 126, .int .i64 0]), (.agg [.lst none [.int .u8 126, .int .u8 51, .int .u8 243, .int .u8 18, .int .u8 29, .int .u8 109, .int .u8 1, .int .u8 2, .int .u8 3], .int .i64 1]), .no⟩ := by
  refine Good.of Tryz.func190 rfl (by rfl) (by kernel_rfl) ?_
  cbv
  (try (simp only [cwn]; cbv))
  repeat' (first
| ((first
| refine td ?_
| refine fd ?_
| (refine q1w (fun z hz => ?_); (simp [oln, Int.max_def, Int.min_def] at hz); subst hz)
| refine rqw ?_
| refine vI ?_
| refine vA ?_
| refine vS ?_
| refine vR ?_
| refine callq w84_4 rfl rfl ?_
| refine chpA ?_
| refine unrollq 400 ?_); cbv; (try (simp only [cwn]; cbv)))
| (simp only [cwn]; cbv))
  exact ⟨rfl, rfl, rfl⟩
end Go.Proofs.YtgfpjhddojhfpaaGreat
namespace Go.Proofs.YtgfpjhddojhfpaaGreat
set_option linter.unusedVariables false
set_option linter.unusedSimpArgs false
set_option maxHeartbeats 40000000
set_option maxRecDepth 100000
theorem w84_5 : Good 84 ⟨[.lst none [.int .u8 126, .int .u8 51, .int .u8 243, .int .u8 18, .int .u8 29, .int .u8 109, .int .u8 1, .int .u8 2, .int .u8 3], .int .i64 1, .int .i64 1], none, (.tup [.int .u64 51, .bool true]), .any, .no⟩ := by
  refine Good.of Tryz.func84 rfl (by rfl) (by kernel_rfl) ?_
  cbv
  (try (simp only [cwn]; cbv))
  repeat' (first
| ((first
| refine td ?_
| refine fd ?_
| (refine q1w (fun z hz => ?_); (simp [oln, Int.max_def, Int.min_def] at hz); subst hz)
| refine rqw ?_
| refine vI ?_
| refine vA ?_
| refine vS ?_
| refine vR ?_
| refine chpA ?_
| refine unrollq 400 ?_); cbv; (try (simp only [cwn]; cbv)))
| (simp only [cwn]; cbv))
  exact ⟨rfl, rfl, rfl⟩
theorem w190_1 : Good 190 ⟨[.ptr 0 0, .int .i64 1], (some (233, .agg [.lst none [.int .u8 126, .int .u8 51, .int .u8 243, .int .u8 18, .int .u8 29, .int .u8 109, .int .u8 1, .int .u8 2, .int .u8 3], .int .i64 1])), (.tup [.int .u64 51, .int .i64 0]), (.agg [.lst none [.int .u8 126, .int .u8 51, .int .u8 243, .int .u8 18, .int .u8 29, .int .u8 109, .int .u8 1, .int .u8 2, .int .u8 3], .int .i64 2]), .no⟩ := by
  refine Good.of Tryz.func190 rfl (by rfl) (by kernel_rfl) ?_
  cbv
  (try (simp only [cwn]; cbv))
  repeat' (first
| ((first
| refine td ?_
| refine fd ?_
| (refine q1w (fun z hz => ?_); (simp [oln, Int.max_def, Int.min_def] at hz); subst hz)
| refine rqw ?_
| refine vI ?_
| refine vA ?_
| refine vS ?_
| refine vR ?_
| refine callq w84_5 rfl rfl ?_
| refine chpA ?_
| refine unrollq 400 ?_); cbv; (try (simp only [cwn]; cbv)))
| (simp only [cwn]; cbv))
  exact ⟨rfl, rfl, rfl⟩
theorem w144_0 : Good 144 ⟨[.ptr 0 0], (some (233, .agg [.lst none [.int .u8 126, .int .u8 51, .int .u8 243, .int .u8 18, .int .u8 29, .int .u8 109, .int .u8 1, .int .u8 2, .int .u8 3], .int .i64 0])), (.tup [.int .i64 126, .int .i64 51, .int .i64 0, .int .i64 0]), (.agg [.lst none [.int .u8 126, .int .u8 51, .int .u8 243, .int .u8 18, .int .u8 29, .int .u8 109, .int .u8 1, .int .u8 2, .int .u8 3], .int .i64 2]), .no⟩ := by
  refine Good.of Tryz.func144 rfl (by rfl) (by kernel_rfl) ?_
  cbv
  (try (simp only [cwn]; cbv))
  repeat' (first
| ((first
| refine td ?_
| refine fd ?_
| (refine q1w (fun z hz => ?_); (simp [oln, Int.max_def, Int.min_def] at hz); subst hz)
| refine rqw ?_
| refine vI ?_
| refine vA ?_
| refine vS ?_
| refine vR ?_
| refine callq w190_0 rfl rfl ?_
| refine callq w190_1 rfl rfl ?_
| refine chpA ?_
| refine unrollq 400 ?_); cbv; (try (simp only [cwn]; cbv)))
| (simp only [cwn]; cbv))
  exact ⟨rfl, rfl, rfl⟩
theorem w191_0 : Good 191 (gC [.bool false, .int .i64 1, .int .u64 0, .ptr 903 0, .cel (.ptr 0 0)] [(903, 45, .int .i64 0, .int .i64 0), (0, 233, .agg [.lst none [.int .u8 126, .int .u8 51, .int .u8 243, .int .u8 18, .int .u8 29, .int .u8 109, .int .u8 1, .int .u8 2, .int .u8 3], .int .i64 2], .agg [.lst none [.int .u8 126, .int .u8 51, .int .u8 243, .int .u8 18, .int .u8 29, .int .u8 109, .int .u8 1, .int .u8 2, .int .u8 3], .int .i64 2])] (.int .u64 0) .no) := by
  refine Good.ofG Tryz.func191 rfl (by rfl) (by kernel_rfl) ?_
  cbv
  (try (simp only [cwn]; cbv))
  repeat' (first
| ((first
| refine td ?_
| refine fd ?_
| (refine q1w (fun z hz => ?_); (simp [oln, Int.max_def, Int.min_def] at hz); subst hz)
| refine rqw ?_
| refine vI ?_
| refine vA ?_
| refine vS ?_
| refine vR ?_
| refine chpA ?_
| refine unrollq 400 ?_); cbv; (try (simp only [cwn]; cbv)))
| (simp only [cwn]; cbv))
  exact ⟨rfl, rfl, rfl⟩
theorem w191_1 : Good 191 (gC [.bool false, .int .i64 3, .int .u64 0, .ptr 903 0, .cel (.ptr 0 0)] [(903, 45, .int .i64 0, .int .i64 0), (0, 233, .agg [.lst none [.int .u8 126, .int .u8 51, .int .u8 243, .int .u8 18, .int .u8 29, .int .u8 109, .int .u8 1, .int .u8 2, .int .u8 3], .int .i64 2], .agg [.lst none [.int .u8 126, .int .u8 51, .int .u8 243, .int .u8 18, .int .u8 29, .int .u8 109, .int .u8 1, .int .u8 2, .int .u8 3], .int .i64 2])] (.int .u64 0) .no) := by
  refine Good.ofG Tryz.func191 rfl (by rfl) (by kernel_rfl) ?_
  cbv
  (try (simp only [cwn]; cbv))
  repeat' (first
| ((first
| refine td ?_
| refine fd ?_
| (refine q1w (fun z hz => ?_); (simp [oln, Int.max_def, Int.min_def] at hz); subst hz)
| refine rqw ?_
| refine vI ?_
| refine vA ?_
| refine vS ?_
| refine vR ?_
| refine chpA ?_
| refine unrollq 400 ?_); cbv; (try (simp only [cwn]; cbv)))
| (simp only [cwn]; cbv))
  exact ⟨rfl, rfl, rfl⟩
theorem w191_2 : Good 191 (gC [.bool false, .int .i64 1, .int .u64 17, .ptr 903 0, .cel (.ptr 0 0)] [(903, 45, .int .i64 0, .int .i64 0), (0, 233, .agg [.lst none [.int .u8 126, .int .u8 51, .int .u8 243, .int .u8 18, .int .u8 29, .int .u8 109, .int .u8 1, .int .u8 2, .int .u8 3], .int .i64 2], .agg [.lst none [.int .u8 126, .int .u8 51, .int .u8 243, .int .u8 18, .int .u8 29, .int .u8 109, .int .u8 1, .int .u8 2, .int .u8 3], .int .i64 2])] (.int .u64 17) .no) := by
  refine Good.ofG Tryz.func191 rfl (by rfl) (by kernel_rfl) ?_
  cbv
  (try (simp only [cwn]; cbv))
  repeat' (first
| ((first
| refine td ?_
| refine fd ?_
| (refine q1w (fun z hz => ?_); (simp [oln, Int.max_def, Int.min_def] at hz); subst hz)
| refine rqw ?_
| refine vI ?_
| refine vA ?_
| refine vS ?_
| refine vR ?_
| refine chpA ?_
| refine unrollq 400 ?_); cbv; (try (simp only [cwn]; cbv)))
| (simp only [cwn]; cbv))
  exact ⟨rfl, rfl, rfl⟩
theorem w191_3 : Good 191 (gC [.bool false, .int .i64 1, .int .u64 64, .ptr 903 0, .cel (.ptr 0 0)] [(903, 45, .int .i64 0, .int .i64 0), (0, 233, .agg [.lst none [.int .u8 126, .int .u8 51, .int .u8 243, .int .u8 18, .int .u8 29, .int .u8 109, .int .u8 1, .int .u8 2, .int .u8 3], .int .i64 2], .agg [.lst none [.int .u8 126, .int .u8 51, .int .u8 243, .int .u8 18, .int .u8 29, .int .u8 109, .int .u8 1, .int .u8 2, .int .u8 3], .int .i64 2])] (.int .u64 64) .no) := by
  refine Good.ofG Tryz.func191 rfl (by rfl) (by kernel_rfl) ?_
  cbv
  (try (simp only [cwn]; cbv))
  repeat' (first
| ((first
| refine td ?_
| refine fd ?_
| (refine q1w (fun z hz => ?_); (simp [oln, Int.max_def, Int.min_def] at hz); subst hz)
| refine rqw ?_
| refine vI ?_
| refine vA ?_
| refine vS ?_
| refine vR ?_
| refine chpA ?_
| refine unrollq 400 ?_); cbv; (try (simp only [cwn]; cbv)))
| (simp only [cwn]; cbv))
  exact ⟨rfl, rfl, rfl⟩
theorem w145_0 : Good 145 ⟨[.ptr 0 0, .int .i64 126], (some (233, .agg [.lst none [.int .u8 126, .int .u8 51, .int .u8 243, .int .u8 18, .int .u8 29, .int .u8 109, .int .u8 1, .int .u8 2, .int .u8 3], .int .i64 2])), (.tup [.agg [.int .u8 0, .int .u32 0, .int .u8 17, .int .u8 64, .int .u8 0, .int .u8 0, .int .u8 0, .int .u8 0, .int .u8 0, .int .u8 0, .int .u8 0, .int .u8 0, .int .u8 0, .int .u8 0, .int .u8 0, .int .u8 0, .int .u8 0, .int .u8 0, .int .u8 0, .int .u8 0, .int .u8 0, .int .u8 0, .int .u8 0, .int .u8 0, .int .u8 0, .int .u8 0, .int .u8 0, .int .u8 0, .int .u8 0, .int .u8 0, .int .u8 0, .int .u8 0, .int .u8 0, .int .u8 0, .int .u8 0, .int .u8 0, .int .u16 0, .int .u16 0, .nil], .int .i64 0]), (.agg [.lst none [.int .u8 126, .int .u8 51, .int .u8 243, .int .u8 18, .int .u8 29, .int .u8 109, .int .u8 1, .int .u8 2, .int .u8 3], .int .i64 2]), .no⟩ := by
  refine Good.of Tryz.func145 rfl (by rfl) (by kernel_rfl) ?_
  cbv
  (try (simp only [cwn]; cbv))
  repeat' (first
| ((first
| refine td ?_
| refine fd ?_
| (refine q1w (fun z hz => ?_); (simp [oln, Int.max_def, Int.min_def] at hz); subst hz)
| refine rqw ?_
| refine vI ?_
| refine vA ?_
| refine vS ?_
| refine vR ?_
| refine genq w191_0 rfl rfl ?_
| refine genq w191_1 rfl rfl ?_
| refine genq w191_2 rfl rfl ?_
| refine genq w191_3 rfl rfl ?_
| refine chpB ?_
| refine unrollq 400 ?_); cbv; (try (simp only [cwn]; cbv)))
| (simp only [cwn]; cbv))
  exact ⟨rfl, rfl, rfl⟩
theorem w146_0 : Good 146 ⟨[.int .i64 0, .eptr none (.lst (some 20) []) 0, .eptr none (.int .i64 0) 0], none, (.clo 147 [.eptr none (.lst (some 20) []) 0, .eptr none (.int .i64 0) 0, .eptr none (.int .i64 0) 0]), .any, .no⟩ := by
  refine Good.of Tryz.func146 rfl (by rfl) (by kernel_rfl) ?_
  cbv
  (try (simp only [cwn]; cbv))
  repeat' (first
| ((first
| refine td ?_
| refine fd ?_
| (refine q1w (fun z hz => ?_); (simp [oln, Int.max_def, Int.min_def] at hz); subst hz)
| refine rqw ?_
| refine vI ?_
| refine vA ?_
| refine vS ?_
| refine vR ?_
| refine chpA ?_
| refine unrollq 400 ?_); cbv; (try (simp only [cwn]; cbv)))
| (simp only [cwn]; cbv))
  exact ⟨rfl, rfl, rfl⟩
theorem w149_0 : Good 149 ⟨[.ptr 0 0, .bool false, .int .i64 3, .agg [.int .i64 3, .int .u16 0, .int .u64 144115188075855873], .clo 147 [.eptr none (.lst (some 20) []) 0, .eptr none (.int .i64 0) 0, .eptr none (.int .i64 0) 0]], (some (233, .agg [.lst none [.int .u8 126, .int .u8 51, .int .u8 243, .int .u8 18, .int .u8 29, .int .u8 109, .int .u8 1, .int .u8 2, .int .u8 3], .int .i64 2])), (.tup [.agg [.int .u8 254, .int .u8 128, .int .u8 0, .int .u8 0, .int .u8 0, .int .u8 0, .int .u8 0, .int .u8 0, .int .u8 0, .int .u8 0, .int .u8 0, .int .u8 0, .int .u8 0, .int .u8 0, .int .u8 0, .int .u8 1], .int .i64 0]), (.agg [.lst none [.int .u8 126, .int .u8 51, .int .u8 243, .int .u8 18, .int .u8 29, .int .u8 109, .int .u8 1, .int .u8 2, .int .u8 3], .int .i64 2]), .no⟩ := by
  refine Good.of Tryz.func149 rfl (by rfl) (by kernel_rfl) ?_
  cbv
  (try (simp only [cwn]; cbv))
  repeat' (first
| ((first
| refine td ?_
| refine fd ?_
| (refine q1w (fun z hz => ?_); (simp [oln, Int.max_def, Int.min_def] at hz); subst hz)
| refine rqw ?_
| refine vI ?_
| refine vA ?_
| refine vS ?_
| refine vR ?_
| refine callq w186_0 rfl rfl ?_
| refine callq w182_0 rfl rfl ?_
| refine callq w181_0 rfl rfl ?_
| refine callq w136_0 rfl rfl ?_
| refine chpA ?_
| refine unrollq 400 ?_); cbv; (try (simp only [cwn]; cbv)))
| (simp only [cwn]; cbv))
  exact ⟨rfl, rfl, rfl⟩
theorem w149_1 : Good 149 ⟨[.ptr 0 0, .bool false, .int .i64 3, .agg [.int .i64 3, .int .u16 0, .int .u64 144115188075855874], .clo 147 [.eptr none (.lst (some 20) []) 0, .eptr none (.int .i64 0) 0, .eptr none (.int .i64 0) 0]], (some (233, .agg [.lst none [.int .u8 126, .int .u8 51, .int .u8 243, .int .u8 18, .int .u8 29, .int .u8 109, .int .u8 1, .int .u8 2, .int .u8 3], .int .i64 2])), (.tup [.agg [.int .u8 254, .int .u8 128, .int .u8 0, .int .u8 0, .int .u8 0, .int .u8 0, .int .u8 0, .int .u8 0, .int .u8 0, .int .u8 0, .int .u8 0, .int .u8 0, .int .u8 0, .int .u8 0, .int .u8 0, .int .u8 2], .int .i64 0]), (.agg [.lst none [.int .u8 126, .int .u8 51, .int .u8 243, .int .u8 18, .int .u8 29, .int .u8 109, .int .u8 1, .int .u8 2, .int .u8 3], .int .i64 2]), .no⟩ := by
  refine Good.of Tryz.func149 rfl (by rfl) (by kernel_rfl) ?_
  cbv
  (try (simp only [cwn]; cbv))
  repeat' (first
| ((first
| refine td ?_
| refine fd ?_
| (refine q1w (fun z hz => ?_); (simp [oln, Int.max_def, Int.min_def] at hz); subst hz)
| refine rqw ?_
| refine vI ?_
| refine vA ?_
| refine vS ?_
| refine vR ?_
| refine callq w186_1 rfl rfl ?_
| refine callq w182_0 rfl rfl ?_
| refine callq w181_1 rfl rfl ?_
| refine callq w136_1 rfl rfl ?_
| refine chpA ?_
| refine unrollq 400 ?_); cbv; (try (simp only [cwn]; cbv)))
| (simp only [cwn]; cbv))
  exact ⟨rfl, rfl, rfl⟩
theorem w87_0 : Good 87 ⟨[.lst none [.int .u8 126, .int .u8 51, .int .u8 243, .int .u8 18, .int .u8 29, .int .u8 109, .int .u8 1, .int .u8 2, .int .u8 3], .agg [.int .i64 3, .int .u16 0, .int .u64 144115188075855873], .agg [.int .i64 3, .int .u16 0, .int .u64 144115188075855874], .lst (some 20) [], .int .i64 0], none, (.tup [.agg [.int .u8 0, .int .u32 0, .int .u8 17, .int .u8 64, .int .u8 254, .int .u8 128, .int .u8 0, .int .u8 0, .int .u8 0, .int .u8 0, .int .u8 0, .int .u8 0, .int .u8 0, .int .u8 0, .int .u8 0, .int .u8 0, .int .u8 0, .int .u8 0, .int .u8 0, .int .u8 1, .int .u8 254, .int .u8 128, .int .u8 0, .int .u8 0, .int .u8 0, .int .u8 0, .int .u8 0, .int .u8 0, .int .u8 0, .int .u8 0, .int .u8 0, .int .u8 0, .int .u8 0, .int .u8 0, .int .u8 0, .int .u8 2, .int .u16 0, .int .u16 0, .nil], .int .i64 2, .int .i64 0]), .any, .no⟩ := by
  refine Good.of Tryz.func87 rfl (by rfl) (by kernel_rfl) ?_
  cbv
  (try (simp only [cwn]; cbv))
  repeat' (first
| ((first
| refine td ?_
| refine fd ?_
| (refine q1w (fun z hz => ?_); (simp [oln, Int.max_def, Int.min_def] at hz); subst hz)
| refine rqw ?_
| refine vI ?_
| refine vA ?_
| refine vS ?_
| refine vR ?_
| refine callq w133_0 rfl rfl ?_
| refine callq w144_0 rfl rfl ?_
| refine callq w145_0 rfl rfl ?_
| refine callq w146_0 rfl rfl ?_
| refine callq w149_0 rfl rfl ?_
| refine callq w149_1 rfl rfl ?_
| refine chpA ?_
| refine unrollq 400 ?_); cbv; (try (simp only [cwn]; cbv)))
| (simp only [cwn]; cbv))
  exact ⟨rfl, rfl, rfl⟩
theorem w84_6 : Good 84 ⟨[.lst none [.int .u8 243, .int .u8 18, .int .u8 29, .int .u8 109, .int .u8 1, .int .u8 2, .int .u8 3], .int .i64 1, .int .i64 1], none, (.tup [.int .u64 18, .bool true]), .any, .no⟩ := by
  refine Good.of Tryz.func84 rfl (by rfl) (by kernel_rfl) ?_
  cbv
  (try (simp only [cwn]; cbv))
  repeat' (first
| ((first
| refine td ?_
| refine fd ?_
| (refine q1w (fun z hz => ?_); (simp [oln, Int.max_def, Int.min_def] at hz); subst hz)
| refine rqw ?_
| refine vI ?_
| refine vA ?_
| refine vS ?_
| refine vR ?_
| refine chpA ?_
| refine unrollq 400 ?_); cbv; (try (simp only [cwn]; cbv)))
| (simp only [cwn]; cbv))
  exact ⟨rfl, rfl, rfl⟩
theorem w151_0 : Good 151 (gC [.int .i64 1, .ptr 901 0, .ptr 902 0, .ptr 903 0] [(901, 30, .lst none [.int .u8 243, .int .u8 18, .int .u8 29, .int .u8 109, .int .u8 1, .int .u8 2, .int .u8 3], .lst none [.int .u8 243, .int .u8 18, .int .u8 29, .int .u8 109, .int .u8 1, .int .u8 2, .int .u8 3]), (902, 3, .int .i64 1, .int .i64 2), (903, 45, .int .i64 0, .int .i64 0)] (.int .u64 18) .no) := by
  refine Good.ofG Tryz.func151 rfl (by rfl) (by kernel_rfl) ?_
  cbv
  (try (simp only [cwn]; cbv))
  repeat' (first
| ((first
| refine td ?_
| refine fd ?_
| (refine q1w (fun z hz => ?_); (simp [oln, Int.max_def, Int.min_def] at hz); subst hz)
| refine rqw ?_
| refine vI ?_
| refine vA ?_
| refine vS ?_
| refine vR ?_
| refine callq w84_6 rfl rfl ?_
| refine chpA ?_
| refine unrollq 400 ?_); cbv; (try (simp only [cwn]; cbv)))
| (simp only [cwn]; cbv))
  exact ⟨rfl, rfl, rfl⟩
theorem w84_7 : Good 84 ⟨[.lst none [.int .u8 243, .int .u8 18, .int .u8 29, .int .u8 109, .int .u8 1, .int .u8 2, .int .u8 3], .int .i64 2, .int .i64 2], none, (.tup [.int .u64 7533, .bool true]), .any, .no⟩ := by
  refine Good.of Tryz.func84 rfl (by rfl) (by kernel_rfl) ?_
  cbv
  (try (simp only [cwn]; cbv))
  repeat' (first
| ((first
| refine td ?_
| refine fd ?_
| (refine q1w (fun z hz => ?_); (simp [oln, Int.max_def, Int.min_def] at hz); subst hz)
| refine rqw ?_
| refine vI ?_
| refine vA ?_
| refine vS ?_
| refine vR ?_
| refine chpA ?_
| refine unrollq 400 ?_); cbv; (try (simp only [cwn]; cbv)))
| (simp only [cwn]; cbv))
  exact ⟨rfl, rfl, rfl⟩
theorem w151_1 : Good 151 (gC [.int .i64 2, .ptr 901 0, .ptr 902 0, .ptr 903 0] [(901, 30, .lst none [.int .u8 243, .int .u8 18, .int .u8 29, .int .u8 109, .int .u8 1, .int .u8 2, .int .u8 3], .lst none [.int .u8 243, .int .u8 18, .int .u8 29, .int .u8 109, .int .u8 1, .int .u8 2, .int .u8 3]), (902, 3, .int .i64 2, .int .i64 4), (903, 45, .int .i64 0, .int .i64 0)] (.int .u64 7533) .no) := by
  refine Good.ofG Tryz.func151 rfl (by rfl) (by kernel_rfl) ?_
  cbv
  (try (simp only [cwn]; cbv))
  repeat' (first
| ((first
| refine td ?_
| refine fd ?_
| (refine q1w (fun z hz => ?_); (simp [oln, Int.max_def, Int.min_def] at hz); subst hz)
| refine rqw ?_
| refine vI ?_
| refine vA ?_
| refine vS ?_
| refine vR ?_
| refine callq w84_7 rfl rfl ?_
| refine chpA ?_
| refine unrollq 400 ?_); cbv; (try (simp only [cwn]; cbv)))
| (simp only [cwn]; cbv))
  exact ⟨rfl, rfl, rfl⟩
theorem w88_0 : Good 88 ⟨[.lst none [.int .u8 243, .int .u8 18, .int .u8 29, .int .u8 109, .int .u8 1, .int .u8 2, .int .u8 3]], none, (.tup [.int .u16 61617, .int .u16 61618, .int .u16 7533, .int .i64 4, .int .i64 0]), .any, .no⟩ := by
  refine Good.of Tryz.func88 rfl (by rfl) (by kernel_rfl) ?_
  cbv
  (try (simp only [cwn]; cbv))
  repeat' (first
| ((first
| refine td ?_
| refine fd ?_
| (refine q1w (fun z hz => ?_); (simp [oln, Int.max_def, Int.min_def] at hz); subst hz)
| refine rqw ?_
| refine vI ?_
| refine vA ?_
| refine vS ?_
| refine vR ?_
| refine genq w151_0 rfl rfl ?_
| refine genq w151_1 rfl rfl ?_
| refine chpB ?_
| refine unrollq 400 ?_); cbv; (try (simp only [cwn]; cbv)))
| (simp only [cwn]; cbv))
  exact ⟨rfl, rfl, rfl⟩
theorem w38_0 : Good 38 ⟨[.lst none [.int .u8 126, .int .u8 51, .int .u8 243, .int .u8 18, .int .u8 29, .int .u8 109, .int .u8 1, .int .u8 2, .int .u8 3], .agg [.int .i64 3, .int .u16 0, .int .u64 144115188075855873], .agg [.int .i64 3, .int .u16 0, .int .u64 144115188075855874], .lst (some 20) [], .int .i64 0], none, (.tup [.agg [.int .u8 0, .int .u32 0, .int .u8 17, .int .u8 64, .int .u8 254, .int .u8 128, .int .u8 0, .int .u8 0, .int .u8 0, .int .u8 0, .int .u8 0, .int .u8 0, .int .u8 0, .int .u8 0, .int .u8 0, .int .u8 0, .int .u8 0, .int .u8 0, .int .u8 0, .int .u8 1, .int .u8 254, .int .u8 128, .int .u8 0, .int .u8 0, .int .u8 0, .int .u8 0, .int .u8 0, .int .u8 0, .int .u8 0, .int .u8 0, .int .u8 0, .int .u8 0, .int .u8 0, .int .u8 0, .int .u8 0, .int .u8 2, .int .u16 61617, .int .u16 61618, .lst none [.int .u8 1, .int .u8 2, .int .u8 3]], .int .i64 0]), .any, .no⟩ := by
  refine Good.of Tryz.func38 rfl (by rfl) (by kernel_rfl) ?_
  cbv
  (try (simp only [cwn]; cbv))
  repeat' (first
| ((first
| refine td ?_
| refine fd ?_
| (refine q1w (fun z hz => ?_); (simp [oln, Int.max_def, Int.min_def] at hz); subst hz)
| refine rqw ?_
| refine vI ?_
| refine vA ?_
| refine vS ?_
| refine vR ?_
| refine callq w87_0 rfl rfl ?_
| refine callq w88_0 rfl rfl ?_
| refine callq w89_0 rfl rfl ?_
| refine callq w90_0 rfl rfl ?_
| refine chpA ?_
| refine unrollq 400 ?_); cbv; (try (simp only [cwn]; cbv)))
| (simp only [cwn]; cbv))
  exact ⟨rfl, rfl, rfl⟩
theorem w16_0 : Good 16 ⟨[.int .i64 1], none, (.agg [.int .u8 17, .int .u8 18, .int .u8 19, .int .u8 20, .int .u8 21, .int .u8 22, .int .u8 23, .int .u8 24, .int .u8 25, .int .u8 26, .int .u8 27, .int .u8 28, .int .u8 29, .int .u8 30, .int .u8 31, .int .u8 32]), .any, .no⟩ := by
  refine Good.of Tryz.func16 rfl (by rfl) (by kernel_rfl) ?_
  cbv
  (try (simp only [cwn]; cbv))
  repeat' (first
| ((first
| refine td ?_
| refine fd ?_
| (refine q1w (fun z hz => ?_); (simp [oln, Int.max_def, Int.min_def] at hz); subst hz)
| refine rqw ?_
| refine vI ?_
| refine vA ?_
| refine vS ?_
| refine vR ?_
| refine chpA ?_
| refine unrollq 400 ?_); cbv; (try (simp only [cwn]; cbv)))
| (simp only [cwn]; cbv))
  exact ⟨rfl, rfl, rfl⟩
theorem w162_0 : Good 162 ⟨[.lst (some 17) [.agg [.int .u8 1, .int .u8 17, .int .u8 18, .int .u8 19, .int .u8 20, .int .u8 21, .int .u8 22, .int .u8 23, .int .u8 24, .int .u8 25, .int .u8 26, .int .u8 27, .int .u8 28, .int .u8 29, .int .u8 30, .int .u8 31, .int .u8 32]], .clo 163 []], none, (.bool true), .any, .no⟩ := by
  refine Good.of Tryz.func162 rfl (by rfl) (by kernel_rfl) ?_
  cbv
  (try (simp only [cwn]; cbv))
  repeat' (first
| ((first
| refine td ?_
| refine fd ?_
| (refine q1w (fun z hz => ?_); (simp [oln, Int.max_def, Int.min_def] at hz); subst hz)
| refine rqw ?_
| refine vI ?_
| refine vA ?_
| refine vS ?_
| refine vR ?_
| refine chpA ?_
| refine unrollq 400 ?_); cbv; (try (simp only [cwn]; cbv)))
| (simp only [cwn]; cbv))
  exact ⟨rfl, rfl, rfl⟩
end Go.Proofs.YtgfpjhddojhfpaaGreat
namespace Go.Proofs.YtgfpjhddojhfpaaGreat
set_option linter.unusedVariables false
set_option linter.unusedSimpArgs false
set_option maxHeartbeats 40000000
set_option maxRecDepth 100000
theorem w164_0 : Good 164 ⟨[.lst (some 6) [], .clo 111 []], none, (.bool true), .any, .no⟩ := by
  refine Good.of Tryz.func164 rfl (by rfl) (by kernel_rfl) ?_
  cbv
  (try (simp only [cwn]; cbv))
  repeat' (first
| ((first
| refine td ?_
| refine fd ?_
| (refine q1w (fun z hz => ?_); (simp [oln, Int.max_def, Int.min_def] at hz); subst hz)
| refine rqw ?_
| refine vI ?_
| refine vA ?_
| refine vS ?_
| refine vR ?_
| refine chpA ?_
| refine unrollq 400 ?_); cbv; (try (simp only [cwn]; cbv)))
| (simp only [cwn]; cbv))
  exact ⟨rfl, rfl, rfl⟩
theorem w104_0 : Good 104 ⟨[.agg [.lst (some 17) [.agg [.int .u8 1, .int .u8 17, .int .u8 18, .int .u8 19, .int .u8 20, .int .u8 21, .int .u8 22, .int .u8 23, .int .u8 24, .int .u8 25, .int .u8 26, .int .u8 27, .int .u8 28, .int .u8 29, .int .u8 30, .int .u8 31, .int .u8 32]], .int .u32 0, .int .u32 1048576, .int .u32 9, .nil]], none, (.bool true), .any, .no⟩ := by
  refine Good.of Tryz.func104 rfl (by rfl) (by kernel_rfl) ?_
  cbv
  (try (simp only [cwn]; cbv))
  repeat' (first
| ((first
| refine td ?_
| refine fd ?_
| (refine q1w (fun z hz => ?_); (simp [oln, Int.max_def, Int.min_def] at hz); subst hz)
| refine rqw ?_
| refine vI ?_
| refine vA ?_
| refine vS ?_
| refine vR ?_
| refine callq w162_0 rfl rfl ?_
| refine callq w164_0 rfl rfl ?_
| refine chpA ?_
| refine unrollq 400 ?_); cbv; (try (simp only [cwn]; cbv)))
| (simp only [cwn]; cbv))
  exact ⟨rfl, rfl, rfl⟩
theorem w85_14 : Good 85 ⟨[.lst none [.int .u8 1], .int .u64 9, .int .i64 4], none, (.row 1), .any, (.row none 5 [.int .u8 1, .int .u8 0, .int .u8 0, .int .u8 0, .int .u8 9])⟩ := append_c [1] _ _ 9 4 4 (by kernel_rfl) rfl (by decide) (by decide) (by decide) (by kernel_rfl)
theorem w105_0 : Good 105 ⟨[.int .u8 1, .int .u32 9], none, (.row 1), .any, (.row none 5 [.int .u8 1, .int .u8 0, .int .u8 0, .int .u8 0, .int .u8 9])⟩ := by
  refine Good.of Tryz.func105 rfl (by rfl) (by kernel_rfl) ?_
  cbv
  (try (simp only [cwn]; cbv))
  repeat' (first
| ((first
| refine td ?_
| refine fd ?_
| (refine q1w (fun z hz => ?_); (simp [oln, Int.max_def, Int.min_def] at hz); subst hz)
| refine rqw ?_
| refine vI ?_
| refine vA ?_
| refine vS ?_
| refine vR ?_
| refine callq w85_14 rfl rfl ?_
| refine chpA ?_
| refine unrollq 400 ?_); cbv; (try (simp only [cwn]; cbv)))
| (simp only [cwn]; cbv))
  exact ⟨rfl, rfl, rfl⟩
theorem w48_0 : Good 48 ⟨[.agg [.lst (some 17) [.agg [.int .u8 1, .int .u8 17, .int .u8 18, .int .u8 19, .int .u8 20, .int .u8 21, .int .u8 22, .int .u8 23, .int .u8 24, .int .u8 25, .int .u8 26, .int .u8 27, .int .u8 28, .int .u8 29, .int .u8 30, .int .u8 31, .int .u8 32]], .int .u32 0, .int .u32 1048576, .int .u32 9, .nil]], none, (.row 1), .any, (.row none 5 [.int .u8 1, .int .u8 0, .int .u8 0, .int .u8 0, .int .u8 9])⟩ := by
  refine Good.of Tryz.func48 rfl (by rfl) (by kernel_rfl) ?_
  cbv
  (try (simp only [cwn]; cbv))
  repeat' (first
| ((first
| refine td ?_
| refine fd ?_
| (refine q1w (fun z hz => ?_); (simp [oln, Int.max_def, Int.min_def] at hz); subst hz)
| refine rqw ?_
| refine vI ?_
| refine vA ?_
| refine vS ?_
| refine vR ?_
| refine callq w104_0 rfl rfl ?_
| refine callq w105_0 rfl rfl ?_
| refine chpA ?_
| refine unrollq 400 ?_); cbv; (try (simp only [cwn]; cbv)))
| (simp only [cwn]; cbv))
  exact ⟨rfl, rfl, rfl⟩
theorem w47_0 : Good 47 ⟨[.lst none [.int .u8 1, .int .u8 0, .int .u8 0, .int .u8 0, .int .u8 9]], none, (.tup [.row 1, .bool true]), .any, (.row none 5 [.int .u8 2, .int .u8 0, .int .u8 0, .int .u8 0, .int .u8 9])⟩ := by
  refine Good.of Tryz.func47 rfl (by rfl) (by kernel_rfl) ?_
  cbv
  (try (simp only [cwn]; cbv))
  repeat' (first
| ((first
| refine td ?_
| refine fd ?_
| (refine q1w (fun z hz => ?_); (simp [oln, Int.max_def, Int.min_def] at hz); subst hz)
| refine rqw ?_
| refine vI ?_
| refine vA ?_
| refine vS ?_
| refine vR ?_
| refine chpA ?_
| refine unrollq 400 ?_); cbv; (try (simp only [cwn]; cbv)))
| (simp only [cwn]; cbv))
  exact ⟨rfl, rfl, rfl⟩
theorem w104_1 : Good 104 ⟨[.agg [.lst (some 17) [.agg [.int .u8 1, .int .u8 17, .int .u8 18, .int .u8 19, .int .u8 20, .int .u8 21, .int .u8 22, .int .u8 23, .int .u8 24, .int .u8 25, .int .u8 26, .int .u8 27, .int .u8 28, .int .u8 29, .int .u8 30, .int .u8 31, .int .u8 32]], .int .u32 0, .int .u32 1048576, .int .u32 0, .nil]], none, (.bool true), .any, .no⟩ := by
  refine Good.of Tryz.func104 rfl (by rfl) (by kernel_rfl) ?_
  cbv
  (try (simp only [cwn]; cbv))
  repeat' (first
| ((first
| refine td ?_
| refine fd ?_
| (refine q1w (fun z hz => ?_); (simp [oln, Int.max_def, Int.min_def] at hz); subst hz)
| refine rqw ?_
| refine vI ?_
| refine vA ?_
| refine vS ?_
| refine vR ?_
| refine callq w162_0 rfl rfl ?_
| refine callq w164_0 rfl rfl ?_
| refine chpA ?_
| refine unrollq 400 ?_); cbv; (try (simp only [cwn]; cbv)))
| (simp only [cwn]; cbv))
  exact ⟨rfl, rfl, rfl⟩
theorem w176_0 : Good 176 ⟨[.agg [.int .i64 3, .int .u16 0, .int .u64 144115188075855873]], none, (.bool false), .any, .no⟩ := by
  refine Good.of Tryz.func176 rfl (by rfl) (by kernel_rfl) ?_
  cbv
  (try (simp only [cwn]; cbv))
  repeat' (first
| ((first
| refine td ?_
| refine fd ?_
| (refine q1w (fun z hz => ?_); (simp [oln, Int.max_def, Int.min_def] at hz); subst hz)
| refine rqw ?_
| refine vI ?_
| refine vA ?_
| refine vS ?_
| refine vR ?_
| refine chpA ?_
| refine unrollq 400 ?_); cbv; (try (simp only [cwn]; cbv)))
| (simp only [cwn]; cbv))
  exact ⟨rfl, rfl, rfl⟩
theorem w207_0 : Good 207 ⟨[.agg [.int .i64 3, .int .u16 0, .int .u64 144115188075855874]], none, (.int .i64 8), .any, .no⟩ := by
  refine Good.of Tryz.func207 rfl (by rfl) (by kernel_rfl) ?_
  cbv
  (try (simp only [cwn]; cbv))
  repeat' (first
| ((first
| refine td ?_
| refine fd ?_
| (refine q1w (fun z hz => ?_); (simp [oln, Int.max_def, Int.min_def] at hz); subst hz)
| refine rqw ?_
| refine vI ?_
| refine vA ?_
| refine vS ?_
| refine vR ?_
| refine chpA ?_
| refine unrollq 400 ?_); cbv; (try (simp only [cwn]; cbv)))
| (simp only [cwn]; cbv))
  exact ⟨rfl, rfl, rfl⟩
theorem w207_1 : Good 207 ⟨[.agg [.int .i64 3, .int .u16 0, .int .u64 144115188075855873]], none, (.int .i64 8), .any, .no⟩ := by
  refine Good.of Tryz.func207 rfl (by rfl) (by kernel_rfl) ?_
  cbv
  (try (simp only [cwn]; cbv))
  repeat' (first
| ((first
| refine td ?_
| refine fd ?_
| (refine q1w (fun z hz => ?_); (simp [oln, Int.max_def, Int.min_def] at hz); subst hz)
| refine rqw ?_
| refine vI ?_
| refine vA ?_
| refine vS ?_
| refine vR ?_
| refine chpA ?_
| refine unrollq 400 ?_); cbv; (try (simp only [cwn]; cbv)))
| (simp only [cwn]; cbv))
  exact ⟨rfl, rfl, rfl⟩
theorem w177_0 : Good 177 ⟨[.agg [.int .i64 3, .bool false, .bool false, .bool false, .int .u8 0, .int .u16 0, .int .i64 3, .int .u16 0, .int .u64 144115188075855874, .int .i64 3, .int .u16 0, .int .u64 144115188075855873, .int .u32 0, .int .u8 0, .lst none [.int .u8 2, .int .u8 0, .int .u8 0, .int .u8 0, .int .u8 9], .nil]], none, (.int .i64 28), .any, .no⟩ := by
  refine Good.of Tryz.func177 rfl (by rfl) (by kernel_rfl) ?_
  cbv
  (try (simp only [cwn]; cbv))
  repeat' (first
| ((first
| refine td ?_
| refine fd ?_
| (refine q1w (fun z hz => ?_); (simp [oln, Int.max_def, Int.min_def] at hz); subst hz)
| refine rqw ?_
| refine vI ?_
| refine vA ?_
| refine vS ?_
| refine vR ?_
| refine callq w207_0 rfl rfl ?_
| refine callq w207_1 rfl rfl ?_
| refine chpA ?_
| refine unrollq 400 ?_); cbv; (try (simp only [cwn]; cbv)))
| (simp only [cwn]; cbv))
  exact ⟨rfl, rfl, rfl⟩
theorem w121_0 : Good 121 ⟨[.agg [.int .i64 3, .bool false, .bool false, .bool false, .int .u8 0, .int .u16 0, .int .i64 3, .int .u16 0, .int .u64 144115188075855874, .int .i64 3, .int .u16 0, .int .u64 144115188075855873, .int .u32 0, .int .u8 0, .lst none [.int .u8 2, .int .u8 0, .int .u8 0, .int .u8 0, .int .u8 9], .nil]], none, (.bool true), .any, .no⟩ := by
  refine Good.of Tryz.func121 rfl (by rfl) (by kernel_rfl) ?_
  cbv
  (try (simp only [cwn]; cbv))
  repeat' (first
| ((first
| refine td ?_
| refine fd ?_
| (refine q1w (fun z hz => ?_); (simp [oln, Int.max_def, Int.min_def] at hz); subst hz)
| refine rqw ?_
| refine vI ?_
| refine vA ?_
| refine vS ?_
| refine vR ?_
| refine callq w159_1 rfl rfl ?_
| refine callq w159_0 rfl rfl ?_
| refine callq w176_0 rfl rfl ?_
| refine callq w177_0 rfl rfl ?_
| refine chpA ?_
| refine unrollq 400 ?_); cbv; (try (simp only [cwn]; cbv)))
| (simp only [cwn]; cbv))
  exact ⟨rfl, rfl, rfl⟩
theorem w59_0 : Good 59 ⟨[.agg [.int .i64 3, .bool false, .bool false, .bool false, .int .u8 0, .int .u16 0, .int .i64 3, .int .u16 0, .int .u64 144115188075855874, .int .i64 3, .int .u16 0, .int .u64 144115188075855873, .int .u32 0, .int .u8 0, .lst none [.int .u8 2, .int .u8 0, .int .u8 0, .int .u8 0, .int .u8 9], .nil]], none, (.bool true), .any, .no⟩ := by
  refine Good.of Tryz.func59 rfl (by rfl) (by kernel_rfl) ?_
  cbv
  (try (simp only [cwn]; cbv))
  repeat' (first
| ((first
| refine td ?_
| refine fd ?_
| (refine q1w (fun z hz => ?_); (simp [oln, Int.max_def, Int.min_def] at hz); subst hz)
| refine rqw ?_
| refine vI ?_
| refine vA ?_
| refine vS ?_
| refine vR ?_
| refine callq w121_0 rfl rfl ?_
| refine chpA ?_
| refine unrollq 400 ?_); cbv; (try (simp only [cwn]; cbv)))
| (simp only [cwn]; cbv))
  exact ⟨rfl, rfl, rfl⟩
theorem w106_0 : Good 106 ⟨[.agg [.lst (some 17) [.agg [.int .u8 1, .int .u8 17, .int .u8 18, .int .u8 19, .int .u8 20, .int .u8 21, .int .u8 22, .int .u8 23, .int .u8 24, .int .u8 25, .int .u8 26, .int .u8 27, .int .u8 28, .int .u8 29, .int .u8 30, .int .u8 31, .int .u8 32]], .int .u32 0, .int .u32 1048576, .int .u32 0, .nil], .int .u8 1], none, (.tup [.agg [.int .u8 17, .int .u8 18, .int .u8 19, .int .u8 20, .int .u8 21, .int .u8 22, .int .u8 23, .int .u8 24, .int .u8 25, .int .u8 26, .int .u8 27, .int .u8 28, .int .u8 29, .int .u8 30, .int .u8 31, .int .u8 32], .bool true]), .any, .no⟩ := by
  refine Good.of Tryz.func106 rfl (by rfl) (by kernel_rfl) ?_
  cbv
  (try (simp only [cwn]; cbv))
  repeat' (first
| ((first
| refine td ?_
| refine fd ?_
| (refine q1w (fun z hz => ?_); (simp [oln, Int.max_def, Int.min_def] at hz); subst hz)
| refine rqw ?_
| refine vI ?_
| refine vA ?_
| refine vS ?_
| refine vR ?_
| refine chpA ?_
| refine unrollq 400 ?_); cbv; (try (simp only [cwn]; cbv)))
| (simp only [cwn]; cbv))
  exact ⟨rfl, rfl, rfl⟩
theorem w121_1 : Good 121 ⟨[.agg [.int .i64 3, .bool false, .bool false, .bool true, .int .u8 0, .int .u16 0, .int .i64 3, .int .u16 0, .int .u64 144115188075855874, .int .i64 3, .int .u16 0, .int .u64 144115188075855873, .int .u32 0, .int .u8 1, .lst none [.int .u8 2, .int .u8 0, .int .u8 0, .int .u8 0, .int .u8 9], .nil]], none, (.bool false), .any, .no⟩ := by
  refine Good.of Tryz.func121 rfl (by rfl) (by kernel_rfl) ?_
  cbv
  (try (simp only [cwn]; cbv))
  repeat' (first
| ((first
| refine td ?_
| refine fd ?_
| (refine q1w (fun z hz => ?_); (simp [oln, Int.max_def, Int.min_def] at hz); subst hz)
| refine rqw ?_
| refine vI ?_
| refine vA ?_
| refine vS ?_
| refine vR ?_
| refine callq w159_1 rfl rfl ?_
| refine callq w159_0 rfl rfl ?_
| refine callq w176_0 rfl rfl ?_
| refine chpA ?_
| refine unrollq 400 ?_); cbv; (try (simp only [cwn]; cbv)))
| (simp only [cwn]; cbv))
  exact ⟨rfl, rfl, rfl⟩
theorem w59_1 : Good 59 ⟨[.agg [.int .i64 3, .bool false, .bool false, .bool true, .int .u8 0, .int .u16 0, .int .i64 3, .int .u16 0, .int .u64 144115188075855874, .int .i64 3, .int .u16 0, .int .u64 144115188075855873, .int .u32 0, .int .u8 1, .lst none [.int .u8 2, .int .u8 0, .int .u8 0, .int .u8 0, .int .u8 9], .nil]], none, (.bool false), .any, .no⟩ := by
  refine Good.of Tryz.func59 rfl (by rfl) (by kernel_rfl) ?_
  cbv
  (try (simp only [cwn]; cbv))
  repeat' (first
| ((first
| refine td ?_
| refine fd ?_
| (refine q1w (fun z hz => ?_); (simp [oln, Int.max_def, Int.min_def] at hz); subst hz)
| refine rqw ?_
| refine vI ?_
| refine vA ?_
| refine vS ?_
| refine vR ?_
| refine callq w121_1 rfl rfl ?_
| refine chpA ?_
| refine unrollq 400 ?_); cbv; (try (simp only [cwn]; cbv)))
| (simp only [cwn]; cbv))
  exact ⟨rfl, rfl, rfl⟩
theorem w177_1 : Good 177 ⟨[.agg [.int .i64 3, .bool false, .bool false, .bool true, .int .u8 0, .int .u16 0, .int .i64 3, .int .u16 0, .int .u64 144115188075855874, .int .i64 3, .int .u16 0, .int .u64 144115188075855873, .int .u32 0, .int .u8 1, .lst none [.int .u8 2, .int .u8 0, .int .u8 0, .int .u8 0, .int .u8 9], .lst none [.int .u8 0, .int .u8 0, .int .u8 0, .int .u8 0]]], none, (.int .i64 37), .any, .no⟩ := by
  refine Good.of Tryz.func177 rfl (by rfl) (by kernel_rfl) ?_
  cbv
  (try (simp only [cwn]; cbv))
  repeat' (first
| ((first
| refine td ?_
| refine fd ?_
| (refine q1w (fun z hz => ?_); (simp [oln, Int.max_def, Int.min_def] at hz); subst hz)
| refine rqw ?_
| refine vI ?_
| refine vA ?_
| refine vS ?_
| refine vR ?_
| refine callq w207_0 rfl rfl ?_
| refine callq w207_1 rfl rfl ?_
| refine chpA ?_
| refine unrollq 400 ?_); cbv; (try (simp only [cwn]; cbv)))
| (simp only [cwn]; cbv))
  exact ⟨rfl, rfl, rfl⟩
theorem w121_2 : Good 121 ⟨[.agg [.int .i64 3, .bool false, .bool false, .bool true, .int .u8 0, .int .u16 0, .int .i64 3, .int .u16 0, .int .u64 144115188075855874, .int .i64 3, .int .u16 0, .int .u64 144115188075855873, .int .u32 0, .int .u8 1, .lst none [.int .u8 2, .int .u8 0, .int .u8 0, .int .u8 0, .int .u8 9], .lst none [.int .u8 0, .int .u8 0, .int .u8 0, .int .u8 0]]], none, (.bool true), .any, .no⟩ := by
  refine Good.of Tryz.func121 rfl (by rfl) (by kernel_rfl) ?_
  cbv
  (try (simp only [cwn]; cbv))
  repeat' (first
| ((first
| refine td ?_
| refine fd ?_
| (refine q1w (fun z hz => ?_); (simp [oln, Int.max_def, Int.min_def] at hz); subst hz)
| refine rqw ?_
| refine vI ?_
| refine vA ?_
| refine vS ?_
| refine vR ?_
| refine callq w159_1 rfl rfl ?_
| refine callq w159_0 rfl rfl ?_
| refine callq w176_0 rfl rfl ?_
| refine callq w177_1 rfl rfl ?_
| refine chpA ?_
| refine unrollq 400 ?_); cbv; (try (simp only [cwn]; cbv)))
| (simp only [cwn]; cbv))
  exact ⟨rfl, rfl, rfl⟩
theorem w59_2 : Good 59 ⟨[.agg [.int .i64 3, .bool false, .bool false, .bool true, .int .u8 0, .int .u16 0, .int .i64 3, .int .u16 0, .int .u64 144115188075855874, .int .i64 3, .int .u16 0, .int .u64 144115188075855873, .int .u32 0, .int .u8 1, .lst none [.int .u8 2, .int .u8 0, .int .u8 0, .int .u8 0, .int .u8 9], .lst none [.int .u8 0, .int .u8 0, .int .u8 0, .int .u8 0]]], none, (.bool true), .any, .no⟩ := by
  refine Good.of Tryz.func59 rfl (by rfl) (by kernel_rfl) ?_
  cbv
  (try (simp only [cwn]; cbv))
  repeat' (first
| ((first
| refine td ?_
| refine fd ?_
| (refine q1w (fun z hz => ?_); (simp [oln, Int.max_def, Int.min_def] at hz); subst hz)
| refine rqw ?_
| refine vI ?_
| refine vA ?_
| refine vS ?_
| refine vR ?_
| refine callq w121_2 rfl rfl ?_
| refine chpA ?_
| refine unrollq 400 ?_); cbv; (try (simp only [cwn]; cbv)))
| (simp only [cwn]; cbv))
  exact ⟨rfl, rfl, rfl⟩
theorem w122_0 : Good 122 ⟨[.bool false, .int .u8 32], none, (.int .u8 0), .any, .no⟩ := by
  refine Good.of Tryz.func122 rfl (by rfl) (by kernel_rfl) ?_
  cbv
  (try (simp only [cwn]; cbv))
  repeat' (first
| ((first
| refine td ?_
| refine fd ?_
| (refine q1w (fun z hz => ?_); (simp [oln, Int.max_def, Int.min_def] at hz); subst hz)
| refine rqw ?_
| refine vI ?_
| refine vA ?_
| refine vS ?_
| refine vR ?_
| refine chpA ?_
| refine unrollq 400 ?_); cbv; (try (simp only [cwn]; cbv)))
| (simp only [cwn]; cbv))
  exact ⟨rfl, rfl, rfl⟩
end Go.Proofs.YtgfpjhddojhfpaaGreat
