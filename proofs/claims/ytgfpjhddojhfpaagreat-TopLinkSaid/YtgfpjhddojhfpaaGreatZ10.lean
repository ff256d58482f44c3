/- Texts put together: Snj Snk Snl. -/
import Derived.Test.YtgfpjhddojhfpaaGreatZ04
import Derived.Test.YtgfpjhddojhfpaaGreatZ06
import Derived.Test.YtgfpjhddojhfpaaGreatZ07
import Derived.Test.YtgfpjhddojhfpaaGreatZ09
namespace Go.Proofs.YtgfpjhddojhfpaaGreat
set_option linter.unusedVariables false
set_option linter.unusedSimpArgs false
set_option maxHeartbeats 40000000
set_option maxRecDepth 100000
theorem w84_9 : Good 84 ⟨[.lst none [.int .u8 240, .int .u8 0, .int .u8 0, .int .u8 1, .int .u8 2, .int .u8 0, .int .u8 0, .int .u8 0, .int .u8 0, .int .u8 0, .int .u8 0, .int .u8 2, .int .u8 2, .int .u8 0, .int .u8 0, .int .u8 0, .int .u8 0, .int .u8 0, .int .u8 0, .int .u8 1, .int .u8 0, .int .u8 0, .int .u8 0, .int .u8 1, .int .u8 1, .int .u8 126, .int .u8 51, .int .u8 243, .int .u8 18, .int .u8 29, .int .u8 109, .int .u8 1, .int .u8 2, .int .u8 3, .int .u8 10, .int .u8 140, .int .u8 211, .int .u8 44], .int .i64 0, .int .i64 1], none, (.tup [.int .u64 240, .bool true]), .any, .no⟩ := by
  refine Good.of Tryz.func84 rfl (by rfl) (by kernel_rfl) ?_
  cbv
  (try (simp only [cwn]; cbv))
  repeat' (first
| ((first
| refine td ?_
| refine fd ?_
| (refine q1w (fun z hz => ?_); (simp [oln, Int.max_def, Int.min_def] at hz); subst hz)
| refine rqw ?_
| refine vI ?_
| refine vA ?_
| refine vS ?_
| refine vR ?_
| refine chpA ?_
| refine unrollq 400 ?_); cbv; (try (simp only [cwn]; cbv)))
| (simp only [cwn]; cbv))
  exact ⟨rfl, rfl, rfl⟩
theorem w114_1 : Good 114 ⟨[.ptr 0 0, .int .i64 1], (some (202, .agg [.lst none [.int .u8 240, .int .u8 0, .int .u8 0, .int .u8 1, .int .u8 2, .int .u8 0, .int .u8 0, .int .u8 0, .int .u8 0, .int .u8 0, .int .u8 0, .int .u8 2, .int .u8 2, .int .u8 0, .int .u8 0, .int .u8 0, .int .u8 0, .int .u8 0, .int .u8 0, .int .u8 1, .int .u8 0, .int .u8 0, .int .u8 0, .int .u8 1, .int .u8 1, .int .u8 126, .int .u8 51, .int .u8 243, .int .u8 18, .int .u8 29, .int .u8 109, .int .u8 1, .int .u8 2, .int .u8 3, .int .u8 10, .int .u8 140, .int .u8 211, .int .u8 44], .bool false])), (.int .u64 240), (.agg [.lst none [.int .u8 0, .int .u8 0, .int .u8 1, .int .u8 2, .int .u8 0, .int .u8 0, .int .u8 0, .int .u8 0, .int .u8 0, .int .u8 0, .int .u8 2, .int .u8 2, .int .u8 0, .int .u8 0, .int .u8 0, .int .u8 0, .int .u8 0, .int .u8 0, .int .u8 1, .int .u8 0, .int .u8 0, .int .u8 0, .int .u8 1, .int .u8 1, .int .u8 126, .int .u8 51, .int .u8 243, .int .u8 18, .int .u8 29, .int .u8 109, .int .u8 1, .int .u8 2, .int .u8 3, .int .u8 10, .int .u8 140, .int .u8 211, .int .u8 44], .bool false]), .no⟩ := by
  refine Good.of Tryz.func114 rfl (by rfl) (by kernel_rfl) ?_
  cbv
  (try (simp only [cwn]; cbv))
  repeat' (first
| ((first
| refine td ?_
| refine fd ?_
| (refine q1w (fun z hz => ?_); (simp [oln, Int.max_def, Int.min_def] at hz); subst hz)
| refine rqw ?_
| refine vI ?_
| refine vA ?_
| refine vS ?_
| refine vR ?_
| refine callq w84_9 rfl rfl ?_
| refine chpA ?_
| refine unrollq 400 ?_); cbv; (try (simp only [cwn]; cbv)))
| (simp only [cwn]; cbv))
  exact ⟨rfl, rfl, rfl⟩
theorem w84_10 : Good 84 ⟨[.lst none [.int .u8 0, .int .u8 0, .int .u8 1, .int .u8 2, .int .u8 0, .int .u8 0, .int .u8 0, .int .u8 0, .int .u8 0, .int .u8 0, .int .u8 2, .int .u8 2, .int .u8 0, .int .u8 0, .int .u8 0, .int .u8 0, .int .u8 0, .int .u8 0, .int .u8 1, .int .u8 0, .int .u8 0, .int .u8 0, .int .u8 1, .int .u8 1, .int .u8 126, .int .u8 51, .int .u8 243, .int .u8 18, .int .u8 29, .int .u8 109, .int .u8 1, .int .u8 2, .int .u8 3, .int .u8 10, .int .u8 140, .int .u8 211, .int .u8 44], .int .i64 0, .int .i64 1], none, (.tup [.int .u64 0, .bool true]), .any, .no⟩ := by
  refine Good.of Tryz.func84 rfl (by rfl) (by kernel_rfl) ?_
  cbv
  (try (simp only [cwn]; cbv))
  repeat' (first
| ((first
| refine td ?_
| refine fd ?_
| (refine q1w (fun z hz => ?_); (simp [oln, Int.max_def, Int.min_def] at hz); subst hz)
| refine rqw ?_
| refine vI ?_
| refine vA ?_
| refine vS ?_
| refine vR ?_
| refine chpA ?_
| refine unrollq 400 ?_); cbv; (try (simp only [cwn]; cbv)))
| (simp only [cwn]; cbv))
  exact ⟨rfl, rfl, rfl⟩
theorem w114_2 : Good 114 ⟨[.ptr 0 0, .int .i64 1], (some (202, .agg [.lst none [.int .u8 0, .int .u8 0, .int .u8 1, .int .u8 2, .int .u8 0, .int .u8 0, .int .u8 0, .int .u8 0, .int .u8 0, .int .u8 0, .int .u8 2, .int .u8 2, .int .u8 0, .int .u8 0, .int .u8 0, .int .u8 0, .int .u8 0, .int .u8 0, .int .u8 1, .int .u8 0, .int .u8 0, .int .u8 0, .int .u8 1, .int .u8 1, .int .u8 126, .int .u8 51, .int .u8 243, .int .u8 18, .int .u8 29, .int .u8 109, .int .u8 1, .int .u8 2, .int .u8 3, .int .u8 10, .int .u8 140, .int .u8 211, .int .u8 44], .bool false])), (.int .u64 0), (.agg [.lst none [.int .u8 0, .int .u8 1, .int .u8 2, .int .u8 0, .int .u8 0, .int .u8 0, .int .u8 0, .int .u8 0, .int .u8 0, .int .u8 2, .int .u8 2, .int .u8 0, .int .u8 0, .int .u8 0, .int .u8 0, .int .u8 0, .int .u8 0, .int .u8 1, .int .u8 0, .int .u8 0, .int .u8 0, .int .u8 1, .int .u8 1, .int .u8 126, .int .u8 51, .int .u8 243, .int .u8 18, .int .u8 29, .int .u8 109, .int .u8 1, .int .u8 2, .int .u8 3, .int .u8 10, .int .u8 140, .int .u8 211, .int .u8 44], .bool false]), .no⟩ := by
  refine Good.of Tryz.func114 rfl (by rfl) (by kernel_rfl) ?_
  cbv
  (try (simp only [cwn]; cbv))
  repeat' (first
| ((first
| refine td ?_
| refine fd ?_
| (refine q1w (fun z hz => ?_); (simp [oln, Int.max_def, Int.min_def] at hz); subst hz)
| refine rqw ?_
| refine vI ?_
| refine vA ?_
| refine vS ?_
| refine vR ?_
| refine callq w84_10 rfl rfl ?_
| refine chpA ?_
| refine unrollq 400 ?_); cbv; (try (simp only [cwn]; cbv)))
| (simp only [cwn]; cbv))
  exact ⟨rfl, rfl, rfl⟩
theorem w84_11 : Good 84 ⟨[.lst none [.int .u8 0, .int .u8 1, .int .u8 2, .int .u8 0, .int .u8 0, .int .u8 0, .int .u8 0, .int .u8 0, .int .u8 0, .int .u8 2, .int .u8 2, .int .u8 0, .int .u8 0, .int .u8 0, .int .u8 0, .int .u8 0, .int .u8 0, .int .u8 1, .int .u8 0, .int .u8 0, .int .u8 0, .int .u8 1, .int .u8 1, .int .u8 126, .int .u8 51, .int .u8 243, .int .u8 18, .int .u8 29, .int .u8 109, .int .u8 1, .int .u8 2, .int .u8 3, .int .u8 10, .int .u8 140, .int .u8 211, .int .u8 44], .int .i64 0, .int .i64 2], none, (.tup [.int .u64 1, .bool true]), .any, .no⟩ := by
  refine Good.of Tryz.func84 rfl (by rfl) (by kernel_rfl) ?_
  cbv
  (try (simp only [cwn]; cbv))
  repeat' (first
| ((first
| refine td ?_
| refine fd ?_
| (refine q1w (fun z hz => ?_); (simp [oln, Int.max_def, Int.min_def] at hz); subst hz)
| refine rqw ?_
| refine vI ?_
| refine vA ?_
| refine vS ?_
| refine vR ?_
| refine chpA ?_
| refine unrollq 400 ?_); cbv; (try (simp only [cwn]; cbv)))
| (simp only [cwn]; cbv))
  exact ⟨rfl, rfl, rfl⟩
theorem w114_3 : Good 114 ⟨[.ptr 0 0, .int .i64 2], (some (202, .agg [.lst none [.int .u8 0, .int .u8 1, .int .u8 2, .int .u8 0, .int .u8 0, .int .u8 0, .int .u8 0, .int .u8 0, .int .u8 0, .int .u8 2, .int .u8 2, .int .u8 0, .int .u8 0, .int .u8 0, .int .u8 0, .int .u8 0, .int .u8 0, .int .u8 1, .int .u8 0, .int .u8 0, .int .u8 0, .int .u8 1, .int .u8 1, .int .u8 126, .int .u8 51, .int .u8 243, .int .u8 18, .int .u8 29, .int .u8 109, .int .u8 1, .int .u8 2, .int .u8 3, .int .u8 10, .int .u8 140, .int .u8 211, .int .u8 44], .bool false])), (.int .u64 1), (.agg [.lst none [.int .u8 2, .int .u8 0, .int .u8 0, .int .u8 0, .int .u8 0, .int .u8 0, .int .u8 0, .int .u8 2, .int .u8 2, .int .u8 0, .int .u8 0, .int .u8 0, .int .u8 0, .int .u8 0, .int .u8 0, .int .u8 1, .int .u8 0, .int .u8 0, .int .u8 0, .int .u8 1, .int .u8 1, .int .u8 126, .int .u8 51, .int .u8 243, .int .u8 18, .int .u8 29, .int .u8 109, .int .u8 1, .int .u8 2, .int .u8 3, .int .u8 10, .int .u8 140, .int .u8 211, .int .u8 44], .bool false]), .no⟩ := by
  refine Good.of Tryz.func114 rfl (by rfl) (by kernel_rfl) ?_
  cbv
  (try (simp only [cwn]; cbv))
  repeat' (first
| ((first
| refine td ?_
| refine fd ?_
| (refine q1w (fun z hz => ?_); (simp [oln, Int.max_def, Int.min_def] at hz); subst hz)
| refine rqw ?_
| refine vI ?_
| refine vA ?_
| refine vS ?_
| refine vR ?_
| refine callq w84_11 rfl rfl ?_
| refine chpA ?_
| refine unrollq 400 ?_); cbv; (try (simp only [cwn]; cbv)))
| (simp only [cwn]; cbv))
  exact ⟨rfl, rfl, rfl⟩
theorem w84_12 : Good 84 ⟨[.lst none [.int .u8 2, .int .u8 0, .int .u8 0, .int .u8 0, .int .u8 0, .int .u8 0, .int .u8 0, .int .u8 2, .int .u8 2, .int .u8 0, .int .u8 0, .int .u8 0, .int .u8 0, .int .u8 0, .int .u8 0, .int .u8 1, .int .u8 0, .int .u8 0, .int .u8 0, .int .u8 1, .int .u8 1, .int .u8 126, .int .u8 51, .int .u8 243, .int .u8 18, .int .u8 29, .int .u8 109, .int .u8 1, .int .u8 2, .int .u8 3, .int .u8 10, .int .u8 140, .int .u8 211, .int .u8 44], .int .i64 0, .int .i64 8], none, (.tup [.int .u64 144115188075855874, .bool true]), .any, .no⟩ := by
  refine Good.of Tryz.func84 rfl (by rfl) (by kernel_rfl) ?_
  cbv
  (try (simp only [cwn]; cbv))
  repeat' (first
| ((first
| refine td ?_
| refine fd ?_
| (refine q1w (fun z hz => ?_); (simp [oln, Int.max_def, Int.min_def] at hz); subst hz)
| refine rqw ?_
| refine vI ?_
| refine vA ?_
| refine vS ?_
| refine vR ?_
| refine chpA ?_
| refine unrollq 400 ?_); cbv; (try (simp only [cwn]; cbv)))
| (simp only [cwn]; cbv))
  exact ⟨rfl, rfl, rfl⟩
theorem w114_4 : Good 114 ⟨[.ptr 0 0, .int .i64 8], (some (202, .agg [.lst none [.int .u8 2, .int .u8 0, .int .u8 0, .int .u8 0, .int .u8 0, .int .u8 0, .int .u8 0, .int .u8 2, .int .u8 2, .int .u8 0, .int .u8 0, .int .u8 0, .int .u8 0, .int .u8 0, .int .u8 0, .int .u8 1, .int .u8 0, .int .u8 0, .int .u8 0, .int .u8 1, .int .u8 1, .int .u8 126, .int .u8 51, .int .u8 243, .int .u8 18, .int .u8 29, .int .u8 109, .int .u8 1, .int .u8 2, .int .u8 3, .int .u8 10, .int .u8 140, .int .u8 211, .int .u8 44], .bool false])), (.int .u64 144115188075855874), (.agg [.lst none [.int .u8 2, .int .u8 0, .int .u8 0, .int .u8 0, .int .u8 0, .int .u8 0, .int .u8 0, .int .u8 1, .int .u8 0, .int .u8 0, .int .u8 0, .int .u8 1, .int .u8 1, .int .u8 126, .int .u8 51, .int .u8 243, .int .u8 18, .int .u8 29, .int .u8 109, .int .u8 1, .int .u8 2, .int .u8 3, .int .u8 10, .int .u8 140, .int .u8 211, .int .u8 44], .bool false]), .no⟩ := by
  refine Good.of Tryz.func114 rfl (by rfl) (by kernel_rfl) ?_
  cbv
  (try (simp only [cwn]; cbv))
  repeat' (first
| ((first
| refine td ?_
| refine fd ?_
| (refine q1w (fun z hz => ?_); (simp [oln, Int.max_def, Int.min_def] at hz); subst hz)
| refine rqw ?_
| refine vI ?_
| refine vA ?_
| refine vS ?_
| refine vR ?_
| refine callq w84_12 rfl rfl ?_
| refine chpA ?_
| refine unrollq 400 ?_); cbv; (try (simp only [cwn]; cbv)))
| (simp only [cwn]; cbv))
  exact ⟨rfl, rfl, rfl⟩
theorem w115_0 : Good 115 ⟨[.ptr 0 0, .int .i64 3], (some (202, .agg [.lst none [.int .u8 2, .int .u8 0, .int .u8 0, .int .u8 0, .int .u8 0, .int .u8 0, .int .u8 0, .int .u8 2, .int .u8 2, .int .u8 0, .int .u8 0, .int .u8 0, .int .u8 0, .int .u8 0, .int .u8 0, .int .u8 1, .int .u8 0, .int .u8 0, .int .u8 0, .int .u8 1, .int .u8 1, .int .u8 126, .int .u8 51, .int .u8 243, .int .u8 18, .int .u8 29, .int .u8 109, .int .u8 1, .int .u8 2, .int .u8 3, .int .u8 10, .int .u8 140, .int .u8 211, .int .u8 44], .bool false])), (.agg [.int .i64 3, .int .u16 0, .int .u64 144115188075855874]), (.agg [.lst none [.int .u8 2, .int .u8 0, .int .u8 0, .int .u8 0, .int .u8 0, .int .u8 0, .int .u8 0, .int .u8 1, .int .u8 0, .int .u8 0, .int .u8 0, .int .u8 1, .int .u8 1, .int .u8 126, .int .u8 51, .int .u8 243, .int .u8 18, .int .u8 29, .int .u8 109, .int .u8 1, .int .u8 2, .int .u8 3, .int .u8 10, .int .u8 140, .int .u8 211, .int .u8 44], .bool false]), .no⟩ := by
  refine Good.of Tryz.func115 rfl (by rfl) (by kernel_rfl) ?_
  cbv
  (try (simp only [cwn]; cbv))
  repeat' (first
| ((first
| refine td ?_
| refine fd ?_
| (refine q1w (fun z hz => ?_); (simp [oln, Int.max_def, Int.min_def] at hz); subst hz)
| refine rqw ?_
| refine vI ?_
| refine vA ?_
| refine vS ?_
| refine vR ?_
| refine callq w114_4 rfl rfl ?_
| refine chpA ?_
| refine unrollq 400 ?_); cbv; (try (simp only [cwn]; cbv)))
| (simp only [cwn]; cbv))
  exact ⟨rfl, rfl, rfl⟩
theorem w84_13 : Good 84 ⟨[.lst none [.int .u8 2, .int .u8 0, .int .u8 0, .int .u8 0, .int .u8 0, .int .u8 0, .int .u8 0, .int .u8 1, .int .u8 0, .int .u8 0, .int .u8 0, .int .u8 1, .int .u8 1, .int .u8 126, .int .u8 51, .int .u8 243, .int .u8 18, .int .u8 29, .int .u8 109, .int .u8 1, .int .u8 2, .int .u8 3, .int .u8 10, .int .u8 140, .int .u8 211, .int .u8 44], .int .i64 0, .int .i64 8], none, (.tup [.int .u64 144115188075855873, .bool true]), .any, .no⟩ := by
  refine Good.of Tryz.func84 rfl (by rfl) (by kernel_rfl) ?_
  cbv
  (try (simp only [cwn]; cbv))
  repeat' (first
| ((first
| refine td ?_
| refine fd ?_
| (refine q1w (fun z hz => ?_); (simp [oln, Int.max_def, Int.min_def] at hz); subst hz)
| refine rqw ?_
| refine vI ?_
| refine vA ?_
| refine vS ?_
| refine vR ?_
| refine chpA ?_
| refine unrollq 400 ?_); cbv; (try (simp only [cwn]; cbv)))
| (simp only [cwn]; cbv))
  exact ⟨rfl, rfl, rfl⟩
theorem w114_5 : Good 114 ⟨[.ptr 0 0, .int .i64 8], (some (202, .agg [.lst none [.int .u8 2, .int .u8 0, .int .u8 0, .int .u8 0, .int .u8 0, .int .u8 0, .int .u8 0, .int .u8 1, .int .u8 0, .int .u8 0, .int .u8 0, .int .u8 1, .int .u8 1, .int .u8 126, .int .u8 51, .int .u8 243, .int .u8 18, .int .u8 29, .int .u8 109, .int .u8 1, .int .u8 2, .int .u8 3, .int .u8 10, .int .u8 140, .int .u8 211, .int .u8 44], .bool false])), (.int .u64 144115188075855873), (.agg [.lst none [.int .u8 0, .int .u8 0, .int .u8 0, .int .u8 1, .int .u8 1, .int .u8 126, .int .u8 51, .int .u8 243, .int .u8 18, .int .u8 29, .int .u8 109, .int .u8 1, .int .u8 2, .int .u8 3, .int .u8 10, .int .u8 140, .int .u8 211, .int .u8 44], .bool false]), .no⟩ := by
  refine Good.of Tryz.func114 rfl (by rfl) (by kernel_rfl) ?_
  cbv
  (try (simp only [cwn]; cbv))
  repeat' (first
| ((first
| refine td ?_
| refine fd ?_
| (refine q1w (fun z hz => ?_); (simp [oln, Int.max_def, Int.min_def] at hz); subst hz)
| refine rqw ?_
| refine vI ?_
| refine vA ?_
| refine vS ?_
| refine vR ?_
| refine callq w84_13 rfl rfl ?_
| refine chpA ?_
| refine unrollq 400 ?_); cbv; (try (simp only [cwn]; cbv)))
| (simp only [cwn]; cbv))
  exact ⟨rfl, rfl, rfl⟩
theorem w115_1 : Good 115 ⟨[.ptr 0 0, .int .i64 3], (some (202, .agg [.lst none [.int .u8 2, .int .u8 0, .int .u8 0, .int .u8 0, .int .u8 0, .int .u8 0, .int .u8 0, .int .u8 1, .int .u8 0, .int .u8 0, .int .u8 0, .int .u8 1, .int .u8 1, .int .u8 126, .int .u8 51, .int .u8 243, .int .u8 18, .int .u8 29, .int .u8 109, .int .u8 1, .int .u8 2, .int .u8 3, .int .u8 10, .int .u8 140, .int .u8 211, .int .u8 44], .bool false])), (.agg [.int .i64 3, .int .u16 0, .int .u64 144115188075855873]), (.agg [.lst none [.int .u8 0, .int .u8 0, .int .u8 0, .int .u8 1, .int .u8 1, .int .u8 126, .int .u8 51, .int .u8 243, .int .u8 18, .int .u8 29, .int .u8 109, .int .u8 1, .int .u8 2, .int .u8 3, .int .u8 10, .int .u8 140, .int .u8 211, .int .u8 44], .bool false]), .no⟩ := by
  refine Good.of Tryz.func115 rfl (by rfl) (by kernel_rfl) ?_
  cbv
  (try (simp only [cwn]; cbv))
  repeat' (first
| ((first
| refine td ?_
| refine fd ?_
| (refine q1w (fun z hz => ?_); (simp [oln, Int.max_def, Int.min_def] at hz); subst hz)
| refine rqw ?_
| refine vI ?_
| refine vA ?_
| refine vS ?_
| refine vR ?_
| refine callq w114_5 rfl rfl ?_
| refine chpA ?_
| refine unrollq 400 ?_); cbv; (try (simp only [cwn]; cbv)))
| (simp only [cwn]; cbv))
  exact ⟨rfl, rfl, rfl⟩
theorem w84_14 : Good 84 ⟨[.lst none [.int .u8 0, .int .u8 0, .int .u8 0, .int .u8 1, .int .u8 1, .int .u8 126, .int .u8 51, .int .u8 243, .int .u8 18, .int .u8 29, .int .u8 109, .int .u8 1, .int .u8 2, .int .u8 3, .int .u8 10, .int .u8 140, .int .u8 211, .int .u8 44], .int .i64 0, .int .i64 4], none, (.tup [.int .u64 1, .bool true]), .any, .no⟩ := by
  refine Good.of Tryz.func84 rfl (by rfl) (by kernel_rfl) ?_
  cbv
  (try (simp only [cwn]; cbv))
  repeat' (first
| ((first
| refine td ?_
| refine fd ?_
| (refine q1w (fun z hz => ?_); (simp [oln, Int.max_def, Int.min_def] at hz); subst hz)
| refine rqw ?_
| refine vI ?_
| refine vA ?_
| refine vS ?_
| refine vR ?_
| refine chpA ?_
| refine unrollq 400 ?_); cbv; (try (simp only [cwn]; cbv)))
| (simp only [cwn]; cbv))
  exact ⟨rfl, rfl, rfl⟩
theorem w114_6 : Good 114 ⟨[.ptr 0 0, .int .i64 4], (some (202, .agg [.lst none [.int .u8 0, .int .u8 0, .int .u8 0, .int .u8 1, .int .u8 1, .int .u8 126, .int .u8 51, .int .u8 243, .int .u8 18, .int .u8 29, .int .u8 109, .int .u8 1, .int .u8 2, .int .u8 3, .int .u8 10, .int .u8 140, .int .u8 211, .int .u8 44], .bool false])), (.int .u64 1), (.agg [.lst none [.int .u8 1, .int .u8 126, .int .u8 51, .int .u8 243, .int .u8 18, .int .u8 29, .int .u8 109, .int .u8 1, .int .u8 2, .int .u8 3, .int .u8 10, .int .u8 140, .int .u8 211, .int .u8 44], .bool false]), .no⟩ := by
  refine Good.of Tryz.func114 rfl (by rfl) (by kernel_rfl) ?_
  cbv
  (try (simp only [cwn]; cbv))
  repeat' (first
| ((first
| refine td ?_
| refine fd ?_
| (refine q1w (fun z hz => ?_); (simp [oln, Int.max_def, Int.min_def] at hz); subst hz)
| refine rqw ?_
| refine vI ?_
| refine vA ?_
| refine vS ?_
| refine vR ?_
| refine callq w84_14 rfl rfl ?_
| refine chpA ?_
| refine unrollq 400 ?_); cbv; (try (simp only [cwn]; cbv)))
| (simp only [cwn]; cbv))
  exact ⟨rfl, rfl, rfl⟩
theorem w84_15 : Good 84 ⟨[.lst none [.int .u8 1, .int .u8 126, .int .u8 51, .int .u8 243, .int .u8 18, .int .u8 29, .int .u8 109, .int .u8 1, .int .u8 2, .int .u8 3, .int .u8 10, .int .u8 140, .int .u8 211, .int .u8 44], .int .i64 0, .int .i64 1], none, (.tup [.int .u64 1, .bool true]), .any, .no⟩ := by
  refine Good.of Tryz.func84 rfl (by rfl) (by kernel_rfl) ?_
  cbv
  (try (simp only [cwn]; cbv))
  repeat' (first
| ((first
| refine td ?_
| refine fd ?_
| (refine q1w (fun z hz => ?_); (simp [oln, Int.max_def, Int.min_def] at hz); subst hz)
| refine rqw ?_
| refine vI ?_
| refine vA ?_
| refine vS ?_
| refine vR ?_
| refine chpA ?_
| refine unrollq 400 ?_); cbv; (try (simp only [cwn]; cbv)))
| (simp only [cwn]; cbv))
  exact ⟨rfl, rfl, rfl⟩
theorem w114_7 : Good 114 ⟨[.ptr 0 0, .int .i64 1], (some (202, .agg [.lst none [.int .u8 1, .int .u8 126, .int .u8 51, .int .u8 243, .int .u8 18, .int .u8 29, .int .u8 109, .int .u8 1, .int .u8 2, .int .u8 3, .int .u8 10, .int .u8 140, .int .u8 211, .int .u8 44], .bool false])), (.int .u64 1), (.agg [.lst none [.int .u8 126, .int .u8 51, .int .u8 243, .int .u8 18, .int .u8 29, .int .u8 109, .int .u8 1, .int .u8 2, .int .u8 3, .int .u8 10, .int .u8 140, .int .u8 211, .int .u8 44], .bool false]), .no⟩ := by
  refine Good.of Tryz.func114 rfl (by rfl) (by kernel_rfl) ?_
  cbv
  (try (simp only [cwn]; cbv))
  repeat' (first
| ((first
| refine td ?_
| refine fd ?_
| (refine q1w (fun z hz => ?_); (simp [oln, Int.max_def, Int.min_def] at hz); subst hz)
| refine rqw ?_
| refine vI ?_
| refine vA ?_
| refine vS ?_
| refine vR ?_
| refine callq w84_15 rfl rfl ?_
| refine chpA ?_
| refine unrollq 400 ?_); cbv; (try (simp only [cwn]; cbv)))
| (simp only [cwn]; cbv))
  exact ⟨rfl, rfl, rfl⟩
theorem w52_0 : Good 52 ⟨[.lst none [.int .u8 104, .int .u8 240, .int .u8 0, .int .u8 0, .int .u8 1, .int .u8 2, .int .u8 0, .int .u8 0, .int .u8 0, .int .u8 0, .int .u8 0, .int .u8 0, .int .u8 2, .int .u8 2, .int .u8 0, .int .u8 0, .int .u8 0, .int .u8 0, .int .u8 0, .int .u8 0, .int .u8 1, .int .u8 0, .int .u8 0, .int .u8 0, .int .u8 1, .int .u8 1, .int .u8 126, .int .u8 51, .int .u8 243, .int .u8 18, .int .u8 29, .int .u8 109, .int .u8 1, .int .u8 2, .int .u8 3, .int .u8 10, .int .u8 140, .int .u8 211, .int .u8 44]], none, (.tup [.agg [.int .i64 1, .bool true, .bool false, .bool true, .int .u8 0, .int .u16 1, .int .i64 3, .int .u16 0, .int .u64 144115188075855874, .int .i64 3, .int .u16 0, .int .u64 144115188075855873, .int .u32 1, .int .u8 1, .lst none [.int .u8 126, .int .u8 51, .int .u8 243, .int .u8 18, .int .u8 29, .int .u8 109, .int .u8 1, .int .u8 2, .int .u8 3], .lst none [.int .u8 10, .int .u8 140, .int .u8 211, .int .u8 44]], .bool true]), .any, .no⟩ := by
  refine Good.of Tryz.func52 rfl (by rfl) (by kernel_rfl) ?_
  cbv
  (try (simp only [cwn]; cbv))
  repeat' (first
| ((first
| refine td ?_
| refine fd ?_
| (refine q1w (fun z hz => ?_); (simp [oln, Int.max_def, Int.min_def] at hz); subst hz)
| refine rqw ?_
| refine vI ?_
| refine vA ?_
| refine vS ?_
| refine vR ?_
| refine callq w114_0 rfl rfl ?_
| refine callq w114_1 rfl rfl ?_
| refine callq w114_2 rfl rfl ?_
| refine callq w114_3 rfl rfl ?_
| refine callq w115_0 rfl rfl ?_
| refine callq w115_1 rfl rfl ?_
| refine callq w114_6 rfl rfl ?_
| refine callq w114_7 rfl rfl ?_
| refine chpA ?_
| refine unrollq 400 ?_); cbv; (try (simp only [cwn]; cbv)))
| (simp only [cwn]; cbv))
  exact ⟨rfl, rfl, rfl⟩
theorem w53_1 : Good 53 ⟨[.lst none [.int .u8 104, .int .u8 240, .int .u8 0, .int .u8 0, .int .u8 1, .int .u8 2, .int .u8 0, .int .u8 0, .int .u8 0, .int .u8 0, .int .u8 0, .int .u8 0, .int .u8 2, .int .u8 2, .int .u8 0, .int .u8 0, .int .u8 0, .int .u8 0, .int .u8 0, .int .u8 0, .int .u8 1, .int .u8 0, .int .u8 0, .int .u8 0, .int .u8 1, .int .u8 1, .int .u8 126, .int .u8 51, .int .u8 243, .int .u8 18, .int .u8 29, .int .u8 109, .int .u8 1, .int .u8 2, .int .u8 3, .int .u8 10, .int .u8 140, .int .u8 211, .int .u8 44, .int .u8 23, .int .u8 63], .lst none [.int .u8 104, .int .u8 240, .int .u8 0, .int .u8 0, .int .u8 1, .int .u8 2, .int .u8 0, .int .u8 0, .int .u8 0, .int .u8 0, .int .u8 0, .int .u8 0, .int .u8 2, .int .u8 2, .int .u8 0, .int .u8 0, .int .u8 0, .int .u8 0, .int .u8 0, .int .u8 0, .int .u8 1, .int .u8 0, .int .u8 0, .int .u8 0, .int .u8 1, .int .u8 1, .int .u8 126, .int .u8 51, .int .u8 243, .int .u8 18, .int .u8 29, .int .u8 109, .int .u8 1, .int .u8 2, .int .u8 3, .int .u8 10, .int .u8 140, .int .u8 211, .int .u8 44, .int .u8 23, .int .u8 63]], none, (.bool true), .any, .no⟩ := equal_c [104, 240, 0, 0, 1, 2, 0, 0, 0, 0, 0, 0, 2, 2, 0, 0, 0, 0, 0, 0, 1, 0, 0, 0, 1, 1, 126, 51, 243, 18, 29, 109, 1, 2, 3, 10, 140, 211, 44, 23, 63] [104, 240, 0, 0, 1, 2, 0, 0, 0, 0, 0, 0, 2, 2, 0, 0, 0, 0, 0, 0, 1, 0, 0, 0, 1, 1, 126, 51, 243, 18, 29, 109, 1, 2, 3, 10, 140, 211, 44, 23, 63] _ _ (by kernel_rfl) (by kernel_rfl) true (by kernel_rfl)
theorem w11_0 : Good 11 ⟨[.lst none [.int .u8 104, .int .u8 240, .int .u8 0, .int .u8 0, .int .u8 1, .int .u8 2, .int .u8 0, .int .u8 0, .int .u8 0, .int .u8 0, .int .u8 0, .int .u8 0, .int .u8 2, .int .u8 2, .int .u8 0, .int .u8 0, .int .u8 0, .int .u8 0, .int .u8 0, .int .u8 0, .int .u8 1, .int .u8 0, .int .u8 0, .int .u8 0, .int .u8 1, .int .u8 1, .int .u8 126, .int .u8 51, .int .u8 243, .int .u8 18, .int .u8 29, .int .u8 109, .int .u8 1, .int .u8 2, .int .u8 3, .int .u8 10, .int .u8 140, .int .u8 211, .int .u8 44, .int .u8 23, .int .u8 63]], none, (.tup [.agg [.int .i64 1, .bool true, .bool false, .bool true, .int .u8 0, .int .u16 1, .int .i64 3, .int .u16 0, .int .u64 144115188075855874, .int .i64 3, .int .u16 0, .int .u64 144115188075855873, .int .u32 1, .int .u8 1, .lst none [.int .u8 126, .int .u8 51, .int .u8 243, .int .u8 18, .int .u8 29, .int .u8 109, .int .u8 1, .int .u8 2, .int .u8 3], .lst none [.int .u8 10, .int .u8 140, .int .u8 211, .int .u8 44]], .int .i64 0]), .any, .no⟩ := by
  refine Good.of Tryz.func11 rfl (by rfl) (by kernel_rfl) ?_
  cbv
  (try (simp only [cwn]; cbv))
  repeat' (first
| ((first
| refine td ?_
| refine fd ?_
| (refine q1w (fun z hz => ?_); (simp [oln, Int.max_def, Int.min_def] at hz); subst hz)
| refine rqw ?_
| refine vI ?_
| refine vA ?_
| refine vS ?_
| refine vR ?_
| refine callq w51_0 rfl rfl ?_
| refine callq w52_0 rfl rfl ?_
| refine callq w18_0 rfl rfl ?_
| refine callq w53_1 rfl rfl ?_
| refine chpA ?_
| refine unrollq 400 ?_); cbv; (try (simp only [cwn]; cbv)))
| (simp only [cwn]; cbv))
  exact ⟨rfl, rfl, rfl⟩
theorem w164_1 : Good 164 ⟨[.lst (some 6) [.agg [.int .i64 3, .int .u16 0, .int .u64 144115188075855873, .int .u8 1, .int .u32 0, .int .u32 4294967295]], .clo 111 []], none, (.bool true), .any, .no⟩ := by
  refine Good.of Tryz.func164 rfl (by rfl) (by kernel_rfl) ?_
  cbv
  (try (simp only [cwn]; cbv))
  repeat' (first
| ((first
| refine td ?_
| refine fd ?_
| (refine q1w (fun z hz => ?_); (simp [oln, Int.max_def, Int.min_def] at hz); subst hz)
| refine rqw ?_
| refine vI ?_
| refine vA ?_
| refine vS ?_
| refine vR ?_
| refine chpA ?_
| refine unrollq 400 ?_); cbv; (try (simp only [cwn]; cbv)))
| (simp only [cwn]; cbv))
  exact ⟨rfl, rfl, rfl⟩
end Go.Proofs.YtgfpjhddojhfpaaGreat
namespace Go.Proofs.YtgfpjhddojhfpaaGreat
set_option linter.unusedVariables false
set_option linter.unusedSimpArgs false
set_option maxHeartbeats 40000000
set_option maxRecDepth 100000
theorem w106_3 : Good 106 ⟨[.agg [.lst (some 17) [.agg [.int .u8 1, .int .u8 17, .int .u8 18, .int .u8 19, .int .u8 20, .int .u8 21, .int .u8 22, .int .u8 23, .int .u8 24, .int .u8 25, .int .u8 26, .int .u8 27, .int .u8 28, .int .u8 29, .int .u8 30, .int .u8 31, .int .u8 32]], .int .u32 0, .int .u32 1048576, .int .u32 9, .lst (some 6) [.agg [.int .i64 3, .int .u16 0, .int .u64 144115188075855873, .int .u8 1, .int .u32 0, .int .u32 4294967295]]], .int .u8 1], none, (.tup [.agg [.int .u8 17, .int .u8 18, .int .u8 19, .int .u8 20, .int .u8 21, .int .u8 22, .int .u8 23, .int .u8 24, .int .u8 25, .int .u8 26, .int .u8 27, .int .u8 28, .int .u8 29, .int .u8 30, .int .u8 31, .int .u8 32], .bool true]), .any, .no⟩ := by
  refine Good.of Tryz.func106 rfl (by rfl) (by kernel_rfl) ?_
  cbv
  (try (simp only [cwn]; cbv))
  repeat' (first
| ((first
| refine td ?_
| refine fd ?_
| (refine q1w (fun z hz => ?_); (simp [oln, Int.max_def, Int.min_def] at hz); subst hz)
| refine rqw ?_
| refine vI ?_
| refine vA ?_
| refine vS ?_
| refine vR ?_
| refine chpA ?_
| refine unrollq 400 ?_); cbv; (try (simp only [cwn]; cbv)))
| (simp only [cwn]; cbv))
  exact ⟨rfl, rfl, rfl⟩
theorem w165_0 : Good 165 ⟨[.agg [.lst (some 17) [.agg [.int .u8 1, .int .u8 17, .int .u8 18, .int .u8 19, .int .u8 20, .int .u8 21, .int .u8 22, .int .u8 23, .int .u8 24, .int .u8 25, .int .u8 26, .int .u8 27, .int .u8 28, .int .u8 29, .int .u8 30, .int .u8 31, .int .u8 32]], .int .u32 0, .int .u32 1048576, .int .u32 9, .lst (some 6) [.agg [.int .i64 3, .int .u16 0, .int .u64 144115188075855873, .int .u8 1, .int .u32 0, .int .u32 4294967295]]], .agg [.int .i64 3, .int .u16 0, .int .u64 144115188075855873, .int .u8 1, .int .u32 0, .int .u32 4294967295]], none, (.bool true), .any, .no⟩ := by
  refine Good.of Tryz.func165 rfl (by rfl) (by kernel_rfl) ?_
  cbv
  (try (simp only [cwn]; cbv))
  repeat' (first
| ((first
| refine td ?_
| refine fd ?_
| (refine q1w (fun z hz => ?_); (simp [oln, Int.max_def, Int.min_def] at hz); subst hz)
| refine rqw ?_
| refine vI ?_
| refine vA ?_
| refine vS ?_
| refine vR ?_
| refine callq w159_0 rfl rfl ?_
| refine callq w176_0 rfl rfl ?_
| refine callq w106_3 rfl rfl ?_
| refine chpA ?_
| refine unrollq 400 ?_); cbv; (try (simp only [cwn]; cbv)))
| (simp only [cwn]; cbv))
  exact ⟨rfl, rfl, rfl⟩
theorem w104_3 : Good 104 ⟨[.agg [.lst (some 17) [.agg [.int .u8 1, .int .u8 17, .int .u8 18, .int .u8 19, .int .u8 20, .int .u8 21, .int .u8 22, .int .u8 23, .int .u8 24, .int .u8 25, .int .u8 26, .int .u8 27, .int .u8 28, .int .u8 29, .int .u8 30, .int .u8 31, .int .u8 32]], .int .u32 0, .int .u32 1048576, .int .u32 9, .lst (some 6) [.agg [.int .i64 3, .int .u16 0, .int .u64 144115188075855873, .int .u8 1, .int .u32 0, .int .u32 4294967295]]]], none, (.bool true), .any, .no⟩ := by
  refine Good.of Tryz.func104 rfl (by rfl) (by kernel_rfl) ?_
  cbv
  (try (simp only [cwn]; cbv))
  repeat' (first
| ((first
| refine td ?_
| refine fd ?_
| (refine q1w (fun z hz => ?_); (simp [oln, Int.max_def, Int.min_def] at hz); subst hz)
| refine rqw ?_
| refine vI ?_
| refine vA ?_
| refine vS ?_
| refine vR ?_
| refine callq w162_0 rfl rfl ?_
| refine callq w164_1 rfl rfl ?_
| refine callq w165_0 rfl rfl ?_
| refine chpA ?_
| refine unrollq 400 ?_); cbv; (try (simp only [cwn]; cbv)))
| (simp only [cwn]; cbv))
  exact ⟨rfl, rfl, rfl⟩
theorem w110_1 : Good 110 ⟨[.agg [.int .u8 17, .int .u8 18, .int .u8 19, .int .u8 20, .int .u8 21, .int .u8 22, .int .u8 23, .int .u8 24, .int .u8 25, .int .u8 26, .int .u8 27, .int .u8 28, .int .u8 29, .int .u8 30, .int .u8 31, .int .u8 32], .lst none [.int .u8 104, .int .u8 240, .int .u8 0, .int .u8 0, .int .u8 1, .int .u8 2, .int .u8 0, .int .u8 0, .int .u8 0, .int .u8 0, .int .u8 0, .int .u8 0, .int .u8 2, .int .u8 2, .int .u8 0, .int .u8 0, .int .u8 0, .int .u8 0, .int .u8 0, .int .u8 0, .int .u8 1, .int .u8 0, .int .u8 0, .int .u8 0, .int .u8 1, .int .u8 1, .int .u8 126, .int .u8 51, .int .u8 243, .int .u8 18, .int .u8 29, .int .u8 109, .int .u8 1, .int .u8 2, .int .u8 3], .lst none [.int .u8 10, .int .u8 140, .int .u8 211, .int .u8 44]], none, (.bool true), .any, .no⟩ := verify_c [104, 240, 0, 0, 1, 2, 0, 0, 0, 0, 0, 0, 2, 2, 0, 0, 0, 0, 0, 0, 1, 0, 0, 0, 1, 1, 126, 51, 243, 18, 29, 109, 1, 2, 3] [10, 140, 211, 44] _ _ (by kernel_rfl) (by decide) (by kernel_rfl) (by decide) true (by kernel_rfl)
theorem w215_0 : Good 215 ⟨[.int .i64 3], none, (.bool false), .any, .no⟩ := by
  refine Good.of Tryz.func215 rfl (by rfl) (by kernel_rfl) ?_
  cbv
  (try (simp only [cwn]; cbv))
  repeat' (first
| ((first
| refine td ?_
| refine fd ?_
| (refine q1w (fun z hz => ?_); (simp [oln, Int.max_def, Int.min_def] at hz); subst hz)
| refine rqw ?_
| refine vI ?_
| refine vA ?_
| refine vS ?_
| refine vR ?_
| refine chpA ?_
| refine unrollq 400 ?_); cbv; (try (simp only [cwn]; cbv)))
| (simp only [cwn]; cbv))
  exact ⟨rfl, rfl, rfl⟩
theorem w202_0 : Good 202 ⟨[.int .i64 3, .int .i64 3], none, (.int .i64 0), .any, .no⟩ := by
  refine Good.of Tryz.func202 rfl (by rfl) (by kernel_rfl) ?_
  cbv
  (try (simp only [cwn]; cbv))
  repeat' (first
| ((first
| refine td ?_
| refine fd ?_
| (refine q1w (fun z hz => ?_); (simp [oln, Int.max_def, Int.min_def] at hz); subst hz)
| refine rqw ?_
| refine vI ?_
| refine vA ?_
| refine vS ?_
| refine vR ?_
| refine callq w215_0 rfl rfl ?_
| refine chpA ?_
| refine unrollq 400 ?_); cbv; (try (simp only [cwn]; cbv)))
| (simp only [cwn]; cbv))
  exact ⟨rfl, rfl, rfl⟩
theorem w216_0 : Good 216 ⟨[.int .u16 0], none, (.bool false), .any, .no⟩ := by
  refine Good.of Tryz.func216 rfl (by rfl) (by kernel_rfl) ?_
  cbv
  (try (simp only [cwn]; cbv))
  repeat' (first
| ((first
| refine td ?_
| refine fd ?_
| (refine q1w (fun z hz => ?_); (simp [oln, Int.max_def, Int.min_def] at hz); subst hz)
| refine rqw ?_
| refine vI ?_
| refine vA ?_
| refine vS ?_
| refine vR ?_
| refine chpA ?_
| refine unrollq 400 ?_); cbv; (try (simp only [cwn]; cbv)))
| (simp only [cwn]; cbv))
  exact ⟨rfl, rfl, rfl⟩
theorem w203_0 : Good 203 ⟨[.int .u16 0, .int .u16 0], none, (.int .i64 0), .any, .no⟩ := by
  refine Good.of Tryz.func203 rfl (by rfl) (by kernel_rfl) ?_
  cbv
  (try (simp only [cwn]; cbv))
  repeat' (first
| ((first
| refine td ?_
| refine fd ?_
| (refine q1w (fun z hz => ?_); (simp [oln, Int.max_def, Int.min_def] at hz); subst hz)
| refine rqw ?_
| refine vI ?_
| refine vA ?_
| refine vS ?_
| refine vR ?_
| refine callq w216_0 rfl rfl ?_
| refine chpA ?_
| refine unrollq 400 ?_); cbv; (try (simp only [cwn]; cbv)))
| (simp only [cwn]; cbv))
  exact ⟨rfl, rfl, rfl⟩
theorem w217_0 : Good 217 ⟨[.int .u64 144115188075855873], none, (.bool false), .any, .no⟩ := by
  refine Good.of Tryz.func217 rfl (by rfl) (by kernel_rfl) ?_
  cbv
  (try (simp only [cwn]; cbv))
  repeat' (first
| ((first
| refine td ?_
| refine fd ?_
| (refine q1w (fun z hz => ?_); (simp [oln, Int.max_def, Int.min_def] at hz); subst hz)
| refine rqw ?_
| refine vI ?_
| refine vA ?_
| refine vS ?_
| refine vR ?_
| refine chpA ?_
| refine unrollq 400 ?_); cbv; (try (simp only [cwn]; cbv)))
| (simp only [cwn]; cbv))
  exact ⟨rfl, rfl, rfl⟩
theorem w204_0 : Good 204 ⟨[.int .u64 144115188075855873, .int .u64 144115188075855873], none, (.int .i64 0), .any, .no⟩ := by
  refine Good.of Tryz.func204 rfl (by rfl) (by kernel_rfl) ?_
  cbv
  (try (simp only [cwn]; cbv))
  repeat' (first
| ((first
| refine td ?_
| refine fd ?_
| (refine q1w (fun z hz => ?_); (simp [oln, Int.max_def, Int.min_def] at hz); subst hz)
| refine rqw ?_
| refine vI ?_
| refine vA ?_
| refine vS ?_
| refine vR ?_
| refine callq w217_0 rfl rfl ?_
| refine chpA ?_
| refine unrollq 400 ?_); cbv; (try (simp only [cwn]; cbv)))
| (simp only [cwn]; cbv))
  exact ⟨rfl, rfl, rfl⟩
theorem w169_0 : Good 169 ⟨[.lst none [.int .i64 0, .int .i64 0, .int .i64 0]], none, (.int .i64 0), .any, .no⟩ := by
  refine Good.of Tryz.func169 rfl (by rfl) (by kernel_rfl) ?_
  cbv
  (try (simp only [cwn]; cbv))
  repeat' (first
| ((first
| refine td ?_
| refine fd ?_
| (refine q1w (fun z hz => ?_); (simp [oln, Int.max_def, Int.min_def] at hz); subst hz)
| refine rqw ?_
| refine vI ?_
| refine vA ?_
| refine vS ?_
| refine vR ?_
| refine chpA ?_
| refine unrollq 400 ?_); cbv; (try (simp only [cwn]; cbv)))
| (simp only [cwn]; cbv))
  exact ⟨rfl, rfl, rfl⟩
theorem w170_0 : Good 170 ⟨[.agg [.int .i64 3, .int .u16 0, .int .u64 144115188075855873], .agg [.int .i64 3, .int .u16 0, .int .u64 144115188075855873]], none, (.int .i64 0), .any, .no⟩ := by
  refine Good.of Tryz.func170 rfl (by rfl) (by kernel_rfl) ?_
  cbv
  (try (simp only [cwn]; cbv))
  repeat' (first
| ((first
| refine td ?_
| refine fd ?_
| (refine q1w (fun z hz => ?_); (simp [oln, Int.max_def, Int.min_def] at hz); subst hz)
| refine rqw ?_
| refine vI ?_
| refine vA ?_
| refine vS ?_
| refine vR ?_
| refine callq w202_0 rfl rfl ?_
| refine callq w203_0 rfl rfl ?_
| refine callq w204_0 rfl rfl ?_
| refine callq w169_0 rfl rfl ?_
| refine chpA ?_
| refine unrollq 400 ?_); cbv; (try (simp only [cwn]; cbv)))
| (simp only [cwn]; cbv))
  exact ⟨rfl, rfl, rfl⟩
theorem w205_0 : Good 205 ⟨[.int .u8 1], none, (.bool false), .any, .no⟩ := by
  refine Good.of Tryz.func205 rfl (by rfl) (by kernel_rfl) ?_
  cbv
  (try (simp only [cwn]; cbv))
  repeat' (first
| ((first
| refine td ?_
| refine fd ?_
| (refine q1w (fun z hz => ?_); (simp [oln, Int.max_def, Int.min_def] at hz); subst hz)
| refine rqw ?_
| refine vI ?_
| refine vA ?_
| refine vS ?_
| refine vR ?_
| refine chpA ?_
| refine unrollq 400 ?_); cbv; (try (simp only [cwn]; cbv)))
| (simp only [cwn]; cbv))
  exact ⟨rfl, rfl, rfl⟩
theorem w171_0 : Good 171 ⟨[.int .u8 1, .int .u8 1], none, (.int .i64 0), .any, .no⟩ := by
  refine Good.of Tryz.func171 rfl (by rfl) (by kernel_rfl) ?_
  cbv
  (try (simp only [cwn]; cbv))
  repeat' (first
| ((first
| refine td ?_
| refine fd ?_
| (refine q1w (fun z hz => ?_); (simp [oln, Int.max_def, Int.min_def] at hz); subst hz)
| refine rqw ?_
| refine vI ?_
| refine vA ?_
| refine vS ?_
| refine vR ?_
| refine callq w205_0 rfl rfl ?_
| refine chpA ?_
| refine unrollq 400 ?_); cbv; (try (simp only [cwn]; cbv)))
| (simp only [cwn]; cbv))
  exact ⟨rfl, rfl, rfl⟩
theorem w169_1 : Good 169 ⟨[.lst none [.int .i64 0, .int .i64 0]], none, (.int .i64 0), .any, .no⟩ := by
  refine Good.of Tryz.func169 rfl (by rfl) (by kernel_rfl) ?_
  cbv
  (try (simp only [cwn]; cbv))
  repeat' (first
| ((first
| refine td ?_
| refine fd ?_
| (refine q1w (fun z hz => ?_); (simp [oln, Int.max_def, Int.min_def] at hz); subst hz)
| refine rqw ?_
| refine vI ?_
| refine vA ?_
| refine vS ?_
| refine vR ?_
| refine chpA ?_
| refine unrollq 400 ?_); cbv; (try (simp only [cwn]; cbv)))
| (simp only [cwn]; cbv))
  exact ⟨rfl, rfl, rfl⟩
theorem w111_0 : Good 111 ⟨[.agg [.int .i64 3, .int .u16 0, .int .u64 144115188075855873, .int .u8 1, .int .u32 0, .int .u32 4294967295], .agg [.int .i64 3, .int .u16 0, .int .u64 144115188075855873, .int .u8 1, .int .u32 1, .int .u32 4294967295]], none, (.int .i64 0), .any, .no⟩ := by
  refine Good.of Tryz.func111 rfl (by rfl) (by kernel_rfl) ?_
  cbv
  (try (simp only [cwn]; cbv))
  repeat' (first
| ((first
| refine td ?_
| refine fd ?_
| (refine q1w (fun z hz => ?_); (simp [oln, Int.max_def, Int.min_def] at hz); subst hz)
| refine rqw ?_
| refine vI ?_
| refine vA ?_
| refine vS ?_
| refine vR ?_
| refine callq w170_0 rfl rfl ?_
| refine callq w171_0 rfl rfl ?_
| refine callq w169_1 rfl rfl ?_
| refine chpA ?_
| refine unrollq 400 ?_); cbv; (try (simp only [cwn]; cbv)))
| (simp only [cwn]; cbv))
  exact ⟨rfl, rfl, rfl⟩
theorem w168_1 : Good 168 ⟨[.lst (some 6) [.agg [.int .i64 3, .int .u16 0, .int .u64 144115188075855873, .int .u8 1, .int .u32 0, .int .u32 4294967295]]], none, (.row 1), .any, (.row (some 6) 196 [.agg [.int .i64 3, .int .u16 0, .int .u64 144115188075855873, .int .u8 1, .int .u32 0, .int .u32 4294967295]])⟩ := by
  refine Good.of Tryz.func168 rfl (by rfl) (by kernel_rfl) ?_
  cbv
  (try (simp only [cwn]; cbv))
  repeat' (first
| ((first
| refine td ?_
| refine fd ?_
| (refine q1w (fun z hz => ?_); (simp [oln, Int.max_def, Int.min_def] at hz); subst hz)
| refine rqw ?_
| refine vI ?_
| refine vA ?_
| refine vS ?_
| refine vR ?_
| refine chpA ?_
| refine unrollq 400 ?_); cbv; (try (simp only [cwn]; cbv)))
| (simp only [cwn]; cbv))
  exact ⟨rfl, rfl, rfl⟩
theorem w109_3 : Good 109 ⟨[.agg [.lst (some 17) [.agg [.int .u8 1, .int .u8 17, .int .u8 18, .int .u8 19, .int .u8 20, .int .u8 21, .int .u8 22, .int .u8 23, .int .u8 24, .int .u8 25, .int .u8 26, .int .u8 27, .int .u8 28, .int .u8 29, .int .u8 30, .int .u8 31, .int .u8 32]], .int .u32 0, .int .u32 1048576, .int .u32 9, .lst (some 6) [.agg [.int .i64 3, .int .u16 0, .int .u64 144115188075855873, .int .u8 1, .int .u32 0, .int .u32 4294967295]]]], none, (.agg [.lst (some 17) [.agg [.int .u8 1, .int .u8 17, .int .u8 18, .int .u8 19, .int .u8 20, .int .u8 21, .int .u8 22, .int .u8 23, .int .u8 24, .int .u8 25, .int .u8 26, .int .u8 27, .int .u8 28, .int .u8 29, .int .u8 30, .int .u8 31, .int .u8 32]], .int .u32 0, .int .u32 1048576, .int .u32 9, .row 1]), .any, (.row (some 6) 196 [.agg [.int .i64 3, .int .u16 0, .int .u64 144115188075855873, .int .u8 1, .int .u32 0, .int .u32 4294967295]])⟩ := by
  refine Good.of Tryz.func109 rfl (by rfl) (by kernel_rfl) ?_
  cbv
  (try (simp only [cwn]; cbv))
  repeat' (first
| ((first
| refine td ?_
| refine fd ?_
| (refine q1w (fun z hz => ?_); (simp [oln, Int.max_def, Int.min_def] at hz); subst hz)
| refine rqw ?_
| refine vI ?_
| refine vA ?_
| refine vS ?_
| refine vR ?_
| refine callq w167_0 rfl rfl ?_
| refine callq w168_1 rfl rfl ?_
| refine chpA ?_
| refine unrollq 400 ?_); cbv; (try (simp only [cwn]; cbv)))
| (simp only [cwn]; cbv))
  exact ⟨rfl, rfl, rfl⟩
theorem w112_0 : Good 112 ⟨[.agg [.int .i64 3, .int .u16 0, .int .u64 144115188075855873, .int .u8 1, .int .u32 0, .int .u32 4294967295], .int .u32 1], none, (.tup [.agg [.int .i64 3, .int .u16 0, .int .u64 144115188075855873, .int .u8 1, .int .u32 1, .int .u32 4294967295], .int .i64 0]), .any, .no⟩ := by
  refine Good.of Tryz.func112 rfl (by rfl) (by kernel_rfl) ?_
  cbv
  (try (simp only [cwn]; cbv))
  repeat' (first
| ((first
| refine td ?_
| refine fd ?_
| (refine q1w (fun z hz => ?_); (simp [oln, Int.max_def, Int.min_def] at hz); subst hz)
| refine rqw ?_
| refine vI ?_
| refine vA ?_
| refine vS ?_
| refine vR ?_
| refine chpA ?_
| refine unrollq 400 ?_); cbv; (try (simp only [cwn]; cbv)))
| (simp only [cwn]; cbv))
  exact ⟨rfl, rfl, rfl⟩
theorem w50_1 : Good 50 ⟨[.agg [.lst (some 17) [.agg [.int .u8 1, .int .u8 17, .int .u8 18, .int .u8 19, .int .u8 20, .int .u8 21, .int .u8 22, .int .u8 23, .int .u8 24, .int .u8 25, .int .u8 26, .int .u8 27, .int .u8 28, .int .u8 29, .int .u8 30, .int .u8 31, .int .u8 32]], .int .u32 0, .int .u32 1048576, .int .u32 9, .lst (some 6) [.agg [.int .i64 3, .int .u16 0, .int .u64 144115188075855873, .int .u8 1, .int .u32 0, .int .u32 4294967295]]], .agg [.int .i64 1, .bool true, .bool false, .bool true, .int .u8 0, .int .u16 1, .int .i64 3, .int .u16 0, .int .u64 144115188075855874, .int .i64 3, .int .u16 0, .int .u64 144115188075855873, .int .u32 1, .int .u8 1, .lst none [.int .u8 126, .int .u8 51, .int .u8 243, .int .u8 18, .int .u8 29, .int .u8 109, .int .u8 1, .int .u8 2, .int .u8 3], .lst none [.int .u8 10, .int .u8 140, .int .u8 211, .int .u8 44]]], none, (.tup [.agg [.lst (some 17) [.agg [.int .u8 1, .int .u8 17, .int .u8 18, .int .u8 19, .int .u8 20, .int .u8 21, .int .u8 22, .int .u8 23, .int .u8 24, .int .u8 25, .int .u8 26, .int .u8 27, .int .u8 28, .int .u8 29, .int .u8 30, .int .u8 31, .int .u8 32]], .int .u32 0, .int .u32 1048576, .int .u32 9, .lst (some 6) [.agg [.int .i64 3, .int .u16 0, .int .u64 144115188075855873, .int .u8 1, .int .u32 1, .int .u32 4294967295]]], .int .i64 0]), .any, .no⟩ := by
  refine Good.of Tryz.func50 rfl (by rfl) (by kernel_rfl) ?_
  cbv
  (try (simp only [cwn]; cbv))
  repeat' (first
| ((first
| refine td ?_
| refine fd ?_
| (refine q1w (fun z hz => ?_); (simp [oln, Int.max_def, Int.min_def] at hz); subst hz)
| refine rqw ?_
| refine vI ?_
| refine vA ?_
| refine vS ?_
| refine vR ?_
| refine callq w104_3 rfl rfl ?_
| refine callq w59_7 rfl rfl ?_
| refine callq w106_3 rfl rfl ?_
| refine callq w61_3 rfl rfl ?_
| refine callq w110_1 rfl rfl ?_
| refine callq w111_0 rfl rfl ?_
| refine callq w109_3 rfl rfl ?_
| refine callq w112_0 rfl rfl ?_
| refine chpA ?_
| refine unrollq 400 ?_); cbv; (try (simp only [cwn]; cbv)))
| (simp only [cwn]; cbv))
  exact ⟨rfl, rfl, rfl⟩
end Go.Proofs.YtgfpjhddojhfpaaGreat
namespace Go.Proofs.YtgfpjhddojhfpaaGreat
set_option linter.unusedVariables false
set_option linter.unusedSimpArgs false
set_option maxHeartbeats 40000000
set_option maxRecDepth 100000
theorem w19_0 : Good 19 ⟨[.agg [.lst (some 17) [.agg [.int .u8 1, .int .u8 17, .int .u8 18, .int .u8 19, .int .u8 20, .int .u8 21, .int .u8 22, .int .u8 23, .int .u8 24, .int .u8 25, .int .u8 26, .int .u8 27, .int .u8 28, .int .u8 29, .int .u8 30, .int .u8 31, .int .u8 32]], .int .u32 0, .int .u32 1048576, .int .u32 9, .lst (some 6) [.agg [.int .i64 3, .int .u16 0, .int .u64 144115188075855873, .int .u8 1, .int .u32 0, .int .u32 4294967295]]], .lst none [.int .u8 104, .int .u8 240, .int .u8 0, .int .u8 0, .int .u8 1, .int .u8 2, .int .u8 0, .int .u8 0, .int .u8 0, .int .u8 0, .int .u8 0, .int .u8 0, .int .u8 2, .int .u8 2, .int .u8 0, .int .u8 0, .int .u8 0, .int .u8 0, .int .u8 0, .int .u8 0, .int .u8 1, .int .u8 0, .int .u8 0, .int .u8 0, .int .u8 1, .int .u8 1, .int .u8 126, .int .u8 51, .int .u8 243, .int .u8 18, .int .u8 29, .int .u8 109, .int .u8 1, .int .u8 2, .int .u8 3, .int .u8 10, .int .u8 140, .int .u8 211, .int .u8 44, .int .u8 23, .int .u8 63]], none, (.tup [.agg [.lst (some 17) [.agg [.int .u8 1, .int .u8 17, .int .u8 18, .int .u8 19, .int .u8 20, .int .u8 21, .int .u8 22, .int .u8 23, .int .u8 24, .int .u8 25, .int .u8 26, .int .u8 27, .int .u8 28, .int .u8 29, .int .u8 30, .int .u8 31, .int .u8 32]], .int .u32 0, .int .u32 1048576, .int .u32 9, .lst (some 6) [.agg [.int .i64 3, .int .u16 0, .int .u64 144115188075855873, .int .u8 1, .int .u32 1, .int .u32 4294967295]]], .lst none [.int .u8 126, .int .u8 51, .int .u8 243, .int .u8 18, .int .u8 29, .int .u8 109, .int .u8 1, .int .u8 2, .int .u8 3], .bool true]), .any, .no⟩ := by
  refine Good.of Tryz.func19 rfl (by rfl) (by kernel_rfl) ?_
  cbv
  (try (simp only [cwn]; cbv))
  repeat' (first
| ((first
| refine td ?_
| refine fd ?_
| (refine q1w (fun z hz => ?_); (simp [oln, Int.max_def, Int.min_def] at hz); subst hz)
| refine rqw ?_
| refine vI ?_
| refine vA ?_
| refine vS ?_
| refine vR ?_
| refine callq w11_0 rfl rfl ?_
| refine callq w50_1 rfl rfl ?_
| refine chpA ?_
| refine unrollq 400 ?_); cbv; (try (simp only [cwn]; cbv)))
| (simp only [cwn]; cbv))
  exact ⟨rfl, rfl, rfl⟩
theorem w39_0 : Good 39 ⟨[.lst none [.int .u8 126, .int .u8 51, .int .u8 243, .int .u8 18, .int .u8 29, .int .u8 109, .int .u8 1, .int .u8 2, .int .u8 3], .lst none [.int .u8 126, .int .u8 51, .int .u8 243, .int .u8 18, .int .u8 29, .int .u8 109, .int .u8 1, .int .u8 2, .int .u8 3]], none, (.bool true), .any, .no⟩ := by
  refine Good.of Tryz.func39 rfl (by rfl) (by kernel_rfl) ?_
  cbv
  (try (simp only [cwn]; cbv))
  repeat' (first
| ((first
| refine td ?_
| refine fd ?_
| (refine q1w (fun z hz => ?_); (simp [oln, Int.max_def, Int.min_def] at hz); subst hz)
| refine rqw ?_
| refine vI ?_
| refine vA ?_
| refine vS ?_
| refine vR ?_
| refine chpA ?_
| refine unrollq 400 ?_); cbv; (try (simp only [cwn]; cbv)))
| (simp only [cwn]; cbv))
  exact ⟨rfl, rfl, rfl⟩
theorem w39_1 : Good 39 ⟨[.lst none [.int .u8 1, .int .u8 2, .int .u8 3], .lst none [.int .u8 1, .int .u8 2, .int .u8 3]], none, (.bool true), .any, .no⟩ := by
  refine Good.of Tryz.func39 rfl (by rfl) (by kernel_rfl) ?_
  cbv
  (try (simp only [cwn]; cbv))
  repeat' (first
| ((first
| refine td ?_
| refine fd ?_
| (refine q1w (fun z hz => ?_); (simp [oln, Int.max_def, Int.min_def] at hz); subst hz)
| refine rqw ?_
| refine vI ?_
| refine vA ?_
| refine vS ?_
| refine vR ?_
| refine chpA ?_
| refine unrollq 400 ?_); cbv; (try (simp only [cwn]; cbv)))
| (simp only [cwn]; cbv))
  exact ⟨rfl, rfl, rfl⟩
theorem w40_0 : Good 40 ⟨[.agg [.int .u8 0, .int .u32 0, .int .u8 17, .int .u8 64, .int .u8 254, .int .u8 128, .int .u8 0, .int .u8 0, .int .u8 0, .int .u8 0, .int .u8 0, .int .u8 0, .int .u8 0, .int .u8 0, .int .u8 0, .int .u8 0, .int .u8 0, .int .u8 0, .int .u8 0, .int .u8 1, .int .u8 254, .int .u8 128, .int .u8 0, .int .u8 0, .int .u8 0, .int .u8 0, .int .u8 0, .int .u8 0, .int .u8 0, .int .u8 0, .int .u8 0, .int .u8 0, .int .u8 0, .int .u8 0, .int .u8 0, .int .u8 2, .int .u16 61617, .int .u16 61618, .lst none [.int .u8 1, .int .u8 2, .int .u8 3]], .agg [.int .u8 0, .int .u32 0, .int .u8 17, .int .u8 64, .int .u8 254, .int .u8 128, .int .u8 0, .int .u8 0, .int .u8 0, .int .u8 0, .int .u8 0, .int .u8 0, .int .u8 0, .int .u8 0, .int .u8 0, .int .u8 0, .int .u8 0, .int .u8 0, .int .u8 0, .int .u8 1, .int .u8 254, .int .u8 128, .int .u8 0, .int .u8 0, .int .u8 0, .int .u8 0, .int .u8 0, .int .u8 0, .int .u8 0, .int .u8 0, .int .u8 0, .int .u8 0, .int .u8 0, .int .u8 0, .int .u8 0, .int .u8 2, .int .u16 61617, .int .u16 61618, .lst none [.int .u8 1, .int .u8 2, .int .u8 3]]], none, (.bool true), .any, .no⟩ := by
  refine Good.of Tryz.func40 rfl (by rfl) (by kernel_rfl) ?_
  cbv
  (try (simp only [cwn]; cbv))
  repeat' (first
| ((first
| refine td ?_
| refine fd ?_
| (refine q1w (fun z hz => ?_); (simp [oln, Int.max_def, Int.min_def] at hz); subst hz)
| refine rqw ?_
| refine vI ?_
| refine vA ?_
| refine vS ?_
| refine vR ?_
| refine callq w39_1 rfl rfl ?_
| refine chpA ?_
| refine unrollq 400 ?_); cbv; (try (simp only [cwn]; cbv)))
| (simp only [cwn]; cbv))
  exact ⟨rfl, rfl, rfl⟩
theorem w20_0 : Good 20 ⟨[], none, (.bool true), .any, .no⟩ := by
  refine Good.of Tryz.func20 rfl (by rfl) (by kernel_rfl) ?_
  cbv
  (try (simp only [cwn]; cbv))
  repeat' (first
| ((first
| refine td ?_
| refine fd ?_
| (refine q1w (fun z hz => ?_); (simp [oln, Int.max_def, Int.min_def] at hz); subst hz)
| refine rqw ?_
| refine vI ?_
| refine vA ?_
| refine vS ?_
| refine vR ?_
| refine callq w62_0 rfl rfl ?_
| refine callq w13_0 rfl rfl ?_
| refine callq w13_1 rfl rfl ?_
| refine callq w28_0 rfl rfl ?_
| refine callq w38_0 rfl rfl ?_
| refine callq w7_0 rfl rfl ?_
| refine callq w8_0 rfl rfl ?_
| refine callq w19_0 rfl rfl ?_
| refine callq w39_0 rfl rfl ?_
| refine callq w40_0 rfl rfl ?_
| refine chpA ?_
| refine unrollq 400 ?_); cbv; (try (simp only [cwn]; cbv)))
| (simp only [cwn]; cbv))
  exact ⟨rfl, rfl, rfl⟩
end Go.Proofs.YtgfpjhddojhfpaaGreat
