/- Texts put together: Sng Snh Sni. -/
import Derived.Test.YtgfpjhddojhfpaaGreatZ04
import Derived.Test.YtgfpjhddojhfpaaGreatZ06
import Derived.Test.YtgfpjhddojhfpaaGreatZ07
import Derived.Test.YtgfpjhddojhfpaaGreatZ08
namespace Go.Proofs.YtgfpjhddojhfpaaGreat
set_option linter.unusedVariables false
set_option linter.unusedSimpArgs false
set_option maxHeartbeats 40000000
set_option maxRecDepth 100000
theorem w122_1 : Good 122 ⟨[.bool false, .int .u8 16], none, (.int .u8 0), .any, .no⟩ := by
  refine Good.of Tryz.func122 rfl (by rfl) (by kernel_rfl) ?_
  cbv
  (try (simp only [cwn]; cbv))
  repeat' (first
| ((first
| refine td ?_
| refine fd ?_
| (refine q1w (fun z hz => ?_); (simp [oln, Int.max_def, Int.min_def] at hz); subst hz)
| refine rqw ?_
| refine vI ?_
| refine vA ?_
| refine vS ?_
| refine vR ?_
| refine chpA ?_
| refine unrollq 400 ?_); cbv; (try (simp only [cwn]; cbv)))
| (simp only [cwn]; cbv))
  exact ⟨rfl, rfl, rfl⟩
theorem w122_2 : Good 122 ⟨[.bool true, .int .u8 8], none, (.int .u8 8), .any, .no⟩ := by
  refine Good.of Tryz.func122 rfl (by rfl) (by kernel_rfl) ?_
  cbv
  (try (simp only [cwn]; cbv))
  repeat' (first
| ((first
| refine td ?_
| refine fd ?_
| (refine q1w (fun z hz => ?_); (simp [oln, Int.max_def, Int.min_def] at hz); subst hz)
| refine rqw ?_
| refine vI ?_
| refine vA ?_
| refine vS ?_
| refine vR ?_
| refine chpA ?_
| refine unrollq 400 ?_); cbv; (try (simp only [cwn]; cbv)))
| (simp only [cwn]; cbv))
  exact ⟨rfl, rfl, rfl⟩
theorem w85_15 : Good 85 ⟨[.lst none [.int .u8 200, .int .u8 240, .int .u8 0], .int .u64 0, .int .i64 2], none, (.row 1), .any, (.row none 5 [.int .u8 200, .int .u8 240, .int .u8 0, .int .u8 0, .int .u8 0])⟩ := append_c [200, 240, 0] _ _ 0 2 2 (by kernel_rfl) rfl (by decide) (by decide) (by decide) (by kernel_rfl)
theorem w85_16 : Good 85 ⟨[.lst none [.int .u8 200, .int .u8 240, .int .u8 0, .int .u8 0, .int .u8 0], .int .u64 144115188075855874, .int .i64 8], none, (.row 1), .any, (.row none 5 [.int .u8 200, .int .u8 240, .int .u8 0, .int .u8 0, .int .u8 0, .int .u8 2, .int .u8 0, .int .u8 0, .int .u8 0, .int .u8 0, .int .u8 0, .int .u8 0, .int .u8 2])⟩ := append_c [200, 240, 0, 0, 0] _ _ 144115188075855874 8 8 (by kernel_rfl) rfl (by decide) (by decide) (by decide) (by kernel_rfl)
theorem w123_0 : Good 123 ⟨[.lst none [.int .u8 200, .int .u8 240, .int .u8 0, .int .u8 0, .int .u8 0], .agg [.int .i64 3, .int .u16 0, .int .u64 144115188075855874]], none, (.row 1), .any, (.row none 5 [.int .u8 200, .int .u8 240, .int .u8 0, .int .u8 0, .int .u8 0, .int .u8 2, .int .u8 0, .int .u8 0, .int .u8 0, .int .u8 0, .int .u8 0, .int .u8 0, .int .u8 2])⟩ := by
  refine Good.of Tryz.func123 rfl (by rfl) (by kernel_rfl) ?_
  cbv
  (try (simp only [cwn]; cbv))
  repeat' (first
| ((first
| refine td ?_
| refine fd ?_
| (refine q1w (fun z hz => ?_); (simp [oln, Int.max_def, Int.min_def] at hz); subst hz)
| refine rqw ?_
| refine vI ?_
| refine vA ?_
| refine vS ?_
| refine vR ?_
| refine callq w85_16 rfl rfl ?_
| refine chpA ?_
| refine unrollq 400 ?_); cbv; (try (simp only [cwn]; cbv)))
| (simp only [cwn]; cbv))
  exact ⟨rfl, rfl, rfl⟩
theorem w85_17 : Good 85 ⟨[.lst none [.int .u8 200, .int .u8 240, .int .u8 0, .int .u8 0, .int .u8 0, .int .u8 2, .int .u8 0, .int .u8 0, .int .u8 0, .int .u8 0, .int .u8 0, .int .u8 0, .int .u8 2], .int .u64 144115188075855873, .int .i64 8], none, (.row 1), .any, (.row none 5 [.int .u8 200, .int .u8 240, .int .u8 0, .int .u8 0, .int .u8 0, .int .u8 2, .int .u8 0, .int .u8 0, .int .u8 0, .int .u8 0, .int .u8 0, .int .u8 0, .int .u8 2, .int .u8 2, .int .u8 0, .int .u8 0, .int .u8 0, .int .u8 0, .int .u8 0, .int .u8 0, .int .u8 1])⟩ := append_c [200, 240, 0, 0, 0, 2, 0, 0, 0, 0, 0, 0, 2] _ _ 144115188075855873 8 8 (by kernel_rfl) rfl (by decide) (by decide) (by decide) (by kernel_rfl)
theorem w123_1 : Good 123 ⟨[.lst none [.int .u8 200, .int .u8 240, .int .u8 0, .int .u8 0, .int .u8 0, .int .u8 2, .int .u8 0, .int .u8 0, .int .u8 0, .int .u8 0, .int .u8 0, .int .u8 0, .int .u8 2], .agg [.int .i64 3, .int .u16 0, .int .u64 144115188075855873]], none, (.row 1), .any, (.row none 5 [.int .u8 200, .int .u8 240, .int .u8 0, .int .u8 0, .int .u8 0, .int .u8 2, .int .u8 0, .int .u8 0, .int .u8 0, .int .u8 0, .int .u8 0, .int .u8 0, .int .u8 2, .int .u8 2, .int .u8 0, .int .u8 0, .int .u8 0, .int .u8 0, .int .u8 0, .int .u8 0, .int .u8 1])⟩ := by
  refine Good.of Tryz.func123 rfl (by rfl) (by kernel_rfl) ?_
  cbv
  (try (simp only [cwn]; cbv))
  repeat' (first
| ((first
| refine td ?_
| refine fd ?_
| (refine q1w (fun z hz => ?_); (simp [oln, Int.max_def, Int.min_def] at hz); subst hz)
| refine rqw ?_
| refine vI ?_
| refine vA ?_
| refine vS ?_
| refine vR ?_
| refine callq w85_17 rfl rfl ?_
| refine chpA ?_
| refine unrollq 400 ?_); cbv; (try (simp only [cwn]; cbv)))
| (simp only [cwn]; cbv))
  exact ⟨rfl, rfl, rfl⟩
theorem w85_18 : Good 85 ⟨[.lst none [.int .u8 200, .int .u8 240, .int .u8 0, .int .u8 0, .int .u8 0, .int .u8 2, .int .u8 0, .int .u8 0, .int .u8 0, .int .u8 0, .int .u8 0, .int .u8 0, .int .u8 2, .int .u8 2, .int .u8 0, .int .u8 0, .int .u8 0, .int .u8 0, .int .u8 0, .int .u8 0, .int .u8 1], .int .u64 0, .int .i64 4], none, (.row 1), .any, (.row none 5 [.int .u8 200, .int .u8 240, .int .u8 0, .int .u8 0, .int .u8 0, .int .u8 2, .int .u8 0, .int .u8 0, .int .u8 0, .int .u8 0, .int .u8 0, .int .u8 0, .int .u8 2, .int .u8 2, .int .u8 0, .int .u8 0, .int .u8 0, .int .u8 0, .int .u8 0, .int .u8 0, .int .u8 1, .int .u8 0, .int .u8 0, .int .u8 0, .int .u8 0])⟩ := append_c [200, 240, 0, 0, 0, 2, 0, 0, 0, 0, 0, 0, 2, 2, 0, 0, 0, 0, 0, 0, 1] _ _ 0 4 4 (by kernel_rfl) rfl (by decide) (by decide) (by decide) (by kernel_rfl)
theorem w61_0 : Good 61 ⟨[.agg [.int .i64 3, .bool false, .bool false, .bool true, .int .u8 0, .int .u16 0, .int .i64 3, .int .u16 0, .int .u64 144115188075855874, .int .i64 3, .int .u16 0, .int .u64 144115188075855873, .int .u32 0, .int .u8 1, .lst none [.int .u8 2, .int .u8 0, .int .u8 0, .int .u8 0, .int .u8 9], .nil]], none, (.row 1), .any, (.row none 5 [.int .u8 200, .int .u8 240, .int .u8 0, .int .u8 0, .int .u8 0, .int .u8 2, .int .u8 0, .int .u8 0, .int .u8 0, .int .u8 0, .int .u8 0, .int .u8 0, .int .u8 2, .int .u8 2, .int .u8 0, .int .u8 0, .int .u8 0, .int .u8 0, .int .u8 0, .int .u8 0, .int .u8 1, .int .u8 0, .int .u8 0, .int .u8 0, .int .u8 0, .int .u8 1, .int .u8 2, .int .u8 0, .int .u8 0, .int .u8 0, .int .u8 9])⟩ := by
  refine Good.of Tryz.func61 rfl (by rfl) (by kernel_rfl) ?_
  cbv
  (try (simp only [cwn]; cbv))
  repeat' (first
| ((first
| refine td ?_
| refine fd ?_
| (refine q1w (fun z hz => ?_); (simp [oln, Int.max_def, Int.min_def] at hz); subst hz)
| refine rqw ?_
| refine vI ?_
| refine vA ?_
| refine vS ?_
| refine vR ?_
| refine callq w59_1 rfl rfl ?_
| refine callq w59_2 rfl rfl ?_
| refine callq w122_0 rfl rfl ?_
| refine callq w122_1 rfl rfl ?_
| refine callq w122_2 rfl rfl ?_
| refine callq w85_15 rfl rfl ?_
| refine callq w123_0 rfl rfl ?_
| refine callq w123_1 rfl rfl ?_
| refine callq w85_18 rfl rfl ?_
| refine chpA ?_
| refine unrollq 400 ?_); cbv; (try (simp only [cwn]; cbv)))
| (simp only [cwn]; cbv))
  exact ⟨rfl, rfl, rfl⟩
theorem w107_0 : Good 107 ⟨[.agg [.int .u8 17, .int .u8 18, .int .u8 19, .int .u8 20, .int .u8 21, .int .u8 22, .int .u8 23, .int .u8 24, .int .u8 25, .int .u8 26, .int .u8 27, .int .u8 28, .int .u8 29, .int .u8 30, .int .u8 31, .int .u8 32], .lst none [.int .u8 200, .int .u8 240, .int .u8 0, .int .u8 0, .int .u8 0, .int .u8 2, .int .u8 0, .int .u8 0, .int .u8 0, .int .u8 0, .int .u8 0, .int .u8 0, .int .u8 2, .int .u8 2, .int .u8 0, .int .u8 0, .int .u8 0, .int .u8 0, .int .u8 0, .int .u8 0, .int .u8 1, .int .u8 0, .int .u8 0, .int .u8 0, .int .u8 0, .int .u8 1, .int .u8 2, .int .u8 0, .int .u8 0, .int .u8 0, .int .u8 9], .int .i64 4], none, (.tup [.row 1, .bool true]), .any, (.row none 5 [.int .u8 13, .int .u8 198, .int .u8 34, .int .u8 107])⟩ := tag_c [200, 240, 0, 0, 0, 2, 0, 0, 0, 0, 0, 0, 2, 2, 0, 0, 0, 0, 0, 0, 1, 0, 0, 0, 0, 1, 2, 0, 0, 0, 9] _ _ (by kernel_rfl) (by decide) 4 4 rfl (by decide) (by kernel_rfl)
theorem w177_2 : Good 177 ⟨[.agg [.int .i64 3, .bool false, .bool false, .bool true, .int .u8 0, .int .u16 0, .int .i64 3, .int .u16 0, .int .u64 144115188075855874, .int .i64 3, .int .u16 0, .int .u64 144115188075855873, .int .u32 0, .int .u8 1, .lst none [.int .u8 2, .int .u8 0, .int .u8 0, .int .u8 0, .int .u8 9], .lst none [.int .u8 13, .int .u8 198, .int .u8 34, .int .u8 107]]], none, (.int .i64 37), .any, .no⟩ := by
  refine Good.of Tryz.func177 rfl (by rfl) (by kernel_rfl) ?_
  cbv
  (try (simp only [cwn]; cbv))
  repeat' (first
| ((first
| refine td ?_
| refine fd ?_
| (refine q1w (fun z hz => ?_); (simp [oln, Int.max_def, Int.min_def] at hz); subst hz)
| refine rqw ?_
| refine vI ?_
| refine vA ?_
| refine vS ?_
| refine vR ?_
| refine callq w207_0 rfl rfl ?_
| refine callq w207_1 rfl rfl ?_
| refine chpA ?_
| refine unrollq 400 ?_); cbv; (try (simp only [cwn]; cbv)))
| (simp only [cwn]; cbv))
  exact ⟨rfl, rfl, rfl⟩
theorem w121_3 : Good 121 ⟨[.agg [.int .i64 3, .bool false, .bool false, .bool true, .int .u8 0, .int .u16 0, .int .i64 3, .int .u16 0, .int .u64 144115188075855874, .int .i64 3, .int .u16 0, .int .u64 144115188075855873, .int .u32 0, .int .u8 1, .lst none [.int .u8 2, .int .u8 0, .int .u8 0, .int .u8 0, .int .u8 9], .lst none [.int .u8 13, .int .u8 198, .int .u8 34, .int .u8 107]]], none, (.bool true), .any, .no⟩ := by
  refine Good.of Tryz.func121 rfl (by rfl) (by kernel_rfl) ?_
  cbv
  (try (simp only [cwn]; cbv))
  repeat' (first
| ((first
| refine td ?_
| refine fd ?_
| (refine q1w (fun z hz => ?_); (simp [oln, Int.max_def, Int.min_def] at hz); subst hz)
| refine rqw ?_
| refine vI ?_
| refine vA ?_
| refine vS ?_
| refine vR ?_
| refine callq w159_1 rfl rfl ?_
| refine callq w159_0 rfl rfl ?_
| refine callq w176_0 rfl rfl ?_
| refine callq w177_2 rfl rfl ?_
| refine chpA ?_
| refine unrollq 400 ?_); cbv; (try (simp only [cwn]; cbv)))
| (simp only [cwn]; cbv))
  exact ⟨rfl, rfl, rfl⟩
theorem w59_3 : Good 59 ⟨[.agg [.int .i64 3, .bool false, .bool false, .bool true, .int .u8 0, .int .u16 0, .int .i64 3, .int .u16 0, .int .u64 144115188075855874, .int .i64 3, .int .u16 0, .int .u64 144115188075855873, .int .u32 0, .int .u8 1, .lst none [.int .u8 2, .int .u8 0, .int .u8 0, .int .u8 0, .int .u8 9], .lst none [.int .u8 13, .int .u8 198, .int .u8 34, .int .u8 107]]], none, (.bool true), .any, .no⟩ := by
  refine Good.of Tryz.func59 rfl (by rfl) (by kernel_rfl) ?_
  cbv
  (try (simp only [cwn]; cbv))
  repeat' (first
| ((first
| refine td ?_
| refine fd ?_
| (refine q1w (fun z hz => ?_); (simp [oln, Int.max_def, Int.min_def] at hz); subst hz)
| refine rqw ?_
| refine vI ?_
| refine vA ?_
| refine vS ?_
| refine vR ?_
| refine callq w121_3 rfl rfl ?_
| refine chpA ?_
| refine unrollq 400 ?_); cbv; (try (simp only [cwn]; cbv)))
| (simp only [cwn]; cbv))
  exact ⟨rfl, rfl, rfl⟩
theorem w108_0 : Good 108 ⟨[.lst none [.int .u8 2, .int .u8 0, .int .u8 0, .int .u8 0, .int .u8 9]], none, (.row 1), .any, (.row none 5 [.int .u8 2, .int .u8 0, .int .u8 0, .int .u8 0, .int .u8 9])⟩ := by
  refine Good.of Tryz.func108 rfl (by rfl) (by kernel_rfl) ?_
  cbv
  (try (simp only [cwn]; cbv))
  repeat' (first
| ((first
| refine td ?_
| refine fd ?_
| (refine q1w (fun z hz => ?_); (simp [oln, Int.max_def, Int.min_def] at hz); subst hz)
| refine rqw ?_
| refine vI ?_
| refine vA ?_
| refine vS ?_
| refine vR ?_
| refine chpA ?_
| refine unrollq 400 ?_); cbv; (try (simp only [cwn]; cbv)))
| (simp only [cwn]; cbv))
  exact ⟨rfl, rfl, rfl⟩
theorem w167_0 : Good 167 ⟨[.lst (some 17) [.agg [.int .u8 1, .int .u8 17, .int .u8 18, .int .u8 19, .int .u8 20, .int .u8 21, .int .u8 22, .int .u8 23, .int .u8 24, .int .u8 25, .int .u8 26, .int .u8 27, .int .u8 28, .int .u8 29, .int .u8 30, .int .u8 31, .int .u8 32]]], none, (.row 1), .any, (.row (some 17) 136 [.agg [.int .u8 1, .int .u8 17, .int .u8 18, .int .u8 19, .int .u8 20, .int .u8 21, .int .u8 22, .int .u8 23, .int .u8 24, .int .u8 25, .int .u8 26, .int .u8 27, .int .u8 28, .int .u8 29, .int .u8 30, .int .u8 31, .int .u8 32]])⟩ := by
  refine Good.of Tryz.func167 rfl (by rfl) (by kernel_rfl) ?_
  cbv
  (try (simp only [cwn]; cbv))
  repeat' (first
| ((first
| refine td ?_
| refine fd ?_
| (refine q1w (fun z hz => ?_); (simp [oln, Int.max_def, Int.min_def] at hz); subst hz)
| refine rqw ?_
| refine vI ?_
| refine vA ?_
| refine vS ?_
| refine vR ?_
| refine chpA ?_
| refine unrollq 400 ?_); cbv; (try (simp only [cwn]; cbv)))
| (simp only [cwn]; cbv))
  exact ⟨rfl, rfl, rfl⟩
theorem w168_0 : Good 168 ⟨[.lst (some 6) []], none, (.row 1), .any, (.row (some 6) 196 [])⟩ := by
  refine Good.of Tryz.func168 rfl (by rfl) (by kernel_rfl) ?_
  cbv
  (try (simp only [cwn]; cbv))
  repeat' (first
| ((first
| refine td ?_
| refine fd ?_
| (refine q1w (fun z hz => ?_); (simp [oln, Int.max_def, Int.min_def] at hz); subst hz)
| refine rqw ?_
| refine vI ?_
| refine vA ?_
| refine vS ?_
| refine vR ?_
| refine chpA ?_
| refine unrollq 400 ?_); cbv; (try (simp only [cwn]; cbv)))
| (simp only [cwn]; cbv))
  exact ⟨rfl, rfl, rfl⟩
theorem w109_0 : Good 109 ⟨[.agg [.lst (some 17) [.agg [.int .u8 1, .int .u8 17, .int .u8 18, .int .u8 19, .int .u8 20, .int .u8 21, .int .u8 22, .int .u8 23, .int .u8 24, .int .u8 25, .int .u8 26, .int .u8 27, .int .u8 28, .int .u8 29, .int .u8 30, .int .u8 31, .int .u8 32]], .int .u32 0, .int .u32 1048576, .int .u32 0, .nil]], none, (.agg [.lst (some 17) [.agg [.int .u8 1, .int .u8 17, .int .u8 18, .int .u8 19, .int .u8 20, .int .u8 21, .int .u8 22, .int .u8 23, .int .u8 24, .int .u8 25, .int .u8 26, .int .u8 27, .int .u8 28, .int .u8 29, .int .u8 30, .int .u8 31, .int .u8 32]], .int .u32 0, .int .u32 1048576, .int .u32 0, .row 1]), .any, (.row (some 6) 196 [])⟩ := by
  refine Good.of Tryz.func109 rfl (by rfl) (by kernel_rfl) ?_
  cbv
  (try (simp only [cwn]; cbv))
  repeat' (first
| ((first
| refine td ?_
| refine fd ?_
| (refine q1w (fun z hz => ?_); (simp [oln, Int.max_def, Int.min_def] at hz); subst hz)
| refine rqw ?_
| refine vI ?_
| refine vA ?_
| refine vS ?_
| refine vR ?_
| refine callq w167_0 rfl rfl ?_
| refine callq w168_0 rfl rfl ?_
| refine chpA ?_
| refine unrollq 400 ?_); cbv; (try (simp only [cwn]; cbv)))
| (simp only [cwn]; cbv))
  exact ⟨rfl, rfl, rfl⟩
theorem w49_0 : Good 49 ⟨[.agg [.lst (some 17) [.agg [.int .u8 1, .int .u8 17, .int .u8 18, .int .u8 19, .int .u8 20, .int .u8 21, .int .u8 22, .int .u8 23, .int .u8 24, .int .u8 25, .int .u8 26, .int .u8 27, .int .u8 28, .int .u8 29, .int .u8 30, .int .u8 31, .int .u8 32]], .int .u32 0, .int .u32 1048576, .int .u32 0, .nil], .agg [.int .i64 3, .bool false, .bool false, .bool false, .int .u8 0, .int .u16 0, .int .i64 3, .int .u16 0, .int .u64 144115188075855874, .int .i64 3, .int .u16 0, .int .u64 144115188075855873, .int .u32 0, .int .u8 0, .lst none [.int .u8 2, .int .u8 0, .int .u8 0, .int .u8 0, .int .u8 9], .nil], .int .u8 1], none, (.tup [.agg [.lst (some 17) [.agg [.int .u8 1, .int .u8 17, .int .u8 18, .int .u8 19, .int .u8 20, .int .u8 21, .int .u8 22, .int .u8 23, .int .u8 24, .int .u8 25, .int .u8 26, .int .u8 27, .int .u8 28, .int .u8 29, .int .u8 30, .int .u8 31, .int .u8 32]], .int .u32 1, .int .u32 1048576, .int .u32 0, .lst (some 6) []], .agg [.int .i64 3, .bool false, .bool false, .bool true, .int .u8 0, .int .u16 0, .int .i64 3, .int .u16 0, .int .u64 144115188075855874, .int .i64 3, .int .u16 0, .int .u64 144115188075855873, .int .u32 0, .int .u8 1, .lst none [.int .u8 2, .int .u8 0, .int .u8 0, .int .u8 0, .int .u8 9], .lst none [.int .u8 13, .int .u8 198, .int .u8 34, .int .u8 107]], .int .i64 0]), .any, .no⟩ := by
  refine Good.of Tryz.func49 rfl (by rfl) (by kernel_rfl) ?_
  cbv
  (try (simp only [cwn]; cbv))
  repeat' (first
| ((first
| refine td ?_
| refine fd ?_
| (refine q1w (fun z hz => ?_); (simp [oln, Int.max_def, Int.min_def] at hz); subst hz)
| refine rqw ?_
| refine vI ?_
| refine vA ?_
| refine vS ?_
| refine vR ?_
| refine callq w104_1 rfl rfl ?_
| refine callq w59_0 rfl rfl ?_
| refine callq w106_0 rfl rfl ?_
| refine callq w61_0 rfl rfl ?_
| refine callq w107_0 rfl rfl ?_
| refine callq w59_3 rfl rfl ?_
| refine callq w108_0 rfl rfl ?_
| refine callq w109_0 rfl rfl ?_
| refine chpA ?_
| refine unrollq 400 ?_); cbv; (try (simp only [cwn]; cbv)))
| (simp only [cwn]; cbv))
  exact ⟨rfl, rfl, rfl⟩
theorem w106_1 : Good 106 ⟨[.agg [.lst (some 17) [.agg [.int .u8 1, .int .u8 17, .int .u8 18, .int .u8 19, .int .u8 20, .int .u8 21, .int .u8 22, .int .u8 23, .int .u8 24, .int .u8 25, .int .u8 26, .int .u8 27, .int .u8 28, .int .u8 29, .int .u8 30, .int .u8 31, .int .u8 32]], .int .u32 0, .int .u32 1048576, .int .u32 9, .nil], .int .u8 1], none, (.tup [.agg [.int .u8 17, .int .u8 18, .int .u8 19, .int .u8 20, .int .u8 21, .int .u8 22, .int .u8 23, .int .u8 24, .int .u8 25, .int .u8 26, .int .u8 27, .int .u8 28, .int .u8 29, .int .u8 30, .int .u8 31, .int .u8 32], .bool true]), .any, .no⟩ := by
  refine Good.of Tryz.func106 rfl (by rfl) (by kernel_rfl) ?_
  cbv
  (try (simp only [cwn]; cbv))
  repeat' (first
| ((first
| refine td ?_
| refine fd ?_
| (refine q1w (fun z hz => ?_); (simp [oln, Int.max_def, Int.min_def] at hz); subst hz)
| refine rqw ?_
| refine vI ?_
| refine vA ?_
| refine vS ?_
| refine vR ?_
| refine chpA ?_
| refine unrollq 400 ?_); cbv; (try (simp only [cwn]; cbv)))
| (simp only [cwn]; cbv))
  exact ⟨rfl, rfl, rfl⟩
theorem w61_1 : Good 61 ⟨[.agg [.int .i64 3, .bool false, .bool false, .bool true, .int .u8 0, .int .u16 0, .int .i64 3, .int .u16 0, .int .u64 144115188075855874, .int .i64 3, .int .u16 0, .int .u64 144115188075855873, .int .u32 0, .int .u8 1, .lst none [.int .u8 2, .int .u8 0, .int .u8 0, .int .u8 0, .int .u8 9], .lst none [.int .u8 13, .int .u8 198, .int .u8 34, .int .u8 107]]], none, (.row 1), .any, (.row none 5 [.int .u8 200, .int .u8 240, .int .u8 0, .int .u8 0, .int .u8 0, .int .u8 2, .int .u8 0, .int .u8 0, .int .u8 0, .int .u8 0, .int .u8 0, .int .u8 0, .int .u8 2, .int .u8 2, .int .u8 0, .int .u8 0, .int .u8 0, .int .u8 0, .int .u8 0, .int .u8 0, .int .u8 1, .int .u8 0, .int .u8 0, .int .u8 0, .int .u8 0, .int .u8 1, .int .u8 2, .int .u8 0, .int .u8 0, .int .u8 0, .int .u8 9])⟩ := by
  refine Good.of Tryz.func61 rfl (by rfl) (by kernel_rfl) ?_
  cbv
  (try (simp only [cwn]; cbv))
  repeat' (first
| ((first
| refine td ?_
| refine fd ?_
| (refine q1w (fun z hz => ?_); (simp [oln, Int.max_def, Int.min_def] at hz); subst hz)
| refine rqw ?_
| refine vI ?_
| refine vA ?_
| refine vS ?_
| refine vR ?_
| refine callq w59_3 rfl rfl ?_
| refine callq w122_0 rfl rfl ?_
| refine callq w122_1 rfl rfl ?_
| refine callq w122_2 rfl rfl ?_
| refine callq w85_15 rfl rfl ?_
| refine callq w123_0 rfl rfl ?_
| refine callq w123_1 rfl rfl ?_
| refine callq w85_18 rfl rfl ?_
| refine chpA ?_
| refine unrollq 400 ?_); cbv; (try (simp only [cwn]; cbv)))
| (simp only [cwn]; cbv))
  exact ⟨rfl, rfl, rfl⟩
end Go.Proofs.YtgfpjhddojhfpaaGreat
namespace Go.Proofs.YtgfpjhddojhfpaaGreat
set_option linter.unusedVariables false
set_option linter.unusedSimpArgs false
set_option maxHeartbeats 40000000
set_option maxRecDepth 100000
theorem w110_0 : Good 110 ⟨[.agg [.int .u8 17, .int .u8 18, .int .u8 19, .int .u8 20, .int .u8 21, .int .u8 22, .int .u8 23, .int .u8 24, .int .u8 25, .int .u8 26, .int .u8 27, .int .u8 28, .int .u8 29, .int .u8 30, .int .u8 31, .int .u8 32], .lst none [.int .u8 200, .int .u8 240, .int .u8 0, .int .u8 0, .int .u8 0, .int .u8 2, .int .u8 0, .int .u8 0, .int .u8 0, .int .u8 0, .int .u8 0, .int .u8 0, .int .u8 2, .int .u8 2, .int .u8 0, .int .u8 0, .int .u8 0, .int .u8 0, .int .u8 0, .int .u8 0, .int .u8 1, .int .u8 0, .int .u8 0, .int .u8 0, .int .u8 0, .int .u8 1, .int .u8 2, .int .u8 0, .int .u8 0, .int .u8 0, .int .u8 9], .lst none [.int .u8 13, .int .u8 198, .int .u8 34, .int .u8 107]], none, (.bool true), .any, .no⟩ := verify_c [200, 240, 0, 0, 0, 2, 0, 0, 0, 0, 0, 0, 2, 2, 0, 0, 0, 0, 0, 0, 1, 0, 0, 0, 0, 1, 2, 0, 0, 0, 9] [13, 198, 34, 107] _ _ (by kernel_rfl) (by decide) (by kernel_rfl) (by decide) true (by kernel_rfl)
theorem w109_1 : Good 109 ⟨[.agg [.lst (some 17) [.agg [.int .u8 1, .int .u8 17, .int .u8 18, .int .u8 19, .int .u8 20, .int .u8 21, .int .u8 22, .int .u8 23, .int .u8 24, .int .u8 25, .int .u8 26, .int .u8 27, .int .u8 28, .int .u8 29, .int .u8 30, .int .u8 31, .int .u8 32]], .int .u32 0, .int .u32 1048576, .int .u32 9, .nil]], none, (.agg [.lst (some 17) [.agg [.int .u8 1, .int .u8 17, .int .u8 18, .int .u8 19, .int .u8 20, .int .u8 21, .int .u8 22, .int .u8 23, .int .u8 24, .int .u8 25, .int .u8 26, .int .u8 27, .int .u8 28, .int .u8 29, .int .u8 30, .int .u8 31, .int .u8 32]], .int .u32 0, .int .u32 1048576, .int .u32 9, .row 1]), .any, (.row (some 6) 196 [])⟩ := by
  refine Good.of Tryz.func109 rfl (by rfl) (by kernel_rfl) ?_
  cbv
  (try (simp only [cwn]; cbv))
  repeat' (first
| ((first
| refine td ?_
| refine fd ?_
| (refine q1w (fun z hz => ?_); (simp [oln, Int.max_def, Int.min_def] at hz); subst hz)
| refine rqw ?_
| refine vI ?_
| refine vA ?_
| refine vS ?_
| refine vR ?_
| refine callq w167_0 rfl rfl ?_
| refine callq w168_0 rfl rfl ?_
| refine chpA ?_
| refine unrollq 400 ?_); cbv; (try (simp only [cwn]; cbv)))
| (simp only [cwn]; cbv))
  exact ⟨rfl, rfl, rfl⟩
theorem w85_19 : Good 85 ⟨[.lst none [.int .u8 2], .int .u64 9, .int .i64 4], none, (.row 1), .any, (.row none 5 [.int .u8 2, .int .u8 0, .int .u8 0, .int .u8 0, .int .u8 9])⟩ := append_c [2] _ _ 9 4 4 (by kernel_rfl) rfl (by decide) (by decide) (by decide) (by kernel_rfl)
theorem w105_1 : Good 105 ⟨[.int .u8 2, .int .u32 9], none, (.row 1), .any, (.row none 5 [.int .u8 2, .int .u8 0, .int .u8 0, .int .u8 0, .int .u8 9])⟩ := by
  refine Good.of Tryz.func105 rfl (by rfl) (by kernel_rfl) ?_
  cbv
  (try (simp only [cwn]; cbv))
  repeat' (first
| ((first
| refine td ?_
| refine fd ?_
| (refine q1w (fun z hz => ?_); (simp [oln, Int.max_def, Int.min_def] at hz); subst hz)
| refine rqw ?_
| refine vI ?_
| refine vA ?_
| refine vS ?_
| refine vR ?_
| refine callq w85_19 rfl rfl ?_
| refine chpA ?_
| refine unrollq 400 ?_); cbv; (try (simp only [cwn]; cbv)))
| (simp only [cwn]; cbv))
  exact ⟨rfl, rfl, rfl⟩
theorem w53_0 : Good 53 ⟨[.lst none [.int .u8 2, .int .u8 0, .int .u8 0, .int .u8 0, .int .u8 9], .lst none [.int .u8 2, .int .u8 0, .int .u8 0, .int .u8 0, .int .u8 9]], none, (.bool true), .any, .no⟩ := equal_c [2, 0, 0, 0, 9] [2, 0, 0, 0, 9] _ _ (by kernel_rfl) (by kernel_rfl) true (by kernel_rfl)
theorem w50_0 : Good 50 ⟨[.agg [.lst (some 17) [.agg [.int .u8 1, .int .u8 17, .int .u8 18, .int .u8 19, .int .u8 20, .int .u8 21, .int .u8 22, .int .u8 23, .int .u8 24, .int .u8 25, .int .u8 26, .int .u8 27, .int .u8 28, .int .u8 29, .int .u8 30, .int .u8 31, .int .u8 32]], .int .u32 0, .int .u32 1048576, .int .u32 9, .nil], .agg [.int .i64 3, .bool false, .bool false, .bool true, .int .u8 0, .int .u16 0, .int .i64 3, .int .u16 0, .int .u64 144115188075855874, .int .i64 3, .int .u16 0, .int .u64 144115188075855873, .int .u32 0, .int .u8 1, .lst none [.int .u8 2, .int .u8 0, .int .u8 0, .int .u8 0, .int .u8 9], .lst none [.int .u8 13, .int .u8 198, .int .u8 34, .int .u8 107]]], none, (.tup [.agg [.lst (some 17) [.agg [.int .u8 1, .int .u8 17, .int .u8 18, .int .u8 19, .int .u8 20, .int .u8 21, .int .u8 22, .int .u8 23, .int .u8 24, .int .u8 25, .int .u8 26, .int .u8 27, .int .u8 28, .int .u8 29, .int .u8 30, .int .u8 31, .int .u8 32]], .int .u32 0, .int .u32 1048576, .int .u32 9, .lst (some 6) [.agg [.int .i64 3, .int .u16 0, .int .u64 144115188075855873, .int .u8 1, .int .u32 0, .int .u32 4294967295]]], .int .i64 0]), .any, .no⟩ := by
  refine Good.of Tryz.func50 rfl (by rfl) (by kernel_rfl) ?_
  cbv
  (try (simp only [cwn]; cbv))
  repeat' (first
| ((first
| refine td ?_
| refine fd ?_
| (refine q1w (fun z hz => ?_); (simp [oln, Int.max_def, Int.min_def] at hz); subst hz)
| refine rqw ?_
| refine vI ?_
| refine vA ?_
| refine vS ?_
| refine vR ?_
| refine callq w104_0 rfl rfl ?_
| refine callq w59_3 rfl rfl ?_
| refine callq w106_1 rfl rfl ?_
| refine callq w61_1 rfl rfl ?_
| refine callq w110_0 rfl rfl ?_
| refine callq w109_1 rfl rfl ?_
| refine callq w105_1 rfl rfl ?_
| refine callq w53_0 rfl rfl ?_
| refine chpA ?_
| refine unrollq 400 ?_); cbv; (try (simp only [cwn]; cbv)))
| (simp only [cwn]; cbv))
  exact ⟨rfl, rfl, rfl⟩
theorem w7_0 : Good 7 ⟨[.int .i64 0, .int .i64 1], none, (.tup [.agg [.lst (some 17) [.agg [.int .u8 1, .int .u8 17, .int .u8 18, .int .u8 19, .int .u8 20, .int .u8 21, .int .u8 22, .int .u8 23, .int .u8 24, .int .u8 25, .int .u8 26, .int .u8 27, .int .u8 28, .int .u8 29, .int .u8 30, .int .u8 31, .int .u8 32]], .int .u32 1, .int .u32 1048576, .int .u32 0, .lst (some 6) []], .agg [.lst (some 17) [.agg [.int .u8 1, .int .u8 17, .int .u8 18, .int .u8 19, .int .u8 20, .int .u8 21, .int .u8 22, .int .u8 23, .int .u8 24, .int .u8 25, .int .u8 26, .int .u8 27, .int .u8 28, .int .u8 29, .int .u8 30, .int .u8 31, .int .u8 32]], .int .u32 0, .int .u32 1048576, .int .u32 9, .lst (some 6) [.agg [.int .i64 3, .int .u16 0, .int .u64 144115188075855873, .int .u8 1, .int .u32 0, .int .u32 4294967295]]], .bool true]), .any, .no⟩ := by
  refine Good.of Tryz.func7 rfl (by rfl) (by kernel_rfl) ?_
  cbv
  (try (simp only [cwn]; cbv))
  repeat' (first
| ((first
| refine td ?_
| refine fd ?_
| (refine q1w (fun z hz => ?_); (simp [oln, Int.max_def, Int.min_def] at hz); subst hz)
| refine rqw ?_
| refine vI ?_
| refine vA ?_
| refine vS ?_
| refine vR ?_
| refine callq w16_0 rfl rfl ?_
| refine callq w48_0 rfl rfl ?_
| refine callq w47_0 rfl rfl ?_
| refine callq w13_1 rfl rfl ?_
| refine callq w13_0 rfl rfl ?_
| refine callq w49_0 rfl rfl ?_
| refine callq w50_0 rfl rfl ?_
| refine chpA ?_
| refine unrollq 400 ?_); cbv; (try (simp only [cwn]; cbv)))
| (simp only [cwn]; cbv))
  exact ⟨rfl, rfl, rfl⟩
theorem w104_2 : Good 104 ⟨[.agg [.lst (some 17) [.agg [.int .u8 1, .int .u8 17, .int .u8 18, .int .u8 19, .int .u8 20, .int .u8 21, .int .u8 22, .int .u8 23, .int .u8 24, .int .u8 25, .int .u8 26, .int .u8 27, .int .u8 28, .int .u8 29, .int .u8 30, .int .u8 31, .int .u8 32]], .int .u32 1, .int .u32 1048576, .int .u32 0, .lst (some 6) []]], none, (.bool true), .any, .no⟩ := by
  refine Good.of Tryz.func104 rfl (by rfl) (by kernel_rfl) ?_
  cbv
  (try (simp only [cwn]; cbv))
  repeat' (first
| ((first
| refine td ?_
| refine fd ?_
| (refine q1w (fun z hz => ?_); (simp [oln, Int.max_def, Int.min_def] at hz); subst hz)
| refine rqw ?_
| refine vI ?_
| refine vA ?_
| refine vS ?_
| refine vR ?_
| refine callq w162_0 rfl rfl ?_
| refine callq w164_0 rfl rfl ?_
| refine chpA ?_
| refine unrollq 400 ?_); cbv; (try (simp only [cwn]; cbv)))
| (simp only [cwn]; cbv))
  exact ⟨rfl, rfl, rfl⟩
theorem w176_1 : Good 176 ⟨[.agg [.int .i64 3, .int .u16 0, .int .u64 144115188075855874]], none, (.bool false), .any, .no⟩ := by
  refine Good.of Tryz.func176 rfl (by rfl) (by kernel_rfl) ?_
  cbv
  (try (simp only [cwn]; cbv))
  repeat' (first
| ((first
| refine td ?_
| refine fd ?_
| (refine q1w (fun z hz => ?_); (simp [oln, Int.max_def, Int.min_def] at hz); subst hz)
| refine rqw ?_
| refine vI ?_
| refine vA ?_
| refine vS ?_
| refine vR ?_
| refine chpA ?_
| refine unrollq 400 ?_); cbv; (try (simp only [cwn]; cbv)))
| (simp only [cwn]; cbv))
  exact ⟨rfl, rfl, rfl⟩
theorem w177_3 : Good 177 ⟨[.agg [.int .i64 1, .bool true, .bool false, .bool false, .int .u8 0, .int .u16 1, .int .i64 3, .int .u16 0, .int .u64 144115188075855874, .int .i64 3, .int .u16 0, .int .u64 144115188075855873, .int .u32 0, .int .u8 0, .lst none [.int .u8 126, .int .u8 51, .int .u8 243, .int .u8 18, .int .u8 29, .int .u8 109, .int .u8 1, .int .u8 2, .int .u8 3], .nil]], none, (.int .i64 32), .any, .no⟩ := by
  refine Good.of Tryz.func177 rfl (by rfl) (by kernel_rfl) ?_
  cbv
  (try (simp only [cwn]; cbv))
  repeat' (first
| ((first
| refine td ?_
| refine fd ?_
| (refine q1w (fun z hz => ?_); (simp [oln, Int.max_def, Int.min_def] at hz); subst hz)
| refine rqw ?_
| refine vI ?_
| refine vA ?_
| refine vS ?_
| refine vR ?_
| refine callq w207_0 rfl rfl ?_
| refine callq w207_1 rfl rfl ?_
| refine chpA ?_
| refine unrollq 400 ?_); cbv; (try (simp only [cwn]; cbv)))
| (simp only [cwn]; cbv))
  exact ⟨rfl, rfl, rfl⟩
theorem w121_4 : Good 121 ⟨[.agg [.int .i64 1, .bool true, .bool false, .bool false, .int .u8 0, .int .u16 1, .int .i64 3, .int .u16 0, .int .u64 144115188075855874, .int .i64 3, .int .u16 0, .int .u64 144115188075855873, .int .u32 0, .int .u8 0, .lst none [.int .u8 126, .int .u8 51, .int .u8 243, .int .u8 18, .int .u8 29, .int .u8 109, .int .u8 1, .int .u8 2, .int .u8 3], .nil]], none, (.bool true), .any, .no⟩ := by
  refine Good.of Tryz.func121 rfl (by rfl) (by kernel_rfl) ?_
  cbv
  (try (simp only [cwn]; cbv))
  repeat' (first
| ((first
| refine td ?_
| refine fd ?_
| (refine q1w (fun z hz => ?_); (simp [oln, Int.max_def, Int.min_def] at hz); subst hz)
| refine rqw ?_
| refine vI ?_
| refine vA ?_
| refine vS ?_
| refine vR ?_
| refine callq w159_1 rfl rfl ?_
| refine callq w159_0 rfl rfl ?_
| refine callq w176_0 rfl rfl ?_
| refine callq w176_1 rfl rfl ?_
| refine callq w177_3 rfl rfl ?_
| refine chpA ?_
| refine unrollq 400 ?_); cbv; (try (simp only [cwn]; cbv)))
| (simp only [cwn]; cbv))
  exact ⟨rfl, rfl, rfl⟩
theorem w59_4 : Good 59 ⟨[.agg [.int .i64 1, .bool true, .bool false, .bool false, .int .u8 0, .int .u16 1, .int .i64 3, .int .u16 0, .int .u64 144115188075855874, .int .i64 3, .int .u16 0, .int .u64 144115188075855873, .int .u32 0, .int .u8 0, .lst none [.int .u8 126, .int .u8 51, .int .u8 243, .int .u8 18, .int .u8 29, .int .u8 109, .int .u8 1, .int .u8 2, .int .u8 3], .nil]], none, (.bool true), .any, .no⟩ := by
  refine Good.of Tryz.func59 rfl (by rfl) (by kernel_rfl) ?_
  cbv
  (try (simp only [cwn]; cbv))
  repeat' (first
| ((first
| refine td ?_
| refine fd ?_
| (refine q1w (fun z hz => ?_); (simp [oln, Int.max_def, Int.min_def] at hz); subst hz)
| refine rqw ?_
| refine vI ?_
| refine vA ?_
| refine vS ?_
| refine vR ?_
| refine callq w121_4 rfl rfl ?_
| refine chpA ?_
| refine unrollq 400 ?_); cbv; (try (simp only [cwn]; cbv)))
| (simp only [cwn]; cbv))
  exact ⟨rfl, rfl, rfl⟩
theorem w106_2 : Good 106 ⟨[.agg [.lst (some 17) [.agg [.int .u8 1, .int .u8 17, .int .u8 18, .int .u8 19, .int .u8 20, .int .u8 21, .int .u8 22, .int .u8 23, .int .u8 24, .int .u8 25, .int .u8 26, .int .u8 27, .int .u8 28, .int .u8 29, .int .u8 30, .int .u8 31, .int .u8 32]], .int .u32 1, .int .u32 1048576, .int .u32 0, .lst (some 6) []], .int .u8 1], none, (.tup [.agg [.int .u8 17, .int .u8 18, .int .u8 19, .int .u8 20, .int .u8 21, .int .u8 22, .int .u8 23, .int .u8 24, .int .u8 25, .int .u8 26, .int .u8 27, .int .u8 28, .int .u8 29, .int .u8 30, .int .u8 31, .int .u8 32], .bool true]), .any, .no⟩ := by
  refine Good.of Tryz.func106 rfl (by rfl) (by kernel_rfl) ?_
  cbv
  (try (simp only [cwn]; cbv))
  repeat' (first
| ((first
| refine td ?_
| refine fd ?_
| (refine q1w (fun z hz => ?_); (simp [oln, Int.max_def, Int.min_def] at hz); subst hz)
| refine rqw ?_
| refine vI ?_
| refine vA ?_
| refine vS ?_
| refine vR ?_
| refine chpA ?_
| refine unrollq 400 ?_); cbv; (try (simp only [cwn]; cbv)))
| (simp only [cwn]; cbv))
  exact ⟨rfl, rfl, rfl⟩
theorem w121_5 : Good 121 ⟨[.agg [.int .i64 1, .bool true, .bool false, .bool true, .int .u8 0, .int .u16 1, .int .i64 3, .int .u16 0, .int .u64 144115188075855874, .int .i64 3, .int .u16 0, .int .u64 144115188075855873, .int .u32 1, .int .u8 1, .lst none [.int .u8 126, .int .u8 51, .int .u8 243, .int .u8 18, .int .u8 29, .int .u8 109, .int .u8 1, .int .u8 2, .int .u8 3], .nil]], none, (.bool false), .any, .no⟩ := by
  refine Good.of Tryz.func121 rfl (by rfl) (by kernel_rfl) ?_
  cbv
  (try (simp only [cwn]; cbv))
  repeat' (first
| ((first
| refine td ?_
| refine fd ?_
| (refine q1w (fun z hz => ?_); (simp [oln, Int.max_def, Int.min_def] at hz); subst hz)
| refine rqw ?_
| refine vI ?_
| refine vA ?_
| refine vS ?_
| refine vR ?_
| refine callq w159_1 rfl rfl ?_
| refine callq w159_0 rfl rfl ?_
| refine callq w176_0 rfl rfl ?_
| refine callq w176_1 rfl rfl ?_
| refine chpA ?_
| refine unrollq 400 ?_); cbv; (try (simp only [cwn]; cbv)))
| (simp only [cwn]; cbv))
  exact ⟨rfl, rfl, rfl⟩
theorem w59_5 : Good 59 ⟨[.agg [.int .i64 1, .bool true, .bool false, .bool true, .int .u8 0, .int .u16 1, .int .i64 3, .int .u16 0, .int .u64 144115188075855874, .int .i64 3, .int .u16 0, .int .u64 144115188075855873, .int .u32 1, .int .u8 1, .lst none [.int .u8 126, .int .u8 51, .int .u8 243, .int .u8 18, .int .u8 29, .int .u8 109, .int .u8 1, .int .u8 2, .int .u8 3], .nil]], none, (.bool false), .any, .no⟩ := by
  refine Good.of Tryz.func59 rfl (by rfl) (by kernel_rfl) ?_
  cbv
  (try (simp only [cwn]; cbv))
  repeat' (first
| ((first
| refine td ?_
| refine fd ?_
| (refine q1w (fun z hz => ?_); (simp [oln, Int.max_def, Int.min_def] at hz); subst hz)
| refine rqw ?_
| refine vI ?_
| refine vA ?_
| refine vS ?_
| refine vR ?_
| refine callq w121_5 rfl rfl ?_
| refine chpA ?_
| refine unrollq 400 ?_); cbv; (try (simp only [cwn]; cbv)))
| (simp only [cwn]; cbv))
  exact ⟨rfl, rfl, rfl⟩
theorem w177_4 : Good 177 ⟨[.agg [.int .i64 1, .bool true, .bool false, .bool true, .int .u8 0, .int .u16 1, .int .i64 3, .int .u16 0, .int .u64 144115188075855874, .int .i64 3, .int .u16 0, .int .u64 144115188075855873, .int .u32 1, .int .u8 1, .lst none [.int .u8 126, .int .u8 51, .int .u8 243, .int .u8 18, .int .u8 29, .int .u8 109, .int .u8 1, .int .u8 2, .int .u8 3], .lst none [.int .u8 0, .int .u8 0, .int .u8 0, .int .u8 0]]], none, (.int .i64 41), .any, .no⟩ := by
  refine Good.of Tryz.func177 rfl (by rfl) (by kernel_rfl) ?_
  cbv
  (try (simp only [cwn]; cbv))
  repeat' (first
| ((first
| refine td ?_
| refine fd ?_
| (refine q1w (fun z hz => ?_); (simp [oln, Int.max_def, Int.min_def] at hz); subst hz)
| refine rqw ?_
| refine vI ?_
| refine vA ?_
| refine vS ?_
| refine vR ?_
| refine callq w207_0 rfl rfl ?_
| refine callq w207_1 rfl rfl ?_
| refine chpA ?_
| refine unrollq 400 ?_); cbv; (try (simp only [cwn]; cbv)))
| (simp only [cwn]; cbv))
  exact ⟨rfl, rfl, rfl⟩
theorem w121_6 : Good 121 ⟨[.agg [.int .i64 1, .bool true, .bool false, .bool true, .int .u8 0, .int .u16 1, .int .i64 3, .int .u16 0, .int .u64 144115188075855874, .int .i64 3, .int .u16 0, .int .u64 144115188075855873, .int .u32 1, .int .u8 1, .lst none [.int .u8 126, .int .u8 51, .int .u8 243, .int .u8 18, .int .u8 29, .int .u8 109, .int .u8 1, .int .u8 2, .int .u8 3], .lst none [.int .u8 0, .int .u8 0, .int .u8 0, .int .u8 0]]], none, (.bool true), .any, .no⟩ := by
  refine Good.of Tryz.func121 rfl (by rfl) (by kernel_rfl) ?_
  cbv
  (try (simp only [cwn]; cbv))
  repeat' (first
| ((first
| refine td ?_
| refine fd ?_
| (refine q1w (fun z hz => ?_); (simp [oln, Int.max_def, Int.min_def] at hz); subst hz)
| refine rqw ?_
| refine vI ?_
| refine vA ?_
| refine vS ?_
| refine vR ?_
| refine callq w159_1 rfl rfl ?_
| refine callq w159_0 rfl rfl ?_
| refine callq w176_0 rfl rfl ?_
| refine callq w176_1 rfl rfl ?_
| refine callq w177_4 rfl rfl ?_
| refine chpA ?_
| refine unrollq 400 ?_); cbv; (try (simp only [cwn]; cbv)))
| (simp only [cwn]; cbv))
  exact ⟨rfl, rfl, rfl⟩
theorem w59_6 : Good 59 ⟨[.agg [.int .i64 1, .bool true, .bool false, .bool true, .int .u8 0, .int .u16 1, .int .i64 3, .int .u16 0, .int .u64 144115188075855874, .int .i64 3, .int .u16 0, .int .u64 144115188075855873, .int .u32 1, .int .u8 1, .lst none [.int .u8 126, .int .u8 51, .int .u8 243, .int .u8 18, .int .u8 29, .int .u8 109, .int .u8 1, .int .u8 2, .int .u8 3], .lst none [.int .u8 0, .int .u8 0, .int .u8 0, .int .u8 0]]], none, (.bool true), .any, .no⟩ := by
  refine Good.of Tryz.func59 rfl (by rfl) (by kernel_rfl) ?_
  cbv
  (try (simp only [cwn]; cbv))
  repeat' (first
| ((first
| refine td ?_
| refine fd ?_
| (refine q1w (fun z hz => ?_); (simp [oln, Int.max_def, Int.min_def] at hz); subst hz)
| refine rqw ?_
| refine vI ?_
| refine vA ?_
| refine vS ?_
| refine vR ?_
| refine callq w121_6 rfl rfl ?_
| refine chpA ?_
| refine unrollq 400 ?_); cbv; (try (simp only [cwn]; cbv)))
| (simp only [cwn]; cbv))
  exact ⟨rfl, rfl, rfl⟩
theorem w122_3 : Good 122 ⟨[.bool true, .int .u8 32], none, (.int .u8 32), .any, .no⟩ := by
  refine Good.of Tryz.func122 rfl (by rfl) (by kernel_rfl) ?_
  cbv
  (try (simp only [cwn]; cbv))
  repeat' (first
| ((first
| refine td ?_
| refine fd ?_
| (refine q1w (fun z hz => ?_); (simp [oln, Int.max_def, Int.min_def] at hz); subst hz)
| refine rqw ?_
| refine vI ?_
| refine vA ?_
| refine vS ?_
| refine vR ?_
| refine chpA ?_
| refine unrollq 400 ?_); cbv; (try (simp only [cwn]; cbv)))
| (simp only [cwn]; cbv))
  exact ⟨rfl, rfl, rfl⟩
theorem w85_20 : Good 85 ⟨[.lst none [.int .u8 104, .int .u8 240, .int .u8 0], .int .u64 1, .int .i64 2], none, (.row 1), .any, (.row none 5 [.int .u8 104, .int .u8 240, .int .u8 0, .int .u8 0, .int .u8 1])⟩ := append_c [104, 240, 0] _ _ 1 2 2 (by kernel_rfl) rfl (by decide) (by decide) (by decide) (by kernel_rfl)
end Go.Proofs.YtgfpjhddojhfpaaGreat
namespace Go.Proofs.YtgfpjhddojhfpaaGreat
set_option linter.unusedVariables false
set_option linter.unusedSimpArgs false
set_option maxHeartbeats 40000000
set_option maxRecDepth 100000
theorem w85_21 : Good 85 ⟨[.lst none [.int .u8 104, .int .u8 240, .int .u8 0, .int .u8 0, .int .u8 1], .int .u64 144115188075855874, .int .i64 8], none, (.row 1), .any, (.row none 5 [.int .u8 104, .int .u8 240, .int .u8 0, .int .u8 0, .int .u8 1, .int .u8 2, .int .u8 0, .int .u8 0, .int .u8 0, .int .u8 0, .int .u8 0, .int .u8 0, .int .u8 2])⟩ := append_c [104, 240, 0, 0, 1] _ _ 144115188075855874 8 8 (by kernel_rfl) rfl (by decide) (by decide) (by decide) (by kernel_rfl)
theorem w123_2 : Good 123 ⟨[.lst none [.int .u8 104, .int .u8 240, .int .u8 0, .int .u8 0, .int .u8 1], .agg [.int .i64 3, .int .u16 0, .int .u64 144115188075855874]], none, (.row 1), .any, (.row none 5 [.int .u8 104, .int .u8 240, .int .u8 0, .int .u8 0, .int .u8 1, .int .u8 2, .int .u8 0, .int .u8 0, .int .u8 0, .int .u8 0, .int .u8 0, .int .u8 0, .int .u8 2])⟩ := by
  refine Good.of Tryz.func123 rfl (by rfl) (by kernel_rfl) ?_
  cbv
  (try (simp only [cwn]; cbv))
  repeat' (first
| ((first
| refine td ?_
| refine fd ?_
| (refine q1w (fun z hz => ?_); (simp [oln, Int.max_def, Int.min_def] at hz); subst hz)
| refine rqw ?_
| refine vI ?_
| refine vA ?_
| refine vS ?_
| refine vR ?_
| refine callq w85_21 rfl rfl ?_
| refine chpA ?_
| refine unrollq 400 ?_); cbv; (try (simp only [cwn]; cbv)))
| (simp only [cwn]; cbv))
  exact ⟨rfl, rfl, rfl⟩
theorem w85_22 : Good 85 ⟨[.lst none [.int .u8 104, .int .u8 240, .int .u8 0, .int .u8 0, .int .u8 1, .int .u8 2, .int .u8 0, .int .u8 0, .int .u8 0, .int .u8 0, .int .u8 0, .int .u8 0, .int .u8 2], .int .u64 144115188075855873, .int .i64 8], none, (.row 1), .any, (.row none 5 [.int .u8 104, .int .u8 240, .int .u8 0, .int .u8 0, .int .u8 1, .int .u8 2, .int .u8 0, .int .u8 0, .int .u8 0, .int .u8 0, .int .u8 0, .int .u8 0, .int .u8 2, .int .u8 2, .int .u8 0, .int .u8 0, .int .u8 0, .int .u8 0, .int .u8 0, .int .u8 0, .int .u8 1])⟩ := append_c [104, 240, 0, 0, 1, 2, 0, 0, 0, 0, 0, 0, 2] _ _ 144115188075855873 8 8 (by kernel_rfl) rfl (by decide) (by decide) (by decide) (by kernel_rfl)
theorem w123_3 : Good 123 ⟨[.lst none [.int .u8 104, .int .u8 240, .int .u8 0, .int .u8 0, .int .u8 1, .int .u8 2, .int .u8 0, .int .u8 0, .int .u8 0, .int .u8 0, .int .u8 0, .int .u8 0, .int .u8 2], .agg [.int .i64 3, .int .u16 0, .int .u64 144115188075855873]], none, (.row 1), .any, (.row none 5 [.int .u8 104, .int .u8 240, .int .u8 0, .int .u8 0, .int .u8 1, .int .u8 2, .int .u8 0, .int .u8 0, .int .u8 0, .int .u8 0, .int .u8 0, .int .u8 0, .int .u8 2, .int .u8 2, .int .u8 0, .int .u8 0, .int .u8 0, .int .u8 0, .int .u8 0, .int .u8 0, .int .u8 1])⟩ := by
  refine Good.of Tryz.func123 rfl (by rfl) (by kernel_rfl) ?_
  cbv
  (try (simp only [cwn]; cbv))
  repeat' (first
| ((first
| refine td ?_
| refine fd ?_
| (refine q1w (fun z hz => ?_); (simp [oln, Int.max_def, Int.min_def] at hz); subst hz)
| refine rqw ?_
| refine vI ?_
| refine vA ?_
| refine vS ?_
| refine vR ?_
| refine callq w85_22 rfl rfl ?_
| refine chpA ?_
| refine unrollq 400 ?_); cbv; (try (simp only [cwn]; cbv)))
| (simp only [cwn]; cbv))
  exact ⟨rfl, rfl, rfl⟩
theorem w85_23 : Good 85 ⟨[.lst none [.int .u8 104, .int .u8 240, .int .u8 0, .int .u8 0, .int .u8 1, .int .u8 2, .int .u8 0, .int .u8 0, .int .u8 0, .int .u8 0, .int .u8 0, .int .u8 0, .int .u8 2, .int .u8 2, .int .u8 0, .int .u8 0, .int .u8 0, .int .u8 0, .int .u8 0, .int .u8 0, .int .u8 1], .int .u64 1, .int .i64 4], none, (.row 1), .any, (.row none 5 [.int .u8 104, .int .u8 240, .int .u8 0, .int .u8 0, .int .u8 1, .int .u8 2, .int .u8 0, .int .u8 0, .int .u8 0, .int .u8 0, .int .u8 0, .int .u8 0, .int .u8 2, .int .u8 2, .int .u8 0, .int .u8 0, .int .u8 0, .int .u8 0, .int .u8 0, .int .u8 0, .int .u8 1, .int .u8 0, .int .u8 0, .int .u8 0, .int .u8 1])⟩ := append_c [104, 240, 0, 0, 1, 2, 0, 0, 0, 0, 0, 0, 2, 2, 0, 0, 0, 0, 0, 0, 1] _ _ 1 4 4 (by kernel_rfl) rfl (by decide) (by decide) (by decide) (by kernel_rfl)
theorem w61_2 : Good 61 ⟨[.agg [.int .i64 1, .bool true, .bool false, .bool true, .int .u8 0, .int .u16 1, .int .i64 3, .int .u16 0, .int .u64 144115188075855874, .int .i64 3, .int .u16 0, .int .u64 144115188075855873, .int .u32 1, .int .u8 1, .lst none [.int .u8 126, .int .u8 51, .int .u8 243, .int .u8 18, .int .u8 29, .int .u8 109, .int .u8 1, .int .u8 2, .int .u8 3], .nil]], none, (.row 1), .any, (.row none 5 [.int .u8 104, .int .u8 240, .int .u8 0, .int .u8 0, .int .u8 1, .int .u8 2, .int .u8 0, .int .u8 0, .int .u8 0, .int .u8 0, .int .u8 0, .int .u8 0, .int .u8 2, .int .u8 2, .int .u8 0, .int .u8 0, .int .u8 0, .int .u8 0, .int .u8 0, .int .u8 0, .int .u8 1, .int .u8 0, .int .u8 0, .int .u8 0, .int .u8 1, .int .u8 1, .int .u8 126, .int .u8 51, .int .u8 243, .int .u8 18, .int .u8 29, .int .u8 109, .int .u8 1, .int .u8 2, .int .u8 3])⟩ := by
  refine Good.of Tryz.func61 rfl (by rfl) (by kernel_rfl) ?_
  cbv
  (try (simp only [cwn]; cbv))
  repeat' (first
| ((first
| refine td ?_
| refine fd ?_
| (refine q1w (fun z hz => ?_); (simp [oln, Int.max_def, Int.min_def] at hz); subst hz)
| refine rqw ?_
| refine vI ?_
| refine vA ?_
| refine vS ?_
| refine vR ?_
| refine callq w59_5 rfl rfl ?_
| refine callq w59_6 rfl rfl ?_
| refine callq w122_3 rfl rfl ?_
| refine callq w122_1 rfl rfl ?_
| refine callq w122_2 rfl rfl ?_
| refine callq w85_20 rfl rfl ?_
| refine callq w123_2 rfl rfl ?_
| refine callq w123_3 rfl rfl ?_
| refine callq w85_23 rfl rfl ?_
| refine chpA ?_
| refine unrollq 400 ?_); cbv; (try (simp only [cwn]; cbv)))
| (simp only [cwn]; cbv))
  exact ⟨rfl, rfl, rfl⟩
theorem w107_1 : Good 107 ⟨[.agg [.int .u8 17, .int .u8 18, .int .u8 19, .int .u8 20, .int .u8 21, .int .u8 22, .int .u8 23, .int .u8 24, .int .u8 25, .int .u8 26, .int .u8 27, .int .u8 28, .int .u8 29, .int .u8 30, .int .u8 31, .int .u8 32], .lst none [.int .u8 104, .int .u8 240, .int .u8 0, .int .u8 0, .int .u8 1, .int .u8 2, .int .u8 0, .int .u8 0, .int .u8 0, .int .u8 0, .int .u8 0, .int .u8 0, .int .u8 2, .int .u8 2, .int .u8 0, .int .u8 0, .int .u8 0, .int .u8 0, .int .u8 0, .int .u8 0, .int .u8 1, .int .u8 0, .int .u8 0, .int .u8 0, .int .u8 1, .int .u8 1, .int .u8 126, .int .u8 51, .int .u8 243, .int .u8 18, .int .u8 29, .int .u8 109, .int .u8 1, .int .u8 2, .int .u8 3], .int .i64 4], none, (.tup [.row 1, .bool true]), .any, (.row none 5 [.int .u8 10, .int .u8 140, .int .u8 211, .int .u8 44])⟩ := tag_c [104, 240, 0, 0, 1, 2, 0, 0, 0, 0, 0, 0, 2, 2, 0, 0, 0, 0, 0, 0, 1, 0, 0, 0, 1, 1, 126, 51, 243, 18, 29, 109, 1, 2, 3] _ _ (by kernel_rfl) (by decide) 4 4 rfl (by decide) (by kernel_rfl)
theorem w177_5 : Good 177 ⟨[.agg [.int .i64 1, .bool true, .bool false, .bool true, .int .u8 0, .int .u16 1, .int .i64 3, .int .u16 0, .int .u64 144115188075855874, .int .i64 3, .int .u16 0, .int .u64 144115188075855873, .int .u32 1, .int .u8 1, .lst none [.int .u8 126, .int .u8 51, .int .u8 243, .int .u8 18, .int .u8 29, .int .u8 109, .int .u8 1, .int .u8 2, .int .u8 3], .lst none [.int .u8 10, .int .u8 140, .int .u8 211, .int .u8 44]]], none, (.int .i64 41), .any, .no⟩ := by
  refine Good.of Tryz.func177 rfl (by rfl) (by kernel_rfl) ?_
  cbv
  (try (simp only [cwn]; cbv))
  repeat' (first
| ((first
| refine td ?_
| refine fd ?_
| (refine q1w (fun z hz => ?_); (simp [oln, Int.max_def, Int.min_def] at hz); subst hz)
| refine rqw ?_
| refine vI ?_
| refine vA ?_
| refine vS ?_
| refine vR ?_
| refine callq w207_0 rfl rfl ?_
| refine callq w207_1 rfl rfl ?_
| refine chpA ?_
| refine unrollq 400 ?_); cbv; (try (simp only [cwn]; cbv)))
| (simp only [cwn]; cbv))
  exact ⟨rfl, rfl, rfl⟩
theorem w121_7 : Good 121 ⟨[.agg [.int .i64 1, .bool true, .bool false, .bool true, .int .u8 0, .int .u16 1, .int .i64 3, .int .u16 0, .int .u64 144115188075855874, .int .i64 3, .int .u16 0, .int .u64 144115188075855873, .int .u32 1, .int .u8 1, .lst none [.int .u8 126, .int .u8 51, .int .u8 243, .int .u8 18, .int .u8 29, .int .u8 109, .int .u8 1, .int .u8 2, .int .u8 3], .lst none [.int .u8 10, .int .u8 140, .int .u8 211, .int .u8 44]]], none, (.bool true), .any, .no⟩ := by
  refine Good.of Tryz.func121 rfl (by rfl) (by kernel_rfl) ?_
  cbv
  (try (simp only [cwn]; cbv))
  repeat' (first
| ((first
| refine td ?_
| refine fd ?_
| (refine q1w (fun z hz => ?_); (simp [oln, Int.max_def, Int.min_def] at hz); subst hz)
| refine rqw ?_
| refine vI ?_
| refine vA ?_
| refine vS ?_
| refine vR ?_
| refine callq w159_1 rfl rfl ?_
| refine callq w159_0 rfl rfl ?_
| refine callq w176_0 rfl rfl ?_
| refine callq w176_1 rfl rfl ?_
| refine callq w177_5 rfl rfl ?_
| refine chpA ?_
| refine unrollq 400 ?_); cbv; (try (simp only [cwn]; cbv)))
| (simp only [cwn]; cbv))
  exact ⟨rfl, rfl, rfl⟩
theorem w59_7 : Good 59 ⟨[.agg [.int .i64 1, .bool true, .bool false, .bool true, .int .u8 0, .int .u16 1, .int .i64 3, .int .u16 0, .int .u64 144115188075855874, .int .i64 3, .int .u16 0, .int .u64 144115188075855873, .int .u32 1, .int .u8 1, .lst none [.int .u8 126, .int .u8 51, .int .u8 243, .int .u8 18, .int .u8 29, .int .u8 109, .int .u8 1, .int .u8 2, .int .u8 3], .lst none [.int .u8 10, .int .u8 140, .int .u8 211, .int .u8 44]]], none, (.bool true), .any, .no⟩ := by
  refine Good.of Tryz.func59 rfl (by rfl) (by kernel_rfl) ?_
  cbv
  (try (simp only [cwn]; cbv))
  repeat' (first
| ((first
| refine td ?_
| refine fd ?_
| (refine q1w (fun z hz => ?_); (simp [oln, Int.max_def, Int.min_def] at hz); subst hz)
| refine rqw ?_
| refine vI ?_
| refine vA ?_
| refine vS ?_
| refine vR ?_
| refine callq w121_7 rfl rfl ?_
| refine chpA ?_
| refine unrollq 400 ?_); cbv; (try (simp only [cwn]; cbv)))
| (simp only [cwn]; cbv))
  exact ⟨rfl, rfl, rfl⟩
theorem w108_1 : Good 108 ⟨[.lst none [.int .u8 126, .int .u8 51, .int .u8 243, .int .u8 18, .int .u8 29, .int .u8 109, .int .u8 1, .int .u8 2, .int .u8 3]], none, (.row 1), .any, (.row none 5 [.int .u8 126, .int .u8 51, .int .u8 243, .int .u8 18, .int .u8 29, .int .u8 109, .int .u8 1, .int .u8 2, .int .u8 3])⟩ := by
  refine Good.of Tryz.func108 rfl (by rfl) (by kernel_rfl) ?_
  cbv
  (try (simp only [cwn]; cbv))
  repeat' (first
| ((first
| refine td ?_
| refine fd ?_
| (refine q1w (fun z hz => ?_); (simp [oln, Int.max_def, Int.min_def] at hz); subst hz)
| refine rqw ?_
| refine vI ?_
| refine vA ?_
| refine vS ?_
| refine vR ?_
| refine chpA ?_
| refine unrollq 400 ?_); cbv; (try (simp only [cwn]; cbv)))
| (simp only [cwn]; cbv))
  exact ⟨rfl, rfl, rfl⟩
theorem w109_2 : Good 109 ⟨[.agg [.lst (some 17) [.agg [.int .u8 1, .int .u8 17, .int .u8 18, .int .u8 19, .int .u8 20, .int .u8 21, .int .u8 22, .int .u8 23, .int .u8 24, .int .u8 25, .int .u8 26, .int .u8 27, .int .u8 28, .int .u8 29, .int .u8 30, .int .u8 31, .int .u8 32]], .int .u32 1, .int .u32 1048576, .int .u32 0, .lst (some 6) []]], none, (.agg [.lst (some 17) [.agg [.int .u8 1, .int .u8 17, .int .u8 18, .int .u8 19, .int .u8 20, .int .u8 21, .int .u8 22, .int .u8 23, .int .u8 24, .int .u8 25, .int .u8 26, .int .u8 27, .int .u8 28, .int .u8 29, .int .u8 30, .int .u8 31, .int .u8 32]], .int .u32 1, .int .u32 1048576, .int .u32 0, .row 1]), .any, (.row (some 6) 196 [])⟩ := by
  refine Good.of Tryz.func109 rfl (by rfl) (by kernel_rfl) ?_
  cbv
  (try (simp only [cwn]; cbv))
  repeat' (first
| ((first
| refine td ?_
| refine fd ?_
| (refine q1w (fun z hz => ?_); (simp [oln, Int.max_def, Int.min_def] at hz); subst hz)
| refine rqw ?_
| refine vI ?_
| refine vA ?_
| refine vS ?_
| refine vR ?_
| refine callq w167_0 rfl rfl ?_
| refine callq w168_0 rfl rfl ?_
| refine chpA ?_
| refine unrollq 400 ?_); cbv; (try (simp only [cwn]; cbv)))
| (simp only [cwn]; cbv))
  exact ⟨rfl, rfl, rfl⟩
theorem w49_1 : Good 49 ⟨[.agg [.lst (some 17) [.agg [.int .u8 1, .int .u8 17, .int .u8 18, .int .u8 19, .int .u8 20, .int .u8 21, .int .u8 22, .int .u8 23, .int .u8 24, .int .u8 25, .int .u8 26, .int .u8 27, .int .u8 28, .int .u8 29, .int .u8 30, .int .u8 31, .int .u8 32]], .int .u32 1, .int .u32 1048576, .int .u32 0, .lst (some 6) []], .agg [.int .i64 1, .bool true, .bool false, .bool false, .int .u8 0, .int .u16 1, .int .i64 3, .int .u16 0, .int .u64 144115188075855874, .int .i64 3, .int .u16 0, .int .u64 144115188075855873, .int .u32 0, .int .u8 0, .lst none [.int .u8 126, .int .u8 51, .int .u8 243, .int .u8 18, .int .u8 29, .int .u8 109, .int .u8 1, .int .u8 2, .int .u8 3], .nil], .int .u8 1], none, (.tup [.agg [.lst (some 17) [.agg [.int .u8 1, .int .u8 17, .int .u8 18, .int .u8 19, .int .u8 20, .int .u8 21, .int .u8 22, .int .u8 23, .int .u8 24, .int .u8 25, .int .u8 26, .int .u8 27, .int .u8 28, .int .u8 29, .int .u8 30, .int .u8 31, .int .u8 32]], .int .u32 2, .int .u32 1048576, .int .u32 0, .lst (some 6) []], .agg [.int .i64 1, .bool true, .bool false, .bool true, .int .u8 0, .int .u16 1, .int .i64 3, .int .u16 0, .int .u64 144115188075855874, .int .i64 3, .int .u16 0, .int .u64 144115188075855873, .int .u32 1, .int .u8 1, .lst none [.int .u8 126, .int .u8 51, .int .u8 243, .int .u8 18, .int .u8 29, .int .u8 109, .int .u8 1, .int .u8 2, .int .u8 3], .lst none [.int .u8 10, .int .u8 140, .int .u8 211, .int .u8 44]], .int .i64 0]), .any, .no⟩ := by
  refine Good.of Tryz.func49 rfl (by rfl) (by kernel_rfl) ?_
  cbv
  (try (simp only [cwn]; cbv))
  repeat' (first
| ((first
| refine td ?_
| refine fd ?_
| (refine q1w (fun z hz => ?_); (simp [oln, Int.max_def, Int.min_def] at hz); subst hz)
| refine rqw ?_
| refine vI ?_
| refine vA ?_
| refine vS ?_
| refine vR ?_
| refine callq w104_2 rfl rfl ?_
| refine callq w59_4 rfl rfl ?_
| refine callq w106_2 rfl rfl ?_
| refine callq w61_2 rfl rfl ?_
| refine callq w107_1 rfl rfl ?_
| refine callq w59_7 rfl rfl ?_
| refine callq w108_1 rfl rfl ?_
| refine callq w109_2 rfl rfl ?_
| refine chpA ?_
| refine unrollq 400 ?_); cbv; (try (simp only [cwn]; cbv)))
| (simp only [cwn]; cbv))
  exact ⟨rfl, rfl, rfl⟩
theorem w61_3 : Good 61 ⟨[.agg [.int .i64 1, .bool true, .bool false, .bool true, .int .u8 0, .int .u16 1, .int .i64 3, .int .u16 0, .int .u64 144115188075855874, .int .i64 3, .int .u16 0, .int .u64 144115188075855873, .int .u32 1, .int .u8 1, .lst none [.int .u8 126, .int .u8 51, .int .u8 243, .int .u8 18, .int .u8 29, .int .u8 109, .int .u8 1, .int .u8 2, .int .u8 3], .lst none [.int .u8 10, .int .u8 140, .int .u8 211, .int .u8 44]]], none, (.row 1), .any, (.row none 5 [.int .u8 104, .int .u8 240, .int .u8 0, .int .u8 0, .int .u8 1, .int .u8 2, .int .u8 0, .int .u8 0, .int .u8 0, .int .u8 0, .int .u8 0, .int .u8 0, .int .u8 2, .int .u8 2, .int .u8 0, .int .u8 0, .int .u8 0, .int .u8 0, .int .u8 0, .int .u8 0, .int .u8 1, .int .u8 0, .int .u8 0, .int .u8 0, .int .u8 1, .int .u8 1, .int .u8 126, .int .u8 51, .int .u8 243, .int .u8 18, .int .u8 29, .int .u8 109, .int .u8 1, .int .u8 2, .int .u8 3])⟩ := by
  refine Good.of Tryz.func61 rfl (by rfl) (by kernel_rfl) ?_
  cbv
  (try (simp only [cwn]; cbv))
  repeat' (first
| ((first
| refine td ?_
| refine fd ?_
| (refine q1w (fun z hz => ?_); (simp [oln, Int.max_def, Int.min_def] at hz); subst hz)
| refine rqw ?_
| refine vI ?_
| refine vA ?_
| refine vS ?_
| refine vR ?_
| refine callq w59_7 rfl rfl ?_
| refine callq w122_3 rfl rfl ?_
| refine callq w122_1 rfl rfl ?_
| refine callq w122_2 rfl rfl ?_
| refine callq w85_20 rfl rfl ?_
| refine callq w123_2 rfl rfl ?_
| refine callq w123_3 rfl rfl ?_
| refine callq w85_23 rfl rfl ?_
| refine chpA ?_
| refine unrollq 400 ?_); cbv; (try (simp only [cwn]; cbv)))
| (simp only [cwn]; cbv))
  exact ⟨rfl, rfl, rfl⟩
theorem w60_0 : Good 60 ⟨[.lst none [.int .u8 104, .int .u8 240, .int .u8 0, .int .u8 0, .int .u8 1, .int .u8 2, .int .u8 0, .int .u8 0, .int .u8 0, .int .u8 0, .int .u8 0, .int .u8 0, .int .u8 2, .int .u8 2, .int .u8 0, .int .u8 0, .int .u8 0, .int .u8 0, .int .u8 0, .int .u8 0, .int .u8 1, .int .u8 0, .int .u8 0, .int .u8 0, .int .u8 1, .int .u8 1, .int .u8 126, .int .u8 51, .int .u8 243, .int .u8 18, .int .u8 29, .int .u8 109, .int .u8 1, .int .u8 2, .int .u8 3, .int .u8 10, .int .u8 140, .int .u8 211, .int .u8 44]], none, (.row 1), .any, (.row none 5 [.int .u8 104, .int .u8 240, .int .u8 0, .int .u8 0, .int .u8 1, .int .u8 2, .int .u8 0, .int .u8 0, .int .u8 0, .int .u8 0, .int .u8 0, .int .u8 0, .int .u8 2, .int .u8 2, .int .u8 0, .int .u8 0, .int .u8 0, .int .u8 0, .int .u8 0, .int .u8 0, .int .u8 1, .int .u8 0, .int .u8 0, .int .u8 0, .int .u8 1, .int .u8 1, .int .u8 126, .int .u8 51, .int .u8 243, .int .u8 18, .int .u8 29, .int .u8 109, .int .u8 1, .int .u8 2, .int .u8 3, .int .u8 10, .int .u8 140, .int .u8 211, .int .u8 44, .int .u8 23, .int .u8 63])⟩ := crcAppend_c [104, 240, 0, 0, 1, 2, 0, 0, 0, 0, 0, 0, 2, 2, 0, 0, 0, 0, 0, 0, 1, 0, 0, 0, 1, 1, 126, 51, 243, 18, 29, 109, 1, 2, 3, 10, 140, 211, 44] _ _ (by kernel_rfl) (by decide) (by kernel_rfl)
theorem w18_0 : Good 18 ⟨[.agg [.int .i64 1, .bool true, .bool false, .bool true, .int .u8 0, .int .u16 1, .int .i64 3, .int .u16 0, .int .u64 144115188075855874, .int .i64 3, .int .u16 0, .int .u64 144115188075855873, .int .u32 1, .int .u8 1, .lst none [.int .u8 126, .int .u8 51, .int .u8 243, .int .u8 18, .int .u8 29, .int .u8 109, .int .u8 1, .int .u8 2, .int .u8 3], .lst none [.int .u8 10, .int .u8 140, .int .u8 211, .int .u8 44]]], none, (.tup [.row 1, .int .i64 0]), .any, (.row none 5 [.int .u8 104, .int .u8 240, .int .u8 0, .int .u8 0, .int .u8 1, .int .u8 2, .int .u8 0, .int .u8 0, .int .u8 0, .int .u8 0, .int .u8 0, .int .u8 0, .int .u8 2, .int .u8 2, .int .u8 0, .int .u8 0, .int .u8 0, .int .u8 0, .int .u8 0, .int .u8 0, .int .u8 1, .int .u8 0, .int .u8 0, .int .u8 0, .int .u8 1, .int .u8 1, .int .u8 126, .int .u8 51, .int .u8 243, .int .u8 18, .int .u8 29, .int .u8 109, .int .u8 1, .int .u8 2, .int .u8 3, .int .u8 10, .int .u8 140, .int .u8 211, .int .u8 44, .int .u8 23, .int .u8 63])⟩ := by
  refine Good.of Tryz.func18 rfl (by rfl) (by kernel_rfl) ?_
  cbv
  (try (simp only [cwn]; cbv))
  repeat' (first
| ((first
| refine td ?_
| refine fd ?_
| (refine q1w (fun z hz => ?_); (simp [oln, Int.max_def, Int.min_def] at hz); subst hz)
| refine rqw ?_
| refine vI ?_
| refine vA ?_
| refine vS ?_
| refine vR ?_
| refine callq w59_7 rfl rfl ?_
| refine callq w61_3 rfl rfl ?_
| refine callq w60_0 rfl rfl ?_
| refine chpA ?_
| refine unrollq 400 ?_); cbv; (try (simp only [cwn]; cbv)))
| (simp only [cwn]; cbv))
  exact ⟨rfl, rfl, rfl⟩
theorem w8_0 : Good 8 ⟨[.agg [.lst (some 17) [.agg [.int .u8 1, .int .u8 17, .int .u8 18, .int .u8 19, .int .u8 20, .int .u8 21, .int .u8 22, .int .u8 23, .int .u8 24, .int .u8 25, .int .u8 26, .int .u8 27, .int .u8 28, .int .u8 29, .int .u8 30, .int .u8 31, .int .u8 32]], .int .u32 1, .int .u32 1048576, .int .u32 0, .lst (some 6) []], .int .i64 0, .int .i64 1, .lst none [.lst none [.int .u8 126, .int .u8 51, .int .u8 243, .int .u8 18, .int .u8 29, .int .u8 109, .int .u8 1, .int .u8 2, .int .u8 3]]], none, (.tup [.agg [.lst (some 17) [.agg [.int .u8 1, .int .u8 17, .int .u8 18, .int .u8 19, .int .u8 20, .int .u8 21, .int .u8 22, .int .u8 23, .int .u8 24, .int .u8 25, .int .u8 26, .int .u8 27, .int .u8 28, .int .u8 29, .int .u8 30, .int .u8 31, .int .u8 32]], .int .u32 2, .int .u32 1048576, .int .u32 0, .lst (some 6) []], .row 1, .bool true]), .any, (.row none 30 [.lst none [.int .u8 104, .int .u8 240, .int .u8 0, .int .u8 0, .int .u8 1, .int .u8 2, .int .u8 0, .int .u8 0, .int .u8 0, .int .u8 0, .int .u8 0, .int .u8 0, .int .u8 2, .int .u8 2, .int .u8 0, .int .u8 0, .int .u8 0, .int .u8 0, .int .u8 0, .int .u8 0, .int .u8 1, .int .u8 0, .int .u8 0, .int .u8 0, .int .u8 1, .int .u8 1, .int .u8 126, .int .u8 51, .int .u8 243, .int .u8 18, .int .u8 29, .int .u8 109, .int .u8 1, .int .u8 2, .int .u8 3, .int .u8 10, .int .u8 140, .int .u8 211, .int .u8 44, .int .u8 23, .int .u8 63]])⟩ := by
  refine Good.of Tryz.func8 rfl (by rfl) (by kernel_rfl) ?_
  cbv
  (try (simp only [cwn]; cbv))
  repeat' (first
| ((first
| refine td ?_
| refine fd ?_
| (refine q1w (fun z hz => ?_); (simp [oln, Int.max_def, Int.min_def] at hz); subst hz)
| refine rqw ?_
| refine vI ?_
| refine vA ?_
| refine vS ?_
| refine vR ?_
| refine callq w13_1 rfl rfl ?_
| refine callq w13_0 rfl rfl ?_
| refine callq w49_1 rfl rfl ?_
| refine callq w18_0 rfl rfl ?_
| refine chpA ?_
| refine unrollq 400 ?_); cbv; (try (simp only [cwn]; cbv)))
| (simp only [cwn]; cbv))
  exact ⟨rfl, rfl, rfl⟩
theorem w51_0 : Good 51 ⟨[.lst none [.int .u8 104, .int .u8 240, .int .u8 0, .int .u8 0, .int .u8 1, .int .u8 2, .int .u8 0, .int .u8 0, .int .u8 0, .int .u8 0, .int .u8 0, .int .u8 0, .int .u8 2, .int .u8 2, .int .u8 0, .int .u8 0, .int .u8 0, .int .u8 0, .int .u8 0, .int .u8 0, .int .u8 1, .int .u8 0, .int .u8 0, .int .u8 0, .int .u8 1, .int .u8 1, .int .u8 126, .int .u8 51, .int .u8 243, .int .u8 18, .int .u8 29, .int .u8 109, .int .u8 1, .int .u8 2, .int .u8 3, .int .u8 10, .int .u8 140, .int .u8 211, .int .u8 44, .int .u8 23, .int .u8 63]], none, (.bool true), .any, .no⟩ := check_c [104, 240, 0, 0, 1, 2, 0, 0, 0, 0, 0, 0, 2, 2, 0, 0, 0, 0, 0, 0, 1, 0, 0, 0, 1, 1, 126, 51, 243, 18, 29, 109, 1, 2, 3, 10, 140, 211, 44, 23, 63] _ (by kernel_rfl) (by decide) (by decide) true (by kernel_rfl)
theorem w84_8 : Good 84 ⟨[.lst none [.int .u8 104, .int .u8 240, .int .u8 0, .int .u8 0, .int .u8 1, .int .u8 2, .int .u8 0, .int .u8 0, .int .u8 0, .int .u8 0, .int .u8 0, .int .u8 0, .int .u8 2, .int .u8 2, .int .u8 0, .int .u8 0, .int .u8 0, .int .u8 0, .int .u8 0, .int .u8 0, .int .u8 1, .int .u8 0, .int .u8 0, .int .u8 0, .int .u8 1, .int .u8 1, .int .u8 126, .int .u8 51, .int .u8 243, .int .u8 18, .int .u8 29, .int .u8 109, .int .u8 1, .int .u8 2, .int .u8 3, .int .u8 10, .int .u8 140, .int .u8 211, .int .u8 44], .int .i64 0, .int .i64 1], none, (.tup [.int .u64 104, .bool true]), .any, .no⟩ := by
  refine Good.of Tryz.func84 rfl (by rfl) (by kernel_rfl) ?_
  cbv
  (try (simp only [cwn]; cbv))
  repeat' (first
| ((first
| refine td ?_
| refine fd ?_
| (refine q1w (fun z hz => ?_); (simp [oln, Int.max_def, Int.min_def] at hz); subst hz)
| refine rqw ?_
| refine vI ?_
| refine vA ?_
| refine vS ?_
| refine vR ?_
| refine chpA ?_
| refine unrollq 400 ?_); cbv; (try (simp only [cwn]; cbv)))
| (simp only [cwn]; cbv))
  exact ⟨rfl, rfl, rfl⟩
theorem w114_0 : Good 114 ⟨[.ptr 0 0, .int .i64 1], (some (202, .agg [.lst none [.int .u8 104, .int .u8 240, .int .u8 0, .int .u8 0, .int .u8 1, .int .u8 2, .int .u8 0, .int .u8 0, .int .u8 0, .int .u8 0, .int .u8 0, .int .u8 0, .int .u8 2, .int .u8 2, .int .u8 0, .int .u8 0, .int .u8 0, .int .u8 0, .int .u8 0, .int .u8 0, .int .u8 1, .int .u8 0, .int .u8 0, .int .u8 0, .int .u8 1, .int .u8 1, .int .u8 126, .int .u8 51, .int .u8 243, .int .u8 18, .int .u8 29, .int .u8 109, .int .u8 1, .int .u8 2, .int .u8 3, .int .u8 10, .int .u8 140, .int .u8 211, .int .u8 44], .bool false])), (.int .u64 104), (.agg [.lst none [.int .u8 240, .int .u8 0, .int .u8 0, .int .u8 1, .int .u8 2, .int .u8 0, .int .u8 0, .int .u8 0, .int .u8 0, .int .u8 0, .int .u8 0, .int .u8 2, .int .u8 2, .int .u8 0, .int .u8 0, .int .u8 0, .int .u8 0, .int .u8 0, .int .u8 0, .int .u8 1, .int .u8 0, .int .u8 0, .int .u8 0, .int .u8 1, .int .u8 1, .int .u8 126, .int .u8 51, .int .u8 243, .int .u8 18, .int .u8 29, .int .u8 109, .int .u8 1, .int .u8 2, .int .u8 3, .int .u8 10, .int .u8 140, .int .u8 211, .int .u8 44], .bool false]), .no⟩ := by
  refine Good.of Tryz.func114 rfl (by rfl) (by kernel_rfl) ?_
  cbv
  (try (simp only [cwn]; cbv))
  repeat' (first
| ((first
| refine td ?_
| refine fd ?_
| (refine q1w (fun z hz => ?_); (simp [oln, Int.max_def, Int.min_def] at hz); subst hz)
| refine rqw ?_
| refine vI ?_
| refine vA ?_
| refine vS ?_
| refine vR ?_
| refine callq w84_8 rfl rfl ?_
| refine chpA ?_
| refine unrollq 400 ?_); cbv; (try (simp only [cwn]; cbv)))
| (simp only [cwn]; cbv))
  exact ⟨rfl, rfl, rfl⟩
end Go.Proofs.YtgfpjhddojhfpaaGreat
