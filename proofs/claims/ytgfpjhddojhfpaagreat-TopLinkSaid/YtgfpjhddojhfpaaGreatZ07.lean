/- Texts put together: Cv Sna Snb Snc. -/
import Derived.Test.YtgfpjhddojhfpaaGreatZ03
import Derived.Test.YtgfpjhddojhfpaaGreatZ04
import Derived.Test.YtgfpjhddojhfpaaGreatZ06
namespace Go.Proofs.YtgfpjhddojhfpaaGreat
set_option linter.unusedVariables false
set_option linter.unusedSimpArgs false
theorem vI {n : Int} {l : List SV} {k : Nat × SV → Prop} {y : SV} (g : k (n.toNat, y)) (h : l[n.toNat]? = some y := by rfl) (hn : 0 ≤ n := by decide) : QV (fun q : Nat × SV => n = (q.1 : Int) ∧ l[q.1]? = some q.2) k := qvIdx y h hn g
theorem vR {n : Int} {l : List SV} {k : Nat → Prop} (g : k n.toNat) (h : n.toNat < l.length := by decide) (hn : 0 ≤ n := by decide) : QV (fun q : Nat => n = (q : Int) ∧ q < O.ln l) k := qvRow h hn g
theorem vA {n : Int} {m : Nat} {k : Nat → Prop} (g : k n.toNat) (h : n.toNat < m := by decide) (hn : 0 ≤ n := by decide) : QV (fun q : Nat => n = (q : Int) ∧ q < m) k := qvArr h hn g
theorem vS {l : List SV} {j : Nat} {k : SV → Prop} {y : SV} (g : k y) (h : l[j]? = some y := by rfl) : QV (fun z => l[j]? = some z) k := qvSome y h g
theorem td {p : Unit → Prop} {k : Bool → Prop} [Decidable (p ())] (g : k true) (h : p () := by decide) : QC p k := QC.tt h g
theorem fd {p : Unit → Prop} {k : Bool → Prop} [Decidable (p ())] (g : k false) (h : ¬ p () := by decide) : QC p k := QC.ff h g
end Go.Proofs.YtgfpjhddojhfpaaGreat
namespace Go.Proofs.YtgfpjhddojhfpaaGreat
set_option linter.unusedVariables false
set_option linter.unusedSimpArgs false
set_option maxHeartbeats 40000000
set_option maxRecDepth 100000
theorem w13_0 : Good 13 ⟨[.int .i64 0], none, (.agg [.int .i64 3, .int .u16 0, .int .u64 144115188075855873]), .any, .no⟩ := by
  refine Good.of Tryz.func13 rfl (by rfl) (by kernel_rfl) ?_
  cbv
  (try (simp only [cwn]; cbv))
  repeat' (first
| ((first
| refine td ?_
| refine fd ?_
| (refine q1w (fun z hz => ?_); (simp [oln, Int.max_def, Int.min_def] at hz); subst hz)
| refine rqw ?_
| refine vI ?_
| refine vA ?_
| refine vS ?_
| refine vR ?_
| refine chpA ?_
| refine unrollq 400 ?_); cbv; (try (simp only [cwn]; cbv)))
| (simp only [cwn]; cbv))
  exact ⟨rfl, rfl, rfl⟩
theorem w116_0 : Good 116 ⟨[.agg [.int .i64 3, .int .u16 0, .int .u64 144115188075855873]], none, (.bool true), .any, .no⟩ := by
  refine Good.of Tryz.func116 rfl (by rfl) (by kernel_rfl) ?_
  cbv
  (try (simp only [cwn]; cbv))
  repeat' (first
| ((first
| refine td ?_
| refine fd ?_
| (refine q1w (fun z hz => ?_); (simp [oln, Int.max_def, Int.min_def] at hz); subst hz)
| refine rqw ?_
| refine vI ?_
| refine vA ?_
| refine vS ?_
| refine vR ?_
| refine chpA ?_
| refine unrollq 400 ?_); cbv; (try (simp only [cwn]; cbv)))
| (simp only [cwn]; cbv))
  exact ⟨rfl, rfl, rfl⟩
theorem w54_0 : Good 54 ⟨[.agg [.int .i64 3, .int .u16 0, .int .u64 144115188075855873]], none, (.bool true), .any, .no⟩ := by
  refine Good.of Tryz.func54 rfl (by rfl) (by kernel_rfl) ?_
  cbv
  (try (simp only [cwn]; cbv))
  repeat' (first
| ((first
| refine td ?_
| refine fd ?_
| (refine q1w (fun z hz => ?_); (simp [oln, Int.max_def, Int.min_def] at hz); subst hz)
| refine rqw ?_
| refine vI ?_
| refine vA ?_
| refine vS ?_
| refine vR ?_
| refine callq w116_0 rfl rfl ?_
| refine chpA ?_
| refine unrollq 400 ?_); cbv; (try (simp only [cwn]; cbv)))
| (simp only [cwn]; cbv))
  exact ⟨rfl, rfl, rfl⟩
theorem w127_0 : Good 127 ⟨[.agg [.int .i64 3, .int .u16 0, .int .u64 144115188075855873]], none, (.tup [.int .u64 1, .bool true]), .any, .no⟩ := by
  refine Good.of Tryz.func127 rfl (by rfl) (by kernel_rfl) ?_
  cbv
  (try (simp only [cwn]; cbv))
  repeat' (first
| ((first
| refine td ?_
| refine fd ?_
| (refine q1w (fun z hz => ?_); (simp [oln, Int.max_def, Int.min_def] at hz); subst hz)
| refine rqw ?_
| refine vI ?_
| refine vA ?_
| refine vS ?_
| refine vR ?_
| refine callq w54_0 rfl rfl ?_
| refine chpA ?_
| refine unrollq 400 ?_); cbv; (try (simp only [cwn]; cbv)))
| (simp only [cwn]; cbv))
  exact ⟨rfl, rfl, rfl⟩
theorem w130_0 : Good 130 ⟨[.int .u64 18338657682652659712, .int .u64 1], none, (.agg [.int .u8 254, .int .u8 128, .int .u8 0, .int .u8 0, .int .u8 0, .int .u8 0, .int .u8 0, .int .u8 0, .int .u8 0, .int .u8 0, .int .u8 0, .int .u8 0, .int .u8 0, .int .u8 0, .int .u8 0, .int .u8 1]), .any, .no⟩ := by
  refine Good.of Tryz.func130 rfl (by rfl) (by kernel_rfl) ?_
  cbv
  (try (simp only [cwn]; cbv))
  repeat' (first
| ((first
| refine td ?_
| refine fd ?_
| (refine q1w (fun z hz => ?_); (simp [oln, Int.max_def, Int.min_def] at hz); subst hz)
| refine rqw ?_
| refine vI ?_
| refine vA ?_
| refine vS ?_
| refine vR ?_
| refine chpA ?_
| refine unrollq 400 ?_); cbv; (try (simp only [cwn]; cbv)))
| (simp only [cwn]; cbv))
  exact ⟨rfl, rfl, rfl⟩
theorem w124_0 : Good 124 ⟨[.agg [.int .i64 3, .int .u16 0, .int .u64 144115188075855873]], none, (.tup [.agg [.int .u8 254, .int .u8 128, .int .u8 0, .int .u8 0, .int .u8 0, .int .u8 0, .int .u8 0, .int .u8 0, .int .u8 0, .int .u8 0, .int .u8 0, .int .u8 0, .int .u8 0, .int .u8 0, .int .u8 0, .int .u8 1], .bool true]), .any, .no⟩ := by
  refine Good.of Tryz.func124 rfl (by rfl) (by kernel_rfl) ?_
  cbv
  (try (simp only [cwn]; cbv))
  repeat' (first
| ((first
| refine td ?_
| refine fd ?_
| (refine q1w (fun z hz => ?_); (simp [oln, Int.max_def, Int.min_def] at hz); subst hz)
| refine rqw ?_
| refine vI ?_
| refine vA ?_
| refine vS ?_
| refine vR ?_
| refine callq w127_0 rfl rfl ?_
| refine callq w130_0 rfl rfl ?_
| refine chpA ?_
| refine unrollq 400 ?_); cbv; (try (simp only [cwn]; cbv)))
| (simp only [cwn]; cbv))
  exact ⟨rfl, rfl, rfl⟩
theorem w13_1 : Good 13 ⟨[.int .i64 1], none, (.agg [.int .i64 3, .int .u16 0, .int .u64 144115188075855874]), .any, .no⟩ := by
  refine Good.of Tryz.func13 rfl (by rfl) (by kernel_rfl) ?_
  cbv
  (try (simp only [cwn]; cbv))
  repeat' (first
| ((first
| refine td ?_
| refine fd ?_
| (refine q1w (fun z hz => ?_); (simp [oln, Int.max_def, Int.min_def] at hz); subst hz)
| refine rqw ?_
| refine vI ?_
| refine vA ?_
| refine vS ?_
| refine vR ?_
| refine chpA ?_
| refine unrollq 400 ?_); cbv; (try (simp only [cwn]; cbv)))
| (simp only [cwn]; cbv))
  exact ⟨rfl, rfl, rfl⟩
theorem w116_1 : Good 116 ⟨[.agg [.int .i64 3, .int .u16 0, .int .u64 144115188075855874]], none, (.bool true), .any, .no⟩ := by
  refine Good.of Tryz.func116 rfl (by rfl) (by kernel_rfl) ?_
  cbv
  (try (simp only [cwn]; cbv))
  repeat' (first
| ((first
| refine td ?_
| refine fd ?_
| (refine q1w (fun z hz => ?_); (simp [oln, Int.max_def, Int.min_def] at hz); subst hz)
| refine rqw ?_
| refine vI ?_
| refine vA ?_
| refine vS ?_
| refine vR ?_
| refine chpA ?_
| refine unrollq 400 ?_); cbv; (try (simp only [cwn]; cbv)))
| (simp only [cwn]; cbv))
  exact ⟨rfl, rfl, rfl⟩
theorem w54_1 : Good 54 ⟨[.agg [.int .i64 3, .int .u16 0, .int .u64 144115188075855874]], none, (.bool true), .any, .no⟩ := by
  refine Good.of Tryz.func54 rfl (by rfl) (by kernel_rfl) ?_
  cbv
  (try (simp only [cwn]; cbv))
  repeat' (first
| ((first
| refine td ?_
| refine fd ?_
| (refine q1w (fun z hz => ?_); (simp [oln, Int.max_def, Int.min_def] at hz); subst hz)
| refine rqw ?_
| refine vI ?_
| refine vA ?_
| refine vS ?_
| refine vR ?_
| refine callq w116_1 rfl rfl ?_
| refine chpA ?_
| refine unrollq 400 ?_); cbv; (try (simp only [cwn]; cbv)))
| (simp only [cwn]; cbv))
  exact ⟨rfl, rfl, rfl⟩
theorem w127_1 : Good 127 ⟨[.agg [.int .i64 3, .int .u16 0, .int .u64 144115188075855874]], none, (.tup [.int .u64 2, .bool true]), .any, .no⟩ := by
  refine Good.of Tryz.func127 rfl (by rfl) (by kernel_rfl) ?_
  cbv
  (try (simp only [cwn]; cbv))
  repeat' (first
| ((first
| refine td ?_
| refine fd ?_
| (refine q1w (fun z hz => ?_); (simp [oln, Int.max_def, Int.min_def] at hz); subst hz)
| refine rqw ?_
| refine vI ?_
| refine vA ?_
| refine vS ?_
| refine vR ?_
| refine callq w54_1 rfl rfl ?_
| refine chpA ?_
| refine unrollq 400 ?_); cbv; (try (simp only [cwn]; cbv)))
| (simp only [cwn]; cbv))
  exact ⟨rfl, rfl, rfl⟩
theorem w130_1 : Good 130 ⟨[.int .u64 18338657682652659712, .int .u64 2], none, (.agg [.int .u8 254, .int .u8 128, .int .u8 0, .int .u8 0, .int .u8 0, .int .u8 0, .int .u8 0, .int .u8 0, .int .u8 0, .int .u8 0, .int .u8 0, .int .u8 0, .int .u8 0, .int .u8 0, .int .u8 0, .int .u8 2]), .any, .no⟩ := by
  refine Good.of Tryz.func130 rfl (by rfl) (by kernel_rfl) ?_
  cbv
  (try (simp only [cwn]; cbv))
  repeat' (first
| ((first
| refine td ?_
| refine fd ?_
| (refine q1w (fun z hz => ?_); (simp [oln, Int.max_def, Int.min_def] at hz); subst hz)
| refine rqw ?_
| refine vI ?_
| refine vA ?_
| refine vS ?_
| refine vR ?_
| refine chpA ?_
| refine unrollq 400 ?_); cbv; (try (simp only [cwn]; cbv)))
| (simp only [cwn]; cbv))
  exact ⟨rfl, rfl, rfl⟩
theorem w124_1 : Good 124 ⟨[.agg [.int .i64 3, .int .u16 0, .int .u64 144115188075855874]], none, (.tup [.agg [.int .u8 254, .int .u8 128, .int .u8 0, .int .u8 0, .int .u8 0, .int .u8 0, .int .u8 0, .int .u8 0, .int .u8 0, .int .u8 0, .int .u8 0, .int .u8 0, .int .u8 0, .int .u8 0, .int .u8 0, .int .u8 2], .bool true]), .any, .no⟩ := by
  refine Good.of Tryz.func124 rfl (by rfl) (by kernel_rfl) ?_
  cbv
  (try (simp only [cwn]; cbv))
  repeat' (first
| ((first
| refine td ?_
| refine fd ?_
| (refine q1w (fun z hz => ?_); (simp [oln, Int.max_def, Int.min_def] at hz); subst hz)
| refine rqw ?_
| refine vI ?_
| refine vA ?_
| refine vS ?_
| refine vR ?_
| refine callq w127_1 rfl rfl ?_
| refine callq w130_1 rfl rfl ?_
| refine chpA ?_
| refine unrollq 400 ?_); cbv; (try (simp only [cwn]; cbv)))
| (simp only [cwn]; cbv))
  exact ⟨rfl, rfl, rfl⟩
theorem w62_0 : Good 62 ⟨[.int .i64 0, .int .i64 1, .lst none [.int .u8 1, .int .u8 2, .int .u8 3]], none, (.agg [.int .u8 0, .int .u32 0, .int .u8 17, .int .u8 64, .int .u8 254, .int .u8 128, .int .u8 0, .int .u8 0, .int .u8 0, .int .u8 0, .int .u8 0, .int .u8 0, .int .u8 0, .int .u8 0, .int .u8 0, .int .u8 0, .int .u8 0, .int .u8 0, .int .u8 0, .int .u8 1, .int .u8 254, .int .u8 128, .int .u8 0, .int .u8 0, .int .u8 0, .int .u8 0, .int .u8 0, .int .u8 0, .int .u8 0, .int .u8 0, .int .u8 0, .int .u8 0, .int .u8 0, .int .u8 0, .int .u8 0, .int .u8 2, .int .u16 61617, .int .u16 61618, .lst none [.int .u8 1, .int .u8 2, .int .u8 3]]), .any, .no⟩ := by
  refine Good.of Tryz.func62 rfl (by rfl) (by kernel_rfl) ?_
  cbv
  (try (simp only [cwn]; cbv))
  repeat' (first
| ((first
| refine td ?_
| refine fd ?_
| (refine q1w (fun z hz => ?_); (simp [oln, Int.max_def, Int.min_def] at hz); subst hz)
| refine rqw ?_
| refine vI ?_
| refine vA ?_
| refine vS ?_
| refine vR ?_
| refine callq w13_0 rfl rfl ?_
| refine callq w124_0 rfl rfl ?_
| refine callq w13_1 rfl rfl ?_
| refine callq w124_1 rfl rfl ?_
| refine chpA ?_
| refine unrollq 400 ?_); cbv; (try (simp only [cwn]; cbv)))
| (simp only [cwn]; cbv))
  exact ⟨rfl, rfl, rfl⟩
theorem w136_0 : Good 136 ⟨[.agg [.int .u8 254, .int .u8 128, .int .u8 0, .int .u8 0, .int .u8 0, .int .u8 0, .int .u8 0, .int .u8 0, .int .u8 0, .int .u8 0, .int .u8 0, .int .u8 0, .int .u8 0, .int .u8 0, .int .u8 0, .int .u8 1]], none, (.bool false), .any, .no⟩ := by
  refine Good.of Tryz.func136 rfl (by rfl) (by kernel_rfl) ?_
  cbv
  (try (simp only [cwn]; cbv))
  repeat' (first
| ((first
| refine td ?_
| refine fd ?_
| (refine q1w (fun z hz => ?_); (simp [oln, Int.max_def, Int.min_def] at hz); subst hz)
| refine rqw ?_
| refine vI ?_
| refine vA ?_
| refine vS ?_
| refine vR ?_
| refine chpA ?_
| refine unrollq 400 ?_); cbv; (try (simp only [cwn]; cbv)))
| (simp only [cwn]; cbv))
  exact ⟨rfl, rfl, rfl⟩
theorem w89_0 : Good 89 ⟨[.agg [.int .u8 0, .int .u32 0, .int .u8 17, .int .u8 64, .int .u8 254, .int .u8 128, .int .u8 0, .int .u8 0, .int .u8 0, .int .u8 0, .int .u8 0, .int .u8 0, .int .u8 0, .int .u8 0, .int .u8 0, .int .u8 0, .int .u8 0, .int .u8 0, .int .u8 0, .int .u8 1, .int .u8 254, .int .u8 128, .int .u8 0, .int .u8 0, .int .u8 0, .int .u8 0, .int .u8 0, .int .u8 0, .int .u8 0, .int .u8 0, .int .u8 0, .int .u8 0, .int .u8 0, .int .u8 0, .int .u8 0, .int .u8 2, .int .u16 61617, .int .u16 61618, .lst none [.int .u8 1, .int .u8 2, .int .u8 3]]], none, (.int .i64 51), .any, .no⟩ := by
  refine Good.of Tryz.func89 rfl (by rfl) (by kernel_rfl) ?_
  cbv
  (try (simp only [cwn]; cbv))
  repeat' (first
| ((first
| refine td ?_
| refine fd ?_
| (refine q1w (fun z hz => ?_); (simp [oln, Int.max_def, Int.min_def] at hz); subst hz)
| refine rqw ?_
| refine vI ?_
| refine vA ?_
| refine vS ?_
| refine vR ?_
| refine chpA ?_
| refine unrollq 400 ?_); cbv; (try (simp only [cwn]; cbv)))
| (simp only [cwn]; cbv))
  exact ⟨rfl, rfl, rfl⟩
theorem w132_0 : Good 132 ⟨[.agg [.int .u8 0, .int .u32 0, .int .u8 17, .int .u8 64, .int .u8 254, .int .u8 128, .int .u8 0, .int .u8 0, .int .u8 0, .int .u8 0, .int .u8 0, .int .u8 0, .int .u8 0, .int .u8 0, .int .u8 0, .int .u8 0, .int .u8 0, .int .u8 0, .int .u8 0, .int .u8 1, .int .u8 254, .int .u8 128, .int .u8 0, .int .u8 0, .int .u8 0, .int .u8 0, .int .u8 0, .int .u8 0, .int .u8 0, .int .u8 0, .int .u8 0, .int .u8 0, .int .u8 0, .int .u8 0, .int .u8 0, .int .u8 2, .int .u16 61617, .int .u16 61618, .lst none [.int .u8 1, .int .u8 2, .int .u8 3]]], none, (.bool true), .any, .no⟩ := by
  refine Good.of Tryz.func132 rfl (by rfl) (by kernel_rfl) ?_
  cbv
  (try (simp only [cwn]; cbv))
  repeat' (first
| ((first
| refine td ?_
| refine fd ?_
| (refine q1w (fun z hz => ?_); (simp [oln, Int.max_def, Int.min_def] at hz); subst hz)
| refine rqw ?_
| refine vI ?_
| refine vA ?_
| refine vS ?_
| refine vR ?_
| refine callq w136_0 rfl rfl ?_
| refine callq w89_0 rfl rfl ?_
| refine chpA ?_
| refine unrollq 400 ?_); cbv; (try (simp only [cwn]; cbv)))
| (simp only [cwn]; cbv))
  exact ⟨rfl, rfl, rfl⟩
theorem w159_0 : Good 159 ⟨[.agg [.int .i64 3, .int .u16 0, .int .u64 144115188075855873]], none, (.bool true), .any, .no⟩ := by
  refine Good.of Tryz.func159 rfl (by rfl) (by kernel_rfl) ?_
  cbv
  (try (simp only [cwn]; cbv))
  repeat' (first
| ((first
| refine td ?_
| refine fd ?_
| (refine q1w (fun z hz => ?_); (simp [oln, Int.max_def, Int.min_def] at hz); subst hz)
| refine rqw ?_
| refine vI ?_
| refine vA ?_
| refine vS ?_
| refine vR ?_
| refine chpA ?_
| refine unrollq 400 ?_); cbv; (try (simp only [cwn]; cbv)))
| (simp only [cwn]; cbv))
  exact ⟨rfl, rfl, rfl⟩
theorem w159_1 : Good 159 ⟨[.agg [.int .i64 3, .int .u16 0, .int .u64 144115188075855874]], none, (.bool true), .any, .no⟩ := by
  refine Good.of Tryz.func159 rfl (by rfl) (by kernel_rfl) ?_
  cbv
  (try (simp only [cwn]; cbv))
  repeat' (first
| ((first
| refine td ?_
| refine fd ?_
| (refine q1w (fun z hz => ?_); (simp [oln, Int.max_def, Int.min_def] at hz); subst hz)
| refine rqw ?_
| refine vI ?_
| refine vA ?_
| refine vS ?_
| refine vR ?_
| refine chpA ?_
| refine unrollq 400 ?_); cbv; (try (simp only [cwn]; cbv)))
| (simp only [cwn]; cbv))
  exact ⟨rfl, rfl, rfl⟩
theorem w178_0 : Good 178 ⟨[.lst (some 20) []], none, (.bool true), .any, .no⟩ := by
  refine Good.of Tryz.func178 rfl (by rfl) (by kernel_rfl) ?_
  cbv
  (try (simp only [cwn]; cbv))
  repeat' (first
| ((first
| refine td ?_
| refine fd ?_
| (refine q1w (fun z hz => ?_); (simp [oln, Int.max_def, Int.min_def] at hz); subst hz)
| refine rqw ?_
| refine vI ?_
| refine vA ?_
| refine vS ?_
| refine vR ?_
| refine chpA ?_
| refine unrollq 400 ?_); cbv; (try (simp only [cwn]; cbv)))
| (simp only [cwn]; cbv))
  exact ⟨rfl, rfl, rfl⟩
theorem w133_0 : Good 133 ⟨[.agg [.int .i64 3, .int .u16 0, .int .u64 144115188075855873], .agg [.int .i64 3, .int .u16 0, .int .u64 144115188075855874], .lst (some 20) [], .int .i64 0], none, (.int .i64 0), .any, .no⟩ := by
  refine Good.of Tryz.func133 rfl (by rfl) (by kernel_rfl) ?_
  cbv
  (try (simp only [cwn]; cbv))
  repeat' (first
| ((first
| refine td ?_
| refine fd ?_
| (refine q1w (fun z hz => ?_); (simp [oln, Int.max_def, Int.min_def] at hz); subst hz)
| refine rqw ?_
| refine vI ?_
| refine vA ?_
| refine vS ?_
| refine vR ?_
| refine callq w159_0 rfl rfl ?_
| refine callq w159_1 rfl rfl ?_
| refine callq w178_0 rfl rfl ?_
| refine chpA ?_
| refine unrollq 400 ?_); cbv; (try (simp only [cwn]; cbv)))
| (simp only [cwn]; cbv))
  exact ⟨rfl, rfl, rfl⟩
end Go.Proofs.YtgfpjhddojhfpaaGreat
namespace Go.Proofs.YtgfpjhddojhfpaaGreat
set_option linter.unusedVariables false
set_option linter.unusedSimpArgs false
set_option maxHeartbeats 40000000
set_option maxRecDepth 100000
theorem w138_0 : Good 138 ⟨[.bool true, .int .i64 4], none, (.int .i64 4), .any, .no⟩ := by
  refine Good.of Tryz.func138 rfl (by rfl) (by kernel_rfl) ?_
  cbv
  (try (simp only [cwn]; cbv))
  repeat' (first
| ((first
| refine td ?_
| refine fd ?_
| (refine q1w (fun z hz => ?_); (simp [oln, Int.max_def, Int.min_def] at hz); subst hz)
| refine rqw ?_
| refine vI ?_
| refine vA ?_
| refine vS ?_
| refine vR ?_
| refine chpA ?_
| refine unrollq 400 ?_); cbv; (try (simp only [cwn]; cbv)))
| (simp only [cwn]; cbv))
  exact ⟨rfl, rfl, rfl⟩
theorem w134_0 : Good 134 ⟨[.agg [.int .u8 0, .int .u32 0, .int .u8 17, .int .u8 64, .int .u8 254, .int .u8 128, .int .u8 0, .int .u8 0, .int .u8 0, .int .u8 0, .int .u8 0, .int .u8 0, .int .u8 0, .int .u8 0, .int .u8 0, .int .u8 0, .int .u8 0, .int .u8 0, .int .u8 0, .int .u8 1, .int .u8 254, .int .u8 128, .int .u8 0, .int .u8 0, .int .u8 0, .int .u8 0, .int .u8 0, .int .u8 0, .int .u8 0, .int .u8 0, .int .u8 0, .int .u8 0, .int .u8 0, .int .u8 0, .int .u8 0, .int .u8 2, .int .u16 61617, .int .u16 61618, .lst none [.int .u8 1, .int .u8 2, .int .u8 3]]], none, (.tup [.int .i64 126, .lst none []]), .any, .no⟩ := by
  refine Good.of Tryz.func134 rfl (by rfl) (by kernel_rfl) ?_
  cbv
  (try (simp only [cwn]; cbv))
  repeat' (first
| ((first
| refine td ?_
| refine fd ?_
| (refine q1w (fun z hz => ?_); (simp [oln, Int.max_def, Int.min_def] at hz); subst hz)
| refine rqw ?_
| refine vI ?_
| refine vA ?_
| refine vS ?_
| refine vR ?_
| refine callq w138_0 rfl rfl ?_
| refine chpA ?_
| refine unrollq 400 ?_); cbv; (try (simp only [cwn]; cbv)))
| (simp only [cwn]; cbv))
  exact ⟨rfl, rfl, rfl⟩
theorem w84_0 : Good 84 ⟨[.lst none [.int .u8 254, .int .u8 128, .int .u8 0, .int .u8 0, .int .u8 0, .int .u8 0, .int .u8 0, .int .u8 0, .int .u8 0, .int .u8 0, .int .u8 0, .int .u8 0, .int .u8 0, .int .u8 0, .int .u8 0, .int .u8 1], .int .i64 0, .int .i64 8], none, (.tup [.int .u64 18338657682652659712, .bool true]), .any, .no⟩ := by
  refine Good.of Tryz.func84 rfl (by rfl) (by kernel_rfl) ?_
  cbv
  (try (simp only [cwn]; cbv))
  repeat' (first
| ((first
| refine td ?_
| refine fd ?_
| (refine q1w (fun z hz => ?_); (simp [oln, Int.max_def, Int.min_def] at hz); subst hz)
| refine rqw ?_
| refine vI ?_
| refine vA ?_
| refine vS ?_
| refine vR ?_
| refine chpA ?_
| refine unrollq 400 ?_); cbv; (try (simp only [cwn]; cbv)))
| (simp only [cwn]; cbv))
  exact ⟨rfl, rfl, rfl⟩
theorem w84_1 : Good 84 ⟨[.lst none [.int .u8 254, .int .u8 128, .int .u8 0, .int .u8 0, .int .u8 0, .int .u8 0, .int .u8 0, .int .u8 0, .int .u8 0, .int .u8 0, .int .u8 0, .int .u8 0, .int .u8 0, .int .u8 0, .int .u8 0, .int .u8 1], .int .i64 8, .int .i64 8], none, (.tup [.int .u64 1, .bool true]), .any, .no⟩ := by
  refine Good.of Tryz.func84 rfl (by rfl) (by kernel_rfl) ?_
  cbv
  (try (simp only [cwn]; cbv))
  repeat' (first
| ((first
| refine td ?_
| refine fd ?_
| (refine q1w (fun z hz => ?_); (simp [oln, Int.max_def, Int.min_def] at hz); subst hz)
| refine rqw ?_
| refine vI ?_
| refine vA ?_
| refine vS ?_
| refine vR ?_
| refine chpA ?_
| refine unrollq 400 ?_); cbv; (try (simp only [cwn]; cbv)))
| (simp only [cwn]; cbv))
  exact ⟨rfl, rfl, rfl⟩
theorem w179_0 : Good 179 ⟨[.agg [.int .u8 254, .int .u8 128, .int .u8 0, .int .u8 0, .int .u8 0, .int .u8 0, .int .u8 0, .int .u8 0, .int .u8 0, .int .u8 0, .int .u8 0, .int .u8 0, .int .u8 0, .int .u8 0, .int .u8 0, .int .u8 1]], none, (.tup [.int .u64 18338657682652659712, .int .u64 1]), .any, .no⟩ := by
  refine Good.of Tryz.func179 rfl (by rfl) (by kernel_rfl) ?_
  cbv
  (try (simp only [cwn]; cbv))
  repeat' (first
| ((first
| refine td ?_
| refine fd ?_
| (refine q1w (fun z hz => ?_); (simp [oln, Int.max_def, Int.min_def] at hz); subst hz)
| refine rqw ?_
| refine vI ?_
| refine vA ?_
| refine vS ?_
| refine vR ?_
| refine callq w84_0 rfl rfl ?_
| refine callq w84_1 rfl rfl ?_
| refine chpA ?_
| refine unrollq 400 ?_); cbv; (try (simp only [cwn]; cbv)))
| (simp only [cwn]; cbv))
  exact ⟨rfl, rfl, rfl⟩
theorem w182_0 : Good 182 ⟨[], none, (.agg [.int .u8 254, .int .u8 128, .int .u8 0, .int .u8 0, .int .u8 0, .int .u8 0, .int .u8 0, .int .u8 0, .int .u8 0, .int .u8 0, .int .u8 0, .int .u8 0, .int .u8 0, .int .u8 0, .int .u8 0, .int .u8 0, .int .i64 64]), .any, .no⟩ := by
  refine Good.of Tryz.func182 rfl (by rfl) (by kernel_rfl) ?_
  cbv
  (try (simp only [cwn]; cbv))
  repeat' (first
| ((first
| refine td ?_
| refine fd ?_
| (refine q1w (fun z hz => ?_); (simp [oln, Int.max_def, Int.min_def] at hz); subst hz)
| refine rqw ?_
| refine vI ?_
| refine vA ?_
| refine vS ?_
| refine vR ?_
| refine chpA ?_
| refine unrollq 400 ?_); cbv; (try (simp only [cwn]; cbv)))
| (simp only [cwn]; cbv))
  exact ⟨rfl, rfl, rfl⟩
theorem w210_0 : Good 210 ⟨[.agg [.int .u8 254, .int .u8 128, .int .u8 0, .int .u8 0, .int .u8 0, .int .u8 0, .int .u8 0, .int .u8 0, .int .u8 0, .int .u8 0, .int .u8 0, .int .u8 0, .int .u8 0, .int .u8 0, .int .u8 0, .int .u8 0], .int .i64 64], none, (.agg [.int .u8 254, .int .u8 128, .int .u8 0, .int .u8 0, .int .u8 0, .int .u8 0, .int .u8 0, .int .u8 0, .int .u8 0, .int .u8 0, .int .u8 0, .int .u8 0, .int .u8 0, .int .u8 0, .int .u8 0, .int .u8 0, .int .i64 64]), .any, .no⟩ := by
  refine Good.of Tryz.func210 rfl (by rfl) (by kernel_rfl) ?_
  cbv
  (try (simp only [cwn]; cbv))
  repeat' (first
| ((first
| refine td ?_
| refine fd ?_
| (refine q1w (fun z hz => ?_); (simp [oln, Int.max_def, Int.min_def] at hz); subst hz)
| refine rqw ?_
| refine vI ?_
| refine vA ?_
| refine vS ?_
| refine vR ?_
| refine chpA ?_
| refine unrollq 400 ?_); cbv; (try (simp only [cwn]; cbv)))
| (simp only [cwn]; cbv))
  exact ⟨rfl, rfl, rfl⟩
theorem w208_0 : Good 208 ⟨[.agg [.int .u8 254, .int .u8 128, .int .u8 0, .int .u8 0, .int .u8 0, .int .u8 0, .int .u8 0, .int .u8 0, .int .u8 0, .int .u8 0, .int .u8 0, .int .u8 0, .int .u8 0, .int .u8 0, .int .u8 0, .int .u8 0, .int .i64 64]], none, (.bool true), .any, .no⟩ := by
  refine Good.of Tryz.func208 rfl (by rfl) (by kernel_rfl) ?_
  cbv
  (try (simp only [cwn]; cbv))
  repeat' (first
| ((first
| refine td ?_
| refine fd ?_
| (refine q1w (fun z hz => ?_); (simp [oln, Int.max_def, Int.min_def] at hz); subst hz)
| refine rqw ?_
| refine vI ?_
| refine vA ?_
| refine vS ?_
| refine vR ?_
| refine callq w210_0 rfl rfl ?_
| refine chpA ?_
| refine unrollq 400 ?_); cbv; (try (simp only [cwn]; cbv)))
| (simp only [cwn]; cbv))
  exact ⟨rfl, rfl, rfl⟩
theorem w85_0 : Good 85 ⟨[.lst none [], .int .u64 1, .int .i64 8], none, (.row 1), .any, (.row none 5 [.int .u8 0, .int .u8 0, .int .u8 0, .int .u8 0, .int .u8 0, .int .u8 0, .int .u8 0, .int .u8 1])⟩ := append_c [] _ _ 1 8 8 (by kernel_rfl) rfl (by decide) (by decide) (by decide) (by kernel_rfl)
theorem w181_0 : Good 181 ⟨[.agg [.int .u8 254, .int .u8 128, .int .u8 0, .int .u8 0, .int .u8 0, .int .u8 0, .int .u8 0, .int .u8 0, .int .u8 0, .int .u8 0, .int .u8 0, .int .u8 0, .int .u8 0, .int .u8 0, .int .u8 0, .int .u8 0, .int .i64 64], .int .u64 1], none, (.tup [.agg [.int .u8 254, .int .u8 128, .int .u8 0, .int .u8 0, .int .u8 0, .int .u8 0, .int .u8 0, .int .u8 0, .int .u8 0, .int .u8 0, .int .u8 0, .int .u8 0, .int .u8 0, .int .u8 0, .int .u8 0, .int .u8 1], .bool true]), .any, .no⟩ := by
  refine Good.of Tryz.func181 rfl (by rfl) (by kernel_rfl) ?_
  cbv
  (try (simp only [cwn]; cbv))
  repeat' (first
| ((first
| refine td ?_
| refine fd ?_
| (refine q1w (fun z hz => ?_); (simp [oln, Int.max_def, Int.min_def] at hz); subst hz)
| refine rqw ?_
| refine vI ?_
| refine vA ?_
| refine vS ?_
| refine vR ?_
| refine callq w208_0 rfl rfl ?_
| refine callq w85_0 rfl rfl ?_
| refine chpA ?_
| refine unrollq 400 ?_); cbv; (try (simp only [cwn]; cbv)))
| (simp only [cwn]; cbv))
  exact ⟨rfl, rfl, rfl⟩
theorem w180_0 : Good 180 ⟨[.agg [.int .u8 254, .int .u8 128, .int .u8 0, .int .u8 0, .int .u8 0, .int .u8 0, .int .u8 0, .int .u8 0, .int .u8 0, .int .u8 0, .int .u8 0, .int .u8 0, .int .u8 0, .int .u8 0, .int .u8 0, .int .u8 0, .int .i64 64], .eptr none (.int .u64 1) 0, .eptr (some 16) (.agg [.int .u8 254, .int .u8 128, .int .u8 0, .int .u8 0, .int .u8 0, .int .u8 0, .int .u8 0, .int .u8 0, .int .u8 0, .int .u8 0, .int .u8 0, .int .u8 0, .int .u8 0, .int .u8 0, .int .u8 0, .int .u8 1]) 0], none, (.bool true), .any, .no⟩ := by
  refine Good.of Tryz.func180 rfl (by rfl) (by kernel_rfl) ?_
  cbv
  (try (simp only [cwn]; cbv))
  repeat' (first
| ((first
| refine td ?_
| refine fd ?_
| (refine q1w (fun z hz => ?_); (simp [oln, Int.max_def, Int.min_def] at hz); subst hz)
| refine rqw ?_
| refine vI ?_
| refine vA ?_
| refine vS ?_
| refine vR ?_
| refine callq w181_0 rfl rfl ?_
| refine chpA ?_
| refine unrollq 400 ?_); cbv; (try (simp only [cwn]; cbv)))
| (simp only [cwn]; cbv))
  exact ⟨rfl, rfl, rfl⟩
theorem w192_0 : Good 192 ⟨[.int .i64 0], none, (.bool true), .any, .no⟩ := by
  refine Good.of Tryz.func192 rfl (by rfl) (by kernel_rfl) ?_
  cbv
  (try (simp only [cwn]; cbv))
  repeat' (first
| ((first
| refine td ?_
| refine fd ?_
| (refine q1w (fun z hz => ?_); (simp [oln, Int.max_def, Int.min_def] at hz); subst hz)
| refine rqw ?_
| refine vI ?_
| refine vA ?_
| refine vS ?_
| refine vR ?_
| refine chpA ?_
| refine unrollq 400 ?_); cbv; (try (simp only [cwn]; cbv)))
| (simp only [cwn]; cbv))
  exact ⟨rfl, rfl, rfl⟩
theorem w183_0 : Good 183 ⟨[.lst (some 20) [], .agg [.int .u8 254, .int .u8 128, .int .u8 0, .int .u8 0, .int .u8 0, .int .u8 0, .int .u8 0, .int .u8 0, .int .u8 0, .int .u8 0, .int .u8 0, .int .u8 0, .int .u8 0, .int .u8 0, .int .u8 0, .int .u8 1], .int .i64 0], none, (.tup [.agg [.int .i64 0, .int .u8 0, .int .u8 0, .int .u8 0, .int .u8 0, .int .u8 0, .int .u8 0, .int .u8 0, .int .u8 0, .int .u8 0, .int .u8 0, .int .u8 0, .int .u8 0, .int .u8 0, .int .u8 0, .int .u8 0, .int .u8 0, .int .i64 0, .bool false, .int .i64 0], .bool false]), .any, .no⟩ := by
  refine Good.of Tryz.func183 rfl (by rfl) (by kernel_rfl) ?_
  cbv
  (try (simp only [cwn]; cbv))
  repeat' (first
| ((first
| refine td ?_
| refine fd ?_
| (refine q1w (fun z hz => ?_); (simp [oln, Int.max_def, Int.min_def] at hz); subst hz)
| refine rqw ?_
| refine vI ?_
| refine vA ?_
| refine vS ?_
| refine vR ?_
| refine callq w178_0 rfl rfl ?_
| refine callq w192_0 rfl rfl ?_
| refine chpA ?_
| refine unrollq 400 ?_); cbv; (try (simp only [cwn]; cbv)))
| (simp only [cwn]; cbv))
  exact ⟨rfl, rfl, rfl⟩
theorem w186_0 : Good 186 ⟨[.agg [.int .i64 3, .int .u16 0, .int .u64 144115188075855873]], none, (.tup [.int .u64 1, .bool true]), .any, .no⟩ := by
  refine Good.of Tryz.func186 rfl (by rfl) (by kernel_rfl) ?_
  cbv
  (try (simp only [cwn]; cbv))
  repeat' (first
| ((first
| refine td ?_
| refine fd ?_
| (refine q1w (fun z hz => ?_); (simp [oln, Int.max_def, Int.min_def] at hz); subst hz)
| refine rqw ?_
| refine vI ?_
| refine vA ?_
| refine vS ?_
| refine vR ?_
| refine callq w159_0 rfl rfl ?_
| refine chpA ?_
| refine unrollq 400 ?_); cbv; (try (simp only [cwn]; cbv)))
| (simp only [cwn]; cbv))
  exact ⟨rfl, rfl, rfl⟩
theorem w185_0 : Good 185 ⟨[.int .i64 3, .lst none [], .eptr none (.bool true) 0, .eptr (some 20) (.agg [.int .i64 0, .int .u8 0, .int .u8 0, .int .u8 0, .int .u8 0, .int .u8 0, .int .u8 0, .int .u8 0, .int .u8 0, .int .u8 0, .int .u8 0, .int .u8 0, .int .u8 0, .int .u8 0, .int .u8 0, .int .u8 0, .int .u8 0, .int .i64 0, .bool false, .int .i64 0]) 0], none, (.agg [.bool false, .int .i64 0, .int .i64 3, .lst none []]), .any, .no⟩ := by
  refine Good.of Tryz.func185 rfl (by rfl) (by kernel_rfl) ?_
  cbv
  (try (simp only [cwn]; cbv))
  repeat' (first
| ((first
| refine td ?_
| refine fd ?_
| (refine q1w (fun z hz => ?_); (simp [oln, Int.max_def, Int.min_def] at hz); subst hz)
| refine rqw ?_
| refine vI ?_
| refine vA ?_
| refine vS ?_
| refine vR ?_
| refine chpA ?_
| refine unrollq 400 ?_); cbv; (try (simp only [cwn]; cbv)))
| (simp only [cwn]; cbv))
  exact ⟨rfl, rfl, rfl⟩
theorem w135_0 : Good 135 ⟨[.agg [.int .u8 254, .int .u8 128, .int .u8 0, .int .u8 0, .int .u8 0, .int .u8 0, .int .u8 0, .int .u8 0, .int .u8 0, .int .u8 0, .int .u8 0, .int .u8 0, .int .u8 0, .int .u8 0, .int .u8 0, .int .u8 1], .agg [.int .i64 3, .int .u16 0, .int .u64 144115188075855873], .bool true, .lst (some 20) [], .int .i64 0], none, (.agg [.bool false, .int .i64 0, .int .i64 3, .lst none []]), .any, .no⟩ := by
  refine Good.of Tryz.func135 rfl (by rfl) (by kernel_rfl) ?_
  cbv
  (try (simp only [cwn]; cbv))
  repeat' (first
| ((first
| refine td ?_
| refine fd ?_
| (refine q1w (fun z hz => ?_); (simp [oln, Int.max_def, Int.min_def] at hz); subst hz)
| refine rqw ?_
| refine vI ?_
| refine vA ?_
| refine vS ?_
| refine vR ?_
| refine callq w179_0 rfl rfl ?_
| refine callq w182_0 rfl rfl ?_
| refine callq w180_0 rfl rfl ?_
| refine callq w183_0 rfl rfl ?_
| refine callq w186_0 rfl rfl ?_
| refine callq w185_0 rfl rfl ?_
| refine chpA ?_
| refine unrollq 400 ?_); cbv; (try (simp only [cwn]; cbv)))
| (simp only [cwn]; cbv))
  exact ⟨rfl, rfl, rfl⟩
theorem w136_1 : Good 136 ⟨[.agg [.int .u8 254, .int .u8 128, .int .u8 0, .int .u8 0, .int .u8 0, .int .u8 0, .int .u8 0, .int .u8 0, .int .u8 0, .int .u8 0, .int .u8 0, .int .u8 0, .int .u8 0, .int .u8 0, .int .u8 0, .int .u8 2]], none, (.bool false), .any, .no⟩ := by
  refine Good.of Tryz.func136 rfl (by rfl) (by kernel_rfl) ?_
  cbv
  (try (simp only [cwn]; cbv))
  repeat' (first
| ((first
| refine td ?_
| refine fd ?_
| (refine q1w (fun z hz => ?_); (simp [oln, Int.max_def, Int.min_def] at hz); subst hz)
| refine rqw ?_
| refine vI ?_
| refine vA ?_
| refine vS ?_
| refine vR ?_
| refine chpA ?_
| refine unrollq 400 ?_); cbv; (try (simp only [cwn]; cbv)))
| (simp only [cwn]; cbv))
  exact ⟨rfl, rfl, rfl⟩
theorem w84_2 : Good 84 ⟨[.lst none [.int .u8 254, .int .u8 128, .int .u8 0, .int .u8 0, .int .u8 0, .int .u8 0, .int .u8 0, .int .u8 0, .int .u8 0, .int .u8 0, .int .u8 0, .int .u8 0, .int .u8 0, .int .u8 0, .int .u8 0, .int .u8 2], .int .i64 0, .int .i64 8], none, (.tup [.int .u64 18338657682652659712, .bool true]), .any, .no⟩ := by
  refine Good.of Tryz.func84 rfl (by rfl) (by kernel_rfl) ?_
  cbv
  (try (simp only [cwn]; cbv))
  repeat' (first
| ((first
| refine td ?_
| refine fd ?_
| (refine q1w (fun z hz => ?_); (simp [oln, Int.max_def, Int.min_def] at hz); subst hz)
| refine rqw ?_
| refine vI ?_
| refine vA ?_
| refine vS ?_
| refine vR ?_
| refine chpA ?_
| refine unrollq 400 ?_); cbv; (try (simp only [cwn]; cbv)))
| (simp only [cwn]; cbv))
  exact ⟨rfl, rfl, rfl⟩
theorem w84_3 : Good 84 ⟨[.lst none [.int .u8 254, .int .u8 128, .int .u8 0, .int .u8 0, .int .u8 0, .int .u8 0, .int .u8 0, .int .u8 0, .int .u8 0, .int .u8 0, .int .u8 0, .int .u8 0, .int .u8 0, .int .u8 0, .int .u8 0, .int .u8 2], .int .i64 8, .int .i64 8], none, (.tup [.int .u64 2, .bool true]), .any, .no⟩ := by
  refine Good.of Tryz.func84 rfl (by rfl) (by kernel_rfl) ?_
  cbv
  (try (simp only [cwn]; cbv))
  repeat' (first
| ((first
| refine td ?_
| refine fd ?_
| (refine q1w (fun z hz => ?_); (simp [oln, Int.max_def, Int.min_def] at hz); subst hz)
| refine rqw ?_
| refine vI ?_
| refine vA ?_
| refine vS ?_
| refine vR ?_
| refine chpA ?_
| refine unrollq 400 ?_); cbv; (try (simp only [cwn]; cbv)))
| (simp only [cwn]; cbv))
  exact ⟨rfl, rfl, rfl⟩
theorem w179_1 : Good 179 ⟨[.agg [.int .u8 254, .int .u8 128, .int .u8 0, .int .u8 0, .int .u8 0, .int .u8 0, .int .u8 0, .int .u8 0, .int .u8 0, .int .u8 0, .int .u8 0, .int .u8 0, .int .u8 0, .int .u8 0, .int .u8 0, .int .u8 2]], none, (.tup [.int .u64 18338657682652659712, .int .u64 2]), .any, .no⟩ := by
  refine Good.of Tryz.func179 rfl (by rfl) (by kernel_rfl) ?_
  cbv
  (try (simp only [cwn]; cbv))
  repeat' (first
| ((first
| refine td ?_
| refine fd ?_
| (refine q1w (fun z hz => ?_); (simp [oln, Int.max_def, Int.min_def] at hz); subst hz)
| refine rqw ?_
| refine vI ?_
| refine vA ?_
| refine vS ?_
| refine vR ?_
| refine callq w84_2 rfl rfl ?_
| refine callq w84_3 rfl rfl ?_
| refine chpA ?_
| refine unrollq 400 ?_); cbv; (try (simp only [cwn]; cbv)))
| (simp only [cwn]; cbv))
  exact ⟨rfl, rfl, rfl⟩
end Go.Proofs.YtgfpjhddojhfpaaGreat
namespace Go.Proofs.YtgfpjhddojhfpaaGreat
set_option linter.unusedVariables false
set_option linter.unusedSimpArgs false
set_option maxHeartbeats 40000000
set_option maxRecDepth 100000
theorem w85_1 : Good 85 ⟨[.lst none [], .int .u64 2, .int .i64 8], none, (.row 1), .any, (.row none 5 [.int .u8 0, .int .u8 0, .int .u8 0, .int .u8 0, .int .u8 0, .int .u8 0, .int .u8 0, .int .u8 2])⟩ := append_c [] _ _ 2 8 8 (by kernel_rfl) rfl (by decide) (by decide) (by decide) (by kernel_rfl)
theorem w181_1 : Good 181 ⟨[.agg [.int .u8 254, .int .u8 128, .int .u8 0, .int .u8 0, .int .u8 0, .int .u8 0, .int .u8 0, .int .u8 0, .int .u8 0, .int .u8 0, .int .u8 0, .int .u8 0, .int .u8 0, .int .u8 0, .int .u8 0, .int .u8 0, .int .i64 64], .int .u64 2], none, (.tup [.agg [.int .u8 254, .int .u8 128, .int .u8 0, .int .u8 0, .int .u8 0, .int .u8 0, .int .u8 0, .int .u8 0, .int .u8 0, .int .u8 0, .int .u8 0, .int .u8 0, .int .u8 0, .int .u8 0, .int .u8 0, .int .u8 2], .bool true]), .any, .no⟩ := by
  refine Good.of Tryz.func181 rfl (by rfl) (by kernel_rfl) ?_
  cbv
  (try (simp only [cwn]; cbv))
  repeat' (first
| ((first
| refine td ?_
| refine fd ?_
| (refine q1w (fun z hz => ?_); (simp [oln, Int.max_def, Int.min_def] at hz); subst hz)
| refine rqw ?_
| refine vI ?_
| refine vA ?_
| refine vS ?_
| refine vR ?_
| refine callq w208_0 rfl rfl ?_
| refine callq w85_1 rfl rfl ?_
| refine chpA ?_
| refine unrollq 400 ?_); cbv; (try (simp only [cwn]; cbv)))
| (simp only [cwn]; cbv))
  exact ⟨rfl, rfl, rfl⟩
theorem w180_1 : Good 180 ⟨[.agg [.int .u8 254, .int .u8 128, .int .u8 0, .int .u8 0, .int .u8 0, .int .u8 0, .int .u8 0, .int .u8 0, .int .u8 0, .int .u8 0, .int .u8 0, .int .u8 0, .int .u8 0, .int .u8 0, .int .u8 0, .int .u8 0, .int .i64 64], .eptr none (.int .u64 2) 0, .eptr (some 16) (.agg [.int .u8 254, .int .u8 128, .int .u8 0, .int .u8 0, .int .u8 0, .int .u8 0, .int .u8 0, .int .u8 0, .int .u8 0, .int .u8 0, .int .u8 0, .int .u8 0, .int .u8 0, .int .u8 0, .int .u8 0, .int .u8 2]) 0], none, (.bool true), .any, .no⟩ := by
  refine Good.of Tryz.func180 rfl (by rfl) (by kernel_rfl) ?_
  cbv
  (try (simp only [cwn]; cbv))
  repeat' (first
| ((first
| refine td ?_
| refine fd ?_
| (refine q1w (fun z hz => ?_); (simp [oln, Int.max_def, Int.min_def] at hz); subst hz)
| refine rqw ?_
| refine vI ?_
| refine vA ?_
| refine vS ?_
| refine vR ?_
| refine callq w181_1 rfl rfl ?_
| refine chpA ?_
| refine unrollq 400 ?_); cbv; (try (simp only [cwn]; cbv)))
| (simp only [cwn]; cbv))
  exact ⟨rfl, rfl, rfl⟩
theorem w183_1 : Good 183 ⟨[.lst (some 20) [], .agg [.int .u8 254, .int .u8 128, .int .u8 0, .int .u8 0, .int .u8 0, .int .u8 0, .int .u8 0, .int .u8 0, .int .u8 0, .int .u8 0, .int .u8 0, .int .u8 0, .int .u8 0, .int .u8 0, .int .u8 0, .int .u8 2], .int .i64 0], none, (.tup [.agg [.int .i64 0, .int .u8 0, .int .u8 0, .int .u8 0, .int .u8 0, .int .u8 0, .int .u8 0, .int .u8 0, .int .u8 0, .int .u8 0, .int .u8 0, .int .u8 0, .int .u8 0, .int .u8 0, .int .u8 0, .int .u8 0, .int .u8 0, .int .i64 0, .bool false, .int .i64 0], .bool false]), .any, .no⟩ := by
  refine Good.of Tryz.func183 rfl (by rfl) (by kernel_rfl) ?_
  cbv
  (try (simp only [cwn]; cbv))
  repeat' (first
| ((first
| refine td ?_
| refine fd ?_
| (refine q1w (fun z hz => ?_); (simp [oln, Int.max_def, Int.min_def] at hz); subst hz)
| refine rqw ?_
| refine vI ?_
| refine vA ?_
| refine vS ?_
| refine vR ?_
| refine callq w178_0 rfl rfl ?_
| refine callq w192_0 rfl rfl ?_
| refine chpA ?_
| refine unrollq 400 ?_); cbv; (try (simp only [cwn]; cbv)))
| (simp only [cwn]; cbv))
  exact ⟨rfl, rfl, rfl⟩
theorem w186_1 : Good 186 ⟨[.agg [.int .i64 3, .int .u16 0, .int .u64 144115188075855874]], none, (.tup [.int .u64 2, .bool true]), .any, .no⟩ := by
  refine Good.of Tryz.func186 rfl (by rfl) (by kernel_rfl) ?_
  cbv
  (try (simp only [cwn]; cbv))
  repeat' (first
| ((first
| refine td ?_
| refine fd ?_
| (refine q1w (fun z hz => ?_); (simp [oln, Int.max_def, Int.min_def] at hz); subst hz)
| refine rqw ?_
| refine vI ?_
| refine vA ?_
| refine vS ?_
| refine vR ?_
| refine callq w159_1 rfl rfl ?_
| refine chpA ?_
| refine unrollq 400 ?_); cbv; (try (simp only [cwn]; cbv)))
| (simp only [cwn]; cbv))
  exact ⟨rfl, rfl, rfl⟩
theorem w135_1 : Good 135 ⟨[.agg [.int .u8 254, .int .u8 128, .int .u8 0, .int .u8 0, .int .u8 0, .int .u8 0, .int .u8 0, .int .u8 0, .int .u8 0, .int .u8 0, .int .u8 0, .int .u8 0, .int .u8 0, .int .u8 0, .int .u8 0, .int .u8 2], .agg [.int .i64 3, .int .u16 0, .int .u64 144115188075855874], .bool false, .lst (some 20) [], .int .i64 0], none, (.agg [.bool false, .int .i64 0, .int .i64 3, .lst none []]), .any, .no⟩ := by
  refine Good.of Tryz.func135 rfl (by rfl) (by kernel_rfl) ?_
  cbv
  (try (simp only [cwn]; cbv))
  repeat' (first
| ((first
| refine td ?_
| refine fd ?_
| (refine q1w (fun z hz => ?_); (simp [oln, Int.max_def, Int.min_def] at hz); subst hz)
| refine rqw ?_
| refine vI ?_
| refine vA ?_
| refine vS ?_
| refine vR ?_
| refine callq w179_1 rfl rfl ?_
| refine callq w182_0 rfl rfl ?_
| refine callq w180_1 rfl rfl ?_
| refine callq w183_1 rfl rfl ?_
| refine callq w186_1 rfl rfl ?_
| refine callq w185_0 rfl rfl ?_
| refine chpA ?_
| refine unrollq 400 ?_); cbv; (try (simp only [cwn]; cbv)))
| (simp only [cwn]; cbv))
  exact ⟨rfl, rfl, rfl⟩
theorem w138_1 : Good 138 ⟨[.bool false, .int .i64 128], none, (.int .i64 0), .any, .no⟩ := by
  refine Good.of Tryz.func138 rfl (by rfl) (by kernel_rfl) ?_
  cbv
  (try (simp only [cwn]; cbv))
  repeat' (first
| ((first
| refine td ?_
| refine fd ?_
| (refine q1w (fun z hz => ?_); (simp [oln, Int.max_def, Int.min_def] at hz); subst hz)
| refine rqw ?_
| refine vI ?_
| refine vA ?_
| refine vS ?_
| refine vR ?_
| refine chpA ?_
| refine unrollq 400 ?_); cbv; (try (simp only [cwn]; cbv)))
| (simp only [cwn]; cbv))
  exact ⟨rfl, rfl, rfl⟩
theorem w138_2 : Good 138 ⟨[.bool false, .int .i64 64], none, (.int .i64 0), .any, .no⟩ := by
  refine Good.of Tryz.func138 rfl (by rfl) (by kernel_rfl) ?_
  cbv
  (try (simp only [cwn]; cbv))
  repeat' (first
| ((first
| refine td ?_
| refine fd ?_
| (refine q1w (fun z hz => ?_); (simp [oln, Int.max_def, Int.min_def] at hz); subst hz)
| refine rqw ?_
| refine vI ?_
| refine vA ?_
| refine vS ?_
| refine vR ?_
| refine chpA ?_
| refine unrollq 400 ?_); cbv; (try (simp only [cwn]; cbv)))
| (simp only [cwn]; cbv))
  exact ⟨rfl, rfl, rfl⟩
theorem w138_3 : Good 138 ⟨[.bool false, .int .i64 8], none, (.int .i64 0), .any, .no⟩ := by
  refine Good.of Tryz.func138 rfl (by rfl) (by kernel_rfl) ?_
  cbv
  (try (simp only [cwn]; cbv))
  repeat' (first
| ((first
| refine td ?_
| refine fd ?_
| (refine q1w (fun z hz => ?_); (simp [oln, Int.max_def, Int.min_def] at hz); subst hz)
| refine rqw ?_
| refine vI ?_
| refine vA ?_
| refine vS ?_
| refine vR ?_
| refine chpA ?_
| refine unrollq 400 ?_); cbv; (try (simp only [cwn]; cbv)))
| (simp only [cwn]; cbv))
  exact ⟨rfl, rfl, rfl⟩
theorem w138_4 : Good 138 ⟨[.bool false, .int .i64 4], none, (.int .i64 0), .any, .no⟩ := by
  refine Good.of Tryz.func138 rfl (by rfl) (by kernel_rfl) ?_
  cbv
  (try (simp only [cwn]; cbv))
  repeat' (first
| ((first
| refine td ?_
| refine fd ?_
| (refine q1w (fun z hz => ?_); (simp [oln, Int.max_def, Int.min_def] at hz); subst hz)
| refine rqw ?_
| refine vI ?_
| refine vA ?_
| refine vS ?_
| refine vR ?_
| refine chpA ?_
| refine unrollq 400 ?_); cbv; (try (simp only [cwn]; cbv)))
| (simp only [cwn]; cbv))
  exact ⟨rfl, rfl, rfl⟩
theorem w73_0 : Good 73 ⟨[.agg [.int .u8 0, .int .u32 0, .int .u8 17, .int .u8 64, .int .u8 254, .int .u8 128, .int .u8 0, .int .u8 0, .int .u8 0, .int .u8 0, .int .u8 0, .int .u8 0, .int .u8 0, .int .u8 0, .int .u8 0, .int .u8 0, .int .u8 0, .int .u8 0, .int .u8 0, .int .u8 1, .int .u8 254, .int .u8 128, .int .u8 0, .int .u8 0, .int .u8 0, .int .u8 0, .int .u8 0, .int .u8 0, .int .u8 0, .int .u8 0, .int .u8 0, .int .u8 0, .int .u8 0, .int .u8 0, .int .u8 0, .int .u8 2, .int .u16 61617, .int .u16 61618, .lst none [.int .u8 1, .int .u8 2, .int .u8 3]], .agg [.int .i64 3, .int .u16 0, .int .u64 144115188075855873], .agg [.int .i64 3, .int .u16 0, .int .u64 144115188075855874], .lst (some 20) [], .int .i64 0], none, (.tup [.row 1, .int .i64 0]), .any, (.row none 5 [.int .u8 126, .int .u8 51])⟩ := by
  refine Good.of Tryz.func73 rfl (by rfl) (by kernel_rfl) ?_
  cbv
  (try (simp only [cwn]; cbv))
  repeat' (first
| ((first
| refine td ?_
| refine fd ?_
| (refine q1w (fun z hz => ?_); (simp [oln, Int.max_def, Int.min_def] at hz); subst hz)
| refine rqw ?_
| refine vI ?_
| refine vA ?_
| refine vS ?_
| refine vR ?_
| refine callq w132_0 rfl rfl ?_
| refine callq w133_0 rfl rfl ?_
| refine callq w134_0 rfl rfl ?_
| refine callq w135_0 rfl rfl ?_
| refine callq w136_1 rfl rfl ?_
| refine callq w135_1 rfl rfl ?_
| refine callq w138_1 rfl rfl ?_
| refine callq w138_2 rfl rfl ?_
| refine callq w138_3 rfl rfl ?_
| refine callq w138_4 rfl rfl ?_
| refine chpA ?_
| refine unrollq 400 ?_); cbv; (try (simp only [cwn]; cbv)))
| (simp only [cwn]; cbv))
  exact ⟨rfl, rfl, rfl⟩
theorem w139_0 : Good 139 ⟨[.int .u16 61617, .int .i64 61616, .int .i64 16], none, (.bool true), .any, .no⟩ := by
  refine Good.of Tryz.func139 rfl (by rfl) (by kernel_rfl) ?_
  cbv
  (try (simp only [cwn]; cbv))
  repeat' (first
| ((first
| refine td ?_
| refine fd ?_
| (refine q1w (fun z hz => ?_); (simp [oln, Int.max_def, Int.min_def] at hz); subst hz)
| refine rqw ?_
| refine vI ?_
| refine vA ?_
| refine vS ?_
| refine vR ?_
| refine chpA ?_
| refine unrollq 400 ?_); cbv; (try (simp only [cwn]; cbv)))
| (simp only [cwn]; cbv))
  exact ⟨rfl, rfl, rfl⟩
theorem w139_1 : Good 139 ⟨[.int .u16 61618, .int .i64 61616, .int .i64 16], none, (.bool true), .any, .no⟩ := by
  refine Good.of Tryz.func139 rfl (by rfl) (by kernel_rfl) ?_
  cbv
  (try (simp only [cwn]; cbv))
  repeat' (first
| ((first
| refine td ?_
| refine fd ?_
| (refine q1w (fun z hz => ?_); (simp [oln, Int.max_def, Int.min_def] at hz); subst hz)
| refine rqw ?_
| refine vI ?_
| refine vA ?_
| refine vS ?_
| refine vR ?_
| refine chpA ?_
| refine unrollq 400 ?_); cbv; (try (simp only [cwn]; cbv)))
| (simp only [cwn]; cbv))
  exact ⟨rfl, rfl, rfl⟩
theorem w85_2 : Good 85 ⟨[.lst none [.int .u8 126, .int .u8 51], .int .u64 243, .int .i64 1], none, (.row 1), .any, (.row none 5 [.int .u8 126, .int .u8 51, .int .u8 243])⟩ := append_c [126, 51] _ _ 243 1 1 (by kernel_rfl) rfl (by decide) (by decide) (by decide) (by kernel_rfl)
theorem w140_0 : Good 140 (gC [.int .u64 243, .int .i64 1, .ptr 902 0] [(902, 30, .lst none [.int .u8 126, .int .u8 51], .row 1)] (.tup []) (.row none 5 [.int .u8 126, .int .u8 51, .int .u8 243])) := by
  refine Good.ofG Tryz.func140 rfl (by rfl) (by kernel_rfl) ?_
  cbv
  (try (simp only [cwn]; cbv))
  repeat' (first
| ((first
| refine td ?_
| refine fd ?_
| (refine q1w (fun z hz => ?_); (simp [oln, Int.max_def, Int.min_def] at hz); subst hz)
| refine rqw ?_
| refine vI ?_
| refine vA ?_
| refine vS ?_
| refine vR ?_
| refine callq w85_2 rfl rfl ?_
| refine chpA ?_
| refine unrollq 400 ?_); cbv; (try (simp only [cwn]; cbv)))
| (simp only [cwn]; cbv))
  exact ⟨rfl, rfl, rfl⟩
theorem w85_3 : Good 85 ⟨[.lst none [.int .u8 126, .int .u8 51, .int .u8 243], .int .u64 18, .int .i64 1], none, (.row 1), .any, (.row none 5 [.int .u8 126, .int .u8 51, .int .u8 243, .int .u8 18])⟩ := append_c [126, 51, 243] _ _ 18 1 1 (by kernel_rfl) rfl (by decide) (by decide) (by decide) (by kernel_rfl)
theorem w140_1 : Good 140 (gC [.int .u64 18, .int .i64 1, .ptr 902 0] [(902, 30, .lst none [.int .u8 126, .int .u8 51, .int .u8 243], .row 1)] (.tup []) (.row none 5 [.int .u8 126, .int .u8 51, .int .u8 243, .int .u8 18])) := by
  refine Good.ofG Tryz.func140 rfl (by rfl) (by kernel_rfl) ?_
  cbv
  (try (simp only [cwn]; cbv))
  repeat' (first
| ((first
| refine td ?_
| refine fd ?_
| (refine q1w (fun z hz => ?_); (simp [oln, Int.max_def, Int.min_def] at hz); subst hz)
| refine rqw ?_
| refine vI ?_
| refine vA ?_
| refine vS ?_
| refine vR ?_
| refine callq w85_3 rfl rfl ?_
| refine chpA ?_
| refine unrollq 400 ?_); cbv; (try (simp only [cwn]; cbv)))
| (simp only [cwn]; cbv))
  exact ⟨rfl, rfl, rfl⟩
theorem w85_4 : Good 85 ⟨[.lst none [], .int .u64 1610612736, .int .i64 4], none, (.row 1), .any, (.row none 5 [.int .u8 96, .int .u8 0, .int .u8 0, .int .u8 0])⟩ := append_c [] _ _ 1610612736 4 4 (by kernel_rfl) rfl (by decide) (by decide) (by decide) (by kernel_rfl)
theorem w85_5 : Good 85 ⟨[.lst none [.int .u8 96, .int .u8 0, .int .u8 0, .int .u8 0], .int .u64 11, .int .i64 2], none, (.row 1), .any, (.row none 5 [.int .u8 96, .int .u8 0, .int .u8 0, .int .u8 0, .int .u8 0, .int .u8 11])⟩ := append_c [96, 0, 0, 0] _ _ 11 2 2 (by kernel_rfl) rfl (by decide) (by decide) (by decide) (by kernel_rfl)
theorem w85_6 : Good 85 ⟨[.lst none [.int .u8 96, .int .u8 0, .int .u8 0, .int .u8 0, .int .u8 0, .int .u8 11], .int .u64 17, .int .i64 1], none, (.row 1), .any, (.row none 5 [.int .u8 96, .int .u8 0, .int .u8 0, .int .u8 0, .int .u8 0, .int .u8 11, .int .u8 17])⟩ := append_c [96, 0, 0, 0, 0, 11] _ _ 17 1 1 (by kernel_rfl) rfl (by decide) (by decide) (by decide) (by kernel_rfl)
end Go.Proofs.YtgfpjhddojhfpaaGreat
