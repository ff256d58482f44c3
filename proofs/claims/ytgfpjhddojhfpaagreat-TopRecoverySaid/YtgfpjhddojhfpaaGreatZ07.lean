/- Texts put together: Cv Sna Snb Snc. -/
import Derived.Test.YtgfpjhddojhfpaaGreatZ03
import Derived.Test.YtgfpjhddojhfpaaGreatZ04
import Derived.Test.YtgfpjhddojhfpaaGreatZ06
namespace Go.Proofs.YtgfpjhddojhfpaaGreat
set_option linter.unusedVariables false
set_option linter.unusedSimpArgs false
section
theorem vI {n:Int} {l:List SV} {k:Nat × SV→Prop} {y:SV} (g:k (n.toNat,y)) (h:l[n.toNat]?=some y:=by rfl) (hn:0≤n:=by decide):QV (fun q:Nat × SV=>n=(q.1:Int)∧l[q.1]?=some q.2) k:=qvIdx y h hn g
theorem vR {n:Int} {l:List SV} {k:Nat→Prop} (g:k n.toNat) (h:n.toNat < l.length:=by decide) (hn:0≤n:=by decide):QV (fun q:Nat=>n=(q:Int)∧q < O.ln l) k:=qvRow h hn g
theorem vA {n:Int} {m:Nat} {k:Nat→Prop} (g:k n.toNat) (h:n.toNat < m:=by decide) (hn:0≤n:=by decide):QV (fun q:Nat=>n=(q:Int)∧q < m) k:=qvArr h hn g
theorem vS {l:List SV} {j:Nat} {k:SV→Prop} {y:SV} (g:k y) (h:l[j]?=some y:=by rfl):QV (fun z=>l[j]?=some z) k:=qvSome y h g
theorem td {p:Unit→Prop} {k:Bool→Prop} [Decidable (p ())] (g:k true) (h:p ():=by decide):QC p k:=QC.tt h g
theorem fd {p:Unit→Prop} {k:Bool→Prop} [Decidable (p ())] (g:k false) (h:¬ p ():=by decide):QC p k:=QC.ff h g
theorem calla {G:Nat→CT→Prop} {f:Nat} {args:List SV} {lent:Option (Nat × SV)} {κ:Bool→CT→Prop} {alt:Unit→Prop} {r l2:SV} {b:Blk} (k:κ false ⟨args,lent,r,l2,b⟩) (h:G f ⟨args,lent,r,l2,b⟩:=by assumption):CallQ G f args lent κ alt:=callq h rfl rfl k
theorem wlk {P:Prop} (h:P:=by
 (try (simp only [cwn];cbv))
 repeat' (first
| ((first
| refine td ?_
| refine fd ?_
| (refine q1w (fun z hz=>?_);(simp [oln,Int.max_def,Int.min_def] at hz);subst hz)
| refine rqw ?_
| refine vI ?_
| refine vA ?_
| refine vS ?_
| refine vR ?_
| refine calla ?_
| refine chpA ?_
| refine unrollq 400 ?_);cbv;(try (simp only [cwn];cbv)))
| (simp only [cwn];cbv))
 exact ⟨rfl,rfl,rfl⟩):P:=h
end
section
set_option maxHeartbeats 40000000
set_option maxRecDepth 100000
theorem w13_0:Good 13 ⟨[.int .i64 0],none,(.agg [.int .i64 3,.int .u16 0,.int .u64 144115188075855873]),.any,.no⟩:=by
 refine Good.of Tryz.func13 rfl (by rfl) (by kernel_rfl) ?_
 cbv
 exact wlk
theorem w116_0:Good 116 ⟨[.agg [.int .i64 3,.int .u16 0,.int .u64 144115188075855873]],none,(.bool true),.any,.no⟩:=by
 refine Good.of Tryz.func116 rfl (by rfl) (by kernel_rfl) ?_
 cbv
 exact wlk
theorem w54_0:Good 54 ⟨[.agg [.int .i64 3,.int .u16 0,.int .u64 144115188075855873]],none,(.bool true),.any,.no⟩:=by
 refine Good.of Tryz.func54 rfl (by rfl) (by kernel_rfl) ?_
 cbv
 have a0:=w116_0
 exact wlk
theorem w127_0:Good 127 ⟨[.agg [.int .i64 3,.int .u16 0,.int .u64 144115188075855873]],none,(.tup [.int .u64 1,.bool true]),.any,.no⟩:=by
 refine Good.of Tryz.func127 rfl (by rfl) (by kernel_rfl) ?_
 cbv
 have a0:=w54_0
 exact wlk
theorem w130_0:Good 130 ⟨[.int .u64 18338657682652659712,.int .u64 1],none,(.agg [.int .u8 254,.int .u8 128,.int .u8 0,.int .u8 0,.int .u8 0,.int .u8 0,.int .u8 0,.int .u8 0,.int .u8 0,.int .u8 0,.int .u8 0,.int .u8 0,.int .u8 0,.int .u8 0,.int .u8 0,.int .u8 1]),.any,.no⟩:=by
 refine Good.of Tryz.func130 rfl (by rfl) (by kernel_rfl) ?_
 cbv
 exact wlk
theorem w124_0:Good 124 ⟨[.agg [.int .i64 3,.int .u16 0,.int .u64 144115188075855873]],none,(.tup [.agg [.int .u8 254,.int .u8 128,.int .u8 0,.int .u8 0,.int .u8 0,.int .u8 0,.int .u8 0,.int .u8 0,.int .u8 0,.int .u8 0,.int .u8 0,.int .u8 0,.int .u8 0,.int .u8 0,.int .u8 0,.int .u8 1],.bool true]),.any,.no⟩:=by
 refine Good.of Tryz.func124 rfl (by rfl) (by kernel_rfl) ?_
 cbv
 have a0:=w127_0
 have a1:=w130_0
 exact wlk
theorem w13_1:Good 13 ⟨[.int .i64 1],none,(.agg [.int .i64 3,.int .u16 0,.int .u64 144115188075855874]),.any,.no⟩:=by
 refine Good.of Tryz.func13 rfl (by rfl) (by kernel_rfl) ?_
 cbv
 exact wlk
theorem w116_1:Good 116 ⟨[.agg [.int .i64 3,.int .u16 0,.int .u64 144115188075855874]],none,(.bool true),.any,.no⟩:=by
 refine Good.of Tryz.func116 rfl (by rfl) (by kernel_rfl) ?_
 cbv
 exact wlk
theorem w54_1:Good 54 ⟨[.agg [.int .i64 3,.int .u16 0,.int .u64 144115188075855874]],none,(.bool true),.any,.no⟩:=by
 refine Good.of Tryz.func54 rfl (by rfl) (by kernel_rfl) ?_
 cbv
 have a0:=w116_1
 exact wlk
theorem w127_1:Good 127 ⟨[.agg [.int .i64 3,.int .u16 0,.int .u64 144115188075855874]],none,(.tup [.int .u64 2,.bool true]),.any,.no⟩:=by
 refine Good.of Tryz.func127 rfl (by rfl) (by kernel_rfl) ?_
 cbv
 have a0:=w54_1
 exact wlk
theorem w130_1:Good 130 ⟨[.int .u64 18338657682652659712,.int .u64 2],none,(.agg [.int .u8 254,.int .u8 128,.int .u8 0,.int .u8 0,.int .u8 0,.int .u8 0,.int .u8 0,.int .u8 0,.int .u8 0,.int .u8 0,.int .u8 0,.int .u8 0,.int .u8 0,.int .u8 0,.int .u8 0,.int .u8 2]),.any,.no⟩:=by
 refine Good.of Tryz.func130 rfl (by rfl) (by kernel_rfl) ?_
 cbv
 exact wlk
theorem w124_1:Good 124 ⟨[.agg [.int .i64 3,.int .u16 0,.int .u64 144115188075855874]],none,(.tup [.agg [.int .u8 254,.int .u8 128,.int .u8 0,.int .u8 0,.int .u8 0,.int .u8 0,.int .u8 0,.int .u8 0,.int .u8 0,.int .u8 0,.int .u8 0,.int .u8 0,.int .u8 0,.int .u8 0,.int .u8 0,.int .u8 2],.bool true]),.any,.no⟩:=by
 refine Good.of Tryz.func124 rfl (by rfl) (by kernel_rfl) ?_
 cbv
 have a0:=w127_1
 have a1:=w130_1
 exact wlk
theorem w62_0:Good 62 ⟨[.int .i64 0,.int .i64 1,.lst none [.int .u8 1,.int .u8 2,.int .u8 3]],none,(.agg [.int .u8 0,.int .u32 0,.int .u8 17,.int .u8 64,.int .u8 254,.int .u8 128,.int .u8 0,.int .u8 0,.int .u8 0,.int .u8 0,.int .u8 0,.int .u8 0,.int .u8 0,.int .u8 0,.int .u8 0,.int .u8 0,.int .u8 0,.int .u8 0,.int .u8 0,.int .u8 1,.int .u8 254,.int .u8 128,.int .u8 0,.int .u8 0,.int .u8 0,.int .u8 0,.int .u8 0,.int .u8 0,.int .u8 0,.int .u8 0,.int .u8 0,.int .u8 0,.int .u8 0,.int .u8 0,.int .u8 0,.int .u8 2,.int .u16 61617,.int .u16 61618,.lst none [.int .u8 1,.int .u8 2,.int .u8 3]]),.any,.no⟩:=by
 refine Good.of Tryz.func62 rfl (by rfl) (by kernel_rfl) ?_
 cbv
 have a0:=w13_0
 have a1:=w124_0
 have a2:=w13_1
 have a3:=w124_1
 exact wlk
theorem w159_0:Good 159 ⟨[.agg [.int .i64 3,.int .u16 0,.int .u64 144115188075855873]],none,(.bool true),.any,.no⟩:=by
 refine Good.of Tryz.func159 rfl (by rfl) (by kernel_rfl) ?_
 cbv
 exact wlk
theorem w159_1:Good 159 ⟨[.agg [.int .i64 3,.int .u16 0,.int .u64 144115188075855874]],none,(.bool true),.any,.no⟩:=by
 refine Good.of Tryz.func159 rfl (by rfl) (by kernel_rfl) ?_
 cbv
 exact wlk
end
section
set_option maxHeartbeats 40000000
set_option maxRecDepth 100000
end
section
set_option maxHeartbeats 40000000
set_option maxRecDepth 100000
end
end Go.Proofs.YtgfpjhddojhfpaaGreat
