/- Texts put together: Snd Sne Snf Sng Snh Sni. -/
import Derived.Test.YtgfpjhddojhfpaaGreatZ04
import Derived.Test.YtgfpjhddojhfpaaGreatZ06
import Derived.Test.YtgfpjhddojhfpaaGreatZ07
namespace Go.Proofs.YtgfpjhddojhfpaaGreat
set_option linter.unusedVariables false
set_option linter.unusedSimpArgs false
section
set_option maxHeartbeats 40000000
set_option maxRecDepth 100000
end
section
set_option maxHeartbeats 40000000
set_option maxRecDepth 100000
theorem w16_0:Good 16 ⟨[.int .i64 1],none,(.agg [.int .u8 17,.int .u8 18,.int .u8 19,.int .u8 20,.int .u8 21,.int .u8 22,.int .u8 23,.int .u8 24,.int .u8 25,.int .u8 26,.int .u8 27,.int .u8 28,.int .u8 29,.int .u8 30,.int .u8 31,.int .u8 32]),.any,.no⟩:=by
 refine Good.of Tryz.func16 rfl (by rfl) (by kernel_rfl) ?_
 cbv
 exact wlk
theorem w162_0:Good 162 ⟨[.lst (some 17) [.agg [.int .u8 1,.int .u8 17,.int .u8 18,.int .u8 19,.int .u8 20,.int .u8 21,.int .u8 22,.int .u8 23,.int .u8 24,.int .u8 25,.int .u8 26,.int .u8 27,.int .u8 28,.int .u8 29,.int .u8 30,.int .u8 31,.int .u8 32]],.clo 163 []],none,(.bool true),.any,.no⟩:=by
 refine Good.of Tryz.func162 rfl (by rfl) (by kernel_rfl) ?_
 cbv
 exact wlk
end
section
set_option maxHeartbeats 40000000
set_option maxRecDepth 100000
theorem w164_0:Good 164 ⟨[.lst (some 6) [],.clo 111 []],none,(.bool true),.any,.no⟩:=by
 refine Good.of Tryz.func164 rfl (by rfl) (by kernel_rfl) ?_
 cbv
 exact wlk
theorem w104_0:Good 104 ⟨[.agg [.lst (some 17) [.agg [.int .u8 1,.int .u8 17,.int .u8 18,.int .u8 19,.int .u8 20,.int .u8 21,.int .u8 22,.int .u8 23,.int .u8 24,.int .u8 25,.int .u8 26,.int .u8 27,.int .u8 28,.int .u8 29,.int .u8 30,.int .u8 31,.int .u8 32]],.int .u32 0,.int .u32 1048576,.int .u32 9,.nil]],none,(.bool true),.any,.no⟩:=by
 refine Good.of Tryz.func104 rfl (by rfl) (by kernel_rfl) ?_
 cbv
 have a0:=w162_0
 have a1:=w164_0
 exact wlk
theorem w85_14:Good 85 ⟨[.lst none [.int .u8 1],.int .u64 9,.int .i64 4],none,(.row 1),.any,(.row none 5 [.int .u8 1,.int .u8 0,.int .u8 0,.int .u8 0,.int .u8 9])⟩:=append_c [1] _ _ 9 4 4 (by kernel_rfl) rfl (by decide) (by decide) (by decide) (by kernel_rfl)
theorem w105_0:Good 105 ⟨[.int .u8 1,.int .u32 9],none,(.row 1),.any,(.row none 5 [.int .u8 1,.int .u8 0,.int .u8 0,.int .u8 0,.int .u8 9])⟩:=by
 refine Good.of Tryz.func105 rfl (by rfl) (by kernel_rfl) ?_
 cbv
 have a0:=w85_14
 exact wlk
theorem w48_0:Good 48 ⟨[.agg [.lst (some 17) [.agg [.int .u8 1,.int .u8 17,.int .u8 18,.int .u8 19,.int .u8 20,.int .u8 21,.int .u8 22,.int .u8 23,.int .u8 24,.int .u8 25,.int .u8 26,.int .u8 27,.int .u8 28,.int .u8 29,.int .u8 30,.int .u8 31,.int .u8 32]],.int .u32 0,.int .u32 1048576,.int .u32 9,.nil]],none,(.row 1),.any,(.row none 5 [.int .u8 1,.int .u8 0,.int .u8 0,.int .u8 0,.int .u8 9])⟩:=by
 refine Good.of Tryz.func48 rfl (by rfl) (by kernel_rfl) ?_
 cbv
 have a0:=w104_0
 have a1:=w105_0
 exact wlk
theorem w47_0:Good 47 ⟨[.lst none [.int .u8 1,.int .u8 0,.int .u8 0,.int .u8 0,.int .u8 9]],none,(.tup [.row 1,.bool true]),.any,(.row none 5 [.int .u8 2,.int .u8 0,.int .u8 0,.int .u8 0,.int .u8 9])⟩:=by
 refine Good.of Tryz.func47 rfl (by rfl) (by kernel_rfl) ?_
 cbv
 exact wlk
theorem w104_1:Good 104 ⟨[.agg [.lst (some 17) [.agg [.int .u8 1,.int .u8 17,.int .u8 18,.int .u8 19,.int .u8 20,.int .u8 21,.int .u8 22,.int .u8 23,.int .u8 24,.int .u8 25,.int .u8 26,.int .u8 27,.int .u8 28,.int .u8 29,.int .u8 30,.int .u8 31,.int .u8 32]],.int .u32 0,.int .u32 1048576,.int .u32 0,.nil]],none,(.bool true),.any,.no⟩:=by
 refine Good.of Tryz.func104 rfl (by rfl) (by kernel_rfl) ?_
 cbv
 have a0:=w162_0
 have a1:=w164_0
 exact wlk
theorem w176_0:Good 176 ⟨[.agg [.int .i64 3,.int .u16 0,.int .u64 144115188075855873]],none,(.bool false),.any,.no⟩:=by
 refine Good.of Tryz.func176 rfl (by rfl) (by kernel_rfl) ?_
 cbv
 exact wlk
theorem w207_0:Good 207 ⟨[.agg [.int .i64 3,.int .u16 0,.int .u64 144115188075855874]],none,(.int .i64 8),.any,.no⟩:=by
 refine Good.of Tryz.func207 rfl (by rfl) (by kernel_rfl) ?_
 cbv
 exact wlk
theorem w207_1:Good 207 ⟨[.agg [.int .i64 3,.int .u16 0,.int .u64 144115188075855873]],none,(.int .i64 8),.any,.no⟩:=by
 refine Good.of Tryz.func207 rfl (by rfl) (by kernel_rfl) ?_
 cbv
 exact wlk
theorem w177_0:Good 177 ⟨[.agg [.int .i64 3,.bool false,.bool false,.bool false,.int .u8 0,.int .u16 0,.int .i64 3,.int .u16 0,.int .u64 144115188075855874,.int .i64 3,.int .u16 0,.int .u64 144115188075855873,.int .u32 0,.int .u8 0,.lst none [.int .u8 2,.int .u8 0,.int .u8 0,.int .u8 0,.int .u8 9],.nil]],none,(.int .i64 28),.any,.no⟩:=by
 refine Good.of Tryz.func177 rfl (by rfl) (by kernel_rfl) ?_
 cbv
 have a0:=w207_0
 have a1:=w207_1
 exact wlk
theorem w121_0:Good 121 ⟨[.agg [.int .i64 3,.bool false,.bool false,.bool false,.int .u8 0,.int .u16 0,.int .i64 3,.int .u16 0,.int .u64 144115188075855874,.int .i64 3,.int .u16 0,.int .u64 144115188075855873,.int .u32 0,.int .u8 0,.lst none [.int .u8 2,.int .u8 0,.int .u8 0,.int .u8 0,.int .u8 9],.nil]],none,(.bool true),.any,.no⟩:=by
 refine Good.of Tryz.func121 rfl (by rfl) (by kernel_rfl) ?_
 cbv
 have a0:=w159_1
 have a1:=w159_0
 have a2:=w176_0
 have a3:=w177_0
 exact wlk
theorem w59_0:Good 59 ⟨[.agg [.int .i64 3,.bool false,.bool false,.bool false,.int .u8 0,.int .u16 0,.int .i64 3,.int .u16 0,.int .u64 144115188075855874,.int .i64 3,.int .u16 0,.int .u64 144115188075855873,.int .u32 0,.int .u8 0,.lst none [.int .u8 2,.int .u8 0,.int .u8 0,.int .u8 0,.int .u8 9],.nil]],none,(.bool true),.any,.no⟩:=by
 refine Good.of Tryz.func59 rfl (by rfl) (by kernel_rfl) ?_
 cbv
 have a0:=w121_0
 exact wlk
theorem w106_0:Good 106 ⟨[.agg [.lst (some 17) [.agg [.int .u8 1,.int .u8 17,.int .u8 18,.int .u8 19,.int .u8 20,.int .u8 21,.int .u8 22,.int .u8 23,.int .u8 24,.int .u8 25,.int .u8 26,.int .u8 27,.int .u8 28,.int .u8 29,.int .u8 30,.int .u8 31,.int .u8 32]],.int .u32 0,.int .u32 1048576,.int .u32 0,.nil],.int .u8 1],none,(.tup [.agg [.int .u8 17,.int .u8 18,.int .u8 19,.int .u8 20,.int .u8 21,.int .u8 22,.int .u8 23,.int .u8 24,.int .u8 25,.int .u8 26,.int .u8 27,.int .u8 28,.int .u8 29,.int .u8 30,.int .u8 31,.int .u8 32],.bool true]),.any,.no⟩:=by
 refine Good.of Tryz.func106 rfl (by rfl) (by kernel_rfl) ?_
 cbv
 exact wlk
theorem w121_1:Good 121 ⟨[.agg [.int .i64 3,.bool false,.bool false,.bool true,.int .u8 0,.int .u16 0,.int .i64 3,.int .u16 0,.int .u64 144115188075855874,.int .i64 3,.int .u16 0,.int .u64 144115188075855873,.int .u32 0,.int .u8 1,.lst none [.int .u8 2,.int .u8 0,.int .u8 0,.int .u8 0,.int .u8 9],.nil]],none,(.bool false),.any,.no⟩:=by
 refine Good.of Tryz.func121 rfl (by rfl) (by kernel_rfl) ?_
 cbv
 have a0:=w159_1
 have a1:=w159_0
 have a2:=w176_0
 exact wlk
theorem w59_1:Good 59 ⟨[.agg [.int .i64 3,.bool false,.bool false,.bool true,.int .u8 0,.int .u16 0,.int .i64 3,.int .u16 0,.int .u64 144115188075855874,.int .i64 3,.int .u16 0,.int .u64 144115188075855873,.int .u32 0,.int .u8 1,.lst none [.int .u8 2,.int .u8 0,.int .u8 0,.int .u8 0,.int .u8 9],.nil]],none,(.bool false),.any,.no⟩:=by
 refine Good.of Tryz.func59 rfl (by rfl) (by kernel_rfl) ?_
 cbv
 have a0:=w121_1
 exact wlk
theorem w177_1:Good 177 ⟨[.agg [.int .i64 3,.bool false,.bool false,.bool true,.int .u8 0,.int .u16 0,.int .i64 3,.int .u16 0,.int .u64 144115188075855874,.int .i64 3,.int .u16 0,.int .u64 144115188075855873,.int .u32 0,.int .u8 1,.lst none [.int .u8 2,.int .u8 0,.int .u8 0,.int .u8 0,.int .u8 9],.lst none [.int .u8 0,.int .u8 0,.int .u8 0,.int .u8 0]]],none,(.int .i64 37),.any,.no⟩:=by
 refine Good.of Tryz.func177 rfl (by rfl) (by kernel_rfl) ?_
 cbv
 have a0:=w207_0
 have a1:=w207_1
 exact wlk
theorem w121_2:Good 121 ⟨[.agg [.int .i64 3,.bool false,.bool false,.bool true,.int .u8 0,.int .u16 0,.int .i64 3,.int .u16 0,.int .u64 144115188075855874,.int .i64 3,.int .u16 0,.int .u64 144115188075855873,.int .u32 0,.int .u8 1,.lst none [.int .u8 2,.int .u8 0,.int .u8 0,.int .u8 0,.int .u8 9],.lst none [.int .u8 0,.int .u8 0,.int .u8 0,.int .u8 0]]],none,(.bool true),.any,.no⟩:=by
 refine Good.of Tryz.func121 rfl (by rfl) (by kernel_rfl) ?_
 cbv
 have a0:=w159_1
 have a1:=w159_0
 have a2:=w176_0
 have a3:=w177_1
 exact wlk
theorem w59_2:Good 59 ⟨[.agg [.int .i64 3,.bool false,.bool false,.bool true,.int .u8 0,.int .u16 0,.int .i64 3,.int .u16 0,.int .u64 144115188075855874,.int .i64 3,.int .u16 0,.int .u64 144115188075855873,.int .u32 0,.int .u8 1,.lst none [.int .u8 2,.int .u8 0,.int .u8 0,.int .u8 0,.int .u8 9],.lst none [.int .u8 0,.int .u8 0,.int .u8 0,.int .u8 0]]],none,(.bool true),.any,.no⟩:=by
 refine Good.of Tryz.func59 rfl (by rfl) (by kernel_rfl) ?_
 cbv
 have a0:=w121_2
 exact wlk
theorem w122_0:Good 122 ⟨[.bool false,.int .u8 32],none,(.int .u8 0),.any,.no⟩:=by
 refine Good.of Tryz.func122 rfl (by rfl) (by kernel_rfl) ?_
 cbv
 exact wlk
end
section
set_option maxHeartbeats 40000000
set_option maxRecDepth 100000
theorem w122_1:Good 122 ⟨[.bool false,.int .u8 16],none,(.int .u8 0),.any,.no⟩:=by
 refine Good.of Tryz.func122 rfl (by rfl) (by kernel_rfl) ?_
 cbv
 exact wlk
theorem w122_2:Good 122 ⟨[.bool true,.int .u8 8],none,(.int .u8 8),.any,.no⟩:=by
 refine Good.of Tryz.func122 rfl (by rfl) (by kernel_rfl) ?_
 cbv
 exact wlk
theorem w85_15:Good 85 ⟨[.lst none [.int .u8 200,.int .u8 240,.int .u8 0],.int .u64 0,.int .i64 2],none,(.row 1),.any,(.row none 5 [.int .u8 200,.int .u8 240,.int .u8 0,.int .u8 0,.int .u8 0])⟩:=append_c [200,240,0] _ _ 0 2 2 (by kernel_rfl) rfl (by decide) (by decide) (by decide) (by kernel_rfl)
theorem w85_16:Good 85 ⟨[.lst none [.int .u8 200,.int .u8 240,.int .u8 0,.int .u8 0,.int .u8 0],.int .u64 144115188075855874,.int .i64 8],none,(.row 1),.any,(.row none 5 [.int .u8 200,.int .u8 240,.int .u8 0,.int .u8 0,.int .u8 0,.int .u8 2,.int .u8 0,.int .u8 0,.int .u8 0,.int .u8 0,.int .u8 0,.int .u8 0,.int .u8 2])⟩:=append_c [200,240,0,0,0] _ _ 144115188075855874 8 8 (by kernel_rfl) rfl (by decide) (by decide) (by decide) (by kernel_rfl)
theorem w123_0:Good 123 ⟨[.lst none [.int .u8 200,.int .u8 240,.int .u8 0,.int .u8 0,.int .u8 0],.agg [.int .i64 3,.int .u16 0,.int .u64 144115188075855874]],none,(.row 1),.any,(.row none 5 [.int .u8 200,.int .u8 240,.int .u8 0,.int .u8 0,.int .u8 0,.int .u8 2,.int .u8 0,.int .u8 0,.int .u8 0,.int .u8 0,.int .u8 0,.int .u8 0,.int .u8 2])⟩:=by
 refine Good.of Tryz.func123 rfl (by rfl) (by kernel_rfl) ?_
 cbv
 have a0:=w85_16
 exact wlk
theorem w85_17:Good 85 ⟨[.lst none [.int .u8 200,.int .u8 240,.int .u8 0,.int .u8 0,.int .u8 0,.int .u8 2,.int .u8 0,.int .u8 0,.int .u8 0,.int .u8 0,.int .u8 0,.int .u8 0,.int .u8 2],.int .u64 144115188075855873,.int .i64 8],none,(.row 1),.any,(.row none 5 [.int .u8 200,.int .u8 240,.int .u8 0,.int .u8 0,.int .u8 0,.int .u8 2,.int .u8 0,.int .u8 0,.int .u8 0,.int .u8 0,.int .u8 0,.int .u8 0,.int .u8 2,.int .u8 2,.int .u8 0,.int .u8 0,.int .u8 0,.int .u8 0,.int .u8 0,.int .u8 0,.int .u8 1])⟩:=append_c [200,240,0,0,0,2,0,0,0,0,0,0,2] _ _ 144115188075855873 8 8 (by kernel_rfl) rfl (by decide) (by decide) (by decide) (by kernel_rfl)
theorem w123_1:Good 123 ⟨[.lst none [.int .u8 200,.int .u8 240,.int .u8 0,.int .u8 0,.int .u8 0,.int .u8 2,.int .u8 0,.int .u8 0,.int .u8 0,.int .u8 0,.int .u8 0,.int .u8 0,.int .u8 2],.agg [.int .i64 3,.int .u16 0,.int .u64 144115188075855873]],none,(.row 1),.any,(.row none 5 [.int .u8 200,.int .u8 240,.int .u8 0,.int .u8 0,.int .u8 0,.int .u8 2,.int .u8 0,.int .u8 0,.int .u8 0,.int .u8 0,.int .u8 0,.int .u8 0,.int .u8 2,.int .u8 2,.int .u8 0,.int .u8 0,.int .u8 0,.int .u8 0,.int .u8 0,.int .u8 0,.int .u8 1])⟩:=by
 refine Good.of Tryz.func123 rfl (by rfl) (by kernel_rfl) ?_
 cbv
 have a0:=w85_17
 exact wlk
theorem w85_18:Good 85 ⟨[.lst none [.int .u8 200,.int .u8 240,.int .u8 0,.int .u8 0,.int .u8 0,.int .u8 2,.int .u8 0,.int .u8 0,.int .u8 0,.int .u8 0,.int .u8 0,.int .u8 0,.int .u8 2,.int .u8 2,.int .u8 0,.int .u8 0,.int .u8 0,.int .u8 0,.int .u8 0,.int .u8 0,.int .u8 1],.int .u64 0,.int .i64 4],none,(.row 1),.any,(.row none 5 [.int .u8 200,.int .u8 240,.int .u8 0,.int .u8 0,.int .u8 0,.int .u8 2,.int .u8 0,.int .u8 0,.int .u8 0,.int .u8 0,.int .u8 0,.int .u8 0,.int .u8 2,.int .u8 2,.int .u8 0,.int .u8 0,.int .u8 0,.int .u8 0,.int .u8 0,.int .u8 0,.int .u8 1,.int .u8 0,.int .u8 0,.int .u8 0,.int .u8 0])⟩:=append_c [200,240,0,0,0,2,0,0,0,0,0,0,2,2,0,0,0,0,0,0,1] _ _ 0 4 4 (by kernel_rfl) rfl (by decide) (by decide) (by decide) (by kernel_rfl)
theorem w61_0:Good 61 ⟨[.agg [.int .i64 3,.bool false,.bool false,.bool true,.int .u8 0,.int .u16 0,.int .i64 3,.int .u16 0,.int .u64 144115188075855874,.int .i64 3,.int .u16 0,.int .u64 144115188075855873,.int .u32 0,.int .u8 1,.lst none [.int .u8 2,.int .u8 0,.int .u8 0,.int .u8 0,.int .u8 9],.nil]],none,(.row 1),.any,(.row none 5 [.int .u8 200,.int .u8 240,.int .u8 0,.int .u8 0,.int .u8 0,.int .u8 2,.int .u8 0,.int .u8 0,.int .u8 0,.int .u8 0,.int .u8 0,.int .u8 0,.int .u8 2,.int .u8 2,.int .u8 0,.int .u8 0,.int .u8 0,.int .u8 0,.int .u8 0,.int .u8 0,.int .u8 1,.int .u8 0,.int .u8 0,.int .u8 0,.int .u8 0,.int .u8 1,.int .u8 2,.int .u8 0,.int .u8 0,.int .u8 0,.int .u8 9])⟩:=by
 refine Good.of Tryz.func61 rfl (by rfl) (by kernel_rfl) ?_
 cbv
 have a0:=w59_1
 have a1:=w59_2
 have a2:=w122_0
 have a3:=w122_1
 have a4:=w122_2
 have a5:=w85_15
 have a6:=w123_0
 have a7:=w123_1
 have a8:=w85_18
 exact wlk
theorem w107_0:Good 107 ⟨[.agg [.int .u8 17,.int .u8 18,.int .u8 19,.int .u8 20,.int .u8 21,.int .u8 22,.int .u8 23,.int .u8 24,.int .u8 25,.int .u8 26,.int .u8 27,.int .u8 28,.int .u8 29,.int .u8 30,.int .u8 31,.int .u8 32],.lst none [.int .u8 200,.int .u8 240,.int .u8 0,.int .u8 0,.int .u8 0,.int .u8 2,.int .u8 0,.int .u8 0,.int .u8 0,.int .u8 0,.int .u8 0,.int .u8 0,.int .u8 2,.int .u8 2,.int .u8 0,.int .u8 0,.int .u8 0,.int .u8 0,.int .u8 0,.int .u8 0,.int .u8 1,.int .u8 0,.int .u8 0,.int .u8 0,.int .u8 0,.int .u8 1,.int .u8 2,.int .u8 0,.int .u8 0,.int .u8 0,.int .u8 9],.int .i64 4],none,(.tup [.row 1,.bool true]),.any,(.row none 5 [.int .u8 13,.int .u8 198,.int .u8 34,.int .u8 107])⟩:=tag_c [200,240,0,0,0,2,0,0,0,0,0,0,2,2,0,0,0,0,0,0,1,0,0,0,0,1,2,0,0,0,9] _ _ (by kernel_rfl) (by decide) 4 4 rfl (by decide) (by kernel_rfl)
theorem w177_2:Good 177 ⟨[.agg [.int .i64 3,.bool false,.bool false,.bool true,.int .u8 0,.int .u16 0,.int .i64 3,.int .u16 0,.int .u64 144115188075855874,.int .i64 3,.int .u16 0,.int .u64 144115188075855873,.int .u32 0,.int .u8 1,.lst none [.int .u8 2,.int .u8 0,.int .u8 0,.int .u8 0,.int .u8 9],.lst none [.int .u8 13,.int .u8 198,.int .u8 34,.int .u8 107]]],none,(.int .i64 37),.any,.no⟩:=by
 refine Good.of Tryz.func177 rfl (by rfl) (by kernel_rfl) ?_
 cbv
 have a0:=w207_0
 have a1:=w207_1
 exact wlk
theorem w121_3:Good 121 ⟨[.agg [.int .i64 3,.bool false,.bool false,.bool true,.int .u8 0,.int .u16 0,.int .i64 3,.int .u16 0,.int .u64 144115188075855874,.int .i64 3,.int .u16 0,.int .u64 144115188075855873,.int .u32 0,.int .u8 1,.lst none [.int .u8 2,.int .u8 0,.int .u8 0,.int .u8 0,.int .u8 9],.lst none [.int .u8 13,.int .u8 198,.int .u8 34,.int .u8 107]]],none,(.bool true),.any,.no⟩:=by
 refine Good.of Tryz.func121 rfl (by rfl) (by kernel_rfl) ?_
 cbv
 have a0:=w159_1
 have a1:=w159_0
 have a2:=w176_0
 have a3:=w177_2
 exact wlk
theorem w59_3:Good 59 ⟨[.agg [.int .i64 3,.bool false,.bool false,.bool true,.int .u8 0,.int .u16 0,.int .i64 3,.int .u16 0,.int .u64 144115188075855874,.int .i64 3,.int .u16 0,.int .u64 144115188075855873,.int .u32 0,.int .u8 1,.lst none [.int .u8 2,.int .u8 0,.int .u8 0,.int .u8 0,.int .u8 9],.lst none [.int .u8 13,.int .u8 198,.int .u8 34,.int .u8 107]]],none,(.bool true),.any,.no⟩:=by
 refine Good.of Tryz.func59 rfl (by rfl) (by kernel_rfl) ?_
 cbv
 have a0:=w121_3
 exact wlk
theorem w108_0:Good 108 ⟨[.lst none [.int .u8 2,.int .u8 0,.int .u8 0,.int .u8 0,.int .u8 9]],none,(.row 1),.any,(.row none 5 [.int .u8 2,.int .u8 0,.int .u8 0,.int .u8 0,.int .u8 9])⟩:=by
 refine Good.of Tryz.func108 rfl (by rfl) (by kernel_rfl) ?_
 cbv
 exact wlk
theorem w167_0:Good 167 ⟨[.lst (some 17) [.agg [.int .u8 1,.int .u8 17,.int .u8 18,.int .u8 19,.int .u8 20,.int .u8 21,.int .u8 22,.int .u8 23,.int .u8 24,.int .u8 25,.int .u8 26,.int .u8 27,.int .u8 28,.int .u8 29,.int .u8 30,.int .u8 31,.int .u8 32]]],none,(.row 1),.any,(.row (some 17) 136 [.agg [.int .u8 1,.int .u8 17,.int .u8 18,.int .u8 19,.int .u8 20,.int .u8 21,.int .u8 22,.int .u8 23,.int .u8 24,.int .u8 25,.int .u8 26,.int .u8 27,.int .u8 28,.int .u8 29,.int .u8 30,.int .u8 31,.int .u8 32]])⟩:=by
 refine Good.of Tryz.func167 rfl (by rfl) (by kernel_rfl) ?_
 cbv
 exact wlk
theorem w168_0:Good 168 ⟨[.lst (some 6) []],none,(.row 1),.any,(.row (some 6) 196 [])⟩:=by
 refine Good.of Tryz.func168 rfl (by rfl) (by kernel_rfl) ?_
 cbv
 exact wlk
theorem w109_0:Good 109 ⟨[.agg [.lst (some 17) [.agg [.int .u8 1,.int .u8 17,.int .u8 18,.int .u8 19,.int .u8 20,.int .u8 21,.int .u8 22,.int .u8 23,.int .u8 24,.int .u8 25,.int .u8 26,.int .u8 27,.int .u8 28,.int .u8 29,.int .u8 30,.int .u8 31,.int .u8 32]],.int .u32 0,.int .u32 1048576,.int .u32 0,.nil]],none,(.agg [.lst (some 17) [.agg [.int .u8 1,.int .u8 17,.int .u8 18,.int .u8 19,.int .u8 20,.int .u8 21,.int .u8 22,.int .u8 23,.int .u8 24,.int .u8 25,.int .u8 26,.int .u8 27,.int .u8 28,.int .u8 29,.int .u8 30,.int .u8 31,.int .u8 32]],.int .u32 0,.int .u32 1048576,.int .u32 0,.row 1]),.any,(.row (some 6) 196 [])⟩:=by
 refine Good.of Tryz.func109 rfl (by rfl) (by kernel_rfl) ?_
 cbv
 have a0:=w167_0
 have a1:=w168_0
 exact wlk
theorem w49_0:Good 49 ⟨[.agg [.lst (some 17) [.agg [.int .u8 1,.int .u8 17,.int .u8 18,.int .u8 19,.int .u8 20,.int .u8 21,.int .u8 22,.int .u8 23,.int .u8 24,.int .u8 25,.int .u8 26,.int .u8 27,.int .u8 28,.int .u8 29,.int .u8 30,.int .u8 31,.int .u8 32]],.int .u32 0,.int .u32 1048576,.int .u32 0,.nil],.agg [.int .i64 3,.bool false,.bool false,.bool false,.int .u8 0,.int .u16 0,.int .i64 3,.int .u16 0,.int .u64 144115188075855874,.int .i64 3,.int .u16 0,.int .u64 144115188075855873,.int .u32 0,.int .u8 0,.lst none [.int .u8 2,.int .u8 0,.int .u8 0,.int .u8 0,.int .u8 9],.nil],.int .u8 1],none,(.tup [.agg [.lst (some 17) [.agg [.int .u8 1,.int .u8 17,.int .u8 18,.int .u8 19,.int .u8 20,.int .u8 21,.int .u8 22,.int .u8 23,.int .u8 24,.int .u8 25,.int .u8 26,.int .u8 27,.int .u8 28,.int .u8 29,.int .u8 30,.int .u8 31,.int .u8 32]],.int .u32 1,.int .u32 1048576,.int .u32 0,.lst (some 6) []],.agg [.int .i64 3,.bool false,.bool false,.bool true,.int .u8 0,.int .u16 0,.int .i64 3,.int .u16 0,.int .u64 144115188075855874,.int .i64 3,.int .u16 0,.int .u64 144115188075855873,.int .u32 0,.int .u8 1,.lst none [.int .u8 2,.int .u8 0,.int .u8 0,.int .u8 0,.int .u8 9],.lst none [.int .u8 13,.int .u8 198,.int .u8 34,.int .u8 107]],.int .i64 0]),.any,.no⟩:=by
 refine Good.of Tryz.func49 rfl (by rfl) (by kernel_rfl) ?_
 cbv
 have a0:=w104_1
 have a1:=w59_0
 have a2:=w106_0
 have a3:=w61_0
 have a4:=w107_0
 have a5:=w59_3
 have a6:=w108_0
 have a7:=w109_0
 exact wlk
theorem w106_1:Good 106 ⟨[.agg [.lst (some 17) [.agg [.int .u8 1,.int .u8 17,.int .u8 18,.int .u8 19,.int .u8 20,.int .u8 21,.int .u8 22,.int .u8 23,.int .u8 24,.int .u8 25,.int .u8 26,.int .u8 27,.int .u8 28,.int .u8 29,.int .u8 30,.int .u8 31,.int .u8 32]],.int .u32 0,.int .u32 1048576,.int .u32 9,.nil],.int .u8 1],none,(.tup [.agg [.int .u8 17,.int .u8 18,.int .u8 19,.int .u8 20,.int .u8 21,.int .u8 22,.int .u8 23,.int .u8 24,.int .u8 25,.int .u8 26,.int .u8 27,.int .u8 28,.int .u8 29,.int .u8 30,.int .u8 31,.int .u8 32],.bool true]),.any,.no⟩:=by
 refine Good.of Tryz.func106 rfl (by rfl) (by kernel_rfl) ?_
 cbv
 exact wlk
theorem w61_1:Good 61 ⟨[.agg [.int .i64 3,.bool false,.bool false,.bool true,.int .u8 0,.int .u16 0,.int .i64 3,.int .u16 0,.int .u64 144115188075855874,.int .i64 3,.int .u16 0,.int .u64 144115188075855873,.int .u32 0,.int .u8 1,.lst none [.int .u8 2,.int .u8 0,.int .u8 0,.int .u8 0,.int .u8 9],.lst none [.int .u8 13,.int .u8 198,.int .u8 34,.int .u8 107]]],none,(.row 1),.any,(.row none 5 [.int .u8 200,.int .u8 240,.int .u8 0,.int .u8 0,.int .u8 0,.int .u8 2,.int .u8 0,.int .u8 0,.int .u8 0,.int .u8 0,.int .u8 0,.int .u8 0,.int .u8 2,.int .u8 2,.int .u8 0,.int .u8 0,.int .u8 0,.int .u8 0,.int .u8 0,.int .u8 0,.int .u8 1,.int .u8 0,.int .u8 0,.int .u8 0,.int .u8 0,.int .u8 1,.int .u8 2,.int .u8 0,.int .u8 0,.int .u8 0,.int .u8 9])⟩:=by
 refine Good.of Tryz.func61 rfl (by rfl) (by kernel_rfl) ?_
 cbv
 have a0:=w59_3
 have a1:=w122_0
 have a2:=w122_1
 have a3:=w122_2
 have a4:=w85_15
 have a5:=w123_0
 have a6:=w123_1
 have a7:=w85_18
 exact wlk
end
section
set_option maxHeartbeats 40000000
set_option maxRecDepth 100000
theorem w110_0:Good 110 ⟨[.agg [.int .u8 17,.int .u8 18,.int .u8 19,.int .u8 20,.int .u8 21,.int .u8 22,.int .u8 23,.int .u8 24,.int .u8 25,.int .u8 26,.int .u8 27,.int .u8 28,.int .u8 29,.int .u8 30,.int .u8 31,.int .u8 32],.lst none [.int .u8 200,.int .u8 240,.int .u8 0,.int .u8 0,.int .u8 0,.int .u8 2,.int .u8 0,.int .u8 0,.int .u8 0,.int .u8 0,.int .u8 0,.int .u8 0,.int .u8 2,.int .u8 2,.int .u8 0,.int .u8 0,.int .u8 0,.int .u8 0,.int .u8 0,.int .u8 0,.int .u8 1,.int .u8 0,.int .u8 0,.int .u8 0,.int .u8 0,.int .u8 1,.int .u8 2,.int .u8 0,.int .u8 0,.int .u8 0,.int .u8 9],.lst none [.int .u8 13,.int .u8 198,.int .u8 34,.int .u8 107]],none,(.bool true),.any,.no⟩:=verify_c [200,240,0,0,0,2,0,0,0,0,0,0,2,2,0,0,0,0,0,0,1,0,0,0,0,1,2,0,0,0,9] [13,198,34,107] _ _ (by kernel_rfl) (by decide) (by kernel_rfl) (by decide) true (by kernel_rfl)
theorem w109_1:Good 109 ⟨[.agg [.lst (some 17) [.agg [.int .u8 1,.int .u8 17,.int .u8 18,.int .u8 19,.int .u8 20,.int .u8 21,.int .u8 22,.int .u8 23,.int .u8 24,.int .u8 25,.int .u8 26,.int .u8 27,.int .u8 28,.int .u8 29,.int .u8 30,.int .u8 31,.int .u8 32]],.int .u32 0,.int .u32 1048576,.int .u32 9,.nil]],none,(.agg [.lst (some 17) [.agg [.int .u8 1,.int .u8 17,.int .u8 18,.int .u8 19,.int .u8 20,.int .u8 21,.int .u8 22,.int .u8 23,.int .u8 24,.int .u8 25,.int .u8 26,.int .u8 27,.int .u8 28,.int .u8 29,.int .u8 30,.int .u8 31,.int .u8 32]],.int .u32 0,.int .u32 1048576,.int .u32 9,.row 1]),.any,(.row (some 6) 196 [])⟩:=by
 refine Good.of Tryz.func109 rfl (by rfl) (by kernel_rfl) ?_
 cbv
 have a0:=w167_0
 have a1:=w168_0
 exact wlk
theorem w85_19:Good 85 ⟨[.lst none [.int .u8 2],.int .u64 9,.int .i64 4],none,(.row 1),.any,(.row none 5 [.int .u8 2,.int .u8 0,.int .u8 0,.int .u8 0,.int .u8 9])⟩:=append_c [2] _ _ 9 4 4 (by kernel_rfl) rfl (by decide) (by decide) (by decide) (by kernel_rfl)
theorem w105_1:Good 105 ⟨[.int .u8 2,.int .u32 9],none,(.row 1),.any,(.row none 5 [.int .u8 2,.int .u8 0,.int .u8 0,.int .u8 0,.int .u8 9])⟩:=by
 refine Good.of Tryz.func105 rfl (by rfl) (by kernel_rfl) ?_
 cbv
 have a0:=w85_19
 exact wlk
theorem w53_0:Good 53 ⟨[.lst none [.int .u8 2,.int .u8 0,.int .u8 0,.int .u8 0,.int .u8 9],.lst none [.int .u8 2,.int .u8 0,.int .u8 0,.int .u8 0,.int .u8 9]],none,(.bool true),.any,.no⟩:=equal_c [2,0,0,0,9] [2,0,0,0,9] _ _ (by kernel_rfl) (by kernel_rfl) true (by kernel_rfl)
theorem w50_0:Good 50 ⟨[.agg [.lst (some 17) [.agg [.int .u8 1,.int .u8 17,.int .u8 18,.int .u8 19,.int .u8 20,.int .u8 21,.int .u8 22,.int .u8 23,.int .u8 24,.int .u8 25,.int .u8 26,.int .u8 27,.int .u8 28,.int .u8 29,.int .u8 30,.int .u8 31,.int .u8 32]],.int .u32 0,.int .u32 1048576,.int .u32 9,.nil],.agg [.int .i64 3,.bool false,.bool false,.bool true,.int .u8 0,.int .u16 0,.int .i64 3,.int .u16 0,.int .u64 144115188075855874,.int .i64 3,.int .u16 0,.int .u64 144115188075855873,.int .u32 0,.int .u8 1,.lst none [.int .u8 2,.int .u8 0,.int .u8 0,.int .u8 0,.int .u8 9],.lst none [.int .u8 13,.int .u8 198,.int .u8 34,.int .u8 107]]],none,(.tup [.agg [.lst (some 17) [.agg [.int .u8 1,.int .u8 17,.int .u8 18,.int .u8 19,.int .u8 20,.int .u8 21,.int .u8 22,.int .u8 23,.int .u8 24,.int .u8 25,.int .u8 26,.int .u8 27,.int .u8 28,.int .u8 29,.int .u8 30,.int .u8 31,.int .u8 32]],.int .u32 0,.int .u32 1048576,.int .u32 9,.lst (some 6) [.agg [.int .i64 3,.int .u16 0,.int .u64 144115188075855873,.int .u8 1,.int .u32 0,.int .u32 4294967295]]],.int .i64 0]),.any,.no⟩:=by
 refine Good.of Tryz.func50 rfl (by rfl) (by kernel_rfl) ?_
 cbv
 have a0:=w104_0
 have a1:=w59_3
 have a2:=w106_1
 have a3:=w61_1
 have a4:=w110_0
 have a5:=w109_1
 have a6:=w105_1
 have a7:=w53_0
 exact wlk
theorem w7_0:Good 7 ⟨[.int .i64 0,.int .i64 1],none,(.tup [.agg [.lst (some 17) [.agg [.int .u8 1,.int .u8 17,.int .u8 18,.int .u8 19,.int .u8 20,.int .u8 21,.int .u8 22,.int .u8 23,.int .u8 24,.int .u8 25,.int .u8 26,.int .u8 27,.int .u8 28,.int .u8 29,.int .u8 30,.int .u8 31,.int .u8 32]],.int .u32 1,.int .u32 1048576,.int .u32 0,.lst (some 6) []],.agg [.lst (some 17) [.agg [.int .u8 1,.int .u8 17,.int .u8 18,.int .u8 19,.int .u8 20,.int .u8 21,.int .u8 22,.int .u8 23,.int .u8 24,.int .u8 25,.int .u8 26,.int .u8 27,.int .u8 28,.int .u8 29,.int .u8 30,.int .u8 31,.int .u8 32]],.int .u32 0,.int .u32 1048576,.int .u32 9,.lst (some 6) [.agg [.int .i64 3,.int .u16 0,.int .u64 144115188075855873,.int .u8 1,.int .u32 0,.int .u32 4294967295]]],.bool true]),.any,.no⟩:=by
 refine Good.of Tryz.func7 rfl (by rfl) (by kernel_rfl) ?_
 cbv
 have a0:=w16_0
 have a1:=w48_0
 have a2:=w47_0
 have a3:=w13_1
 have a4:=w13_0
 have a5:=w49_0
 have a6:=w50_0
 exact wlk
end
section
set_option maxHeartbeats 40000000
set_option maxRecDepth 100000
end
end Go.Proofs.YtgfpjhddojhfpaaGreat
