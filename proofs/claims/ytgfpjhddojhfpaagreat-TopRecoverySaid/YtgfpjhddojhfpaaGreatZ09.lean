/- Texts put together: Snj Snk Snl. -/
import Derived.Test.YtgfpjhddojhfpaaGreatZ04
import Derived.Test.YtgfpjhddojhfpaaGreatZ06
import Derived.Test.YtgfpjhddojhfpaaGreatZ07
import Derived.Test.YtgfpjhddojhfpaaGreatZ08
namespace Go.Proofs.YtgfpjhddojhfpaaGreat
set_option linter.unusedVariables false
set_option linter.unusedSimpArgs false
section
set_option maxHeartbeats 40000000
set_option maxRecDepth 100000
end
section
set_option maxHeartbeats 40000000
set_option maxRecDepth 100000
theorem w215_0:Good 215 ⟨[.int .i64 3],none,(.bool false),.any,.no⟩:=by
 refine Good.of Tryz.func215 rfl (by rfl) (by kernel_rfl) ?_
 cbv
 exact wlk
theorem w202_0:Good 202 ⟨[.int .i64 3,.int .i64 3],none,(.int .i64 0),.any,.no⟩:=by
 refine Good.of Tryz.func202 rfl (by rfl) (by kernel_rfl) ?_
 cbv
 have a0:=w215_0
 exact wlk
theorem w216_0:Good 216 ⟨[.int .u16 0],none,(.bool false),.any,.no⟩:=by
 refine Good.of Tryz.func216 rfl (by rfl) (by kernel_rfl) ?_
 cbv
 exact wlk
theorem w203_0:Good 203 ⟨[.int .u16 0,.int .u16 0],none,(.int .i64 0),.any,.no⟩:=by
 refine Good.of Tryz.func203 rfl (by rfl) (by kernel_rfl) ?_
 cbv
 have a0:=w216_0
 exact wlk
theorem w217_0:Good 217 ⟨[.int .u64 144115188075855873],none,(.bool false),.any,.no⟩:=by
 refine Good.of Tryz.func217 rfl (by rfl) (by kernel_rfl) ?_
 cbv
 exact wlk
theorem w204_0:Good 204 ⟨[.int .u64 144115188075855873,.int .u64 144115188075855873],none,(.int .i64 0),.any,.no⟩:=by
 refine Good.of Tryz.func204 rfl (by rfl) (by kernel_rfl) ?_
 cbv
 have a0:=w217_0
 exact wlk
theorem w169_0:Good 169 ⟨[.lst none [.int .i64 0,.int .i64 0,.int .i64 0]],none,(.int .i64 0),.any,.no⟩:=by
 refine Good.of Tryz.func169 rfl (by rfl) (by kernel_rfl) ?_
 cbv
 exact wlk
theorem w170_0:Good 170 ⟨[.agg [.int .i64 3,.int .u16 0,.int .u64 144115188075855873],.agg [.int .i64 3,.int .u16 0,.int .u64 144115188075855873]],none,(.int .i64 0),.any,.no⟩:=by
 refine Good.of Tryz.func170 rfl (by rfl) (by kernel_rfl) ?_
 cbv
 have a0:=w202_0
 have a1:=w203_0
 have a2:=w204_0
 have a3:=w169_0
 exact wlk
theorem w205_0:Good 205 ⟨[.int .u8 1],none,(.bool false),.any,.no⟩:=by
 refine Good.of Tryz.func205 rfl (by rfl) (by kernel_rfl) ?_
 cbv
 exact wlk
theorem w171_0:Good 171 ⟨[.int .u8 1,.int .u8 1],none,(.int .i64 0),.any,.no⟩:=by
 refine Good.of Tryz.func171 rfl (by rfl) (by kernel_rfl) ?_
 cbv
 have a0:=w205_0
 exact wlk
theorem w169_1:Good 169 ⟨[.lst none [.int .i64 0,.int .i64 0]],none,(.int .i64 0),.any,.no⟩:=by
 refine Good.of Tryz.func169 rfl (by rfl) (by kernel_rfl) ?_
 cbv
 exact wlk
end
section
set_option maxHeartbeats 40000000
set_option maxRecDepth 100000
end
end Go.Proofs.YtgfpjhddojhfpaaGreat
