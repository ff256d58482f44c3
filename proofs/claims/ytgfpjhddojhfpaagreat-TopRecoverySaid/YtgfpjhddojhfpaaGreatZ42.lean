/- Texts put together: KV. -/
import Derived.Test.YtgfpjhddojhfpaaGreatZ23
import Derived.Test.YtgfpjhddojhfpaaGreatZ33
import Derived.Test.YtgfpjhddojhfpaaGreatZ37
namespace Go.Proofs.YtgfpjhddojhfpaaGreat
set_option linter.unusedVariables false
set_option linter.unusedSimpArgs false
section
open Go.RowKit
set_option maxHeartbeats 8000000
set_option maxRecDepth 100000
theorem sane_c:Good 20 (pu [] (.bool true)):=by
 obtain ⟨C,l1,l2,l3,ge,gd⟩:=pack 0 0 17 64 254 128 0 0 0 0 0 0 0 0 0 0 0 0 0 1 254 128 0 0 0 0 0 0 0 0 0 0 0 0 0 2 61617 61618 [1,2,3] [.int .u8 1,.int .u8 2,.int .u8 3] rfl ⟨by omega,by omega,by omega,by omega,by omega,by omega,by omega,by omega,by simp,by simp⟩ ⟨by omega,by omega,by omega,by omega,by omega,by omega,by omega,by omega,by omega,by omega,by omega,by omega,by omega,by omega,by omega,by omega⟩ ⟨by omega,by omega,by omega,by omega,by omega,by omega,by omega,by omega,by omega,by omega,by omega,by omega,by omega,by omega,by omega,by omega⟩
 have gq:=psame_c 0 0 17 64 254 128 0 0 0 0 0 0 0 0 0 0 0 0 0 1 254 128 0 0 0 0 0 0 0 0 0 0 0 0 0 2 61617 61618 [1,2,3] [.int .u8 1,.int .u8 2,.int .u8 3] rfl (by simp)
 obtain ⟨CC,hCC⟩:∃ R,R=u8l C:=⟨_,rfl⟩
 rw [← hCC] at ge gd
 have l3:C.length≤51:=l3
 obtain ⟨T,hT⟩:∃ T,T=tagP (rcF true 1 1 C []).hdr 4:=⟨_,rfl⟩
 obtain ⟨E,hE⟩:∃ E,E=u8l (rcF true 1 1 C T).enc:=⟨_,rfl⟩
 obtain ⟨w,hw⟩:∃ w,w=winW 4294967295 (1 - 0):=⟨_,rfl⟩
 have g1:=sealN_c 1 2 (by omega) rfl C CC hCC (by omega) T hT E hE
 have g2:=openN_c 1 0 4294967295 (by omega) (by omega) rfl C CC hCC (by omega) T hT E hE w hw
 have g3:=same_c C C CC CC true hCC hCC (by omega) (by omega) (by simp)
 clear hT hE hw hCC
 refine Good.of Tryz.func20 rfl (by rfl) (by kernel_rfl) ?_
 cbv
 have hmk:True:=trivial
 have a0:=w62_0
 have a1:=w13_0
 have a2:=w13_1
 have a5:=w7_0
 exact wlkcLX
end
end Go.Proofs.YtgfpjhddojhfpaaGreat
