/- Texts put together: HH HI IA IB IC IG. -/
import Derived.Test.YtgfpjhddojhfpaaGreatZ03
import Derived.Test.YtgfpjhddojhfpaaGreatZ06
import Derived.Test.YtgfpjhddojhfpaaGreatZ14
namespace Go.Proofs.YtgfpjhddojhfpaaGreat
set_option linter.unusedVariables false
set_option linter.unusedSimpArgs false
section
open Go.RowKit
set_option maxHeartbeats 4000000
abbrev keyS:SV:=.agg [.int .u8 1,.int .u8 17,.int .u8 18,.int .u8 19,.int .u8 20,.int .u8 21,.int .u8 22,.int .u8 23,.int .u8 24,.int .u8 25,.int .u8 26,.int .u8 27,.int .u8 28,.int .u8 29,.int .u8 30,.int .u8 31,.int .u8 32]
abbrev gS (c n:Int) (L:List SV):SV:=.agg [.lst (some 17) [keyS],.int .u32 c,.int .u32 1048576,.int .u32 n,.lst (some 6) L]
theorem keyOf_yes (c n:Int) (L:List SV):Good 106 (pu [gS c n L,.int .u8 1] (.tup [.agg [.int .u8 17,.int .u8 18,.int .u8 19,.int .u8 20,.int .u8 21,.int .u8 22,.int .u8 23,.int .u8 24,.int .u8 25,.int .u8 26,.int .u8 27,.int .u8 28,.int .u8 29,.int .u8 30,.int .u8 31,.int .u8 32],.bool true])):=by
 refine Good.of Tryz.func106 rfl (by rfl) (by kernel_rfl) ?_
 cbv
 repeat' (first
| ((first
| refine QC.tt (by decide) ?_
| refine QC.ff (by decide) ?_
| (refine q1w (fun z hz=>?_);(try simp only at hz))
| refine rqw ?_
| refine qvIdx _ (by rfl) (by decide) ?_
| refine qxArr (by decide) (by decide) ?_
| refine qvSome _ (by rfl) ?_
| refine QC.tw ?_
| refine QC.fw ?_
| refine unrollq 4 ?_);cbv;(try (simp only [cwn];cbv)))
| (simp only [cwn];cbv))
 exact ⟨rfl,rfl,rfl⟩
theorem asc_keys:Good 162 (pu [.lst (some 17) [keyS],.clo 163 []] (.bool true)):=by
 refine Good.of Tryz.func162 rfl (by rfl) (by kernel_rfl) ?_
 cbv
 repeat' (first
| ((first
| refine QC.tt (by decide) ?_
| refine QC.ff (by decide) ?_
| (refine q1w (fun z hz=>?_);(try simp only at hz))
| refine rqw ?_
| refine qvIdx _ (by rfl) (by decide) ?_
| refine qxArr (by decide) (by decide) ?_
| refine qvSome _ (by rfl) ?_
| refine QC.tw ?_
| refine QC.fw ?_
| refine unrollq 4 ?_);cbv;(try (simp only [cwn];cbv)))
| (simp only [cwn];cbv))
 exact ⟨rfl,rfl,rfl⟩
theorem asc_peers0:Good 164 (pu [.lst (some 6) [],.clo 111 []] (.bool true)):=by
 refine Good.of Tryz.func164 rfl (by rfl) (by kernel_rfl) ?_
 cbv
 repeat' (first
| ((first
| refine QC.tt (by decide) ?_
| refine QC.ff (by decide) ?_
| (refine q1w (fun z hz=>?_);(try simp only at hz))
| refine rqw ?_
| refine qvIdx _ (by rfl) (by decide) ?_
| refine qxArr (by decide) (by decide) ?_
| refine qvSome _ (by rfl) ?_
| refine QC.tw ?_
| refine QC.fw ?_
| refine unrollq 4 ?_);cbv;(try (simp only [cwn];cbv)))
| (simp only [cwn];cbv))
 exact ⟨rfl,rfl,rfl⟩
theorem asc_peers1 (x:SV):Good 164 (pu [.lst (some 6) [x],.clo 111 []] (.bool true)):=by
 refine Good.of Tryz.func164 rfl (by rfl) (by kernel_rfl) ?_
 cbv
 repeat' (first
| ((first
| refine QC.tt (by decide) ?_
| refine QC.ff (by decide) ?_
| (refine q1w (fun z hz=>?_);(try simp only at hz))
| refine rqw ?_
| refine qvIdx _ (by rfl) (by decide) ?_
| refine qxArr (by decide) (by decide) ?_
| refine qvSome _ (by rfl) ?_
| refine QC.tw ?_
| refine QC.fw ?_
| refine unrollq 4 ?_);cbv;(try (simp only [cwn];cbv)))
| (simp only [cwn];cbv))
 exact ⟨rfl,rfl,rfl⟩
theorem clone_c (bs:List UInt8) (X:List SV) (hX:X=u8l bs) (hl:bs.length≤1000):Good 108 (nu [.lst none X] (.row 1) (.row none 5 X)):=by
 have hl':X.length=bs.length:=by rw [hX,u8l_len]
 refine Good.of Tryz.func108 rfl (by rfl) (by kernel_rfl) ?_
 cbv
 (repeat' (first
| ((first
| (refine q1w (fun z hz=>?_);(try simp only at hz))
| refine rqa ?_
| refine chpA ?_
| refine QCt ?_
| refine QCf ?_);cbv)
| (refine QC.mk ?_ ?_ <;> intro hc <;> (try dsimp only at hc) <;> cbv)
| (refine br_mk2 ?_ ?_ <;> intro hb <;> (try subst hb) <;> cbv)))
 exact ⟨rfl,rfl,rfl⟩
abbrev peS (last win:Int):SV:=.agg [.int .i64 3,.int .u16 0,.int .u64 144115188075855873,.int .u8 1,.int .u32 last,.int .u32 win]
theorem validPeer_c (c n:Int) (L:List SV) (last win:Int) (hb:0≤win∧win≤4294967295) (hw:((win.toNat &&& Int.toNat 1:Nat):Int)=1):Good 165 (pu [gS c n L,peS last win] (.bool true)):=by
 have c1:=avalid_c 3 0 144115188075855873 true (by decide)
 have c2:=bcast_c 3 0 144115188075855873 false (by decide)
 have c3:=keyOf_yes c n L
 refine Good.of Tryz.func165 rfl (by rfl) (by kernel_rfl) ?_
 cbv
 repeat' (first
  | (refine QC.tt (by decide) ?_;cbv;(try (simp only [cwn];cbv)))
  | (refine QC.ff (by decide) ?_;cbv;(try (simp only [cwn];cbv)))
  | (refine q1w (fun z hz=>?_);(try simp only at hz);cbv;(try (simp only [cwn];cbv)))
  | (refine rqw ?_;cbv;(try (simp only [cwn];cbv)))
  | (refine qvIdx _ (by rfl) (by decide) ?_;cbv;(try (simp only [cwn];cbv)))
  | (refine qxArr (by decide) (by decide) ?_;cbv;(try (simp only [cwn];cbv)))
  | (refine qvSome _ (by rfl) ?_;cbv;(try (simp only [cwn];cbv)))
  | (refine QC.tw ?_;cbv;(try (simp only [cwn];cbv)))
  | (refine QC.fw ?_;cbv;(try (simp only [cwn];cbv)))
  | (refine unrollq 4 ?_;cbv;(try (simp only [cwn];cbv)))
  | (simp only [cwn];cbv)
  | (refine callq c1 rfl rfl ?_;cbv;(try (simp only [cwn];cbv)))
  | (refine callq c2 rfl rfl ?_;cbv;(try (simp only [cwn];cbv)))
  | (refine callq c3 rfl rfl ?_;cbv;(try (simp only [cwn];cbv))))
 exact ⟨rfl,rfl,rfl⟩
theorem gvalid0 (c n:Int) (hc:0≤c∧c≤1048576):Good 104 (pu [gS c n []] (.bool true)):=by
 refine Good.of Tryz.func104 rfl (by rfl) (by kernel_rfl) ?_
 cbv
 repeat' (first
  | (refine QC.tt (by decide) ?_;cbv;(try (simp only [cwn];cbv)))
  | (refine QC.ff (by decide) ?_;cbv;(try (simp only [cwn];cbv)))
  | (refine q1w (fun z hz=>?_);(try simp only at hz);cbv;(try (simp only [cwn];cbv)))
  | (refine rqw ?_;cbv;(try (simp only [cwn];cbv)))
  | (refine qvIdx _ (by rfl) (by decide) ?_;cbv;(try (simp only [cwn];cbv)))
  | (refine qxArr (by decide) (by decide) ?_;cbv;(try (simp only [cwn];cbv)))
  | (refine qvSome _ (by rfl) ?_;cbv;(try (simp only [cwn];cbv)))
  | (refine QC.tw ?_;cbv;(try (simp only [cwn];cbv)))
  | (refine QC.fw ?_;cbv;(try (simp only [cwn];cbv)))
  | (refine unrollq 4 ?_;cbv;(try (simp only [cwn];cbv)))
  | (simp only [cwn];cbv)
  | (refine callq asc_keys rfl rfl ?_;cbv;(try (simp only [cwn];cbv)))
  | (refine callq asc_peers0 rfl rfl ?_;cbv;(try (simp only [cwn];cbv))))
 exact ⟨rfl,rfl,rfl⟩
theorem gvalid1 (c n:Int) (hc:0≤c∧c≤1048576) (last win:Int) (hb:0≤win∧win≤4294967295) (hw:((win.toNat &&& Int.toNat 1:Nat):Int)=1):Good 104 (pu [gS c n [peS last win]] (.bool true)):=by
 have c1:=validPeer_c c n [peS last win] last win hb hw
 have c2:=asc_peers1 (peS last win)
 refine Good.of Tryz.func104 rfl (by rfl) (by kernel_rfl) ?_
 cbv
 repeat' (first
  | (refine QC.tt (by decide) ?_;cbv;(try (simp only [cwn];cbv)))
  | (refine QC.ff (by decide) ?_;cbv;(try (simp only [cwn];cbv)))
  | (refine q1w (fun z hz=>?_);(try simp only at hz);cbv;(try (simp only [cwn];cbv)))
  | (refine rqw ?_;cbv;(try (simp only [cwn];cbv)))
  | (refine qvIdx _ (by rfl) (by decide) ?_;cbv;(try (simp only [cwn];cbv)))
  | (refine qxArr (by decide) (by decide) ?_;cbv;(try (simp only [cwn];cbv)))
  | (refine qvSome _ (by rfl) ?_;cbv;(try (simp only [cwn];cbv)))
  | (refine QC.tw ?_;cbv;(try (simp only [cwn];cbv)))
  | (refine QC.fw ?_;cbv;(try (simp only [cwn];cbv)))
  | (refine unrollq 4 ?_;cbv;(try (simp only [cwn];cbv)))
  | (simp only [cwn];cbv)
  | (refine callq asc_keys rfl rfl ?_;cbv;(try (simp only [cwn];cbv)))
  | (refine callq c2 rfl rfl ?_;cbv;(try (simp only [cwn];cbv)))
  | (refine callq c1 rfl rfl ?_;cbv;(try (simp only [cwn];cbv))))
 exact ⟨rfl,rfl,rfl⟩
end
section
open Go.RowKit
set_option maxHeartbeats 4000000
theorem Good.argN {f:Nat} {a a':List SV} {r:SV} {b:Blk} (h:Good f (nu a r b)) (hw:WkL a' a) (h1:isSeq (nu a r b)=false:=by rfl) (h2:isLR (nu a r b)=false:=by rfl):Good f (nu a' r b) :=
 ⟨⟨h.h.fn,(fun hq=>absurd hq (by rw [show isSeq (nu a' r b)=isSeq (nu a r b) from rfl,h1];simp)),(fun _ _ _ _ _ hc=>absurd (congrArg CT.lent hc) (by simp [lrC])),(fun _ _ _ _ hc=>absurd (congrArg CT.lent hc) (by simp [gC])),fun _ _ _ N w X ρ vs hm hd=>h.h.h h1 h2 rfl N w X ρ vs hm (hw.den hd)⟩⟩
theorem cloneK:Good 167 (nu [.lst (some 17) [keyS]] (.row 1) (.row (some 17) 136 [keyS])):=by
 refine Good.of Tryz.func167 rfl (by rfl) (by kernel_rfl) ?_
 cbv
 repeat' (first
| ((first
| refine QC.tt (by decide) ?_
| refine QC.ff (by decide) ?_
| (refine q1w (fun z hz=>?_);(try simp only at hz))
| refine rqw ?_
| refine qvIdx _ (by rfl) (by decide) ?_
| refine qxArr (by decide) (by decide) ?_
| refine qvSome _ (by rfl) ?_
| refine QC.tw ?_
| refine QC.fw ?_
| refine unrollq 4 ?_);cbv;(try (simp only [cwn];cbv)))
| (simp only [cwn];cbv))
 exact ⟨rfl,rfl,rfl⟩
theorem cloneP0:Good 168 (nu [.lst (some 6) []] (.row 1) (.row (some 6) 196 [])):=by
 refine Good.of Tryz.func168 rfl (by rfl) (by kernel_rfl) ?_
 cbv
 repeat' (first
| ((first
| refine QC.tt (by decide) ?_
| refine QC.ff (by decide) ?_
| (refine q1w (fun z hz=>?_);(try simp only at hz))
| refine rqw ?_
| refine qvIdx _ (by rfl) (by decide) ?_
| refine qxArr (by decide) (by decide) ?_
| refine qvSome _ (by rfl) ?_
| refine QC.tw ?_
| refine QC.fw ?_
| refine unrollq 4 ?_);cbv;(try (simp only [cwn];cbv)))
| (simp only [cwn];cbv))
 exact ⟨rfl,rfl,rfl⟩
theorem cloneP1 (x:SV):Good 168 (nu [.lst (some 6) [x]] (.row 1) (.row (some 6) 196 [x])):=by
 refine Good.of Tryz.func168 rfl (by rfl) (by kernel_rfl) ?_
 cbv
 repeat' (first
| ((first
| refine QC.tt (by decide) ?_
| refine QC.ff (by decide) ?_
| (refine q1w (fun z hz=>?_);(try simp only at hz))
| refine rqw ?_
| refine qvIdx _ (by rfl) (by decide) ?_
| refine qxArr (by decide) (by decide) ?_
| refine qvSome _ (by rfl) ?_
| refine QC.tw ?_
| refine QC.fw ?_
| refine unrollq 4 ?_);cbv;(try (simp only [cwn];cbv)))
| (simp only [cwn];cbv))
 exact ⟨rfl,rfl,rfl⟩
theorem own0 (c n:Int):Good 109 (pu [gS c n []] (gS c n [])):=by
 refine Good.of Tryz.func109 rfl (by rfl) (by kernel_rfl) ?_
 cbv
 repeat' (first
  | (refine QC.tt (by decide) ?_;cbv;(try (simp only [cwn];cbv)))
  | (refine QC.ff (by decide) ?_;cbv;(try (simp only [cwn];cbv)))
  | (refine q1w (fun z hz=>?_);(try simp only at hz);cbv;(try (simp only [cwn];cbv)))
  | (refine rqw ?_;cbv;(try (simp only [cwn];cbv)))
  | (refine qvIdx _ (by rfl) (by decide) ?_;cbv;(try (simp only [cwn];cbv)))
  | (refine qxArr (by decide) (by decide) ?_;cbv;(try (simp only [cwn];cbv)))
  | (refine qvSome _ (by rfl) ?_;cbv;(try (simp only [cwn];cbv)))
  | (refine QC.tw ?_;cbv;(try (simp only [cwn];cbv)))
  | (refine QC.fw ?_;cbv;(try (simp only [cwn];cbv)))
  | (refine unrollq 4 ?_;cbv;(try (simp only [cwn];cbv)))
  | (simp only [cwn];cbv)
  | (refine callq cloneK rfl rfl ?_;cbv;(try (simp only [cwn];cbv)))
  | (refine callq cloneP0 rfl rfl ?_;cbv;(try (simp only [cwn];cbv))))
 exact ⟨rfl,rfl,rfl⟩
theorem own1 (c n:Int) (x:SV):Good 109 (nu [gS c n [x]] (.agg [.lst (some 17) [keyS],.int .u32 c,.int .u32 1048576,.int .u32 n,.row 1]) (.row (some 6) 196 [x])):=by
 have c1:=cloneP1 x
 refine Good.of Tryz.func109 rfl (by rfl) (by kernel_rfl) ?_
 cbv
 repeat' (first
  | (refine QC.tt (by decide) ?_;cbv;(try (simp only [cwn];cbv)))
  | (refine QC.ff (by decide) ?_;cbv;(try (simp only [cwn];cbv)))
  | (refine q1w (fun z hz=>?_);(try simp only at hz);cbv;(try (simp only [cwn];cbv)))
  | (refine rqw ?_;cbv;(try (simp only [cwn];cbv)))
  | (refine qvIdx _ (by rfl) (by decide) ?_;cbv;(try (simp only [cwn];cbv)))
  | (refine qxArr (by decide) (by decide) ?_;cbv;(try (simp only [cwn];cbv)))
  | (refine qvSome _ (by rfl) ?_;cbv;(try (simp only [cwn];cbv)))
  | (refine QC.tw ?_;cbv;(try (simp only [cwn];cbv)))
  | (refine QC.fw ?_;cbv;(try (simp only [cwn];cbv)))
  | (refine unrollq 4 ?_;cbv;(try (simp only [cwn];cbv)))
  | (simp only [cwn];cbv)
  | (refine callq cloneK rfl rfl ?_;cbv;(try (simp only [cwn];cbv)))
  | (refine callq c1 rfl rfl ?_;cbv;(try (simp only [cwn];cbv))))
 exact ⟨rfl,rfl,rfl⟩
end
section
open Go.RowKit
set_option maxHeartbeats 4000000
theorem seal_c (k:Int) (ac pe:Bool) (q pn dm ds de um us ue c n:Int) (P:List SV) (p:List UInt8) (hP:P=u8l p) (hpl:p.length≤1000)
  (c':Int) (hc:0≤c∧c < 1048576) (hc':c'=c+1) (hk:k≠2)
  (h0:(Fr.mk k ac pe false q pn dm ds de um us ue 0 0 p []).valid=true)
  (ok:(Fr.mk k ac pe true q pn dm ds de um us ue c 1 p []).Ok)
  (hz:(Fr.mk k ac pe true q pn dm ds de um us ue c 1 p [0,0,0,0]).valid=true)
  (hl:(Fr.mk k ac pe true q pn dm ds de um us ue c 1 p []).hdr.length≤100000)
  (T:List UInt8) (hT:T=tagP (Fr.mk k ac pe true q pn dm ds de um us ue c 1 p []).hdr 4)
  (h1:(Fr.mk k ac pe true q pn dm ds de um us ue c 1 p T).valid=true) (hTl:T.length=4) (TS:List SV) (hTS:TS=u8l T) :
  Good 49 (pu [gS c n [],frS k ac pe false q pn dm ds de um us ue 0 0 P [],.int .u8 1]
   (.tup [gS c' n [],frS k ac pe true q pn dm ds de um us ue c 1 P TS,.int .i64 0])):=by
 obtain ⟨hd,hhd⟩:∃ h,h=(Fr.mk k ac pe true q pn dm ds de um us ue c 1 p []).hdr:=⟨_,rfl⟩
 obtain ⟨H,hH⟩:∃ h,h=u8l hd:=⟨_,rfl⟩
 have hPl:P.length=p.length:=by rw [hP,u8l_len]
 have hTSl:TS.length=T.length:=by rw [hTS,u8l_len]
 have c1:=gvalid0 c n ⟨hc.1,by omega⟩
 have c2:=valid_c k ac pe false q pn dm ds de um us ue 0 0 P [] p [] hPl rfl ⟨by omega,by simp⟩ true h0.symm
 have c3:=keyOf_yes c n []
 have c4:=header_c k ac pe true q pn dm ds de um us ue c 1 P [] p [] hP rfl (by simp) (by omega) ok (Or.inr hz) hk H (by rw [hH,hhd])
 have c5:=tag_c hd H TS hH (by rw [hhd];exact hl) 4 4 rfl (by decide) (by rw [hTS,hT,hhd])
 have c6:=valid_c k ac pe true q pn dm ds de um us ue c 1 P TS p T hPl hTSl ⟨by omega,by omega⟩ true h1.symm
 have c7:=clone_c p P hP hpl
 have c8:=own0 c n
 clear h0 ok hz hl hT h1 hhd hH hTS
 refine Good.of Tryz.func49 rfl (by rfl) (by kernel_rfl) ?_
 cbv
 repeat' (first
  | (refine QC.tt (by decide) ?_;cbv;(try (simp only [cwn];cbv)))
  | (refine QC.ff (by decide) ?_;cbv;(try (simp only [cwn];cbv)))
  | (refine QC.ff (by omega) ?_;cbv;(try (simp only [cwn];cbv)))
  | (refine q1w (fun z hz=>?_);(try simp only at hz);cbv;(try (simp only [cwn];cbv)))
  | (refine rqw ?_;cbv;(try (simp only [cwn];cbv)))
  | (refine qvSome _ (by rfl) ?_;cbv;(try (simp only [cwn];cbv)))
  | (refine QC.tw ?_;cbv;(try (simp only [cwn];cbv)))
  | (refine QC.fw ?_;cbv;(try (simp only [cwn];cbv)))
  | (simp only [cwn];cbv)
  | (refine callq c1 rfl rfl ?_;cbv;(try (simp only [cwn];cbv)))
  | (refine callq c2 rfl rfl ?_;cbv;(try (simp only [cwn];cbv)))
  | (refine callq c3 rfl rfl ?_;cbv;(try (simp only [cwn];cbv)))
  | (refine callq c4 rfl rfl ?_;cbv;(try (simp only [cwn];cbv)))
  | (refine callq c5 rfl rfl ?_;cbv;(try (simp only [cwn];cbv)))
  | (refine callq c6 rfl rfl ?_;cbv;(try (simp only [cwn];cbv)))
  | (refine callq c7 rfl rfl ?_;cbv;(try (simp only [cwn];cbv)))
  | (refine callq c8 rfl rfl ?_;cbv;(try (simp only [cwn];cbv))))
 have e:z=c':=by omega
 subst e
 exact ⟨rfl,rfl,rfl⟩
end
section
open Go.RowKit
set_option maxHeartbeats 4000000
end
section
open Go.RowKit
set_option maxHeartbeats 4000000
end
section
open Go.RowKit
set_option maxHeartbeats 4000000
abbrev peA (last win:Int):SV:=.agg [.int .i64 3,.int .u16 0,.int .u64 144115188075855873,.int .u8 1,.int .u32 last,.int .u32 win]
theorem accept_new (last win ct:Int) (h:last < ct) (hb:0≤last) (hc:ct≤4294967295) (hw:0≤win∧win≤4294967295) (w:Int) (hw':w=((((win * 2 ^ (ct - last).toNat % 4294967296).toNat ||| Int.toNat 1:Nat)):Int)):Good 112 (pu [peA last win,.int .u32 ct] (.tup [peA ct w,.int .i64 0])):=by
 refine Good.of Tryz.func112 rfl (by rfl) (by kernel_rfl) ?_
 cbv
 repeat' (first
  | (refine QC.tt (by omega) ?_;cbv)
  | (refine QC.ff (by omega) ?_;cbv)
  | (refine q1w (fun z hz=>?_);(try simp only at hz);cbv)
  | (refine rqw ?_;cbv)
  | (refine qvSome _ (by rfl) ?_;cbv)
  | (refine QC.tw ?_;cbv)
  | (refine QC.fw ?_;cbv))
 rename_i z1 h1 z2 h2
 have e1:z1=ct - last:=by omega
 have e:z=w:=by rw [hz,hw',h2,e1]
 subst e
 exact ⟨rfl,rfl,rfl⟩
end
end Go.Proofs.YtgfpjhddojhfpaaGreat
