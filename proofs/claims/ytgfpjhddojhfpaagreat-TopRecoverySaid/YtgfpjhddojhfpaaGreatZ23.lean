/- Texts put together: KS. -/
import Derived.Test.YtgfpjhddojhfpaaGreatZ09
import Derived.Test.YtgfpjhddojhfpaaGreatZ15
import Derived.Test.YtgfpjhddojhfpaaGreatZ22
namespace Go.Proofs.YtgfpjhddojhfpaaGreat
set_option linter.unusedVariables false
set_option linter.unusedSimpArgs false
section
open Go.RowKit
set_option maxHeartbeats 4000000
set_option maxRecDepth 100000
theorem compP (a b c d:Int):Good 111 (pu [peS a b,peS c d] (.int .i64 0)):=by
 refine Good.of Tryz.func111 rfl (by rfl) (by kernel_rfl) ?_
 cbv
 repeat' (first
  | (refine callq w170_0 rfl rfl ?_;cbv;(try (simp only [cwn];cbv)))
  | (refine callq w171_0 rfl rfl ?_;cbv;(try (simp only [cwn];cbv)))
  | (refine callq w169_1 rfl rfl ?_;cbv;(try (simp only [cwn];cbv)))
  | (refine QC.tt (by decide) ?_;cbv;(try (simp only [cwn];cbv)))
  | (refine QC.ff (by decide) ?_;cbv;(try (simp only [cwn];cbv)))
  | (refine QC.ff (by omega) ?_;cbv;(try (simp only [cwn];cbv)))
  | (refine q1w (fun z hz=>?_);(try simp only at hz);cbv;(try (simp only [cwn];cbv)))
  | (refine rqw ?_;cbv;(try (simp only [cwn];cbv)))
  | (refine qvIdx _ (by rfl) (by decide) ?_;cbv;(try (simp only [cwn];cbv)))
  | (refine qvArr (by decide) (by decide) ?_;cbv;(try (simp only [cwn];cbv)))
  | (refine qvRow (by decide) (by decide) ?_;cbv;(try (simp only [cwn];cbv)))
  | (refine qvRow (by simp) (by decide) ?_;cbv;(try (simp only [cwn];cbv)))
  | (refine qvSome _ (by rfl) ?_;cbv;(try (simp only [cwn];cbv)))
  | (refine QC.tw ?_;cbv;(try (simp only [cwn];cbv)))
  | (refine QC.fw ?_;cbv;(try (simp only [cwn];cbv)))
  | (refine chpA ?_;cbv;(try (simp only [cwn];cbv)))
  | (refine unrollq 4 ?_;cbv;(try (simp only [cwn];cbv)))
  | (simp only [cwn];cbv)
  )
 exact ⟨rfl,rfl,rfl⟩
theorem open_next (k:Int) (ac pe:Bool) (q pn dm ds de ct la wi:Int) (hct:0≤la∧la < ct) (hwb:0≤wi∧wi≤4294967295) (hwo:((wi.toNat &&& Int.toNat 1:Nat):Int)=1) (P M:List SV) (p m:List UInt8) (hP:P=u8l p) (hM:M=u8l m) (hpl:p.length≤1000) (hml:m.length=4)
  (hk:k≠2) (ok:(Fr.mk k ac pe true q pn dm ds de 3 0 144115188075855873 ct 1 p m).Ok)
  (h1:(Fr.mk k ac pe true q pn dm ds de 3 0 144115188075855873 ct 1 p m).valid=true)
  (hl:(Fr.mk k ac pe true q pn dm ds de 3 0 144115188075855873 ct 1 p m).hdr.length≤100000)
  (hT:tagP (Fr.mk k ac pe true q pn dm ds de 3 0 144115188075855873 ct 1 p m).hdr 4=m)
  (w:Int) (hw:w=winW wi (ct - la)) :
  Good 50 (pu [gS 0 9 [peS la wi],frS k ac pe true q pn dm ds de 3 0 144115188075855873 ct 1 P M] (.tup [gS 0 9 [peS ct w],.int .i64 0])):=by
 obtain ⟨hd,hhd⟩:∃ h,h=(Fr.mk k ac pe true q pn dm ds de 3 0 144115188075855873 ct 1 p m).hdr:=⟨_,rfl⟩
 obtain ⟨H,hH⟩:∃ h,h=u8l hd:=⟨_,rfl⟩
 have hPl:P.length=p.length:=by rw [hP,u8l_len]
 have hMl:M.length=m.length:=by rw [hM,u8l_len]
 have okct:0≤ct∧ct≤4294967295:=ok.ct
 have c1:=gvalid1 0 9 (by omega) la wi hwb hwo
 have c2:=valid_c k ac pe true q pn dm ds de 3 0 144115188075855873 ct 1 P M p m hPl hMl ⟨by omega,by omega⟩ true h1.symm
 have c3:=keyOf_yes 0 9 [peS la wi]
 have c4:=header_c k ac pe true q pn dm ds de 3 0 144115188075855873 ct 1 P M p m hP hMl (by omega) (by omega) ok (Or.inl h1) hk H (by rw [hH,hhd])
 have c5:=verify_c hd m H M hH (by rw [hhd];exact hl) hM (by omega) true (by rw [hml,hhd];exact (decide_eq_true hT).symm)
 have c6:=compP la wi ct 4294967295
 have c7:=own1 0 9 (peS la wi)
 have c8:=accept_new la wi ct hct.2 hct.1 (by omega) hwb w hw
 clear hw
 clear h1 ok hl hT hhd hH hM
 refine Good.of Tryz.func50 rfl (by rfl) (by kernel_rfl) ?_
 cbv
 repeat' (first
  | (refine callq c1 rfl rfl ?_;cbv;(try (simp only [cwn];cbv)))
  | (refine callq c2 rfl rfl ?_;cbv;(try (simp only [cwn];cbv)))
  | (refine callq c3 rfl rfl ?_;cbv;(try (simp only [cwn];cbv)))
  | (refine callq c4 rfl rfl ?_;cbv;(try (simp only [cwn];cbv)))
  | (refine callq c5 rfl rfl ?_;cbv;(try (simp only [cwn];cbv)))
  | (refine callq c6 rfl rfl ?_;cbv;(try (simp only [cwn];cbv)))
  | (refine callq c7 rfl rfl ?_;cbv;(try (simp only [cwn];cbv)))
  | (refine callq c8 rfl rfl ?_;cbv;(try (simp only [cwn];cbv)))
  | (refine QC.tt (by decide) ?_;cbv;(try (simp only [cwn];cbv)))
  | (refine QC.ff (by decide) ?_;cbv;(try (simp only [cwn];cbv)))
  | (refine QC.ff (by omega) ?_;cbv;(try (simp only [cwn];cbv)))
  | (refine q1w (fun z hz=>?_);(try simp only at hz);cbv;(try (simp only [cwn];cbv)))
  | (refine rqw ?_;cbv;(try (simp only [cwn];cbv)))
  | (refine qvIdx _ (by rfl) (by decide) ?_;cbv;(try (simp only [cwn];cbv)))
  | (refine qvArr (by decide) (by decide) ?_;cbv;(try (simp only [cwn];cbv)))
  | (refine qvRow (by decide) (by decide) ?_;cbv;(try (simp only [cwn];cbv)))
  | (refine qvRow (by simp) (by decide) ?_;cbv;(try (simp only [cwn];cbv)))
  | (refine qvSome _ (by rfl) ?_;cbv;(try (simp only [cwn];cbv)))
  | (refine QC.tw ?_;cbv;(try (simp only [cwn];cbv)))
  | (refine QC.fw ?_;cbv;(try (simp only [cwn];cbv)))
  | (refine chpA ?_;cbv;(try (simp only [cwn];cbv)))
  | (refine unrollq 4 ?_;cbv;(try (simp only [cwn];cbv)))
  | (simp only [cwn];cbv)
  )
 exact ⟨rfl,rfl,rfl⟩
abbrev rcF (se:Bool) (ct ky:Int) (p m:List UInt8):Fr:=⟨1,true,false,se,0,1,3,0,144115188075855874,3,0,144115188075855873,ct,ky,p,m⟩
theorem rcF_valid (p m:List UInt8) (hp:p.length≤85) (hm:m.length=4) (ct ky:Int):(rcF true ct ky p m).valid=true:=by
 show (if (1:Int)=2 then _ else if (1:Int)=1∨(1:Int)=3 then dataV true true 3 0 144115188075855874 3 0 144115188075855873 ct ky m.length (frL 1 true 3 3 p.length m.length) else false)=true
 rw [if_neg (by omega),if_pos (by omega),dataV,decide_eq_true_eq]
 refine ⟨⟨by decide,by decide⟩,⟨by decide,fun _=>by decide⟩,fun _=>hm,(fun h=>by cases h),?_⟩
 have e:abL 3=8:=by decide
 rw [frL,e,if_neg (by omega),if_pos rfl]
 omega
theorem rcF_valid0 (p:List UInt8) (hp:p.length≤85):(rcF false 0 0 p []).valid=true:=by
 show (if (1:Int)=2 then _ else if (1:Int)=1∨(1:Int)=3 then dataV true false 3 0 144115188075855874 3 0 144115188075855873 0 0 0 (frL 1 false 3 3 p.length 0) else false)=true
 rw [if_neg (by omega),if_pos (by omega),dataV,decide_eq_true_eq]
 refine ⟨⟨by decide,by decide⟩,⟨by decide,fun _=>by decide⟩,(fun h=>by cases h),(fun _=>⟨rfl,rfl,rfl⟩),?_⟩
 have e:abL 3=8:=by decide
 rw [frL,e,if_neg (by omega),if_neg (by simp)]
 omega
theorem rcF_ok (p m:List UInt8) (se:Bool) (ct ky:Int) (hc:0≤ct∧ct≤4294967295) (hk:0≤ky∧ky≤255):(rcF se ct ky p m).Ok:=⟨by show (0:Int)≤0∧(0:Int)≤255;omega,by show (0:Int)≤1∧(1:Int)≤65535;omega,by show (0:Int)≤0∧(0:Int)≤65535;omega,by show u6 144115188075855874;unfold u6;omega,by show (0:Int)≤0∧(0:Int)≤65535;omega,by show u6 144115188075855873;unfold u6;omega,hc,hk⟩
theorem sealN_c (c c':Int) (hc:0≤c∧c < 1048576) (hc':c'=c+1) (p:List UInt8) (P:List SV) (hP:P=u8l p) (hp:p.length≤85) (T:List UInt8) (hT:T=tagP (rcF true c 1 p []).hdr 4) (E:List SV) (hE:E=u8l (rcF true c 1 p T).enc) :
  Good 8 (pu [gS c 0 [],.int .i64 0,.int .i64 1,.lst none [.lst none P]] (.tup [gS c' 0 [],.lst none [.lst none E],.bool true])):=by
 have hTl:T.length=4:=by rw [hT,tagP_len]
 obtain ⟨TS,hTS⟩:∃ y,y=u8l T:=⟨_,rfl⟩
 have hv:=rcF_valid p T hp hTl c 1
 have c1:=(seal_c 1 true false 0 1 3 0 144115188075855874 3 0 144115188075855873 c 0 P p hP (by omega) c' hc hc' (by omega) (rcF_valid0 p hp) (rcF_ok p [] true c 1 (by omega) (by omega)) (rcF_valid p [0,0,0,0] hp rfl c 1)
  (by have h:=Fr.hdr_len (Fr.fits (rcF_valid p T hp hTl c 1));have e:(rcF true c 1 p []).hdr=(rcF true c 1 p T).hdr:=rfl;rw [e];omega) T hT hv hTl TS hTS).arg
  (a':=[gS c 0 [],.agg [.int .i64 1,.bool true,.bool false,.bool false,.int .u8 0,.int .u16 1,.int .i64 3,.int .u16 0,.int .u64 144115188075855874,.int .i64 3,.int .u16 0,.int .u64 144115188075855873,.int .u32 0,.int .u8 0,.lst none P,.nil],.int .u8 1])
  ⟨Wk.rfl' _,Wk.agg ⟨Wk.rfl' _,Wk.rfl' _,Wk.rfl' _,Wk.rfl' _,Wk.rfl' _,Wk.rfl' _,Wk.rfl' _,Wk.rfl' _,Wk.rfl' _,Wk.rfl' _,Wk.rfl' _,Wk.rfl' _,Wk.rfl' _,Wk.rfl' _,Wk.rfl' _,Wk.nil none,trivial⟩,Wk.rfl' _,trivial⟩
 have c2:=encode_yes 1 true false true 0 1 3 0 144115188075855874 3 0 144115188075855873 c 1 P TS p T hP hTS (rcF_ok p T true c 1 (by omega) (by omega)) hv (by omega) (by omega) E hE
 clear hv hT hE hTS
 refine Good.of Tryz.func8 rfl (by rfl) (by kernel_rfl) ?_
 cbv
 repeat' (first
| ((first
| refine callq w13_0 rfl rfl ?_
| refine callq w13_1 rfl rfl ?_
| refine callq c1 rfl rfl ?_
| refine callq c2 rfl rfl ?_
| refine QC.tt (by decide) ?_
| refine QC.ff (by decide) ?_
| (refine q1w (fun z hz=>?_);(simp [oln,Int.max_def,Int.min_def] at hz);subst hz)
| refine rqw ?_
| refine qvIdx _ (by rfl) (by decide) ?_
| refine qvSome _ (by rfl) ?_
| refine chpA ?_
| refine unrollq 3 ?_);cbv;(try (simp only [cwn];cbv)))
| (simp only [cwn];cbv))
 exact ⟨rfl,rfl,rfl⟩
theorem opened_next (k:Int) (ac pe:Bool) (q pn dm ds de ct la wi:Int) (P M:List SV) (p m:List UInt8) (hP:P=u8l p) (hM:M=u8l m)
  (hk:k≠2) (ok:(Fr.mk k ac pe true q pn dm ds de 3 0 144115188075855873 ct 1 p m).Ok)
  (hv:(Fr.mk k ac pe true q pn dm ds de 3 0 144115188075855873 ct 1 p m).valid=true) (E:List SV) (hE:E=u8l (Fr.mk k ac pe true q pn dm ds de 3 0 144115188075855873 ct 1 p m).enc) (w:Int)
  (c2:Good 50 (pu [gS 0 9 [peS la wi],frS k ac pe true q pn dm ds de 3 0 144115188075855873 ct 1 P M] (.tup [gS 0 9 [peS ct w],.int .i64 0]))) :
  Good 19 (pu [gS 0 9 [peS la wi],.lst none E] (.tup [gS 0 9 [peS ct w],.lst none P,.bool true])):=by
 have c1:=decode_yes k ac pe q pn dm ds de 3 0 144115188075855873 ct 1 P M p m hP hM ok hv hk E hE
 clear hv ok
 refine Good.of Tryz.func19 rfl (by rfl) (by kernel_rfl) ?_
 cbv
 (repeat' (first
| ((first
| (refine q1w (fun z hz=>?_);(try simp only at hz))
| refine rqa ?_
| refine chpA ?_
| refine QCt ?_
| refine QCf ?_);cbv)
| (refine QC.mk ?_ ?_ <;> intro hc <;> (try dsimp only at hc) <;> cbv)
| (refine br_mk2 ?_ ?_ <;> intro hb <;> (try subst hb) <;> cbv)
| (refine callq (c1) rfl rfl ?_;cbv)
| (refine callq (c2) rfl rfl ?_;cbv)))
 exact ⟨rfl,rfl,rfl⟩
theorem openN_c (c la wi:Int) (hc:0≤la∧la < c∧c≤4294967295) (hwb:0≤wi∧wi≤4294967295) (hwo:((wi.toNat &&& Int.toNat 1:Nat):Int)=1) (p:List UInt8) (P:List SV) (hP:P=u8l p) (hp:p.length≤85) (T:List UInt8) (hT:T=tagP (rcF true c 1 p []).hdr 4) (E:List SV) (hE:E=u8l (rcF true c 1 p T).enc) (w:Int) (hw:w=winW wi (c - la)) :
  Good 19 (pu [gS 0 9 [peS la wi],.lst none E] (.tup [gS 0 9 [peS c w],.lst none P,.bool true])):=by
 have hTl:T.length=4:=by rw [hT,tagP_len]
 have hv:=rcF_valid p T hp hTl c 1
 have ok:=rcF_ok p T true c 1 (by omega) (by omega)
 have c2:=open_next 1 true false 0 1 3 0 144115188075855874 c la wi ⟨hc.1,hc.2.1⟩ hwb hwo P (u8l T) p T hP rfl (by omega) hTl (by omega) ok hv (by have h:=Fr.hdr_len (Fr.fits hv);show (rcF true c 1 p T).hdr.length≤100000;omega) hT.symm w hw
 exact opened_next 1 true false 0 1 3 0 144115188075855874 c la wi P (u8l T) p T hP rfl (by omega) ok hv E hE w c2
end
end Go.Proofs.YtgfpjhddojhfpaaGreat
