/- Texts put together: HC HD HE. -/
import Derived.Test.YtgfpjhddojhfpaaGreatZ04
import Derived.Test.YtgfpjhddojhfpaaGreatZ12
namespace Go.Proofs.YtgfpjhddojhfpaaGreat
set_option linter.unusedVariables false
set_option linter.unusedSimpArgs false
section
open Go.RowKit
set_option maxHeartbeats 4000000
theorem flag_c (b:Bool) (n r:Int) (hr:r=if b=true then n else 0):Good 122 (pu [.bool b,.int .u8 n] (.int .u8 r)):=by
 refine Good.of Tryz.func122 rfl (by rfl) (by kernel_rfl) ?_
 cbv
 (repeat' (first
| ((first
| (refine q1w (fun z hz=>?_);(try simp only at hz))
| refine rqa ?_
| refine chpA ?_
| refine QCt ?_
| refine QCf ?_);cbv)
| (refine QC.mk ?_ ?_ <;> intro hc <;> (try dsimp only at hc) <;> cbv)
| (refine br_mk2 ?_ ?_ <;> intro hb <;> (try subst hb) <;> cbv)))
 all_goals (refine ⟨?_,rfl,rfl⟩;rw [hr];rfl)
def adrB (m s e:Int):List UInt8:=if m=2 then bytesOf s 2 else bytesOf e 8
theorem adrB_len (m s e:Int):(adrB m s e).length≤8:=by
 unfold adrB
 split <;> rw [bytesOf_length] <;> omega
theorem appendAddr_c (bs:List UInt8) (X R:List SV) (m s e:Int) (hs:0≤s∧s≤65535) (he:u6 e) (hX:X=u8l bs) (hl:bs.length≤1000) (hR:R=u8l (bs++adrB m s e)) :
  Good 123 (nu [.lst none X,.agg [.int .i64 m,.int .u16 s,.int .u64 e]] (.row 1) (.row none 5 R)):=by
 unfold u6 at he
 obtain ⟨R1,hR1⟩:∃ R1,R1=u8l (bs++bytesOf s 2):=⟨_,rfl⟩
 obtain ⟨R2,hR2⟩:∃ R1,R1=u8l (bs++bytesOf e 8):=⟨_,rfl⟩
 have h1:=append_c bs X R1 s 2 2 hX rfl (by omega) (by omega) (by omega) hR1
 have h2:=append_c bs X R2 e 8 8 hX rfl (by omega) (by omega) (by omega) hR2
 have hr:R=if m=2 then R1 else R2:=by
  rw [hR,hR1,hR2,adrB]
  split <;> rfl
 clear hR
 refine Good.of Tryz.func123 rfl (by rfl) (by kernel_rfl) ?_
 cbv
 (repeat' (first
| ((first
| (refine q1w (fun z hz=>?_);(try simp only at hz))
| refine rqa ?_
| refine chpA ?_
| refine QCt ?_
| refine QCf ?_);cbv)
| (refine QC.mk ?_ ?_ <;> intro hc <;> (try dsimp only at hc) <;> cbv)
| (refine br_mk2 ?_ ?_ <;> intro hb <;> (try subst hb) <;> cbv)))
 ·have e1:s=z:=by omega
  subst e1
  refine callq h1 rfl rfl ?_
  cbv
  (repeat' (first
| ((first
| (refine q1w (fun z hz=>?_);(try simp only at hz))
| refine rqa ?_
| refine chpA ?_
| refine QCt ?_
| refine QCf ?_);cbv)
| (refine QC.mk ?_ ?_ <;> intro hc <;> (try dsimp only at hc) <;> cbv)
| (refine br_mk2 ?_ ?_ <;> intro hb <;> (try subst hb) <;> cbv)))
  refine ⟨rfl,?_,rfl⟩
  rw [hr,if_pos hc]
 ·(refine callq (h2) rfl rfl ?_;cbv;(repeat' (first
| ((first
| (refine q1w (fun z hz=>?_);(try simp only at hz))
| refine rqa ?_
| refine chpA ?_
| refine QCt ?_
| refine QCf ?_);cbv)
| (refine QC.mk ?_ ?_ <;> intro hc <;> (try dsimp only at hc) <;> cbv)
| (refine br_mk2 ?_ ?_ <;> intro hb <;> (try subst hb) <;> cbv))))
  refine ⟨rfl,?_,rfl⟩
  rw [hr,if_neg hc]
def fbI (k:Int) (ac pe se:Bool):Int:=64 * k+(if ac=true then 32 else 0)+(if pe=true then 16 else 0)+(if se=true then 8 else 0)
def b8 (x:Int):UInt8:=UInt8.ofNat x.toNat
def Fr.head (f:Fr):List UInt8:=[b8 (fbI f.k f.ac f.pe f.se),b8 (64 * f.dm+16 * f.um),b8 f.q]
def Fr.mid (f:Fr):List UInt8:=(if f.k=2 then [] else bytesOf f.pn 2++adrB f.dm f.ds f.de++adrB f.um f.us f.ue)++(if f.se=true then bytesOf f.ct 4++[b8 f.ky] else [])
def Fr.hdr (f:Fr):List UInt8:=f.head++f.mid++f.P
structure Fr.Ok (f:Fr):Prop where
 q:0≤f.q∧f.q≤255
 pn:0≤f.pn∧f.pn≤65535
 ds:0≤f.ds∧f.ds≤65535
 de:u6 f.de
 us:0≤f.us∧f.us≤65535
 ue:u6 f.ue
 ct:0≤f.ct∧f.ct≤4294967295
 ky:0≤f.ky∧f.ky≤255
theorem fb_or:∀ (k:Int) (ac pe se:Bool),(k=1∨k=2∨k=3)→oo (oo (oo (k * 64 % 256) (if ac=true then 32 else 0)) (if pe=true then 16 else 0)) (if se=true then 8 else 0)=fbI k ac pe se∧0≤fbI k ac pe se∧fbI k ac pe se≤255:=by
 intro k ac pe se h
 rcases h with rfl | rfl | rfl <;> cases ac <;> cases pe <;> cases se <;> decide
theorem mb_or (d u:Int) (hd:d=0∨d=2∨d=3) (hu:u=0∨u=2∨u=3):oo (d * 64 % 256) (u * 16 % 256)=64 * d+16 * u∧0≤64 * d+16 * u∧64 * d+16 * u≤255:=by
 rcases hd with rfl | rfl | rfl <;> rcases hu with rfl | rfl | rfl <;> decide
theorem b8_val {x:Int} (h:0≤x∧x≤255):((b8 x).toNat:Int)=x:=by
 unfold b8
 simp only [UInt8.toNat_ofNat']
 omega
theorem oo8 {a b:Int} (ha:0≤a∧a≤255) (hb:0≤b∧b≤255):0≤oo a b∧oo a b≤255:=by
 unfold oo
 have:=Nat.or_lt_two_pow (x:=a.toNat) (y:=b.toNat) (n:=8) (by omega) (by omega)
 omega
structure Fr.Fits (f:Fr):Prop where
 k:f.k=1∨f.k=2∨f.k=3
 dm:f.dm=0∨f.dm=2∨f.dm=3
 um:f.um=0∨f.um=2∨f.um=3
 p:f.P.length≤127
theorem Fr.fits {f:Fr} (h:f.valid=true):f.Fits:=by
 unfold Fr.valid at h
 split at h
 ·rename_i hk
  simp only [ackV,decide_eq_true_eq] at h
  exact ⟨by omega,by omega,by omega,by omega⟩
 ·split at h
  ·rename_i hk
   simp only [dataV,decide_eq_true_eq,someA,Fr.len,frL] at h
   obtain ⟨⟨h1,h2⟩,_,_,_,h5⟩:=h
   have b1:=abL_le f.dm
   have b2:=abL_le f.um
   refine ⟨by omega,by omega,by omega,?_⟩
   rw [if_neg (by omega)] at h5
   split at h5 <;> omega
  ·cases h
set_option maxRecDepth 20000 in
theorem header_c (k:Int) (ac pe se:Bool) (q pn dm ds de um us ue ct ky:Int) (P M:List SV) (p m:List UInt8) (hP:P=u8l p) (hM:M.length=m.length) (hml:m.length≤140737488355328) (hpl:p.length≤140737488355328) (ok:(Fr.mk k ac pe se q pn dm ds de um us ue ct ky p m).Ok)
  (hv:(Fr.mk k ac pe se q pn dm ds de um us ue ct ky p m).valid=true∨(Fr.mk k ac pe se q pn dm ds de um us ue ct ky p [0,0,0,0]).valid=true) (hk2:k≠2) (R:List SV) (hR:R=u8l (Fr.mk k ac pe se q pn dm ds de um us ue ct ky p m).hdr) :
  Good 61 (nu [frS k ac pe se q pn dm ds de um us ue ct ky P M] (.row 1) (.row none 5 R)):=by
 have ft:(Fr.mk k ac pe se q pn dm ds de um us ue ct ky p m).Fits:=by
  rcases hv with h | h
  ·exact Fr.fits h
  ·obtain ⟨h1,h2,h3,h4⟩:=Fr.fits h
   exact ⟨h1,h2,h3,h4⟩
 have fk:k=1∨k=2∨k=3:=ft.k
 have fd:dm=0∨dm=2∨dm=3:=ft.dm
 have fu:um=0∨um=2∨um=3:=ft.um
 have fp:p.length≤127:=ft.p
 clear ft
 obtain ⟨v1,hv1⟩:∃ b,b=(Fr.mk k ac pe se q pn dm ds de um us ue ct ky p m).valid:=⟨_,rfl⟩
 have c1:=valid_c k ac pe se q pn dm ds de um us ue ct ky P M p m (by rw [hP,u8l_len]) hM ⟨hpl,hml⟩ v1 hv1
 have c2:=fun v2 hv2=>valid_c k ac pe se q pn dm ds de um us ue ct ky P (O.rp 4 (.int .u8 0)) p [0,0,0,0] (by rw [hP,u8l_len]) (by rw [orp];rfl) ⟨hpl,by decide⟩ v2 hv2
 obtain ⟨fa,hfa⟩:∃ y:Int,y=if ac=true then 32 else 0:=⟨_,rfl⟩
 obtain ⟨fb,hfb⟩:∃ y:Int,y=if pe=true then 16 else 0:=⟨_,rfl⟩
 obtain ⟨fc,hfc⟩:∃ y:Int,y=if se=true then 8 else 0:=⟨_,rfl⟩
 have ba:0≤fa∧fa≤255:=by rw [hfa];split <;> omega
 have bb:0≤fb∧fb≤255:=by rw [hfb];split <;> omega
 have bc:0≤fc∧fc≤255:=by rw [hfc];split <;> omega
 have g1:=flag_c ac 32 fa hfa
 have g2:=flag_c pe 16 fb hfb
 have g3:=flag_c se 8 fc hfc
 have hfo:=fb_or k ac pe se fk
 rw [← hfa,← hfb,← hfc] at hfo
 have hmo:=mb_or dm um fd fu
 obtain ⟨w1,hw1⟩:∃ y:Int,y=fbI k ac pe se:=⟨_,rfl⟩
 obtain ⟨w2,hw2⟩:∃ y:Int,y=64 * dm+16 * um:=⟨_,rfl⟩
 rw [← hw1] at hfo
 rw [← hw2] at hmo
 have hv2:v1=false→true=(Fr.mk k ac pe se q pn dm ds de um us ue ct ky p [0,0,0,0]).valid:=by
  intro h
  rcases hv with h' | h'
  ·rw [← hv1,h] at h';cases h'
  ·exact h'.symm
 clear hv1 hv
 have okq:0≤q∧q≤255:=ok.q
 have okpn:0≤pn∧pn≤65535:=ok.pn
 have okds:0≤ds∧ds≤65535:=ok.ds
 have okde:u6 de:=ok.de
 have okus:0≤us∧us≤65535:=ok.us
 have okue:u6 ue:=ok.ue
 have okct:0≤ct∧ct≤4294967295:=ok.ct
 have okky:0≤ky∧ky≤255:=ok.ky
 clear ok
 have hPl:P.length=p.length:=by rw [hP,u8l_len]
 obtain ⟨t0,ht0⟩:∃ y,y=Fr.head ⟨k,ac,pe,se,q,pn,dm,ds,de,um,us,ue,ct,ky,p,m⟩:=⟨_,rfl⟩
 have hx0:[SV.int .u8 w1,.int .u8 w2,.int .u8 q]=u8l t0:=by
  rw [ht0]
  show _=[SV.int .u8 (b8 (fbI k ac pe se)).toNat,SV.int .u8 (b8 (64 * dm+16 * um)).toNat,SV.int .u8 (b8 q).toNat]
  rw [b8_val (by rw [← hw1];exact hfo.2),b8_val (by rw [← hw2];exact hmo.2),b8_val okq,hw1,hw2]
 have l0:t0.length=3:=by rw [ht0];rfl
 obtain ⟨t1,ht1⟩:∃ y,y=t0++bytesOf pn 2:=⟨_,rfl⟩
 obtain ⟨R1,hR1⟩:∃ y,y=u8l t1:=⟨_,rfl⟩
 have l1:t1.length=5:=by rw [ht1,List.length_append,l0,bytesOf_length]
 have d1:=append_c t0 [SV.int .u8 w1,.int .u8 w2,.int .u8 q] R1 pn 2 2 hx0 rfl (by omega) (by omega) (by omega) (by rw [hR1,ht1])
 obtain ⟨t2,ht2⟩:∃ y,y=t1++adrB dm ds de:=⟨_,rfl⟩
 obtain ⟨R2,hR2⟩:∃ y,y=u8l t2:=⟨_,rfl⟩
 have n2:=adrB_len dm ds de
 have l2:t2.length≤13:=by rw [ht2,List.length_append,l1];omega
 have d2:=appendAddr_c t1 R1 R2 dm ds de okds okde hR1 (by omega) (by rw [hR2,ht2])
 obtain ⟨t3,ht3⟩:∃ y,y=t2++adrB um us ue:=⟨_,rfl⟩
 obtain ⟨R3,hR3⟩:∃ y,y=u8l t3:=⟨_,rfl⟩
 have n3:=adrB_len um us ue
 have l3:t3.length≤21:=by rw [ht3,List.length_append];omega
 have d3:=appendAddr_c t2 R2 R3 um us ue okus okue hR2 (by omega) (by rw [hR3,ht3])
 obtain ⟨t4,ht4⟩:∃ y,y=t3++bytesOf ct 4:=⟨_,rfl⟩
 obtain ⟨R4,hR4⟩:∃ y,y=u8l t4:=⟨_,rfl⟩
 have l4:t4.length≤25:=by rw [ht4,List.length_append,bytesOf_length];omega
 have d4:=append_c t3 R3 R4 ct 4 4 hR3 rfl (by omega) (by omega) (by omega) (by rw [hR4,ht4])
 have hfin:R=if se=true then R4++[.int .u8 ky]++P else R3++P:=by
  rw [hR,Fr.hdr,Fr.mid,← ht0,hR4,hR3,hP]
  have hky:[SV.int .u8 ky]=u8l [b8 ky]:=by
   show _=[SV.int .u8 (b8 ky).toNat]
   rw [b8_val okky]
  rw [hky]
  show u8l (t0++((if k=2 then [] else bytesOf pn 2++adrB dm ds de++adrB um us ue)++(if se=true then bytesOf ct 4++[b8 ky] else []))++p)=_
  rw [if_neg hk2,ht4,ht3,ht2,ht1]
  split
  ·simp only [u8l_app,List.append_assoc]
  ·simp only [u8l_app,List.append_assoc,List.append_nil,List.nil_append]
 obtain ⟨R5,hR5⟩:∃ y,y=R4++[SV.int .u8 ky]:=⟨_,rfl⟩
 have m5:R5.length≤26:=by rw [hR5,List.length_append,hR4,u8l_len,List.length_cons,List.length_nil];omega
 have m3:R3.length≤21:=by rw [hR3,u8l_len];exact l3
 have m4:R4.length≤25:=by rw [hR4,u8l_len];exact l4
 clear hR hx0 ht0 l0
 refine Good.of Tryz.func61 rfl (by rfl) (by kernel_rfl) ?_
 cbv
 (repeat' (first
| ((first
| (refine q1w (fun z hz=>?_);(try simp only at hz))
| refine rqa ?_
| refine chpA ?_
| refine QCt ?_
| refine QCf ?_);cbv)
| (refine QC.mk ?_ ?_ <;> intro hc <;> (try dsimp only at hc) <;> cbv)
| (refine br_mk2 ?_ ?_ <;> intro hb <;> (try subst hb) <;> cbv)
| (refine callq (c1) rfl rfl ?_;cbv)
| (refine callq (g1) rfl rfl ?_;cbv)
| (refine callq (g2) rfl rfl ?_;cbv)
| (refine callq (g3) rfl rfl ?_;cbv)))
 rotate_left
 (focus
   have c3:=c2 true (hv2 rfl)
   (repeat' (first
| ((first
| (refine q1w (fun z hz=>?_);(try simp only at hz))
| refine rqa ?_
| refine chpA ?_
| refine QCt ?_
| refine QCf ?_);cbv)
| (refine QC.mk ?_ ?_ <;> intro hc <;> (try dsimp only at hc) <;> cbv)
| (refine br_mk2 ?_ ?_ <;> intro hb <;> (try subst hb) <;> cbv)
| (refine callq (c3) rfl rfl ?_;cbv)
| (refine callq (g1) rfl rfl ?_;cbv)
| (refine callq (g2) rfl rfl ?_;cbv)
| (refine callq (g3) rfl rfl ?_;cbv))))
 all_goals (
  rename_i y0 f0 y1 f1
  have p6:(2:Int) ^ Int.toNat 6=64:=rfl
  rw [p6] at f1
  have e1:y1=k * 64 % 256:=by omega
  obtain ⟨o1,ho1⟩:∃ y,y=oo (k * 64 % 256) fa:=⟨_,rfl⟩
  have bo1:0≤o1∧o1≤255:=by rw [ho1];exact oo8 (by omega) ba
  have e2:o1=z:=by rw [ho1,hz,e1];rfl
  subst e2
  clear hz
  (repeat' (first
| ((first
| (refine q1w (fun z hz=>?_);(try simp only at hz))
| refine rqa ?_
| refine chpA ?_
| refine QCt ?_
| refine QCf ?_);cbv)
| (refine QC.mk ?_ ?_ <;> intro hc <;> (try dsimp only at hc) <;> cbv)
| (refine br_mk2 ?_ ?_ <;> intro hb <;> (try subst hb) <;> cbv)
| (refine callq (g2) rfl rfl ?_;cbv)
| (refine callq (g3) rfl rfl ?_;cbv)))
  obtain ⟨o2,ho2⟩:∃ y,y=oo o1 fb:=⟨_,rfl⟩
  have bo2:0≤o2∧o2≤255:=by rw [ho2];exact oo8 bo1 bb
  have e2:o2=z:=by rw [ho2,hz];rfl
  subst e2
  clear hz
  (repeat' (first
| ((first
| (refine q1w (fun z hz=>?_);(try simp only at hz))
| refine rqa ?_
| refine chpA ?_
| refine QCt ?_
| refine QCf ?_);cbv)
| (refine QC.mk ?_ ?_ <;> intro hc <;> (try dsimp only at hc) <;> cbv)
| (refine br_mk2 ?_ ?_ <;> intro hb <;> (try subst hb) <;> cbv)
| (refine callq (g2) rfl rfl ?_;cbv)
| (refine callq (g3) rfl rfl ?_;cbv))))
 all_goals (
  rename_i a5 h5 a4 h4 a3 h3 a2 h2 a1 h1 a0 h0
  have p4:(2:Int) ^ Int.toNat 4=16:=rfl
  rw [p6] at h3
  rw [p4] at h1
  have e5:w1=a5:=by rw [← hfo.1,← ho1,← ho2];exact h5.symm
  have e6:a3=dm * 64 % 256:=by omega
  have e7:a1=um * 16 % 256:=by omega
  have e0:w2=a0:=by rw [← hmo.1,← e6,← e7];exact h0.symm
  subst e5
  subst e0
  have ez:pn=z:=by omega
  subst ez
  (repeat' (first
| ((first
| (refine q1w (fun z hz=>?_);(try simp only at hz))
| refine rqa ?_
| refine chpA ?_
| refine QCt ?_
| refine QCf ?_);cbv)
| (refine QC.mk ?_ ?_ <;> intro hc <;> (try dsimp only at hc) <;> cbv)
| (refine br_mk2 ?_ ?_ <;> intro hb <;> (try subst hb) <;> cbv)
| (refine callq (d1) rfl rfl ?_;cbv)
| (refine callq (d2) rfl rfl ?_;cbv)
| (refine callq (d3) rfl rfl ?_;cbv))))
 ·skip
  have ez:ct=z:=by omega
  subst ez
  (repeat' (first
| ((first
| (refine q1w (fun z hz=>?_);(try simp only at hz))
| refine rqa ?_
| refine chpA ?_
| refine QCt ?_
| refine QCf ?_);cbv)
| (refine QC.mk ?_ ?_ <;> intro hc <;> (try dsimp only at hc) <;> cbv)
| (refine br_mk2 ?_ ?_ <;> intro hb <;> (try subst hb) <;> cbv)
| (refine callq (d4) rfl rfl ?_;cbv)))
  have hM:apL R4 [SV.int .u8 ky]=R5:=by rw [apL_eq,hR5]
  unfold apL at hM
  rw [hM]
  refine rq (by show (((O.ln R5:Nat):Int)+((O.ln P:Nat):Int)) * 1≤_;simp only [oln];omega) ?_
  cbv
  (repeat' (first
| ((first
| (refine q1w (fun z hz=>?_);(try simp only at hz))
| refine rqa ?_
| refine chpA ?_
| refine QCt ?_
| refine QCf ?_);cbv)
| (refine QC.mk ?_ ?_ <;> intro hc <;> (try dsimp only at hc) <;> cbv)
| (refine br_mk2 ?_ ?_ <;> intro hb <;> (try subst hb) <;> cbv)))
  refine ⟨rfl,?_,rfl⟩
  show Blk.row none 5 (apL R5 P)=_
  rw [apL_eq,hfin,if_pos rfl,hR5]
 ·skip
  refine ⟨rfl,?_,rfl⟩
  show Blk.row none 5 (apL R3 P)=_
  rw [apL_eq,hfin,if_neg (by simp)]
 ·skip
  have ez:ct=z:=by omega
  subst ez
  (repeat' (first
| ((first
| (refine q1w (fun z hz=>?_);(try simp only at hz))
| refine rqa ?_
| refine chpA ?_
| refine QCt ?_
| refine QCf ?_);cbv)
| (refine QC.mk ?_ ?_ <;> intro hc <;> (try dsimp only at hc) <;> cbv)
| (refine br_mk2 ?_ ?_ <;> intro hb <;> (try subst hb) <;> cbv)
| (refine callq (d4) rfl rfl ?_;cbv)))
  have hM:apL R4 [SV.int .u8 ky]=R5:=by rw [apL_eq,hR5]
  unfold apL at hM
  rw [hM]
  refine rq (by show (((O.ln R5:Nat):Int)+((O.ln P:Nat):Int)) * 1≤_;simp only [oln];omega) ?_
  cbv
  (repeat' (first
| ((first
| (refine q1w (fun z hz=>?_);(try simp only at hz))
| refine rqa ?_
| refine chpA ?_
| refine QCt ?_
| refine QCf ?_);cbv)
| (refine QC.mk ?_ ?_ <;> intro hc <;> (try dsimp only at hc) <;> cbv)
| (refine br_mk2 ?_ ?_ <;> intro hb <;> (try subst hb) <;> cbv)))
  refine ⟨rfl,?_,rfl⟩
  show Blk.row none 5 (apL R5 P)=_
  rw [apL_eq,hfin,if_pos rfl,hR5]
 ·skip
  refine ⟨rfl,?_,rfl⟩
  show Blk.row none 5 (apL R3 P)=_
  rw [apL_eq,hfin,if_neg (by simp)]
end
section
open Go.RowKit
set_option maxHeartbeats 4000000
def Fr.body (f:Fr):List UInt8:=f.hdr++f.M
def Fr.enc (f:Fr):List UInt8:=f.body++crcL f.body
theorem Fr.hdr_len {f:Fr} (h:f.Fits):f.hdr.length≤153:=by
 have h1:=adrB_len f.dm f.ds f.de
 have h2:=adrB_len f.um f.us f.ue
 have h4:=h.p
 have h3:f.mid.length≤23:=by
  unfold Fr.mid
  rw [List.length_append]
  have a:(if f.k=2 then [] else bytesOf f.pn 2++adrB f.dm f.ds f.de++adrB f.um f.us f.ue).length≤18:=by
   split
   ·simp
   ·rw [List.length_append,List.length_append,bytesOf_length];omega
  have b:(if f.se=true then bytesOf f.ct 4++[b8 f.ky] else []).length≤5:=by
   split
   ·rw [List.length_append,bytesOf_length];simp
   ·simp
  omega
 unfold Fr.hdr
 rw [List.length_append,List.length_append]
 have:f.head.length=3:=rfl
 omega
theorem encode_yes (k:Int) (ac pe se:Bool) (q pn dm ds de um us ue ct ky:Int) (P M:List SV) (p m:List UInt8) (hP:P=u8l p) (hM:M=u8l m) (ok:(Fr.mk k ac pe se q pn dm ds de um us ue ct ky p m).Ok)
  (hv:(Fr.mk k ac pe se q pn dm ds de um us ue ct ky p m).valid=true) (hk2:k≠2) (hml:m.length≤4) (R:List SV) (hR:R=u8l (Fr.mk k ac pe se q pn dm ds de um us ue ct ky p m).enc) :
  Good 18 (nu [frS k ac pe se q pn dm ds de um us ue ct ky P M] (.tup [.row 1,.int .i64 0]) (.row none 5 R)):=by
 have ft:=Fr.fits hv
 have hpl:p.length≤127:=ft.p
 have hMl:M.length=m.length:=by rw [hM,u8l_len]
 have c1:=valid_c k ac pe se q pn dm ds de um us ue ct ky P M p m (by rw [hP,u8l_len]) hMl (by omega) true hv.symm
 obtain ⟨h,hh⟩:∃ y,y=Fr.hdr ⟨k,ac,pe,se,q,pn,dm,ds,de,um,us,ue,ct,ky,p,m⟩:=⟨_,rfl⟩
 have hhl:h.length≤153:=by rw [hh];exact Fr.hdr_len ft
 obtain ⟨H,hH⟩:∃ y,y=u8l h:=⟨_,rfl⟩
 have hHl:H.length=h.length:=by rw [hH,u8l_len]
 have c2:=header_c k ac pe se q pn dm ds de um us ue ct ky P M p m hP hMl (by omega) (by omega) ok (.inl hv) hk2 H (by rw [hH,hh])
 obtain ⟨B,hB⟩:∃ y,y=H++M:=⟨_,rfl⟩
 have hBb:B=u8l (h++m):=by rw [hB,hH,hM,u8l_app]
 have c3:=crcAppend_c (h++m) B R hBb (by rw [List.length_append];omega) (by rw [hR,Fr.enc,Fr.body,← hh])
 clear hR ft hv ok hBb
 refine Good.of Tryz.func18 rfl (by rfl) (by kernel_rfl) ?_
 cbv
 (repeat' (first
| ((first
| (refine q1w (fun z hz=>?_);(try simp only at hz))
| refine rqa ?_
| refine chpA ?_
| refine QCt ?_
| refine QCf ?_);cbv)
| (refine QC.mk ?_ ?_ <;> intro hc <;> (try dsimp only at hc) <;> cbv)
| (refine br_mk2 ?_ ?_ <;> intro hb <;> (try subst hb) <;> cbv)
| (refine callq (c1) rfl rfl ?_;cbv)
| (refine callq (c2) rfl rfl ?_;cbv)))
 have hA:apL H M=B:=by rw [apL_eq,hB]
 unfold apL at hA
 rw [hA]
 (refine callq (c3) rfl rfl ?_;cbv;(repeat' (first
| ((first
| (refine q1w (fun z hz=>?_);(try simp only at hz))
| refine rqa ?_
| refine chpA ?_
| refine QCt ?_
| refine QCf ?_);cbv)
| (refine QC.mk ?_ ?_ <;> intro hc <;> (try dsimp only at hc) <;> cbv)
| (refine br_mk2 ?_ ?_ <;> intro hb <;> (try subst hb) <;> cbv))))
 exact ⟨rfl,rfl,rfl⟩
end
section
open Go.RowKit
set_option maxHeartbeats 4000000
theorem next_rd (a rest:List UInt8) (n:Nat) (bad:Bool) (X Y:List SV) (N r:Int) (hX:X=u8l (a++rest)) (hn:a.length=n) (h1:1≤n∧n≤8) (hl:rest.length≤1000) (hN:N=n) (hr:r=be a) (hY:Y=u8l rest) :
  Good 114 (le 202 (.agg [.lst none X,.bool bad]) [.int .i64 N] (.int .u64 r) (.agg [.lst none Y,.bool bad])):=by
 have hXl:X.length=n+rest.length:=by rw [hX,u8l_len,List.length_append,hn]
 have c1:=uint_c (a++rest) X 0 N r 0 n hX rfl hN h1.1 h1.2 (by rw [List.length_append];omega) (by rw [List.length_append];omega) (by rw [hr,List.drop_zero,← hn,List.take_left])
 have hN1:1≤N∧N≤8:=by omega
 have hNt:N.toNat=n:=by omega
 refine Good.of Tryz.func114 rfl (by rfl) (by kernel_rfl) ?_
 cbv
 (repeat' (first
| ((first
| (refine q1w (fun z hz=>?_);(try simp only at hz))
| refine rqa ?_
| refine chpA ?_
| refine QCt ?_
| refine QCf ?_);cbv)
| (refine QC.mk ?_ ?_ <;> intro hc <;> (try dsimp only at hc) <;> cbv)
| (refine br_mk2 ?_ ?_ <;> intro hb <;> (try subst hb) <;> cbv)
| (refine callq (c1) rfl rfl ?_;cbv)))
 refine ⟨rfl,rfl,?_⟩
 show Blk.chunk 202 (.agg [.lst none (O.dr N X),.bool bad])=_
 rw [odr,hNt,hX,u8l_drop,List.drop_left' hn,hY]
theorem be_of (v:Int) (n:Nat) (h0:0≤v) (h1:v < (256 ^ n:Nat)):((be (bytesOf v n):Nat):Int)=v:=by
 obtain ⟨u,rfl⟩:=Int.eq_ofNat_of_zero_le h0
 have h:=be_bytesOf n u
 rw [Nat.mod_eq_of_lt (by omega)] at h
 exact congrArg Int.ofNat h
theorem addr_rd (m s e:Int) (rest:List UInt8) (bad:Bool) (X Y:List SV) (hs:0≤s∧s≤65535) (he:u6 e) (hm:(m=2∧e=0)∨(m=3∧s=0)) (hX:X=u8l (adrB m s e++rest)) (hl:rest.length≤1000) (hY:Y=u8l rest) :
  Good 115 (le 202 (.agg [.lst none X,.bool bad]) [.int .i64 m] (.agg [.int .i64 m,.int .u16 s,.int .u64 e]) (.agg [.lst none Y,.bool bad])):=by
 have he':0≤e∧e≤18446744073709551615:=he
 rcases hm with ⟨rfl,rfl⟩ | ⟨rfl,rfl⟩
 ·have c1:=next_rd (bytesOf s 2) rest 2 bad X Y 2 s (by rw [hX,adrB,if_pos rfl]) (bytesOf_length _ _) (by omega) hl rfl (by rw [be_of s 2 (by omega) (by omega)]) hY
  refine Good.of Tryz.func115 rfl (by rfl) (by kernel_rfl) ?_
  cbv
  (repeat' (first
| ((first
| (refine q1w (fun z hz=>?_);(try simp only at hz))
| refine rqa ?_
| refine chpA ?_
| refine QCt ?_
| refine QCf ?_);cbv)
| (refine QC.mk ?_ ?_ <;> intro hc <;> (try dsimp only at hc) <;> cbv)
| (refine br_mk2 ?_ ?_ <;> intro hb <;> (try subst hb) <;> cbv)
| (refine callq (c1) rfl rfl ?_;cbv)))
  refine ⟨?_,rfl,rfl⟩
  show SV.agg [.int .i64 2,.int .u16 z,.int .u64 0]=_
  rw [show z=s by omega]
 ·have c1:=next_rd (bytesOf e 8) rest 8 bad X Y 8 e (by rw [hX,adrB,if_neg (by omega)]) (bytesOf_length _ _) (by omega) hl rfl (by rw [be_of e 8 (by omega) (by omega)]) hY
  refine Good.of Tryz.func115 rfl (by rfl) (by kernel_rfl) ?_
  cbv
  (repeat' (first
| ((first
| (refine q1w (fun z hz=>?_);(try simp only at hz))
| refine rqa ?_
| refine chpA ?_
| refine QCt ?_
| refine QCf ?_);cbv)
| (refine QC.mk ?_ ?_ <;> intro hc <;> (try dsimp only at hc) <;> cbv)
| (refine br_mk2 ?_ ?_ <;> intro hb <;> (try subst hb) <;> cbv)
| (refine callq (c1) rfl rfl ?_;cbv)))
  exact ⟨rfl,rfl,rfl⟩
end
end Go.Proofs.YtgfpjhddojhfpaaGreat
