/- Texts put together: HF HG. -/
import Derived.Test.YtgfpjhddojhfpaaGreatZ13
namespace Go.Proofs.YtgfpjhddojhfpaaGreat
set_option linter.unusedVariables false
set_option linter.unusedSimpArgs false
section
open Go.RowKit
set_option maxHeartbeats 4000000
theorem fb_bits:∀ (k:Int) (ac pe se:Bool),(k=1∨k=3)→fbI k ac pe se / 64=k∧(((fbI k ac pe se).toNat &&& 32:Nat):Int)=(if ac=true then 32 else 0)∧(((fbI k ac pe se).toNat &&& 16:Nat):Int)=(if pe=true then 16 else 0)∧(((fbI k ac pe se).toNat &&& 8:Nat):Int)=(if se=true then 8 else 0):=by
 intro k ac pe se h
 rcases h with rfl | rfl <;> cases ac <;> cases pe <;> cases se <;> decide
theorem mb_bits (d u:Int) (hd:d=2∨d=3) (hu:u=2∨u=3):(((64 * d+16 * u) / 64).toNat &&& 3:Nat)=d∧(((64 * d+16 * u) / 16).toNat &&& 3:Nat)=u:=by
 rcases hd with rfl | rfl <;> rcases hu with rfl | rfl <;> decide
theorem be1 (x:Int) (h:0≤x∧x≤255):((be [b8 x]:Nat):Int)=x:=by
 have:be [b8 x]=(b8 x).toNat:=by simp [be]
 rw [this,b8_val h]
set_option maxRecDepth 20000 in
theorem parse_yes (k:Int) (ac pe:Bool) (q pn dm ds de um us ue ct ky:Int) (P M:List SV) (p m:List UInt8) (hP:P=u8l p) (hM:M=u8l m) (hm4:m.length=4) (hpl:p.length≤127) (ok:(Fr.mk k ac pe true q pn dm ds de um us ue ct ky p m).Ok) (hk:k=1∨k=3)
  (hd:(dm=2∧de=0)∨(dm=3∧ds=0)) (hu:(um=2∧ue=0)∨(um=3∧us=0)) (X:List SV) (hX:X=u8l (Fr.mk k ac pe true q pn dm ds de um us ue ct ky p m).body) :
  Good 52 (pu [.lst none X] (.tup [frS k ac pe true q pn dm ds de um us ue ct ky P M,.bool true])):=by
 have okq:0≤q∧q≤255:=ok.q
 have okpn:0≤pn∧pn≤65535:=ok.pn
 have okds:0≤ds∧ds≤65535:=ok.ds
 have okde:u6 de:=ok.de
 have okus:0≤us∧us≤65535:=ok.us
 have okue:u6 ue:=ok.ue
 have okct:0≤ct∧ct≤4294967295:=ok.ct
 have okky:0≤ky∧ky≤255:=ok.ky
 clear ok
 have bb:=fb_bits k ac pe true hk
 have bm:=mb_bits dm um (by omega) (by omega)
 obtain ⟨w1,hw1⟩:∃ y:Int,y=fbI k ac pe true:=⟨_,rfl⟩
 obtain ⟨w2,hw2⟩:∃ y:Int,y=64 * dm+16 * um:=⟨_,rfl⟩
 have r1:0≤w1∧w1≤255:=by rw [hw1];exact (fb_or k ac pe true (by omega)).2
 have r2:0≤w2∧w2≤255:=by omega
 rw [← hw1] at bb
 rw [← hw2] at bm
 obtain ⟨e8,he8⟩:∃ y,y=p++m:=⟨_,rfl⟩
 obtain ⟨e7,he7⟩:∃ y,y=[b8 ky]++e8:=⟨_,rfl⟩
 obtain ⟨e6,he6⟩:∃ y,y=bytesOf ct 4++e7:=⟨_,rfl⟩
 obtain ⟨e5,he5⟩:∃ y,y=adrB um us ue++e6:=⟨_,rfl⟩
 obtain ⟨e4,he4⟩:∃ y,y=adrB dm ds de++e5:=⟨_,rfl⟩
 obtain ⟨e3,he3⟩:∃ y,y=bytesOf pn 2++e4:=⟨_,rfl⟩
 obtain ⟨e2,he2⟩:∃ y,y=[b8 q]++e3:=⟨_,rfl⟩
 obtain ⟨e1,he1⟩:∃ y,y=[b8 w2]++e2:=⟨_,rfl⟩
 have hX0:X=u8l ([b8 w1]++e1):=by
  rw [hX,he1,he2,he3,he4,he5,he6,he7,he8,hw1,hw2]
  congr 1
  show [b8 (fbI k ac pe true),b8 (64 * dm+16 * um),b8 q]++((if k=2 then [] else bytesOf pn 2++adrB dm ds de++adrB um us ue)++(bytesOf ct 4++[b8 ky]))++p++m=_
  rw [if_neg (by omega)]
  simp only [List.append_assoc,List.cons_append,List.nil_append]
 have n8:e8.length≤131:=by rw [he8,List.length_append];omega
 have n7:e7.length≤132:=by rw [he7];simp only [List.length_append,List.length_cons,List.length_nil];omega
 have n6:e6.length≤136:=by rw [he6];simp only [List.length_append,bytesOf_length];omega
 have g1:=adrB_len um us ue
 have g2:=adrB_len dm ds de
 have n5:e5.length≤144:=by rw [he5];simp only [List.length_append];omega
 have n4:e4.length≤152:=by rw [he4];simp only [List.length_append];omega
 have n3:e3.length≤154:=by rw [he3];simp only [List.length_append,bytesOf_length];omega
 have n2:e2.length≤155:=by rw [he2];simp only [List.length_append,List.length_cons,List.length_nil];omega
 have n1:e1.length≤156:=by rw [he1];simp only [List.length_append,List.length_cons,List.length_nil];omega
 obtain ⟨X1,h1⟩:∃ y,y=u8l e1:=⟨_,rfl⟩
 obtain ⟨X2,h2⟩:∃ y,y=u8l e2:=⟨_,rfl⟩
 obtain ⟨X3,h3⟩:∃ y,y=u8l e3:=⟨_,rfl⟩
 obtain ⟨X4,h4⟩:∃ y,y=u8l e4:=⟨_,rfl⟩
 obtain ⟨X5,h5⟩:∃ y,y=u8l e5:=⟨_,rfl⟩
 obtain ⟨X6,h6⟩:∃ y,y=u8l e6:=⟨_,rfl⟩
 obtain ⟨X7,h7⟩:∃ y,y=u8l e7:=⟨_,rfl⟩
 obtain ⟨X8,h8⟩:∃ y,y=u8l e8:=⟨_,rfl⟩
 have c1:=next_rd [b8 w1] e1 1 false X X1 1 w1 hX0 rfl (by omega) (by omega) rfl (be1 w1 r1).symm h1
 have c2:=next_rd [b8 w2] e2 1 false X1 X2 1 w2 (by rw [h1,he1]) rfl (by omega) (by omega) rfl (be1 w2 r2).symm h2
 have c3:=next_rd [b8 q] e3 1 false X2 X3 1 q (by rw [h2,he2]) rfl (by omega) (by omega) rfl (be1 q okq).symm h3
 have c4:=next_rd (bytesOf pn 2) e4 2 false X3 X4 2 pn (by rw [h3,he3]) (bytesOf_length _ _) (by omega) (by omega) rfl (by rw [be_of pn 2 (by omega) (by omega)]) h4
 have c5:=addr_rd dm ds de e5 false X4 X5 okds okde hd (by rw [h4,he4]) (by omega) h5
 have c6:=addr_rd um us ue e6 false X5 X6 okus okue hu (by rw [h5,he5]) (by omega) h6
 have c7:=next_rd (bytesOf ct 4) e7 4 false X6 X7 4 ct (by rw [h6,he6]) (bytesOf_length _ _) (by omega) (by omega) rfl (by rw [be_of ct 4 (by omega) (by omega)]) h7
 have c8:=next_rd [b8 ky] e8 1 false X7 X8 1 ky (by rw [h7,he7]) rfl (by omega) (by omega) rfl (be1 ky okky).symm h8
 have hX8:X8=P++M:=by rw [h8,he8,hP,hM,u8l_app]
 have hPl:P.length=p.length:=by rw [hP,u8l_len]
 have hMl:M.length=4:=by rw [hM,u8l_len,hm4]
 have hX8l:X8.length=p.length+4:=by rw [hX8,List.length_append,hPl,hMl]
 have b1:=bb.1
 obtain ⟨v1,hv1⟩:∃ y:Int,y=if ac=true then 32 else 0:=⟨_,rfl⟩
 obtain ⟨v2,hv2⟩:∃ y:Int,y=if pe=true then 16 else 0:=⟨_,rfl⟩
 have b2:((w1.toNat &&& Int.toNat 32:Nat):Int)=v1:=bb.2.1.trans hv1.symm
 have b3:((w1.toNat &&& Int.toNat 16:Nat):Int)=v2:=bb.2.2.1.trans hv2.symm
 have b4:((w1.toNat &&& Int.toNat 8:Nat):Int)=8:=bb.2.2.2
 have hv1':(ac=true∧v1=32)∨(ac=false∧v1=0):=by rw [hv1];cases ac <;> simp
 have hv2':(pe=true∧v2=16)∨(pe=false∧v2=0):=by rw [hv2];cases pe <;> simp
 clear hv1 hv2
 have b5:=bm.1
 have b6:=bm.2
 clear bb bm he1 he2 he3 he4 he5 he6 he7 he8 h1 h2 h3 h4 h5 h6 h7 h8 hX hX0 n1 n2 n3 n4 n5 n6 n7 n8 hw1
 rcases hv1' with ⟨rfl,rfl⟩ | ⟨rfl,rfl⟩ <;> rcases hv2' with ⟨rfl,rfl⟩ | ⟨rfl,rfl⟩
 all_goals (
  refine Good.of Tryz.func52 rfl (by rfl) (by kernel_rfl) ?_
  cbv
  (repeat' (first
| ((first
| (refine q1w (fun z hz=>?_);(try simp only at hz))
| refine rqa ?_
| refine chpA ?_
| refine QCt ?_
| refine QCf ?_);cbv)
| (refine QC.mk ?_ ?_ <;> intro hc <;> (try dsimp only at hc) <;> cbv)
| (refine br_mk2 ?_ ?_ <;> intro hb <;> (try subst hb) <;> cbv)
| (refine callq (c1) rfl rfl ?_;cbv)
| (refine callq (c2) rfl rfl ?_;cbv)
| (refine callq (c3) rfl rfl ?_;cbv)
| (refine callq (c4) rfl rfl ?_;cbv)
| (refine callq (c5) rfl rfl ?_;cbv)
| (refine callq (c6) rfl rfl ?_;cbv)
| (refine callq (c7) rfl rfl ?_;cbv)
| (refine callq (c8) rfl rfl ?_;cbv)))
  rename_i y1 f1 y2 f2
  have p6:(2:Int) ^ Int.toNat 6=64:=rfl
  have q1':w1=y1:=by omega
  have q2':w2=y2:=by omega
  subst q1'
  subst q2'
  have ek:k=z:=by rw [hz,p6,b1]
  subst ek
  (repeat' (first
| ((first
| (refine q1w (fun z hz=>?_);(try simp only at hz))
| refine rqa ?_
| refine chpA ?_
| refine QCt ?_
| refine QCf ?_);cbv)
| (refine QC.mk ?_ ?_ <;> intro hc <;> (try dsimp only at hc) <;> cbv)
| (refine br_mk2 ?_ ?_ <;> intro hb <;> (try subst hb) <;> cbv)
| (refine callq (c1) rfl rfl ?_;cbv)
| (refine callq (c2) rfl rfl ?_;cbv)
| (refine callq (c3) rfl rfl ?_;cbv)
| (refine callq (c4) rfl rfl ?_;cbv)
| (refine callq (c5) rfl rfl ?_;cbv)
| (refine callq (c6) rfl rfl ?_;cbv)
| (refine callq (c7) rfl rfl ?_;cbv)
| (refine callq (c8) rfl rfl ?_;cbv)))
  rename_i a1 t1 a2 t2 a3 t3 a4 t4
  have eq4:q=a4:=by omega
  subst eq4
  have ep:pn=z:=by omega
  subst ep
  refine unrollq 3 ?_
  cbv
  (repeat' (first
| ((first
| (refine q1w (fun z hz=>?_);(try simp only at hz))
| refine rqa ?_
| refine chpA ?_
| refine QCt ?_
| refine QCf ?_);cbv)
| (refine QC.mk ?_ ?_ <;> intro hc <;> (try dsimp only at hc) <;> cbv)
| (refine br_mk2 ?_ ?_ <;> intro hb <;> (try subst hb) <;> cbv)))
  rename_i i1 j1 i2 j2
  have e6:i2.toNat=6:=by omega
  rw [e6] at hz
  have ez:z=w2 / 64:=by rw [hz];rfl
  have bz:0≤z∧z≤255:=by omega
  clear hz
  refine q1 ⟨by omega,by omega,by omega,by omega⟩ fun y hy=>?_
  have ey:dm=y:=by rw [hy,ez];exact b5.symm
  subst ey
  cbv
  (repeat' (first
| ((first
| (refine q1w (fun z hz=>?_);(try simp only at hz))
| refine rqa ?_
| refine chpA ?_
| refine QCt ?_
| refine QCf ?_);cbv)
| (refine QC.mk ?_ ?_ <;> intro hc <;> (try dsimp only at hc) <;> cbv)
| (refine br_mk2 ?_ ?_ <;> intro hb <;> (try subst hb) <;> cbv)
| ((refine qxArr (by decide) (by decide) ?_;cbv))
| (refine callq (c5) rfl rfl ?_;cbv)
| (refine callq (c6) rfl rfl ?_;cbv)
| (refine callq (c7) rfl rfl ?_;cbv)
| (refine callq (c8) rfl rfl ?_;cbv)))
  rename_i i3 j3 i4 j4
  have e4:i4.toNat=4:=by (first | omega | (simp only [cst] at *;omega) | (simp only [sm] at *;omega))
  rw [e4] at hz
  have ez:z=w2 / 16:=by rw [hz];rfl
  have bz:0≤z∧z≤255:=by omega
  clear hz
  refine q1 ⟨by omega,by omega,by omega,by omega⟩ fun y hy=>?_
  have ey:um=y:=by rw [hy,ez];exact b6.symm
  subst ey
  cbv
  (repeat' (first
| ((first
| (refine q1w (fun z hz=>?_);(try simp only at hz))
| refine rqa ?_
| refine chpA ?_
| refine QCt ?_
| refine QCf ?_);cbv)
| (refine QC.mk ?_ ?_ <;> intro hc <;> (try dsimp only at hc) <;> cbv)
| (refine br_mk2 ?_ ?_ <;> intro hb <;> (try subst hb) <;> cbv)
| ((refine qxArr (by decide) (by decide) ?_;cbv))
| (refine callq (c5) rfl rfl ?_;cbv)
| (refine callq (c6) rfl rfl ?_;cbv)
| (refine callq (c7) rfl rfl ?_;cbv)
| (refine callq (c8) rfl rfl ?_;cbv)))
  refine qv 1 ⟨by show _=(1:Int);omega,by omega⟩ ?_
  cbv
  (repeat' (first
| ((first
| (refine q1w (fun z hz=>?_);(try simp only at hz))
| refine rqa ?_
| refine chpA ?_
| refine QCt ?_
| refine QCf ?_);cbv)
| (refine QC.mk ?_ ?_ <;> intro hc <;> (try dsimp only at hc) <;> cbv)
| (refine br_mk2 ?_ ?_ <;> intro hb <;> (try subst hb) <;> cbv)
| ((refine qxArr (by decide) (by decide) ?_;cbv))
| (refine callq (c5) rfl rfl ?_;cbv)
| (refine callq (c6) rfl rfl ?_;cbv)
| (refine callq (c7) rfl rfl ?_;cbv)
| (refine callq (c8) rfl rfl ?_;cbv)))
  rename_i u1 v1 u2 v2 u3 v3
  have e1:u1=ct:=by omega
  have e2:u2=ky:=by omega
  have e3:z.toNat=p.length:=by (first | omega | (simp only [cst] at *;omega) | (simp only [sm] at *;omega))
  have eP:O.tk z X8=P:=by rw [otk,e3,hX8,← hPl,List.take_left]
  have eM:O.dr z X8=M:=by rw [odr,e3,hX8,← hPl,List.drop_left]
  refine ⟨?_,rfl,rfl⟩
  show SV.tup [SV.agg [_,_,_,_,_,_,_,_,_,_,_,_,.int .u32 u1,.int .u8 u2,.lst none (O.tk z X8),.lst none (O.dr z X8)],_]=_
  rw [eP,eM,e1,e2])
end
section
open Go.RowKit
set_option maxHeartbeats 4000000
theorem fr_len (f:Fr) (h:f.valid=true) (hk:f.k≠2):(f.enc.length:Int)=f.len∧5≤f.len∧f.len≤127∧f.body.length+2=f.enc.length∧((f.dm=2∧f.de=0)∨(f.dm=3∧f.ds=0))∧((f.um=2∧f.ue=0)∨(f.um=3∧f.us=0))∧(f.k=1∨f.k=3)∧(f.se=true→f.M.length=4):=by
 unfold Fr.valid at h
 rw [if_neg hk] at h
 split at h
 case isFalse=>cases h
 rename_i hk1
 simp only [dataV,decide_eq_true_eq,someA] at h
 obtain ⟨⟨h1,h2⟩,_,h3,h4,h5⟩:=h
 have e:∀ (m s e:Int),((m=2∧e=0)∨(m=3∧s=0))→((adrB m s e).length:Int)=abL m:=by
  intro m s e h
  unfold adrB abL
  rcases h with ⟨rfl,_⟩ | ⟨rfl,_⟩
  ·rw [if_pos rfl,if_pos rfl,bytesOf_length];rfl
  ·rw [if_neg (by omega),if_neg (by omega),if_pos rfl,bytesOf_length];rfl
 have l1:=e _ _ _ h1
 have l2:=e _ _ _ h2
 have hc:(crcL f.body).length=2:=rfl
 have hb:(f.body.length:Int)+2=f.len:=by
  unfold Fr.body Fr.hdr Fr.mid Fr.len frL
  rw [if_neg hk,if_neg hk]
  have:f.head.length=3:=rfl
  cases hs:f.se
  ·simp only [List.length_append,bytesOf_length,List.length_nil,Bool.false_eq_true,if_false]
   have:=(h4 hs).2.2
   have n1:((if false=true then 5+(f.M.length:Int) else 0):Int)=0:=if_neg (by simp)
   omega
  ·simp only [List.length_append,bytesOf_length,List.length_cons,List.length_nil,if_true]
   omega
 have h2':f.enc.length=f.body.length+2:=by unfold Fr.enc;rw [List.length_append,hc]
 have h3':3≤f.body.length:=by
  unfold Fr.body Fr.hdr
  simp only [List.length_append]
  have:f.head.length=3:=rfl
  omega
 refine ⟨by omega,by omega,h5,by omega,h1,h2,hk1,fun hs=>by have:=h3 hs;omega⟩
theorem check_enc (f:Fr):f.enc.drop (f.enc.length - 2)=crcL (f.enc.take (f.enc.length - 2)):=by
 have hc:(crcL f.body).length=2:=rfl
 have h:f.enc.length - 2=f.body.length:=by unfold Fr.enc;rw [List.length_append,hc];omega
 rw [h]
 unfold Fr.enc
 rw [List.drop_left,List.take_left]
set_option maxRecDepth 20000 in
theorem decode_yes (k:Int) (ac pe:Bool) (q pn dm ds de um us ue ct ky:Int) (P M:List SV) (p m:List UInt8) (hP:P=u8l p) (hM:M=u8l m) (ok:(Fr.mk k ac pe true q pn dm ds de um us ue ct ky p m).Ok)
  (hv:(Fr.mk k ac pe true q pn dm ds de um us ue ct ky p m).valid=true) (hk2:k≠2) (X:List SV) (hX:X=u8l (Fr.mk k ac pe true q pn dm ds de um us ue ct ky p m).enc) :
  Good 11 (pu [.lst none X] (.tup [frS k ac pe true q pn dm ds de um us ue ct ky P M,.int .i64 0])):=by
 obtain ⟨b1,b2,b3,b4,b5,b6,b7,b8'⟩:=fr_len _ hv hk2
 have ft:=(Fr.fits hv).p
 have hm4:m.length=4:=b8' rfl
 have hw:=check_enc (Fr.mk k ac pe true q pn dm ds de um us ue ct ky p m)
 obtain ⟨e,he⟩:∃ y,y=(Fr.mk k ac pe true q pn dm ds de um us ue ct ky p m).enc:=⟨_,rfl⟩
 obtain ⟨b,hb⟩:∃ y,y=(Fr.mk k ac pe true q pn dm ds de um us ue ct ky p m).body:=⟨_,rfl⟩
 rw [← he] at b1 b4 hw hX
 rw [← hb] at b4
 have heb:e=b++crcL b:=by rw [he,hb];rfl
 have hXl:X.length=e.length:=by rw [hX,u8l_len]
 have hel:e.length≤127:=by omega
 have hel5:5≤e.length:=by omega
 have c1:=check_c e X hX (by omega) (by omega) true (decide_eq_true hw).symm
 have c2:=fun Y hY=>parse_yes k ac pe q pn dm ds de um us ue ct ky P M p m hP hM hm4 ft ok b7 b5 b6 Y (by rw [← hb];exact hY)
 have c3:=encode_yes k ac pe true q pn dm ds de um us ue ct ky P M p m hP hM ok hv hk2 (by omega) X (by rw [hX,he])
 have c4:=equal_c e e X X hX hX true (by simp)
 clear b1 b2 b3 b5 b6 b7 b8' hv ok hw
 refine Good.of Tryz.func11 rfl (by rfl) (by kernel_rfl) ?_
 cbv
 (repeat' (first
| ((first
| (refine q1w (fun z hz=>?_);(try simp only at hz))
| refine rqa ?_
| refine chpA ?_
| refine QCt ?_
| refine QCf ?_);cbv)
| (refine QC.mk ?_ ?_ <;> intro hc <;> (try dsimp only at hc) <;> cbv)
| (refine br_mk2 ?_ ?_ <;> intro hb <;> (try subst hb) <;> cbv)
| (refine callq (c1) rfl rfl ?_;cbv)))
 have ez:z.toNat=b.length:=by (first | omega | (simp only [cst] at *;omega) | (simp only [sm] at *;omega))
 refine callq (c2 (O.tk z X) (by rw [otk,hX,heb,u8l_take,ez,List.take_left])) rfl rfl ?_
 cbv
 (repeat' (first
| ((first
| (refine q1w (fun z hz=>?_);(try simp only at hz))
| refine rqa ?_
| refine chpA ?_
| refine QCt ?_
| refine QCf ?_);cbv)
| (refine QC.mk ?_ ?_ <;> intro hc <;> (try dsimp only at hc) <;> cbv)
| (refine br_mk2 ?_ ?_ <;> intro hb <;> (try subst hb) <;> cbv)
| (refine callq (c3) rfl rfl ?_;cbv)
| (refine callq (c4) rfl rfl ?_;cbv)))
 exact ⟨rfl,rfl,rfl⟩
end
end Go.Proofs.YtgfpjhddojhfpaaGreat
