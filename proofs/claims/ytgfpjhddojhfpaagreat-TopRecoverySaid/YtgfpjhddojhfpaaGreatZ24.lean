/- Texts put together: KH KR. -/
import Derived.Test.YtgfpjhddojhfpaaGreatZ11
import Derived.Test.YtgfpjhddojhfpaaGreatZ14
import Derived.Test.YtgfpjhddojhfpaaGreatZ19
import Derived.Test.YtgfpjhddojhfpaaGreatZ22
import Derived.Test.YtgfpjhddojhfpaaGreatZ23
namespace Go.Proofs.YtgfpjhddojhfpaaGreat
set_option linter.unusedVariables false
set_option linter.unusedSimpArgs false
section
open Go.RowKit
set_option maxHeartbeats 4000000
def ackN (k:Bool) (n:Int):Int:=if k=true then n+128 else n
def encB (p:Pce):List UInt8:=232::5::UInt8.ofNat (ackN p.ack p.n).toNat::UInt8.ofNat p.c.toNat::p.d
theorem encB_len (p:Pce):(encB p).length=p.d.length+4:=by simp [encB]
theorem encB_u8l (p:Pce) (h1:1≤p.c∧p.c≤32∧0≤p.n∧p.n < p.c):u8l (encB p)=.int .u8 232::.int .u8 5::.int .u8 (ackN p.ack p.n)::.int .u8 p.c::u8l p.d:=by
 have e1:((UInt8.ofNat (ackN p.ack p.n).toNat).toNat:Int)=ackN p.ack p.n:=by
  have:0≤ackN p.ack p.n∧ackN p.ack p.n≤255:=by unfold ackN;split <;> omega
  rw [UInt8.toNat_ofNat'];omega
 have e2:((UInt8.ofNat p.c.toNat).toNat:Int)=p.c:=by rw [UInt8.toNat_ofNat'];omega
 rw [encB,u8l,List.map_cons,List.map_cons,List.map_cons,List.map_cons,e1,e2];rfl
theorem penc_c (p:Pce) (ht:p.tag=5) (D C:List SV) (hD:D=u8l p.d) (hd:p.d.length≤1000) (hv:valP p.n p.c p.d.length=true) (hC:C=u8l (encB p)) :
  Good 31 (pu [.agg [.int .u8 5,.int .i64 p.n,.int .i64 p.c,.bool p.ack,.lst none D]] (.tup [.lst none C,.int .i64 0])):=by
 have h:=of_decide_eq_true hv
 have e:C=.int .u8 232::.int .u8 5::.int .u8 (ackN p.ack p.n)::.int .u8 p.c::D:=by rw [hC,encB_u8l p (by omega),hD]
 rw [e]
 exact enc_yes 5 p.n p.c p.ack D p.d.length (by rw [hD,u8l_len]) (by omega) hv _ rfl
theorem pdec_c (p:Pce) (ht:p.tag=5) (D C:List SV) (hD:D=u8l p.d) (hd:p.d.length≤1000) (hv:valP p.n p.c p.d.length=true) (hC:C=u8l (encB p)) :
  Good 32 (pu [.lst none C] (.tup [.agg [.int .u8 5,.int .i64 p.n,.int .i64 p.c,.bool p.ack,.lst none D],.int .i64 0])):=by
 have h:=of_decide_eq_true hv
 have e:C=.int .u8 232::.int .u8 5::.int .u8 (ackN p.ack p.n)::.int .u8 p.c::u8l p.d:=by rw [hC,encB_u8l p (by omega)]
 have hdr:O.dr 4 C=D:=by rw [odr,e,hD];rfl
 have a1:0≤ackN p.ack p.n∧ackN p.ack p.n≤255:=by unfold ackN;split <;> omega
 have a2:ackN p.ack p.n % 128=p.n:=by unfold ackN;split <;> omega
 have a3:decide (128≤ackN p.ack p.n)=p.ack:=by
  unfold ackN
  cases p.ack
  ·rw [if_neg (by simp)];exact decide_eq_false (by omega)
  ·rw [if_pos rfl];exact decide_eq_true (by omega)
 have hV:DecV 232 5 (ackN p.ack p.n) p.c (O.dr 4 C) p.d.length (.agg [.int .u8 5,.int .i64 p.n,.int .i64 p.c,.bool p.ack,.lst none D]) 0:=by
  rw [hdr]
  refine ⟨fun _=>⟨?_,rfl⟩,fun h2=>absurd ⟨rfl,by rw [a2];exact hv⟩ h2⟩
  rw [a2,a3]
 exact dec_c 232 5 (ackN p.ack p.n) p.c p.d C e (by omega) (by omega) a1 (by omega) (by omega) (by omega) _ _ hV
theorem ackdec_c (m:Int) (hm:0≤m∧m≤4294967295) (X:List SV) (hX:X=u8l (ackB 5 m)) :
  Good 34 (pu [.lst none X] (.tup [.int .u8 5,.int .u32 m,.bool true])):=by
 have hXl:X.length=6:=by rw [hX,u8l_len,ackB_len]
 have h0:X[0]?=some (.int .u8 234):=by rw [hX];rfl
 have h1:X[1]?=some (.int .u8 5):=by rw [hX];rfl
 have hv:m=((be (((ackB 5 m).drop 2).take 4):Nat):Int):=by
  have e:((ackB 5 m).drop 2).take 4=bytesOf m 4:=by
   show List.take 4 (bytesOf m 4)=_
   rw [List.take_of_length_le (by rw [bytesOf_length];omega)]
  rw [e]
  obtain ⟨u,rfl⟩:=Int.eq_ofNat_of_zero_le hm.1
  rw [be_bytesOf,Nat.mod_eq_of_lt];omega
 have g1:=uint_c (ackB 5 m) X 2 4 m 2 4 hX rfl rfl (by omega) (by omega) (by rw [ackB_len];omega) (by rw [ackB_len];omega) hv
 clear hX hv
 refine Good.of Tryz.func34 rfl (by rfl) (by kernel_rfl) ?_
 cbv
 (repeat' (first
| ((first
| (refine q1w (fun z hz=>?_);(try simp only at hz))
| refine rqa ?_
| refine chpA ?_
| refine QCt ?_
| refine QCf ?_);cbv)
| (refine QC.mk ?_ ?_ <;> intro hc <;> (try dsimp only at hc) <;> cbv)
| (refine br_mk2 ?_ ?_ <;> intro hb <;> (try subst hb) <;> cbv)))
 (refine qv (0,_) ⟨rfl,h0⟩ ?_;cbv;(repeat' (first
| ((first
| (refine q1w (fun z hz=>?_);(try simp only at hz))
| refine rqa ?_
| refine chpA ?_
| refine QCt ?_
| refine QCf ?_);cbv)
| (refine QC.mk ?_ ?_ <;> intro hc <;> (try dsimp only at hc) <;> cbv)
| (refine br_mk2 ?_ ?_ <;> intro hb <;> (try subst hb) <;> cbv))))
 (refine callq (g1) rfl rfl ?_;cbv;(repeat' (first
| ((first
| (refine q1w (fun z hz=>?_);(try simp only at hz))
| refine rqa ?_
| refine chpA ?_
| refine QCt ?_
| refine QCf ?_);cbv)
| (refine QC.mk ?_ ?_ <;> intro hc <;> (try dsimp only at hc) <;> cbv)
| (refine br_mk2 ?_ ?_ <;> intro hb <;> (try subst hb) <;> cbv))))
 (refine qv (1,_) ⟨rfl,h1⟩ ?_;cbv;(repeat' (first
| ((first
| (refine q1w (fun z hz=>?_);(try simp only at hz))
| refine rqa ?_
| refine chpA ?_
| refine QCt ?_
| refine QCf ?_);cbv)
| (refine QC.mk ?_ ?_ <;> intro hc <;> (try dsimp only at hc) <;> cbv)
| (refine br_mk2 ?_ ?_ <;> intro hb <;> (try subst hb) <;> cbv))))
 refine Fin.mk ?_ rfl rfl
 have e:z=m:=by omega
 rw [e]
end
section
open Go.RowKit
set_option maxHeartbeats 8000000
abbrev sndV (R:List SV) (st ak rd un:Int):SV:=.agg [.int .i64 st,.int .u8 5,.lst none R,.int .u32 ak,.int .i64 rd,.int .i64 un]
abbrev rcvV (R:List SV) (tg cn hv:Int) (dn:Bool):SV:=.agg [.int .u8 tg,.int .i64 cn,.lst none R,.int .u32 hv,.bool dn]
abbrev pcV (j c:Int) (κ:Bool) (B:List SV):SV:=.agg [.int .u8 5,.int .i64 j,.int .i64 c,.bool κ,.lst none B]
abbrev matT (a:Int):SV:=.lst none [.lst none [.int .i64 0,.int .i64 a],.lst none [.int .i64 256,.int .i64 0]]
abbrev txV (E:List SV):SV:=.lst (some 2) [.agg [.int .i64 0,.lst none E]]
abbrev rxV (E:List SV):SV:=.agg [.int .i64 0,.int .i64 1,.lst none E]
noncomputable def fT (ct:Int) (p:Pce):List UInt8:=tagP (rcF true ct 1 (encB p) []).hdr 4
noncomputable def fE (ct:Int) (p:Pce):List UInt8:=(rcF true ct 1 (encB p) (fT ct p)).enc
def drw (ds:List Int) (n:Nat):List SV:=ints .u8 ((ds.drop n).take 1)
noncomputable def dlv (a:Int) (ds:List Int) (ct:Int) (p:Pce) (n:Nat):Bool :=
 @decide (Good 21 (pu [matT a,txV (u8l (fE ct p)),.lst none (drw ds n)] (.tup [.lst (some 3) [rxV (u8l (fE ct p))],.int .i64 0]))) (Classical.propDecidable _)
structure PT (a:Int) (ds:List Int) (RP L:List SV) (st ak rd un tg cn hv ct la wi:Nat→Int) (RR:Nat→List SV) (dn:Nat→Bool) (n0 k:Nat):Prop where
 c:ct (k+1)=ct k+1
 h:∃ (j c:Int) (κ:Bool) (B C E:List SV),L[k]?=some (pcV j c κ B) ∧
  Good 31 (pu [pcV j c κ B] (.tup [.lst none C,.int .i64 0])) ∧
  Good 8 (pu [gS (ct k) 0 [],.int .i64 0,.int .i64 1,.lst none [.lst none C]] (.tup [gS (ct (k+1)) 0 [],.lst none [.lst none E],.bool true])) ∧
  (Good 21 (pu [matT a,txV E,.lst none (drw ds (n0+k))] (.tup [.lst (some 3) [],.int .i64 0]))∧(st (k+1)=st k∧ak (k+1)=ak k∧rd (k+1)=rd k∧un (k+1)=un k∧tg (k+1)=tg k∧cn (k+1)=cn k∧hv (k+1)=hv k∧la (k+1)=la k∧wi (k+1)=wi k∧RR (k+1)=RR k∧dn (k+1)=dn k) ∨
   Good 21 (pu [matT a,txV E,.lst none (drw ds (n0+k))] (.tup [.lst (some 3) [rxV E],.int .i64 0])) ∧
   Good 19 (pu [gS 0 9 [peS (la k) (wi k)],.lst none E] (.tup [gS 0 9 [peS (la (k+1)) (wi (k+1))],.lst none C,.bool true])) ∧
   Good 32 (pu [.lst none C] (.tup [pcV j c κ B,.int .i64 0])) ∧
   ∃ (bm:Int) (A:List SV),Good 33 (pu [rcvV (RR k) (tg k) (cn k) (hv k) (dn k),pcV j c κ B] (.tup [rcvV (RR (k+1)) (tg (k+1)) (cn (k+1)) (hv (k+1)) (dn (k+1)),.int .u32 bm,.bool κ,.int .i64 0])) ∧
    Good 35 (nu [.int .u8 5,.int .u32 bm] (.row 1) (.row none 5 A))∧Good 34 (pu [.lst none A] (.tup [.int .u8 5,.int .u32 bm,.bool true])) ∧
    (κ=true∧Good 36 (pu [sndV RP (st k) (ak k) (rd k) (un k),.int .u8 5,.int .u32 bm] (.tup [sndV RP (st (k+1)) (ak (k+1)) (rd (k+1)) (un (k+1)),.int .i64 0]))∨κ=false∧(st (k+1)=st k∧ak (k+1)=ak k∧rd (k+1)=rd k∧un (k+1)=un k)))
theorem sndW {P:List (List UInt8)} {RP:List SV} (s:Snd) (h1:s.tag=5):s.w RP=sndV RP s.st s.ak s.rd s.un:=by
 obtain ⟨a,b,c,d,e,f⟩:=s
 have h1:b=5:=h1
 subst h1
 rfl
theorem tick_t {P:List (List UInt8)} (hP:Pcs P) (hP2:∀ p∈P,p.length≤76) {RP:List SV} (hRP:RP=rowsB P) (a:Int) (ha:0≤a∧a≤256) (ds:List Int) (hds:∀ d∈ds,0≤d∧d≤255) (x:XT) (t:Nat) (ht:t≤5000) (h:EI P x.s x.r t) (g:GI x) (hn:x.n≤1000000) (hst:x.s.st=1) :
  ∃ (L:List SV) (st ak rd un tg cn hv ct la wi:Nat→Int) (RR:Nat→List SV) (dn:Nat→Bool),L.length≤8 ∧
   Good 30 (pu [sndV RP x.s.st x.s.ak x.s.rd x.s.un,.int .i64 t] (.tup [sndV RP (st 0) (ak 0) (rd 0) (un 0),.lst (some 5) L,.int .i64 0])) ∧
   (tg 0=x.r.tag∧cn 0=x.r.cnt∧hv 0=x.r.hv∧dn 0=x.r.dn∧RR 0=rowsB x.r.ps∧ct 0=x.ct∧la 0=x.la∧wi 0=x.wi) ∧
   (∀ k,k < L.length→PT a ds RP L st ak rd un tg cn hv ct la wi RR dn x.n k) ∧
   (∀ k,k≤L.length→0≤ct k∧ct k≤1048000) ∧
   (tickT (dlv a ds) x t).s.st=st L.length∧(tickT (dlv a ds) x t).s.ak=ak L.length∧(tickT (dlv a ds) x t).s.rd=rd L.length∧(tickT (dlv a ds) x t).s.un=un L.length ∧
   (tickT (dlv a ds) x t).r.tag=tg L.length∧(tickT (dlv a ds) x t).r.cnt=cn L.length∧(tickT (dlv a ds) x t).r.hv=hv L.length∧(tickT (dlv a ds) x t).r.dn=dn L.length∧rowsB (tickT (dlv a ds) x t).r.ps=RR L.length ∧
   (tickT (dlv a ds) x t).ct=ct L.length∧(tickT (dlv a ds) x t).la=la L.length∧(tickT (dlv a ds) x t).wi=wi L.length∧(tickT (dlv a ds) x t).n=x.n+L.length:=by
 obtain ⟨s',l,e1,e2,e3,e4⟩:=h.tick hP hst (by omega)
 have gg:GI ⟨s',x.r,x.ct,x.la,x.wi,x.n⟩:=⟨g.c,g.l,g.w,g.o⟩
 have hfold:=foldT_ei hP (dlv a ds) (t:=(t:Int)+1) (by omega) (x:=⟨s',x.r,x.ct,x.la,x.wi,x.n⟩) e2 gg e4
 obtain ⟨F,hF⟩:∃ F:Nat→XT,∀ k,F k=foldT (dlv a ds) l ⟨s',x.r,x.ct,x.la,x.wi,x.n⟩ k:=⟨_,fun _=>rfl⟩
 have hF0:F 0=⟨s',x.r,x.ct,x.la,x.wi,x.n⟩:=by rw [hF];rfl
 have hFs:∀ k p,l[k]?=some p→F (k+1)=stepT (dlv a ds) (F k) p:=fun k p hp=>by
  rw [hF,hF,foldT,List.getD_eq_getElem?_getD,hp];rfl
 simp only [← hF] at hfold
 have htick:tickT (dlv a ds) x t=F l.length:=by rw [tickT,e1,hF]
 have hLl:(pcL l).length=l.length:=pcL_len l
 rw [htick]
 refine ⟨pcL l,fun k=>(F k).s.st,fun k=>(F k).s.ak,fun k=>(F k).s.rd,fun k=>(F k).s.un,fun k=>(F k).r.tag,fun k=>(F k).r.cnt,fun k=>(F k).r.hv,fun k=>(F k).ct,fun k=>(F k).la,fun k=>(F k).wi,fun k=>rowsB (F k).r.ps,fun k=>(F k).r.dn,by omega,?_,?_,fun k hk=>?_,fun k hk=>?_,?_⟩
 ·have g:=next_p x.s RP (by rw [h.ps];exact hRP) (h.fits hP) t (by omega) s' RP (by rw [e2.ps];exact hRP) l _ rfl 0 e1
  rw [sndW (P:=P) x.s h.tag,sndW (P:=P) s' e2.tag] at g
  dsimp only
  rw [hF0]
  exact g
 ·dsimp only
  rw [hF0];exact ⟨rfl,rfl,rfl,rfl,rfl,rfl,rfl,rfl⟩
 ·rw [hLl] at hk
  obtain ⟨p,hp,hpc⟩:=e4 k hk
  have hs:=hFs k p hp
  obtain ⟨aE,aG,aN⟩:=hfold k (by omega)
  have aN:(F k).n=x.n+k:=aN
  have hcc:=aG.c
  have hcl:=aG.l
  obtain ⟨j,κ,hj,rfl⟩:=hpc
  have hdm:P.getD j []∈P:=by
   rw [List.getD_eq_getElem?_getD,List.getElem?_eq_getElem hj]
   exact List.getElem_mem hj
  have hd76:=hP2 _ hdm
  have hd1:1≤(P.getD j []).length:=List.length_pos_iff.2 (hP.ne _ hdm)
  have hv:valP (j:Int) (P.length:Int) (P.getD j []).length=true:=by
   have h2:=hP.n2
   exact decide_eq_true ⟨by omega,by omega,by omega,by omega,hd1⟩
  obtain ⟨p,hpp⟩:∃ p:Pce,p=⟨5,j,P.length,κ,P.getD j []⟩:=⟨_,rfl⟩
  have hpe:(encB p).length≤85:=by rw [encB_len,hpp];dsimp only;omega
  have g1:=penc_c p (by rw [hpp]) (u8l (P.getD j [])) (u8l (encB p)) (by rw [hpp]) (by rw [hpp];dsimp only;omega) (by rw [hpp];exact hv) rfl
  have g2:=pdec_c p (by rw [hpp]) (u8l (P.getD j [])) (u8l (encB p)) (by rw [hpp]) (by rw [hpp];dsimp only;omega) (by rw [hpp];exact hv) rfl
  have g3:=sealN_c (F k).ct ((F k).ct+1) (by omega) rfl (encB p) _ rfl hpe (fT (F k).ct p) rfl (u8l (fE (F k).ct p)) rfl
  have hTl:(fT (F k).ct p).length=4:=tagP_len _ _
  have hel:(fE (F k).ct p).length≤127:=by
   have:=fr_len _ (rcF_valid (encB p) (fT (F k).ct p) hpe hTl (F k).ct 1) (by show (1:Int)≠2;omega)
   have h1:((fE (F k).ct p).length:Int)=_:=this.1
   have h2:=this.2.2.1
   omega
  have hdel:=delA a 256 ha (by omega) (fE (F k).ct p) _ rfl hel ((ds.drop (F k).n).take 1) _ rfl (fun d hd=>hds d (List.mem_of_mem_drop (List.mem_of_mem_take hd))) (by rw [List.length_take];omega)
  have hLk:(pcL l)[k]?=some (pcV j P.length κ (u8l (P.getD j []))):=by rw [pcL,List.getElem?_map,hp];rfl
  rw [← hpp] at hs
  have hcs:(F (k+1)).ct=(F k).ct+1:=by rw [hs,stepT];split <;> rfl
  refine ⟨hcs,j,P.length,κ,u8l (P.getD j []),u8l (encB p),u8l (fE (F k).ct p),hLk,by rw [hpp] at g1;rw [hpp];exact g1,by rw [hcs];exact g3,?_⟩
  rw [aN] at hdel
  by_cases hdv:dlv a ds (F k).ct p (F k).n=true
  ·right
   rw [stepT,if_pos hdv] at hs
   have gd:=@of_decide_eq_true _ (Classical.propDecidable _) hdv
   rw [aN] at gd
   obtain ⟨r',h1,h2,h3,h4⟩:=aE.recv hP j hj κ
   rw [← hpp] at h1
   rw [h1] at hs
   have hr:(F (k+1)).r=r':=by rw [hs]
   have hla:(F (k+1)).la=(F k).ct:=by rw [hs]
   have hwi:(F (k+1)).wi=winW (F k).wi ((F k).ct - (F k).la):=by rw [hs]
   have g4:=openN_c (F k).ct (F k).la (F k).wi ⟨hcl.1,hcl.2,by omega⟩ aG.w aG.o (encB p) _ rfl hpe (fT (F k).ct p) rfl (u8l (fE (F k).ct p)) rfl _ rfl
   have gr:=recv_p (F k).r _ rfl (aE.ri.fits hP) p _ rfl (by rw [hpp];dsimp only;omega) r' _ rfl 0 h1
   obtain ⟨b1,b2,b3⟩:=h2.hvb hP
   have hb:=allI_b hP.n2
   refine ⟨gd,by rw [hla,hwi];exact g4,by rw [hpp] at g2;rw [hpp];exact g2,if κ=true then r'.hv else 0,_,?_,encack_c 5 _ (by omega) (by split <;> omega) _ rfl,ackdec_c _ (by split <;> omega) _ rfl,?_⟩
   ·rw [hpp] at gr
    rw [hr]
    exact gr
   ·cases κ
    ·right
     refine ⟨rfl,?_⟩
     rw [hpp] at hs
     rw [hs]
     exact ⟨rfl,rfl,rfl,rfl⟩
    ·left
     refine ⟨rfl,?_⟩
     obtain ⟨s2,q1,q2⟩:=h3.ack hP h2 (by omega)
     rw [hpp] at hs
     dsimp only at hs
     rw [if_pos rfl,q1] at hs
     have ga:=ack_p (F k).s RP (by rw [aE.ps];exact hRP) (aE.fits hP) 5 r'.hv (by omega) (by omega) s2 RP (by rw [q2.ps];exact hRP) 0 q1
     rw [sndW (P:=P) _ aE.tag,sndW (P:=P) _ q2.tag] at ga
     rw [if_pos rfl]
     have hss:(F (k+1)).s=s2:=by rw [hs]
     rw [hss]
     exact ga
  ·left
   rw [stepT,if_neg hdv] at hs
   refine ⟨?_,?_⟩
   ·rcases hdel with hd | hd
    ·exact hd
    ·exact absurd (@decide_eq_true _ (Classical.propDecidable _) (by rw [aN];exact hd)) hdv
   ·rw [hs]
    exact ⟨rfl,rfl,rfl,rfl,rfl,rfl,rfl,rfl,rfl,rfl,rfl⟩
 ·rw [hLl] at hk
  obtain ⟨aE,aG,aN⟩:=hfold k hk
  have:=aG.c
  dsimp only at aN ⊢
  omega
 ·rw [hLl]
  exact ⟨rfl,rfl,rfl,rfl,rfl,rfl,rfl,rfl,rfl,rfl,rfl,rfl,(hfold l.length (Nat.le_refl _)).2.2⟩
structure RunT (a:Int) (ds:List Int) (RP:List SV) (ST AK RD UN TG CN HV CT LA WI:Nat→Int) (RR:Nat→List SV) (DN:Nat→Bool) (NN:Nat→Nat) (n:Nat):Prop where
 stop:ST n≠1→ST 2500=ST n∧TG 2500=TG n∧CN 2500=CN n∧HV 2500=HV n∧RR 2500=RR n∧DN 2500=DN n
 go:ST n=1→n < 2500∧∃ (L:List SV) (st ak rd un tg cn hv ct la wi:Nat→Int) (rr:Nat→List SV) (dn:Nat→Bool),L.length≤8 ∧
   (∀ j:Int,j=n→Good 30 (pu [sndV RP (ST n) (AK n) (RD n) (UN n),.int .i64 j] (.tup [sndV RP (st 0) (ak 0) (rd 0) (un 0),.lst (some 5) L,.int .i64 0]))) ∧
   (tg 0=TG n∧cn 0=CN n∧hv 0=HV n∧dn 0=DN n∧rr 0=RR n∧ct 0=CT n∧la 0=LA n∧wi 0=WI n) ∧
   (∀ k,k < L.length→PT a ds RP L st ak rd un tg cn hv ct la wi rr dn (NN n) k)∧(∀ k,k≤L.length→0≤ct k∧ct k≤1048000) ∧
   (ST (n+1)=st L.length∧AK (n+1)=ak L.length∧RD (n+1)=rd L.length∧UN (n+1)=un L.length∧TG (n+1)=tg L.length∧CN (n+1)=cn L.length∧HV (n+1)=hv L.length∧CT (n+1)=ct L.length∧LA (n+1)=la L.length∧WI (n+1)=wi L.length∧DN (n+1)=dn L.length∧RR (n+1)=rr L.length∧NN (n+1)=NN n+L.length)
 nn:n≤2500→NN n≤8 * n
theorem run_t {P:List (List UInt8)} (hP:Pcs P) (hP2:∀ p∈P,p.length≤76) {RP:List SV} (hRP:RP=rowsB P) (a:Int) (ha:0≤a∧a≤256) (ds:List Int) (hds:∀ d∈ds,0≤d∧d≤255) (x:XT) (h:EI P x.s x.r 0) (g:GI x) (hn:x.n=0) (n:Nat) (hn3:n≤2500) :
  RunT a ds RP (fun n=>(runT (dlv a ds) x n).s.st) (fun n=>(runT (dlv a ds) x n).s.ak) (fun n=>(runT (dlv a ds) x n).s.rd) (fun n=>(runT (dlv a ds) x n).s.un) (fun n=>(runT (dlv a ds) x n).r.tag) (fun n=>(runT (dlv a ds) x n).r.cnt) (fun n=>(runT (dlv a ds) x n).r.hv) (fun n=>(runT (dlv a ds) x n).ct) (fun n=>(runT (dlv a ds) x n).la) (fun n=>(runT (dlv a ds) x n).wi) (fun n=>rowsB (runT (dlv a ds) x n).r.ps) (fun n=>(runT (dlv a ds) x n).r.dn) (fun n=>(runT (dlv a ds) x n).n) n:=by
 obtain ⟨aE,aG,aN⟩:=runT_ei hP (dlv a ds) h g hn n (by omega)
 refine ⟨fun hs=>?_,fun hs=>?_,fun _=>aN⟩
 ·have hs:(runT (dlv a ds) x n).s.st≠1:=hs
  have:=runT_stop (dlv a ds) x n hs (2500 - n)
  rw [show n+(2500 - n)=2500 by omega] at this
  rw [this]
  exact ⟨rfl,rfl,rfl,rfl,rfl,rfl⟩
 ·have hs:(runT (dlv a ds) x n).s.st=1:=hs
  have hlt:n < 2500:=by
   have:=aE.pot hs
   have:=aE.v.r2
   omega
  refine ⟨hlt,?_⟩
  have e:runT (dlv a ds) x (n+1)=tickT (dlv a ds) (runT (dlv a ds) x n) n:=by rw [runT,if_pos hs]
  have:=tick_t hP hP2 hRP a ha ds hds (runT (dlv a ds) x n) n (by omega) aE aG (by omega) hs
  rw [← e] at this
  obtain ⟨L,st,ak,rd,un,tg,cn,hv,ct,la,wi,rr,dn,h1,h2,h3,h4,h5,f1,f2,f3,f4,f5,f6,f7,f8,f9,f10,f11,f12,f13⟩:=this
  exact ⟨L,st,ak,rd,un,tg,cn,hv,ct,la,wi,rr,dn,h1,fun j hj=>by subst hj;exact h2,h3,h4,h5,f1,f2,f3,f4,f5,f6,f7,f10,f11,f12,f8,f9,f13⟩
end
end Go.Proofs.YtgfpjhddojhfpaaGreat
