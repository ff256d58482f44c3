/- Texts put together: VH VI VJ OS OT OU VN. -/
import Derived.Test.YtgfpjhddojhfpaaGreatZ03
import Derived.Test.YtgfpjhddojhfpaaGreatZ04
import Derived.Test.YtgfpjhddojhfpaaGreatZ17
import Derived.Test.YtgfpjhddojhfpaaGreatZ18
namespace Go.Proofs.YtgfpjhddojhfpaaGreat
set_option linter.unusedVariables false
set_option linter.unusedSimpArgs false
section
open Go.RowKit
set_option maxHeartbeats 16000000
end
section
open Go.RowKit
set_option maxHeartbeats 16000000
def zeroV:SV:=.agg [.int .i64 0,.int .u8 0,.nil,.int .u32 0,.int .i64 0,.int .i64 0]
def ackW (m:Int) (n:Nat):Int:=((m.toNat &&& (allI n).toNat:Nat):Int)
def ackD (w ak:Int):Int:=((w.toNat ^^^ (w.toNat &&& ak.toNat):Nat):Int)
def ackO (w ak:Int):Int:=((ak.toNat ||| w.toNat:Nat):Int)
def ackS (s:Snd) (m:Int):Snd :=
 let w:=ackW m s.ps.length
 if w=0 then { s with st:=3 }
 else { s with st:=if ackO w s.ak=allI s.ps.length then 2 else s.st,ak:=ackO w s.ak,rd:=if ackD w s.ak=0 then s.rd else 0,un:=0 }
def ackX (s:Snd) (b:Bool) (t m:Int):SV × Int :=
 if b=false then (zeroV,1) else if s.tag≠t then (zeroV,9) else if s.st≠1 then (s.v,0) else ((ackS s m).v,0)
theorem ackW_b (m:Int) (n:Nat) (hn:n≤32):0≤ackW m n∧ackW m n≤4294967295:=by
 have:=(allI_b hn).2
 have h:=Nat.and_le_right (n:=m.toNat) (m:=(allI n).toNat)
 rw [ackW];omega
theorem ackO_b (w ak:Int) (hw:0≤w∧w≤4294967295) (ha:0≤ak∧ak≤4294967295):0≤ackO w ak∧ackO w ak≤4294967295:=by
 have h:=Nat.or_lt_two_pow (show ak.toNat < 2 ^ 32 by omega) (show w.toNat < 2 ^ 32 by omega)
 rw [ackO];omega
theorem ack_c (st tag ak rd un:Int) (ps:List (List UInt8)) (R:List SV) (hR:R=rowsB ps) (hf:Snd.fits ⟨st,tag,ps,ak,rd,un⟩) (b:Bool) (hb:b=true ↔ VS ⟨st,tag,ps,ak,rd,un⟩)
  (t m:Int) (ht:0≤t∧t≤255) (hm:0≤m∧m≤4294967295) (X:SV) (e:Int) (hX:ackX ⟨st,tag,ps,ak,rd,un⟩ b t m=(X,e)) :
  Good 36 (pu [.agg [.int .i64 st,.int .u8 tag,.lst none R,.int .u32 ak,.int .i64 rd,.int .i64 un],.int .u8 t,.int .u32 m] (.tup [X,.int .i64 e])):=by
 have g1:=vsender_c st tag ak rd un ps R hR hf b hb
 have g2:=clonedPieces_c ps R hR hf.n hf.b
 have g3:∀ N:Int,N=ps.length→ps.length≤32→Good 83 (pu [.int .i64 N] (.int .u32 (allI ps.length))):=fun N hN hn=>all_c ps.length N _ hN hn rfl
 skip
 have hRl:R.length=ps.length:=by rw [hR,rowsB_len]
 have hfb:=hf.b
 have hfn:=hf.n
 have hak:=hf.ak
 have hv:=fun h:b=true=>hb.1 h
 have hn32:b=true→ps.length≤32:=fun h=>(hv h).n2
 have hWb:=fun h:b=true=>ackW_b m ps.length (hn32 h)
 obtain ⟨w,hw⟩:∃ w,w=ackW m ps.length:=⟨_,rfl⟩
 obtain ⟨d,hd⟩:∃ d,d=ackD w ak:=⟨_,rfl⟩
 obtain ⟨o,ho⟩:∃ o,o=ackO w ak:=⟨_,rfl⟩
 obtain ⟨A,hA⟩:∃ A,A=allI ps.length:=⟨_,rfl⟩
 have hAb:=fun h:b=true=>allI_b (hn32 h)
 have hob:=fun h:0≤w∧w≤4294967295=>ackO_b w ak h hf.ak
 rw [← hw] at hWb
 rw [← hA] at hAb
 rw [← ho] at hob
 have x1:b=false→X=.agg [.int .i64 0,.int .u8 0,.nil,.int .u32 0,.int .i64 0,.int .i64 0]∧e=1:=fun h=>by
  unfold ackX at hX;rw [if_pos h] at hX;obtain ⟨a1,a2⟩:=Prod.mk.inj hX;exact ⟨a1.symm,a2.symm⟩
 have x2:b=true→tag≠t→X=.agg [.int .i64 0,.int .u8 0,.nil,.int .u32 0,.int .i64 0,.int .i64 0]∧e=9:=fun h h2=>by
  unfold ackX at hX;rw [if_neg (by rw [h];simp),if_pos h2] at hX;obtain ⟨a1,a2⟩:=Prod.mk.inj hX;exact ⟨a1.symm,a2.symm⟩
 have x3:b=true→¬ tag≠t→st≠1→X=.agg [.int .i64 st,.int .u8 tag,.lst none R,.int .u32 ak,.int .i64 rd,.int .i64 un]∧e=0:=fun h h2 h3=>by
  unfold ackX at hX;rw [if_neg (by rw [h];simp),if_neg h2,if_pos h3] at hX;obtain ⟨a1,a2⟩:=Prod.mk.inj hX;exact ⟨by rw [← a1,hR];rfl,a2.symm⟩
 have x4:b=true→¬ tag≠t→¬ st≠1→w=0→X=.agg [.int .i64 3,.int .u8 tag,.lst none R,.int .u32 ak,.int .i64 rd,.int .i64 un]∧e=0:=fun h h2 h3 h4=>by
  unfold ackX ackS at hX;rw [if_neg (by rw [h];simp),if_neg h2,if_neg h3] at hX;obtain ⟨a1,a2⟩:=Prod.mk.inj hX
  refine ⟨?_,a2.symm⟩
  rw [← a1,hR,if_pos (by rw [← hw];exact h4)];rfl
 have x5:b=true→¬ tag≠t→¬ st≠1→¬ w=0→X=.agg [.int .i64 (if o=A then 2 else st),.int .u8 tag,.lst none R,.int .u32 o,.int .i64 (if d=0 then rd else 0),.int .i64 0]∧e=0:=fun h h2 h3 h4=>by
  unfold ackX ackS at hX;rw [if_neg (by rw [h];simp),if_neg h2,if_neg h3] at hX;obtain ⟨a1,a2⟩:=Prod.mk.inj hX
  refine ⟨?_,a2.symm⟩
  rw [← a1,hR,if_neg (by rw [← hw];exact h4),hA,ho,hd,hw];rfl
 have hw:w=((m.toNat &&& A.toNat:Nat):Int):=by rw [hw,hA];rfl
 have hd:d=((w.toNat ^^^ (w.toNat &&& ak.toNat):Nat):Int):=hd
 have ho:o=((ak.toNat ||| w.toNat:Nat):Int):=ho
 clear hX hb hv
 rw [← hA] at g3
 refine Good.of Tryz.func36 rfl (by rfl) (by kernel_rfl) ?_
 cbv
 have hmk:True:=trivial
 (repeat' (first
| ((first
| (refine q1w (fun z hz=>?_);(try simp only at hz))
| refine rqa ?_
| refine chpA ?_
| refine QCt ?_
| refine QCf ?_);cbv)
| (refine QC.mk ?_ ?_ <;> intro hc <;> (try dsimp only at hc) <;> cbv)
| (refine br_mk2 ?_ ?_ <;> intro hb <;> (try subst hb) <;> cbv)))
 (refine callq (g1) rfl rfl ?_;cbv;(repeat' (first
| ((first
| (refine q1w (fun z hz=>?_);(try simp only at hz))
| refine rqa ?_
| refine chpA ?_
| refine QCt ?_
| refine QCf ?_);cbv)
| (refine QC.mk ?_ ?_ <;> intro hc <;> (try dsimp only at hc) <;> cbv)
| (refine br_mk2 ?_ ?_ <;> intro hb <;> (try subst hb) <;> cbv))))
 ·obtain ⟨e1,e2⟩:=x2 rfl hc
  refine Fin.mk ?_ rfl rfl
  rw [e1,e2]
 ·have x3:=x3 rfl hc
  have x4:=x4 rfl hc
  have x5:=x5 rfl hc
  have hWb:=hWb rfl
  have hAb:=hAb rfl
  have hob:=hob hWb
  have hn32:=hn32 rfl
  have hm0:True:=trivial
  clear x1 x2
  (refine callq (g2) rfl rfl ?_;cbv;(repeat' (first
| ((first
| (refine q1w (fun z hz=>?_);(try simp only at hz))
| refine rqa ?_
| refine chpA ?_
| refine QCt ?_
| refine QCf ?_);cbv)
| (refine QC.mk ?_ ?_ <;> intro hc <;> (try dsimp only at hc) <;> cbv)
| (refine br_mk2 ?_ ?_ <;> intro hb <;> (try subst hb) <;> cbv))))
  ·obtain ⟨e1,e2⟩:=x3 hc
   refine Fin.mk ?_ rfl rfl
   rw [e1,e2]
  ·have x4:=x4 hc
   have x5:=x5 hc
   have g3:=g3 z (by (first | omega | (simp only [cst] at *;omega) | (simp only [sm] at *;omega))) hn32
   clear x3 g2 g1 hfb hR hn32
   (refine callq (g3) rfl rfl ?_;cbv;(repeat' (first
| ((first
| (refine q1w (fun z hz=>?_);(try simp only at hz))
| refine rqa ?_
| refine chpA ?_
| refine QCt ?_
| refine QCf ?_);cbv)
| (refine QC.mk ?_ ?_ <;> intro hc <;> (try dsimp only at hc) <;> cbv)
| (refine br_mk2 ?_ ?_ <;> intro hb <;> (try subst hb) <;> cbv))))
   ·obtain ⟨e1,e2⟩:=x4 (hw.trans (hz.symm.trans hc))
    refine Fin.mk ?_ rfl rfl
    rw [e1,e2]
   ·skip
    rename_i zw hzw h1 zd hzd h2
    have ew:zw=w:=hzw.trans hw.symm
    have ed:zd=d:=hzd.trans (by rw [ew];exact hd.symm)
    have eo:z=o:=hz.trans (by rw [ew];exact ho.symm)
    obtain ⟨e1,e2⟩:=x5 (fun h=>h1 (ew.trans h))
    refine Fin.mk ?_ rfl rfl
    rw [e1,e2,if_pos (eo.symm.trans hc),if_neg (fun h=>h2 (ed.trans h)),eo]
   ·skip
    rename_i zw hzw h1 zd hzd h2
    have ew:zw=w:=hzw.trans hw.symm
    have ed:zd=d:=hzd.trans (by rw [ew];exact hd.symm)
    have eo:z=o:=hz.trans (by rw [ew];exact ho.symm)
    obtain ⟨e1,e2⟩:=x5 (fun h=>h1 (ew.trans h))
    refine Fin.mk ?_ rfl rfl
    rw [e1,e2,if_neg (fun h=>hc (eo.trans h)),if_neg (fun h=>h2 (ed.trans h)),eo]
   ·skip
    rename_i zw hzw h1 zd hzd h2
    have ew:zw=w:=hzw.trans hw.symm
    have ed:zd=d:=hzd.trans (by rw [ew];exact hd.symm)
    have eo:z=o:=hz.trans (by rw [ew];exact ho.symm)
    obtain ⟨e1,e2⟩:=x5 (fun h=>h1 (ew.trans h))
    refine Fin.mk ?_ rfl rfl
    rw [e1,e2,if_pos (eo.symm.trans hc),if_pos (ed.symm.trans (Classical.not_not.1 h2)),eo]
   ·skip
    rename_i zw hzw h1 zd hzd h2
    have ew:zw=w:=hzw.trans hw.symm
    have ed:zd=d:=hzd.trans (by rw [ew];exact hd.symm)
    have eo:z=o:=hz.trans (by rw [ew];exact ho.symm)
    obtain ⟨e1,e2⟩:=x5 (fun h=>h1 (ew.trans h))
    refine Fin.mk ?_ rfl rfl
    rw [e1,e2,if_neg (fun h=>hc (eo.trans h)),if_pos (ed.symm.trans (Classical.not_not.1 h2)),eo]
 ·obtain ⟨e1,e2⟩:=x1 rfl
  refine Fin.mk ?_ rfl rfl
  rw [e1,e2]
end
section
open Go.RowKit
set_option maxHeartbeats 8000000
noncomputable def vs (s:Snd):Bool:=@decide (VS s) (Classical.propDecidable _)
theorem vs_iff (s:Snd):vs s=true ↔ VS s:=by rw [vs];exact @decide_eq_true_iff _ (Classical.propDecidable _)
def zS:Snd:=⟨0,0,[],0,0,0⟩
abbrev Snd.w (s:Snd) (R:List SV):SV:=.agg [.int .i64 s.st,.int .u8 s.tag,.lst none R,.int .u32 s.ak,.int .i64 s.rd,.int .i64 s.un]
def begP (b:List UInt8) (tag room:Int):Snd × Int :=
 if room≤4 then (zS,2) else if b.length=0∨32≤((b.length:Int) - 1) / (room - 4) then (zS,3)
 else (⟨1,tag,chk (room - 4).toNat b (nPc b.length (room - 4).toNat),0,0,0⟩,0)
noncomputable def nextP (s:Snd) (now:Int):Snd × List Pce × Int :=
 if vs s=false then (zS,[],1)
 else if now < 0∨1099511627776 < now then (zS,[],2)
 else if s.st≠1∨now < s.un then (s,[],0)
 else if s.rd=8 then ({ s with st:=3 },[],0)
 else ({ s with rd:=s.rd+1,un:=min (now+8) 1099511627776 },mark (pre s.tag s.ps s.ak (min (opn s.ak s.ps.length).length 8)),0)
noncomputable def ackP (s:Snd) (t m:Int):Snd × Int :=
 if vs s=false then (zS,1) else if s.tag≠t then (zS,9) else if s.st≠1 then (s,0) else (ackS s m,0)
theorem wk_zero:Wk (.agg [.int .i64 0,.int .u8 0,.nil,.int .u32 0,.int .i64 0,.int .i64 0]) zS.v :=
 .agg ⟨.rfl' _,.rfl' _,.nil _,.rfl' _,.rfl' _,.rfl' _,trivial⟩
theorem beg_wk (b:List UInt8) (tag room:Int):∃ X,begX b tag room=(X,(begP b tag room).2)∧Wk X (begP b tag room).1.v:=by
 unfold begX begP
 split
 ·exact ⟨_,rfl,wk_zero⟩
 split
 ·exact ⟨_,rfl,wk_zero⟩
 ·exact ⟨_,rfl,.rfl' _⟩
theorem next_wk (s:Snd) (now:Int):∃ X,nextX s (vs s) now=(X,(nextP s now).2.1,(nextP s now).2.2)∧Wk X (nextP s now).1.v:=by
 unfold nextX nextP
 split
 ·exact ⟨_,rfl,wk_zero⟩
 split
 ·exact ⟨_,rfl,wk_zero⟩
 split
 ·exact ⟨_,rfl,.rfl' _⟩
 split
 ·exact ⟨_,rfl,.rfl' _⟩
 ·exact ⟨_,rfl,.rfl' _⟩
theorem ack_wk (s:Snd) (t m:Int):∃ X,ackX s (vs s) t m=(X,(ackP s t m).2)∧Wk X (ackP s t m).1.v:=by
 unfold ackX ackP
 split
 ·exact ⟨_,rfl,wk_zero⟩
 split
 ·exact ⟨_,rfl,wk_zero⟩
 split
 ·exact ⟨_,rfl,.rfl' _⟩
 ·exact ⟨_,rfl,.rfl' _⟩
theorem begin_p (b:List UInt8) (B:List SV) (hB:B=u8l b) (hb:b.length≤140737488351232) (tag room:Int) (hr:-9223372036854775808≤room∧room≤9223372036854775807) (s:Snd) (R:List SV) (hR:R=rowsB s.ps) (e:Int) (hX:begP b tag room=(s,e)) :
  Good 29 (pu [.lst none B,.int .u8 tag,.int .i64 room] (.tup [s.w R,.int .i64 e])):=by
 obtain ⟨X,h1,h2⟩:=beg_wk b tag room
 rw [hX] at h1 h2
 exact (begin_c b B hB hb tag room hr X e h1).res (.tup ⟨by rw [hR];exact h2,.rfl' _,trivial⟩)
theorem next_p (s:Snd) (R:List SV) (hR:R=rowsB s.ps) (hf:s.fits) (now:Int) (hnow:-9223372036854775808≤now∧now≤9223372036854775807) (s':Snd) (R':List SV) (hR':R'=rowsB s'.ps) (l:List Pce) (L:List SV) (hL:L=pcL l) (e:Int) (hX:nextP s now=(s',l,e)) :
  Good 30 (pu [s.w R,.int .i64 now] (.tup [s'.w R',.lst (some 5) L,.int .i64 e])):=by
 obtain ⟨X,h1,h2⟩:=next_wk s now
 rw [hX] at h1 h2
 exact (nx_c _ _ _ _ _ _ R hR hf _ (vs_iff s) now hnow X l L hL e h1).res (.tup ⟨by rw [hR'];exact h2,.rfl' _,.rfl' _,trivial⟩)
theorem ack_p (s:Snd) (R:List SV) (hR:R=rowsB s.ps) (hf:s.fits) (t m:Int) (ht:0≤t∧t≤255) (hm:0≤m∧m≤4294967295) (s':Snd) (R':List SV) (hR':R'=rowsB s'.ps) (e:Int) (hX:ackP s t m=(s',e)) :
  Good 36 (pu [s.w R,.int .u8 t,.int .u32 m] (.tup [s'.w R',.int .i64 e])):=by
 obtain ⟨X,h1,h2⟩:=ack_wk s t m
 rw [hX] at h1 h2
 exact (ack_c _ _ _ _ _ _ R hR hf _ (vs_iff s) t m ht hm X e h1).res (.tup ⟨by rw [hR'];exact h2,.rfl' _,trivial⟩)
end
section
open Go.RowKit
set_option maxHeartbeats 2000000
theorem same_c (xs ys:List UInt8) (X Y:List SV) (r:Bool) (hX:X=u8l xs) (hY:Y=u8l ys) (hlx:xs.length≤140737488352000) (hly:ys.length≤140737488352000) (hr:r=decide (xs=ys)) :
  Good 39 (pu [.lst none X,.lst none Y] (.bool r)):=by
 have hl:X.length=xs.length:=by rw [hX,u8l_len]
 have hl':Y.length=ys.length:=by rw [hY,u8l_len]
 have hx:∀ i,i < xs.length→X[i]?=some (.int .u8 (xs.getD i 0).toNat):=fun i hi=>by rw [hX];exact u8l_at i hi
 have hy:∀ i,i < ys.length→Y[i]?=some (.int .u8 (ys.getD i 0).toNat):=fun i hi=>by rw [hY];exact u8l_at i hi
 obtain ⟨F,hF⟩:∃ F:Nat→Int,∀ i,F i=(xs.getD i 0).toNat:=⟨_,fun _=>rfl⟩
 obtain ⟨G,hG⟩:∃ G:Nat→Int,∀ i,G i=(ys.getD i 0).toNat:=⟨_,fun _=>rfl⟩
 have key:∀ i,xs.take i=ys.take i→i < xs.length→i < ys.length→F i=G i→xs.take (i+1)=ys.take (i+1):=by
  intro i h h1 h2 h3
  rw [take_snoc_u8 _ _ h1,take_snoc_u8 _ _ h2,h]
  rw [hF,hG] at h3
  have:(xs.getD i 0).toNat=(ys.getD i 0).toNat:=by omega
  have:=UInt8.toNat_inj.1 this
  simp only [List.getD,List.getElem?_eq_getElem h1,List.getElem?_eq_getElem h2,Option.getD_some] at this
  rw [this]
 have key2:∀ i,¬ F i=G i→xs≠ys:=by
  intro i h e;subst e;rw [hF,hG] at h;exact h rfl
 simp only [← hF] at hx
 simp only [← hG] at hy
 refine Good.of Tryz.func39 rfl (by rfl) (by kernel_rfl) ?_
 cbv
 (repeat' (first
| ((first
| (refine q1w (fun z hz=>?_);(try simp only at hz))
| refine rqa ?_
| refine chpA ?_
| refine QCt ?_
| refine QCf ?_);cbv)
| (refine QC.mk ?_ ?_ <;> intro hc <;> (try dsimp only at hc) <;> cbv)
| (refine br_mk2 ?_ ?_ <;> intro hb <;> (try subst hb) <;> cbv)))
 ·have e:¬ xs.length=ys.length:=by (first | omega | (simp only [cst] at *;omega) | (simp only [sm] at *;omega))
  have e2:¬ xs=ys:=fun h=>e (by rw [h])
  refine ⟨?_,rfl,rfl⟩
  rw [hr,decide_eq_false e2]
 ·have e:xs.length=ys.length:=by (first | omega | (simp only [cst] at *;omega) | (simp only [sm] at *;omega))
  refine loopQ (A:=Nat × Int) (fun p=>p.2=p.1∧p.1≤xs.length∧xs.take p.1=ys.take p.1) (fun p=>xs.length - p.1) (fun p=>[(5,.int .i64 p.2)]) (fun p=>[]) (0,0) ⟨rfl,Nat.zero_le _,rfl⟩ ?_ ?_
  ·cbv
  ·intro ⟨i,j⟩ h
   have hj:j=(i:Int):=h.1
   have hi:i≤xs.length:=h.2.1
   have ht:xs.take i=ys.take i:=h.2.2
   clear h
   have h1:=hx i
   have h2:=hy i
   have h3:=key i ht
   have h4:=key2 i
   cbv
   (repeat' (first
| ((first
| (refine q1w (fun z hz=>?_);(try simp only at hz))
| refine rqa ?_
| refine chpA ?_
| refine QCt ?_
| refine QCf ?_);cbv)
| (refine QC.mk ?_ ?_ <;> intro hc <;> (try dsimp only at hc) <;> cbv)
| (refine br_mk2 ?_ ?_ <;> intro hb <;> (try subst hb) <;> cbv)))
   ·have hi2:i < xs.length:=by (first | omega | (simp only [cst] at *;omega) | (simp only [sm] at *;omega))
    have h3:=h3 hi2 (by omega)
    have h1:=h1 hi2
    have h2:=h2 (by omega)
    generalize F i=x at h1 h3 h4
    generalize G i=y at h2 h3 h4
    refine qv (i,.int .u8 x) ⟨hj,h1⟩ ?_
    cbv
    (repeat' (first
| ((first
| (refine q1w (fun z hz=>?_);(try simp only at hz))
| refine rqa ?_
| refine chpA ?_
| refine QCt ?_
| refine QCf ?_);cbv)
| (refine QC.mk ?_ ?_ <;> intro hc <;> (try dsimp only at hc) <;> cbv)
| (refine br_mk2 ?_ ?_ <;> intro hb <;> (try subst hb) <;> cbv)))
    refine qv (i,.int .u8 y) ⟨hj,h2⟩ ?_
    cbv
    (repeat' (first
| ((first
| (refine q1w (fun z hz=>?_);(try simp only at hz))
| refine rqa ?_
| refine chpA ?_
| refine QCt ?_
| refine QCf ?_);cbv)
| (refine QC.mk ?_ ?_ <;> intro hc <;> (try dsimp only at hc) <;> cbv)
| (refine br_mk2 ?_ ?_ <;> intro hb <;> (try subst hb) <;> cbv)))
    ·refine ⟨?_,rfl,rfl⟩
     rw [hr,decide_eq_false (h4 hc)]
    ·refine ⟨(i+1,z),⟨by (first | omega | (simp only [cst] at *;omega) | (simp only [sm] at *;omega)),by omega,h3 (by omega)⟩,by (first | omega | (simp only [cst] at *;omega) | (simp only [sm] at *;omega)),?_⟩
     cbv
   ·have e2:i=xs.length:=by (first | omega | (simp only [cst] at *;omega) | (simp only [sm] at *;omega))
    refine ⟨?_,rfl,rfl⟩
    rw [e2,List.take_length,e,List.take_length] at ht
    rw [hr,decide_eq_true ht]
end
section
open Go.RowKit
set_option maxHeartbeats 4000000
end
section
open Go.RowKit
set_option maxHeartbeats 4000000
end
section
open Go.RowKit
set_option maxHeartbeats 8000000
def valP (n c:Int) (len:Nat):Bool:=decide (1≤c∧c≤32∧0≤n∧n < c∧0 < len)
theorem pcvalid_c (t n c:Int) (k:Bool) (D:List SV) (len:Nat) (r:Bool) (hD:D.length=len) (hr:r=valP n c len) :
  Good 79 (pu [.agg [.int .u8 t,.int .i64 n,.int .i64 c,.bool k,.lst none D]] (.bool r)):=by
 unfold valP at hr
 refine Good.of Tryz.func79 rfl (by rfl) (by kernel_rfl) ?_
 cbv
 (repeat' (first
| ((first
| (refine q1w (fun z hz=>?_);(try simp only at hz))
| refine rqa ?_
| refine chpA ?_
| refine QCt ?_
| refine QCf ?_);cbv)
| (refine QC.mk ?_ ?_ <;> intro hc <;> (try dsimp only at hc) <;> cbv)
| (refine br_mk2 ?_ ?_ <;> intro hb <;> (try subst hb) <;> cbv)))
 all_goals first
  | (refine Fin.mk ?_ rfl rfl
     have:r=true:=by rw [hr];exact decide_eq_true (by (first | omega | (simp only [cst] at *;omega) | (simp only [sm] at *;omega)))
     rw [this];done)
  | (refine Fin.mk ?_ rfl rfl
     have:r=false:=by rw [hr];exact decide_eq_false (by (first | omega | (simp only [cst] at *;omega) | (simp only [sm] at *;omega)))
     rw [this];done)
  | skip
theorem enc_yes (t n c:Int) (k:Bool) (D:List SV) (len:Nat) (hDl:D.length=len) (hl:len≤140737488351232) (hr:valP n c len=true) (x:Int) (hx:x=if k=true then n+128 else n) :
  Good 31 (pu [.agg [.int .u8 t,.int .i64 n,.int .i64 c,.bool k,.lst none D]] (.tup [.lst none (.int .u8 232::.int .u8 t::.int .u8 x::.int .u8 c::D),.int .i64 0])):=by
 have gv:=pcvalid_c t n c k D len true hDl hr.symm
 have hv:=of_decide_eq_true hr
 clear hr
 cases k
 ·rw [if_neg (by simp)] at hx
  subst hx
  refine Good.of Tryz.func31 rfl (by rfl) (by kernel_rfl) ?_
  cbv
  (repeat' (first
| ((first
| (refine q1w (fun z hz=>?_);(try simp only at hz))
| refine rqa ?_
| refine chpA ?_
| refine QCt ?_
| refine QCf ?_);cbv)
| (refine QC.mk ?_ ?_ <;> intro hc <;> (try dsimp only at hc) <;> cbv)
| (refine br_mk2 ?_ ?_ <;> intro hb <;> (try subst hb) <;> cbv)))
  (refine callq (gv) rfl rfl ?_;cbv;(repeat' (first
| ((first
| (refine q1w (fun z hz=>?_);(try simp only at hz))
| refine rqa ?_
| refine chpA ?_
| refine QCt ?_
| refine QCf ?_);cbv)
| (refine QC.mk ?_ ?_ <;> intro hc <;> (try dsimp only at hc) <;> cbv)
| (refine br_mk2 ?_ ?_ <;> intro hb <;> (try subst hb) <;> cbv))))
  rename_i za hza
  have e1:za=x:=by (first | omega | (simp only [cst] at *;omega) | (simp only [sm] at *;omega))
  have e2:z=c:=by (first | omega | (simp only [cst] at *;omega) | (simp only [sm] at *;omega))
  refine Fin.mk ?_ rfl rfl
  rw [e1,e2]
  show SV.tup [.lst none (O.ap [.int .u8 232,.int .u8 t,.int .u8 x,.int .u8 c] D),.int .i64 0]=_
  rw [oap]
  rfl
 ·rw [if_pos rfl] at hx
  refine Good.of Tryz.func31 rfl (by rfl) (by kernel_rfl) ?_
  cbv
  (repeat' (first
| ((first
| (refine q1w (fun z hz=>?_);(try simp only at hz))
| refine rqa ?_
| refine chpA ?_
| refine QCt ?_
| refine QCf ?_);cbv)
| (refine QC.mk ?_ ?_ <;> intro hc <;> (try dsimp only at hc) <;> cbv)
| (refine br_mk2 ?_ ?_ <;> intro hb <;> (try subst hb) <;> cbv)))
  (refine callq (gv) rfl rfl ?_;cbv;(repeat' (first
| ((first
| (refine q1w (fun z hz=>?_);(try simp only at hz))
| refine rqa ?_
| refine chpA ?_
| refine QCt ?_
| refine QCf ?_);cbv)
| (refine QC.mk ?_ ?_ <;> intro hc <;> (try dsimp only at hc) <;> cbv)
| (refine br_mk2 ?_ ?_ <;> intro hb <;> (try subst hb) <;> cbv))))
  rename_i za hza
  have e1:za=x:=by (first | omega | (simp only [cst] at *;omega) | (simp only [sm] at *;omega))
  have e2:z=c:=by (first | omega | (simp only [cst] at *;omega) | (simp only [sm] at *;omega))
  refine Fin.mk ?_ rfl rfl
  rw [e1,e2]
  show SV.tup [.lst none (O.ap [.int .u8 232,.int .u8 t,.int .u8 x,.int .u8 c] D),.int .i64 0]=_
  rw [oap]
  rfl
theorem an128:∀ x:Nat,x < 256→x ^^^ (x &&& 128)=x % 128∧((x &&& 128=0) ↔ x < 128):=by decide +kernel
def DecV (y0 y1 y2 y3:Int) (D:List SV) (len:Nat) (V:SV) (e:Int):Prop :=
 ((y0=232∧valP (y2 % 128) y3 len=true)→V=.agg [.int .u8 y1,.int .i64 (y2 % 128),.int .i64 y3,.bool (decide (128≤y2)),.lst none D]∧e=0) ∧
 (¬ (y0=232∧valP (y2 % 128) y3 len=true)→V=.agg [.int .u8 0,.int .i64 0,.int .i64 0,.bool false,.nil]∧e=5)
theorem dec_c (y0 y1 y2 y3:Int) (rest:List UInt8) (X:List SV) (hX:X=.int .u8 y0::.int .u8 y1::.int .u8 y2::.int .u8 y3::u8l rest) (hy0:0≤y0∧y0≤255) (hy1:0≤y1∧y1≤255) (hy2:0≤y2∧y2≤255) (hy3:0≤y3∧y3≤255)
  (hl1:1≤rest.length) (hl:rest.length≤140737488351232) (V:SV) (e:Int) (hV:DecV y0 y1 y2 y3 (O.dr 4 X) rest.length V e) :
  Good 32 (pu [.lst none X] (.tup [V,.int .i64 e])):=by
 skip
 have hXl:X.length=rest.length+4:=by rw [hX];simp [u8l_len]
 obtain ⟨n,hn⟩:∃ n,n=y2 % 128:=⟨_,rfl⟩
 have hD:O.dr 4 X=u8l rest:=by rw [odr,hX];rfl
 have hDl:(O.dr 4 X).length=rest.length:=by rw [hD,u8l_len]
 have h0:X[0]?=some (.int .u8 y0):=by rw [hX];rfl
 have h1:X[1]?=some (.int .u8 y1):=by rw [hX];rfl
 have h2:X[2]?=some (.int .u8 y2):=by rw [hX];rfl
 have h3:X[3]?=some (.int .u8 y3):=by rw [hX];rfl
 have hab:=an128 y2.toNat (by omega)
 obtain ⟨r,hr⟩:∃ r,r=valP n y3 rest.length:=⟨_,rfl⟩
 unfold DecV at hV
 rw [← hn,← hr] at hV
 have hV1:=hV.1
 have hV2:=hV.2
 have g:=cloned_c rest (O.dr 4 X) hD hl
 have gv:=fun k=>pcvalid_c y1 n y3 k (O.dr 4 X) rest.length r hDl hr
 clear hV hX hD hr
 refine Good.of Tryz.func32 rfl (by rfl) (by kernel_rfl) ?_
 cbv
 have hmk:True:=trivial
 (repeat' (first
| ((first
| (refine q1w (fun z hz=>?_);(try simp only at hz))
| refine rqa ?_
| refine chpA ?_
| refine QCt ?_
| refine QCf ?_);cbv)
| (refine QC.mk ?_ ?_ <;> intro hc <;> (try dsimp only at hc) <;> cbv)
| (refine br_mk2 ?_ ?_ <;> intro hb <;> (try subst hb) <;> cbv)))
 (refine qv (1,_) ⟨rfl,h1⟩ ?_;cbv;(repeat' (first
| ((first
| (refine q1w (fun z hz=>?_);(try simp only at hz))
| refine rqa ?_
| refine chpA ?_
| refine QCt ?_
| refine QCf ?_);cbv)
| (refine QC.mk ?_ ?_ <;> intro hc <;> (try dsimp only at hc) <;> cbv)
| (refine br_mk2 ?_ ?_ <;> intro hb <;> (try subst hb) <;> cbv))))
 (refine qv (2,_) ⟨rfl,h2⟩ ?_;cbv;(repeat' (first
| ((first
| (refine q1w (fun z hz=>?_);(try simp only at hz))
| refine rqa ?_
| refine chpA ?_
| refine QCt ?_
| refine QCf ?_);cbv)
| (refine QC.mk ?_ ?_ <;> intro hc <;> (try dsimp only at hc) <;> cbv)
| (refine br_mk2 ?_ ?_ <;> intro hb <;> (try subst hb) <;> cbv))))
 have hzn:z=n:=hz.trans (show ((y2.toNat ^^^ (y2.toNat &&& 128):Nat):Int)=n by rw [hab.1];omega)
 clear hz
 subst hzn
 refine rq ⟨by omega,by omega⟩ ?_
 cbv
 (repeat' (first
| ((first
| (refine q1w (fun z hz=>?_);(try simp only at hz))
| refine rqa ?_
| refine chpA ?_
| refine QCt ?_
| refine QCf ?_);cbv)
| (refine QC.mk ?_ ?_ <;> intro hc <;> (try dsimp only at hc) <;> cbv)
| (refine br_mk2 ?_ ?_ <;> intro hb <;> (try subst hb) <;> cbv)))
 (refine qv (3,_) ⟨rfl,h3⟩ ?_;cbv;(repeat' (first
| ((first
| (refine q1w (fun z hz=>?_);(try simp only at hz))
| refine rqa ?_
| refine chpA ?_
| refine QCt ?_
| refine QCf ?_);cbv)
| (refine QC.mk ?_ ?_ <;> intro hc <;> (try dsimp only at hc) <;> cbv)
| (refine br_mk2 ?_ ?_ <;> intro hb <;> (try subst hb) <;> cbv))))
 (refine qv (2,_) ⟨rfl,h2⟩ ?_;cbv;(repeat' (first
| ((first
| (refine q1w (fun z hz=>?_);(try simp only at hz))
| refine rqa ?_
| refine chpA ?_
| refine QCt ?_
| refine QCf ?_);cbv)
| (refine QC.mk ?_ ?_ <;> intro hc <;> (try dsimp only at hc) <;> cbv)
| (refine br_mk2 ?_ ?_ <;> intro hb <;> (try subst hb) <;> cbv))))
 ·have hbig:decide (128≤y2)=true:=decide_eq_true (Classical.byContradiction fun h=>hc (hz.trans (congrArg Nat.cast (hab.2.2 (by omega)))))
  rw [hbig] at hV1
  have gv:=gv true
  (refine callq (g) rfl rfl ?_;cbv;(repeat' (first
| ((first
| (refine q1w (fun z hz=>?_);(try simp only at hz))
| refine rqa ?_
| refine chpA ?_
| refine QCt ?_
| refine QCf ?_);cbv)
| (refine QC.mk ?_ ?_ <;> intro hc <;> (try dsimp only at hc) <;> cbv)
| (refine br_mk2 ?_ ?_ <;> intro hb <;> (try subst hb) <;> cbv))))
  (refine qv (0,_) ⟨rfl,h0⟩ ?_;cbv;(repeat' (first
| ((first
| (refine q1w (fun z hz=>?_);(try simp only at hz))
| refine rqa ?_
| refine chpA ?_
| refine QCt ?_
| refine QCf ?_);cbv)
| (refine QC.mk ?_ ?_ <;> intro hc <;> (try dsimp only at hc) <;> cbv)
| (refine br_mk2 ?_ ?_ <;> intro hb <;> (try subst hb) <;> cbv))))
  ·obtain ⟨e1,e2⟩:=hV2 fun h=>hc h.1
   refine Fin.mk ?_ rfl rfl
   rw [e1,e2]
  ·(refine callq (gv) rfl rfl ?_;cbv;(repeat' (first
| ((first
| (refine q1w (fun z hz=>?_);(try simp only at hz))
| refine rqa ?_
| refine chpA ?_
| refine QCt ?_
| refine QCf ?_);cbv)
| (refine QC.mk ?_ ?_ <;> intro hc <;> (try dsimp only at hc) <;> cbv)
| (refine br_mk2 ?_ ?_ <;> intro hb <;> (try subst hb) <;> cbv))))
   ·obtain ⟨e1,e2⟩:=hV1 ⟨Classical.not_not.1 hc,rfl⟩
    refine Fin.mk ?_ rfl rfl
    rw [e1,e2]
    rfl
   ·obtain ⟨e1,e2⟩:=hV2 fun h=>by cases h.2
    refine Fin.mk ?_ rfl rfl
    rw [e1,e2]
 ·have hbig:decide (128≤y2)=false:=decide_eq_false fun h=>by
   have h1:((y2.toNat &&& 128:Nat):Int)=0:=hz.symm.trans (Classical.not_not.1 hc)
   have:=hab.2.1 (by omega)
   omega
  rw [hbig] at hV1
  have gv:=gv false
  (refine callq (g) rfl rfl ?_;cbv;(repeat' (first
| ((first
| (refine q1w (fun z hz=>?_);(try simp only at hz))
| refine rqa ?_
| refine chpA ?_
| refine QCt ?_
| refine QCf ?_);cbv)
| (refine QC.mk ?_ ?_ <;> intro hc <;> (try dsimp only at hc) <;> cbv)
| (refine br_mk2 ?_ ?_ <;> intro hb <;> (try subst hb) <;> cbv))))
  (refine qv (0,_) ⟨rfl,h0⟩ ?_;cbv;(repeat' (first
| ((first
| (refine q1w (fun z hz=>?_);(try simp only at hz))
| refine rqa ?_
| refine chpA ?_
| refine QCt ?_
| refine QCf ?_);cbv)
| (refine QC.mk ?_ ?_ <;> intro hc <;> (try dsimp only at hc) <;> cbv)
| (refine br_mk2 ?_ ?_ <;> intro hb <;> (try subst hb) <;> cbv))))
  ·obtain ⟨e1,e2⟩:=hV2 fun h=>hc h.1
   refine Fin.mk ?_ rfl rfl
   rw [e1,e2]
  ·(refine callq (gv) rfl rfl ?_;cbv;(repeat' (first
| ((first
| (refine q1w (fun z hz=>?_);(try simp only at hz))
| refine rqa ?_
| refine chpA ?_
| refine QCt ?_
| refine QCf ?_);cbv)
| (refine QC.mk ?_ ?_ <;> intro hc <;> (try dsimp only at hc) <;> cbv)
| (refine br_mk2 ?_ ?_ <;> intro hb <;> (try subst hb) <;> cbv))))
   ·obtain ⟨e1,e2⟩:=hV1 ⟨Classical.not_not.1 hc,rfl⟩
    refine Fin.mk ?_ rfl rfl
    rw [e1,e2]
    rfl
   ·obtain ⟨e1,e2⟩:=hV2 fun h=>by cases h.2
    refine Fin.mk ?_ rfl rfl
    rw [e1,e2]
def ackB (t m:Int):List UInt8:=234::UInt8.ofNat t.toNat::bytesOf m 4
theorem ackB_len (t m:Int):(ackB t m).length=6:=by simp [ackB,bytesOf_length]
theorem encack_c (t m:Int) (ht:0≤t∧t≤255) (hm:0≤m∧m≤4294967295) (R:List SV) (hR:R=u8l (ackB t m)):Good 35 (nu [.int .u8 t,.int .u32 m] (.row 1) (.row none 5 R)):=by
 have e:[SV.int .u8 234,.int .u8 t]=u8l [234,UInt8.ofNat t.toNat]:=by
  have:((UInt8.ofNat t.toNat).toNat:Int)=t:=by rw [UInt8.toNat_ofNat'];omega
  rw [u8l,List.map_cons,List.map_cons,this];rfl
 have g:=append_c _ _ R m 4 4 e rfl (by omega) (by omega) (by simp) (by rw [hR];rfl)
 refine Good.of Tryz.func35 rfl (by rfl) (by kernel_rfl) ?_
 cbv
 have hmk:True:=trivial
 (repeat' (first
| ((first
| (refine q1w (fun z hz=>?_);(try simp only at hz))
| refine rqa ?_
| refine chpA ?_
| refine QCt ?_
| refine QCf ?_);cbv)
| (refine QC.mk ?_ ?_ <;> intro hc <;> (try dsimp only at hc) <;> cbv)
| (refine br_mk2 ?_ ?_ <;> intro hb <;> (try subst hb) <;> cbv)))
 have hzm:z=m:=by omega
 subst hzm
 (refine callq (g) rfl rfl ?_;cbv;(repeat' (first
| ((first
| (refine q1w (fun z hz=>?_);(try simp only at hz))
| refine rqa ?_
| refine chpA ?_
| refine QCt ?_
| refine QCf ?_);cbv)
| (refine QC.mk ?_ ?_ <;> intro hc <;> (try dsimp only at hc) <;> cbv)
| (refine br_mk2 ?_ ?_ <;> intro hb <;> (try subst hb) <;> cbv))))
 exact ⟨rfl,rfl,rfl⟩
end
end Go.Proofs.YtgfpjhddojhfpaaGreat
