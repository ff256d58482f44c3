/- Texts put together: MD LT. -/
import Derived.Test.YtgfpjhddojhfpaaGreatZ10
namespace Go.Proofs.YtgfpjhddojhfpaaGreat
set_option linter.unusedVariables false
set_option linter.unusedSimpArgs false
section
open Go.RowKit
set_option maxHeartbeats 16000000
structure Rcp where
 f:Int
 t:Int
 b:List UInt8
def Rcp.v (x:Rcp):SV:=.agg [.int .i64 x.f,.int .i64 x.t,.lst none (u8l x.b)]
def rcL (l:List Rcp):List SV:=l.map Rcp.v
theorem rcL_len (l:List Rcp):(rcL l).length=l.length:=by simp [rcL]
def lk (M:List (List Int)) (f:Int) (n:Nat):Int:=((M[f.toNat]?).getD []).getD n 0
def selfB (tx:List Txn) (n:Nat):Bool:=tx.any fun t=>decide (t.f=(n:Int))
def hd (M:List (List Int)) (tx:List Txn) (n:Nat):List Txn:=tx.filter fun t=>decide (lk M t.f n≠0)
def stepD (M:List (List Int)) (tx:List Txn) (ds:List Int) (n:Nat) (s:Nat × List Rcp):Nat × List Rcp :=
 if selfB tx n=true∨(hd M tx n).length≠1 then s else
  (s.1+1,(hd M tx n).foldl (fun o t=>if ds.getD s.1 0 < lk M t.f n then o++[⟨t.f,n,t.b⟩] else o) s.2)
def dF (M:List (List Int)) (tx:List Txn) (ds:List Int):Nat→Nat × List Rcp
 | 0=>(0,[])
 | n+1=>stepD M tx ds n (dF M tx ds n)
theorem dF_skip {M:List (List Int)} {tx:List Txn} {ds:List Int} {n:Nat} (h:selfB tx n=true∨(hd M tx n).length≠1):dF M tx ds (n+1)=dF M tx ds n:=by
 rw [dF,stepD,if_pos h]
theorem dF_one {M:List (List Int)} {tx:List Txn} {ds:List Int} {n:Nat} {t:Txn} (h1:selfB tx n=false) (h2:hd M tx n=[t]):dF M tx ds (n+1)=((dF M tx ds n).1+1,if ds.getD (dF M tx ds n).1 0 < lk M t.f n then (dF M tx ds n).2++[⟨t.f,n,t.b⟩] else (dF M tx ds n).2):=by
 rw [dF,stepD,if_neg (by rw [h1,h2];simp),h2]
 rfl
theorem dF_len {M:List (List Int)} {tx:List Txn} {ds:List Int}:∀ n,(dF M tx ds n).2.length≤n
 | 0=>by simp [dF]
 | n+1=>by
  have:=dF_len (M:=M) (tx:=tx) (ds:=ds) n
  by_cases h:selfB tx n=true∨(hd M tx n).length≠1
  ·rw [dF_skip h];omega
  ·have h1:selfB tx n=false:=by cases hs:selfB tx n <;> simp_all
   have h2:(hd M tx n).length=1:=by apply Classical.byContradiction;intro hc;exact h (.inr hc)
   obtain ⟨t,ht⟩:=List.length_eq_one_iff.1 h2
   rw [dF_one h1 ht]
   dsimp only
   split
   ·simp;omega
   ·omega
theorem hd_take {M:List (List Int)} {tx:List Txn} {n i:Nat} {t:Txn} (h:tx[i]?=some t):hd M (tx.take (i+1)) n=if lk M t.f n≠0 then hd M (tx.take i) n++[t] else hd M (tx.take i) n:=by
 unfold hd
 rw [List.take_add_one,h,List.filter_append]
 simp only [Option.toList_some,List.filter_cons,List.filter_nil]
 by_cases hx:lk M t.f n=0
 ·rw [if_neg (by simp [hx]),if_neg (by simp [hx])];simp
 ·rw [if_pos (by simp [hx]),if_pos hx]
theorem hd_le {M:List (List Int)} {tx:List Txn} {n:Nat} (i:Nat):(hd M (tx.take i) n).length≤(hd M tx n).length:=by
 unfold hd
 exact (List.Sublist.filter _ (List.take_sublist i tx)).length_le
structure Hear (M:List (List Int)) (tx:List Txn) (n i:Nat) (h:Int):Prop where
 s:∀ (k:Nat) (t:Txn),k < i→tx[k]?=some t→t.f≠(n:Int)
 w:(h=-1∧hd M (tx.take i) n=[])∨∃ (k:Nat) (t:Txn),h=k∧tx[k]?=some t∧hd M (tx.take i) n=[t]
theorem hear0 {M:List (List Int)} {tx:List Txn} {n:Nat}:Hear M tx n 0 (-1):=⟨fun k t h _=>absurd h (Nat.not_lt_zero k),.inl ⟨rfl,by simp [hd]⟩⟩
theorem hear_lo {M:List (List Int)} {tx:List Txn} {n i:Nat} {h:Int} (g:Hear M tx n i h):-1≤h:=by
 rcases g.w with ⟨e,_⟩ | ⟨k,t,e,_⟩ <;> omega
theorem hear_quiet {M:List (List Int)} {tx:List Txn} {n i:Nat} {h:Int} {t:Txn} (g:Hear M tx n i h) (ht:tx[i]?=some t) (h1:t.f≠(n:Int)) (h2:lk M t.f n=0):Hear M tx n (i+1) h:=by
 refine ⟨fun k u hk hu=>?_,?_⟩
 ·by_cases hki:k=i
  ·rw [hki,ht] at hu;injection hu with hu;rw [← hu];exact h1
  ·exact g.s k u (by omega) hu
 ·rw [hd_take ht,if_neg (by simp [h2])]
  exact g.w
theorem hear_new {M:List (List Int)} {tx:List Txn} {n i:Nat} {h:Int} {t:Txn} (g:Hear M tx n i h) (ht:tx[i]?=some t) (h1:t.f≠(n:Int)) (h2:lk M t.f n≠0) (h3:h < 0):Hear M tx n (i+1) i:=by
 refine ⟨fun k u hk hu=>?_,?_⟩
 ·by_cases hki:k=i
  ·rw [hki,ht] at hu;injection hu with hu;rw [← hu];exact h1
  ·exact g.s k u (by omega) hu
 ·rw [hd_take ht,if_pos h2]
  rcases g.w with ⟨_,e⟩ | ⟨k,u,e,_⟩
  ·exact .inr ⟨i,t,rfl,ht,by rw [e];rfl⟩
  ·omega
theorem hear_two {M:List (List Int)} {tx:List Txn} {n i:Nat} {h:Int} {t:Txn} (g:Hear M tx n i h) (ht:tx[i]?=some t) (h2:lk M t.f n≠0) (h3:¬ h < 0):(hd M tx n).length≠1:=by
 rcases g.w with ⟨e,_⟩ | ⟨k,u,_,_,e⟩
 ·omega
 ·have:=hd_le (M:=M) (tx:=tx) (n:=n) (i+1)
  rw [hd_take ht,if_pos h2,e] at this
  simp at this
  omega
theorem hear_self {tx:List Txn} {n i:Nat} {t:Txn} (ht:tx[i]?=some t) (h:t.f=(n:Int)):selfB tx n=true:=List.any_eq_true.2 ⟨t,List.mem_of_getElem? ht,decide_eq_true h⟩
theorem hear_end {M:List (List Int)} {tx:List Txn} {n:Nat} {h:Int} (g:Hear M tx n tx.length h):selfB tx n=false∧((h < 0∧(hd M tx n).length≠1)∨∃ (k:Nat) (t:Txn),h=k∧tx[k]?=some t∧hd M tx n=[t]):=by
 refine ⟨?_,?_⟩
 ·rw [selfB,List.any_eq_false]
  intro t ht
  obtain ⟨k,hk,rfl⟩:=List.mem_iff_getElem.1 ht
  have:=g.s k _ hk (List.getElem?_eq_getElem hk)
  simpa using this
 ·have:=g.w
  rw [List.take_length] at this
  rcases this with ⟨e,e2⟩ | h
  ·exact .inl ⟨by omega,by rw [e2];simp⟩
  ·exact .inr h
theorem bndA (l ys:List SV) (k:Nat) (h:(l.length+ys.length) * k≤140737488355328):((O.ln l:Int)+(O.ln ys:Int)) * (k:Int)≤140737488355328:=by
 rw [oln,oln,← Int.natCast_add,← Int.natCast_mul]
 omega
structure UsedI (n un:Nat) (u:Int):Prop where
 h:(un≤n∧u=un)∨(n≤un∧u=n)
theorem UsedI.lt {n un:Nat} {u:Int} (g:UsedI n un u) (h:u < n):u=un∧un < n:=by rcases g.h with ⟨_,e⟩ | ⟨_,e⟩ <;> omega
theorem UsedI.ge {n un:Nat} {u:Int} (g:UsedI n un u) (h:¬ u < n):u=n∧n≤un:=by rcases g.h with ⟨_,e⟩ | ⟨_,e⟩ <;> omega
theorem UsedI.up {n un:Nat} {u z:Int} (g:UsedI n un u) (h:u < n) (hz:z=u+1):UsedI n (un+1) z:=⟨by rcases g.h with ⟨_,e⟩ | ⟨_,e⟩ <;> omega⟩
theorem UsedI.up2 {n un:Nat} {u:Int} (g:UsedI n un u) (h:¬ u < n):UsedI n (un+1) u:=⟨by rcases g.h with ⟨_,e⟩ | ⟨_,e⟩ <;> omega⟩
theorem deliver_c (M:List (List Int)) (W:List SV) (hW:W=medV M) (hv:VM M) (tx:List Txn) (K:List SV) (hK:K=txL tx) (ht:VT M.length tx) (hlk:tx.length≤6000000000000) (ds:List Int) (D:List SV) (hD:D=ints .u8 ds) (hdb:∀ d∈ds,0≤d∧d≤255) (hdl:ds.length≤140737488351232)
  (R:List SV) (hR:R=rcL (dF M tx ds M.length).2) :
  Good 21 (pu [.lst none W,.lst (some 2) K,.lst none D] (.tup [.lst (some 3) R,.int .i64 0])):=by
 have hq12:=hv.q
 have g1:=vslot_c M W hW (by omega) (fun r hr=>by obtain ⟨k,hk,rfl⟩:=List.mem_iff_getElem.1 hr;have:=(hv.r k _ (List.getElem?_eq_getElem hk)).l;omega) tx K hK hlk (fun t h=>by obtain ⟨k,hk,rfl⟩:=List.mem_iff_getElem.1 h;have:=(ht k _ (List.getElem?_eq_getElem hk)).c;omega) true ⟨fun _=>⟨hv,ht⟩,fun _=>rfl⟩
 have hWl:W.length=M.length:=by rw [hW,matV_len]
 have hKl:K.length=tx.length:=by rw [hK,txL_len]
 have hDl:D.length=ds.length:=by rw [hD,ints_len]
 have hE:=fun i hi=>tx_at hK i hi
 have hF:=fun i hi=>medV_at hW i hi
 have hH:=fun i hi=>hD ▸ ints_at (k:=.u8) (l:=ds) i hi
 obtain ⟨U,hU⟩:∃ U:List Rcp→List SV,∀ l,U l=rcL l:=⟨rcL,fun _=>rfl⟩
 have hU0:[]=U []:=by rw [hU];rfl
 have hUl:∀ l,(U l).length=l.length:=fun l=>by rw [hU,rcL_len]
 have hUs:∀ l f t b B,B=u8l b→apL (U l) [.agg [.int .i64 f,.int .i64 t,.lst none B]]=U (l++[⟨f,t,b⟩]):=fun l f t b B hB=>by rw [apL_eq,hU,hU,hB];simp [rcL,Rcp.v]
 have hcp:∀ (B:List SV) (z:Int),z=B.length→O.cp (O.rp z (.int .u8 0)) 0 (O.ln (O.rp z (.int .u8 0))) B=B:=fun B z hz=>by
  rw [oln,ocp,orp,hz];simp
 obtain ⟨q,hq⟩:∃ q:Nat→Nat × List Rcp,∀ n,q n=dF M tx ds n:=⟨_,fun _=>rfl⟩
 have hql:∀ n,(q n).2.length≤n:=fun n=>by rw [hq];exact dF_len n
 rw [← hq,← hU] at hR
 refine Good.of Tryz.func21 rfl (by rfl) (by kernel_rfl) ?_
 cbv
 (repeat' (first
| ((first
| (refine q1w (fun z hz=>?_);(try simp only at hz))
| refine rqa ?_
| refine chpA ?_
| refine QCt ?_
| refine QCf ?_);cbv)
| (refine QC.mk ?_ ?_ <;> intro hc <;> (try dsimp only at hc) <;> cbv)
| (refine br_mk2 ?_ ?_ <;> intro hb <;> (try subst hb) <;> cbv)))
 (refine callq (g1) rfl rfl ?_;cbv;(repeat' (first
| ((first
| (refine q1w (fun z hz=>?_);(try simp only at hz))
| refine rqa ?_
| refine chpA ?_
| refine QCt ?_
| refine QCf ?_);cbv)
| (refine QC.mk ?_ ?_ <;> intro hc <;> (try dsimp only at hc) <;> cbv)
| (refine br_mk2 ?_ ?_ <;> intro hb <;> (try subst hb) <;> cbv))))
 refine loopQ (A:=Nat × Int × Nat × Int × List Rcp) (fun p=>p.2.1=p.1∧p.1≤M.length∧q p.1=(p.2.2.1,p.2.2.2.2)∧UsedI ds.length p.2.2.1 p.2.2.2.1) (fun p=>M.length - p.1) (fun p=>[(23,.int .i64 p.2.1),(9,.int .i64 p.2.2.2.1),(8,.row 8)]) (fun p=>[(8,.row (some 3) 78 (U p.2.2.2.2))]) (0,0,0,0,[]) ⟨rfl,Nat.zero_le _,by rw [hq];rfl,⟨.inl ⟨Nat.zero_le _,rfl⟩⟩⟩ ?_ ?_
 ·cbv
  refine ⟨?_,trivial⟩
  show Blk.row (some 3) 78 []=.row (some 3) 78 (U [])
  rw [← hU0]
 ·intro ⟨i,j,un,u,out⟩ hh
  have hj:j=(i:Int):=hh.1
  have hi:i≤M.length:=hh.2.1
  have hqi:q i=(un,out):=hh.2.2.1
  have hu:UsedI ds.length un u:=hh.2.2.2
  clear hh
  have hmk:True:=trivial
  have hul:=hUl out
  cbv
  (repeat' (first
| ((first
| (refine q1w (fun z hz=>?_);(try simp only at hz))
| refine rqa ?_
| refine chpA ?_
| refine QCt ?_
| refine QCf ?_);cbv)
| (refine QC.mk ?_ ?_ <;> intro hc <;> (try dsimp only at hc) <;> cbv)
| (refine br_mk2 ?_ ?_ <;> intro hb <;> (try subst hb) <;> cbv)))
  ·have hlt:i < M.length:=by (first | omega | (simp only [cst] at *;omega) | (simp only [sm] at *;omega))
   refine loopQ (A:=Nat × Int × Int) (fun p=>p.2.1=p.1∧p.1≤tx.length∧Hear M tx i p.1 p.2.2) (fun p=>tx.length - p.1) (fun p=>[(28,.int .i64 p.2.1),(11,.int .i64 p.2.2)]) (fun p=>[]) (0,0,-1) ⟨rfl,Nat.zero_le _,hear0⟩ ?_ ?_
   ·cbv
   ·intro ⟨k,jj,he⟩ hh
    have hjk:jj=(k:Int):=hh.1
    have hkt:k≤tx.length:=hh.2.1
    have hear:Hear M tx i k he:=hh.2.2
    clear hh
    have hmk:True:=trivial
    have helo:=hear_lo hear
    cbv
    (repeat' (first
| ((first
| (refine q1w (fun z hz=>?_);(try simp only at hz))
| refine rqa ?_
| refine chpA ?_
| refine QCt ?_
| refine QCf ?_);cbv)
| (refine QC.mk ?_ ?_ <;> intro hc <;> (try dsimp only at hc) <;> cbv)
| (refine br_mk2 ?_ ?_ <;> intro hb <;> (try subst hb) <;> cbv)))
    ·have hltk:k < tx.length:=by (first | omega | (simp only [cst] at *;omega) | (simp only [sm] at *;omega))
     obtain ⟨f,bs,B,htx,hB,hLi⟩:=hE k hltk
     have hBl:B.length=bs.length:=by rw [hB,u8l_len]
     have htk:=ht k _ htx
     have hf0:=ht.lo k _ htx
     have hfn:=htk.b
     dsimp only at hf0 hfn
     obtain ⟨r,Rr,hr,hRr,hLr⟩:=hF f.toNat (by omega)
     have hrl:=(hv.r _ _ hr).l
     have hri:=row_at hRr i (by omega)
     have hlk:lk M f i=r.getD i 0:=by unfold lk;rw [hr];rfl
     obtain ⟨v,hv0⟩:∃ v,v=r.getD i 0:=⟨_,rfl⟩
     rw [← hv0] at hri hlk
     (refine qv (k,_) ⟨hjk,hLi⟩ ?_;cbv;(repeat' (first
| ((first
| (refine q1w (fun z hz=>?_);(try simp only at hz))
| refine rqa ?_
| refine chpA ?_
| refine QCt ?_
| refine QCf ?_);cbv)
| (refine QC.mk ?_ ?_ <;> intro hc <;> (try dsimp only at hc) <;> cbv)
| (refine br_mk2 ?_ ?_ <;> intro hb <;> (try subst hb) <;> cbv))))
     ·have hsk:=dF_skip (M:=M) (ds:=ds) (.inl (hear_self htx (show f=(i:Int) by (first | omega | (simp only [cst] at *;omega) | (simp only [sm] at *;omega)))))
      refine ⟨(i+1,z,un,u,out),⟨by show z=((i+1:Nat):Int);(first | omega | (simp only [cst] at *;omega) | (simp only [sm] at *;omega)),by show i+1≤M.length;omega,by show q (i+1)=_;rw [hq,hsk,← hq,hqi],hu⟩,by show M.length - (i+1) < M.length - i;omega,?_⟩
      cbv
      exact ⟨rfl,trivial⟩
     ·have hfi:f≠(i:Int):=by (first | omega | (simp only [cst] at *;omega) | (simp only [sm] at *;omega))
      (refine qv (f.toNat,_) ⟨(by (first | omega | (simp only [cst] at *;omega) | (simp only [sm] at *;omega))),hLr⟩ ?_;cbv;(repeat' (first
| ((first
| (refine q1w (fun z hz=>?_);(try simp only at hz))
| refine rqa ?_
| refine chpA ?_
| refine QCt ?_
| refine QCf ?_);cbv)
| (refine QC.mk ?_ ?_ <;> intro hc <;> (try dsimp only at hc) <;> cbv)
| (refine br_mk2 ?_ ?_ <;> intro hb <;> (try subst hb) <;> cbv))))
      (refine qv (i,_) ⟨hj,hri⟩ ?_;cbv;(repeat' (first
| ((first
| (refine q1w (fun z hz=>?_);(try simp only at hz))
| refine rqa ?_
| refine chpA ?_
| refine QCt ?_
| refine QCf ?_);cbv)
| (refine QC.mk ?_ ?_ <;> intro hc <;> (try dsimp only at hc) <;> cbv)
| (refine br_mk2 ?_ ?_ <;> intro hb <;> (try subst hb) <;> cbv))))
      ·have hv1:lk M f i=0:=by rw [hlk];(first | omega | (simp only [cst] at *;omega) | (simp only [sm] at *;omega))
       refine ⟨(k+1,z,he),⟨by show z=((k+1:Nat):Int);(first | omega | (simp only [cst] at *;omega) | (simp only [sm] at *;omega)),by show k+1≤tx.length;omega,hear_quiet hear htx hfi hv1⟩,by show tx.length - (k+1) < tx.length - k;omega,?_⟩
       cbv
       try exact ⟨rfl,trivial⟩
      ·have hv1:lk M f i≠0:=by rw [hlk];(first | omega | (simp only [cst] at *;omega) | (simp only [sm] at *;omega))
       have hsk:=dF_skip (ds:=ds) (.inr (hear_two hear htx hv1 (by omega)))
       refine ⟨(i+1,z,un,u,out),⟨by show z=((i+1:Nat):Int);(first | omega | (simp only [cst] at *;omega) | (simp only [sm] at *;omega)),by show i+1≤M.length;omega,by show q (i+1)=_;rw [hq,hsk,← hq,hqi],hu⟩,by show M.length - (i+1) < M.length - i;omega,?_⟩
       cbv
       exact ⟨rfl,trivial⟩
      ·have hv1:lk M f i≠0:=by rw [hlk];(first | omega | (simp only [cst] at *;omega) | (simp only [sm] at *;omega))
       refine ⟨(k+1,z,jj),⟨by show z=((k+1:Nat):Int);(first | omega | (simp only [cst] at *;omega) | (simp only [sm] at *;omega)),by show k+1≤tx.length;omega,by show Hear M tx i (k+1) jj;rw [hjk];exact hear_new hear htx hfi hv1 (by omega)⟩,by show tx.length - (k+1) < tx.length - k;omega,?_⟩
       cbv
       try exact ⟨rfl,trivial⟩
    ·have hkl:k=tx.length:=by (first | omega | (simp only [cst] at *;omega) | (simp only [sm] at *;omega))
     rw [hkl] at hear
     obtain ⟨h1,h2⟩:=hear_end hear
     rcases h2 with ⟨_,h2⟩ | ⟨k2,t,e,_⟩
     ·have hsk:=dF_skip (ds:=ds) (.inr h2)
      refine ⟨(i+1,z,un,u,out),⟨by show z=((i+1:Nat):Int);(first | omega | (simp only [cst] at *;omega) | (simp only [sm] at *;omega)),by show i+1≤M.length;omega,by show q (i+1)=_;rw [hq,hsk,← hq,hqi],hu⟩,by show M.length - (i+1) < M.length - i;omega,?_⟩
      cbv
      exact ⟨rfl,trivial⟩
     ·omega
    ·skip
     have hkl:k=tx.length:=by (first | omega | (simp only [cst] at *;omega) | (simp only [sm] at *;omega))
     rw [hkl] at hear
     obtain ⟨h1,h2⟩:=hear_end hear
     obtain ⟨k2,t,he2,ht2,hd2⟩:∃ (k:Nat) (t:Txn),he=k∧tx[k]?=some t∧hd M tx i=[t]:=by
      rcases h2 with ⟨e,_⟩ | h
      ·omega
      ·exact h
     have hk2:=(List.getElem?_eq_some_iff.1 ht2).1
     obtain ⟨f,bs,B,htx,hB,hLi⟩:=hE k2 hk2
     have hBl:B.length=bs.length:=by rw [hB,u8l_len]
     have ht3:=ht2.symm.trans htx
     injection ht3 with ht3
     subst ht3
     have htk:=ht k2 _ htx
     have hf0:=ht.lo k2 _ htx
     have hfn:=htk.b
     have hbl:=htk.c
     dsimp only at hf0 hfn hbl
     obtain ⟨r,Rr,hr,hRr,hLr⟩:=hF f.toNat (by omega)
     have hrl:=(hv.r _ _ hr).l
     have hri:=row_at hRr i (by omega)
     have hlk:lk M f i=r.getD i 0:=by unfold lk;rw [hr];rfl
     obtain ⟨v,hv0⟩:∃ v,v=r.getD i 0:=⟨_,rfl⟩
     rw [← hv0] at hri hlk
     have hone:=dF_one (ds:=ds) h1 hd2
     dsimp only at hone
     rw [← hq,← hq,hqi,hlk] at hone
     dsimp only at hone
     obtain ⟨dd,hdd⟩:∃ d,d=ds.getD un 0:=⟨_,rfl⟩
     rw [← hdd] at hone
     have hul2:u < ds.length:=by (first | omega | (simp only [cst] at *;omega) | (simp only [sm] at *;omega))
     have hun:=hu.lt hul2
     have hdi:=hH un hun.2
     rw [← hdd] at hdi
     have hd8:0≤dd∧dd≤255:=by rw [hdd];exact hdb _ (getD_mem hun.2)
     (refine qv (un,_) ⟨hun.1,hdi⟩ ?_;cbv;(repeat' (first
| ((first
| (refine q1w (fun z hz=>?_);(try simp only at hz))
| refine rqa ?_
| refine chpA ?_
| refine QCt ?_
| refine QCf ?_);cbv)
| (refine QC.mk ?_ ?_ <;> intro hc <;> (try dsimp only at hc) <;> cbv)
| (refine br_mk2 ?_ ?_ <;> intro hb <;> (try subst hb) <;> cbv))))
     (refine qv (k2,_) ⟨he2,hLi⟩ ?_;cbv;(repeat' (first
| ((first
| (refine q1w (fun z hz=>?_);(try simp only at hz))
| refine rqa ?_
| refine chpA ?_
| refine QCt ?_
| refine QCf ?_);cbv)
| (refine QC.mk ?_ ?_ <;> intro hc <;> (try dsimp only at hc) <;> cbv)
| (refine br_mk2 ?_ ?_ <;> intro hb <;> (try subst hb) <;> cbv))))
     (refine qv (f.toNat,_) ⟨(by (first | omega | (simp only [cst] at *;omega) | (simp only [sm] at *;omega))),hLr⟩ ?_;cbv;(repeat' (first
| ((first
| (refine q1w (fun z hz=>?_);(try simp only at hz))
| refine rqa ?_
| refine chpA ?_
| refine QCt ?_
| refine QCf ?_);cbv)
| (refine QC.mk ?_ ?_ <;> intro hc <;> (try dsimp only at hc) <;> cbv)
| (refine br_mk2 ?_ ?_ <;> intro hb <;> (try subst hb) <;> cbv))))
     (refine qv (i,_) ⟨hj,hri⟩ ?_;cbv;(repeat' (first
| ((first
| (refine q1w (fun z hz=>?_);(try simp only at hz))
| refine rqa ?_
| refine chpA ?_
| refine QCt ?_
| refine QCf ?_);cbv)
| (refine QC.mk ?_ ?_ <;> intro hc <;> (try dsimp only at hc) <;> cbv)
| (refine br_mk2 ?_ ?_ <;> intro hb <;> (try subst hb) <;> cbv))))
     ·have hdv:dd < v:=by omega
      have hol:=hql i
      rw [hqi] at hol
      dsimp only at hol
      refine rq (bndA (U out) _ 40 (by simp only [List.length_cons,List.length_nil];omega)) ?_
      cbv
      (repeat' (first
| ((first
| (refine q1w (fun z hz=>?_);(try simp only at hz))
| refine rqa ?_
| refine chpA ?_
| refine QCt ?_
| refine QCf ?_);cbv)
| (refine QC.mk ?_ ?_ <;> intro hc <;> (try dsimp only at hc) <;> cbv)
| (refine br_mk2 ?_ ?_ <;> intro hb <;> (try subst hb) <;> cbv)))
      rename_i zu hzu zb hzb zc hzc
      refine ⟨(i+1,z,un+1,zu,out++[⟨f,i,bs⟩]),⟨by show z=((i+1:Nat):Int);(first | omega | (simp only [cst] at *;omega) | (simp only [sm] at *;omega)),by show i+1≤M.length;omega,by show q (i+1)=_;rw [hone,if_pos hdv],hu.up hul2 hzu⟩,by show M.length - (i+1) < M.length - i;omega,?_⟩
      cbv
      refine ⟨?_,trivial⟩
      show Blk.row (some 3) 78 (apL (U out) [.agg [.int .i64 f,.int .i64 j,.lst none (O.cp (O.rp zb (.int .u8 0)) 0 (O.ln (O.rp zb (.int .u8 0))) B)]])=.row (some 3) 78 (U (out++[⟨f,i,bs⟩]))
      rw [hcp B zb (by rw [hzb,oln]),hj,hUs out f i bs B hB]
     ·have hdv:¬ dd < v:=by omega
      rename_i zu hzu
      refine ⟨(i+1,z,un+1,zu,out),⟨by show z=((i+1:Nat):Int);(first | omega | (simp only [cst] at *;omega) | (simp only [sm] at *;omega)),by show i+1≤M.length;omega,by show q (i+1)=_;rw [hone,if_neg hdv],hu.up hul2 hzu⟩,by show M.length - (i+1) < M.length - i;omega,?_⟩
      cbv
      exact ⟨rfl,trivial⟩
    ·skip
     have hkl:k=tx.length:=by (first | omega | (simp only [cst] at *;omega) | (simp only [sm] at *;omega))
     rw [hkl] at hear
     obtain ⟨h1,h2⟩:=hear_end hear
     obtain ⟨k2,t,he2,ht2,hd2⟩:∃ (k:Nat) (t:Txn),he=k∧tx[k]?=some t∧hd M tx i=[t]:=by
      rcases h2 with ⟨e,_⟩ | h
      ·omega
      ·exact h
     have hk2:=(List.getElem?_eq_some_iff.1 ht2).1
     obtain ⟨f,bs,B,htx,hB,hLi⟩:=hE k2 hk2
     have hBl:B.length=bs.length:=by rw [hB,u8l_len]
     have ht3:=ht2.symm.trans htx
     injection ht3 with ht3
     subst ht3
     have htk:=ht k2 _ htx
     have hf0:=ht.lo k2 _ htx
     have hfn:=htk.b
     have hbl:=htk.c
     dsimp only at hf0 hfn hbl
     obtain ⟨r,Rr,hr,hRr,hLr⟩:=hF f.toNat (by omega)
     have hrl:=(hv.r _ _ hr).l
     have hri:=row_at hRr i (by omega)
     have hlk:lk M f i=r.getD i 0:=by unfold lk;rw [hr];rfl
     obtain ⟨v,hv0⟩:∃ v,v=r.getD i 0:=⟨_,rfl⟩
     rw [← hv0] at hri hlk
     have hone:=dF_one (ds:=ds) h1 hd2
     dsimp only at hone
     rw [← hq,← hq,hqi,hlk] at hone
     dsimp only at hone
     obtain ⟨dd,hdd⟩:∃ d,d=ds.getD un 0:=⟨_,rfl⟩
     rw [← hdd] at hone
     have hul2:¬ u < ds.length:=by (first | omega | (simp only [cst] at *;omega) | (simp only [sm] at *;omega))
     have hun:=hu.ge hul2
     have hd0:dd=0:=by rw [hdd,List.getD_eq_getElem?_getD,List.getElem?_eq_none hun.2];rfl
     (refine qv (k2,_) ⟨he2,hLi⟩ ?_;cbv;(repeat' (first
| ((first
| (refine q1w (fun z hz=>?_);(try simp only at hz))
| refine rqa ?_
| refine chpA ?_
| refine QCt ?_
| refine QCf ?_);cbv)
| (refine QC.mk ?_ ?_ <;> intro hc <;> (try dsimp only at hc) <;> cbv)
| (refine br_mk2 ?_ ?_ <;> intro hb <;> (try subst hb) <;> cbv))))
     (refine qv (f.toNat,_) ⟨(by (first | omega | (simp only [cst] at *;omega) | (simp only [sm] at *;omega))),hLr⟩ ?_;cbv;(repeat' (first
| ((first
| (refine q1w (fun z hz=>?_);(try simp only at hz))
| refine rqa ?_
| refine chpA ?_
| refine QCt ?_
| refine QCf ?_);cbv)
| (refine QC.mk ?_ ?_ <;> intro hc <;> (try dsimp only at hc) <;> cbv)
| (refine br_mk2 ?_ ?_ <;> intro hb <;> (try subst hb) <;> cbv))))
     (refine qv (i,_) ⟨hj,hri⟩ ?_;cbv;(repeat' (first
| ((first
| (refine q1w (fun z hz=>?_);(try simp only at hz))
| refine rqa ?_
| refine chpA ?_
| refine QCt ?_
| refine QCf ?_);cbv)
| (refine QC.mk ?_ ?_ <;> intro hc <;> (try dsimp only at hc) <;> cbv)
| (refine br_mk2 ?_ ?_ <;> intro hb <;> (try subst hb) <;> cbv))))
     ·have hdv:dd < v:=by omega
      have hol:=hql i
      rw [hqi] at hol
      dsimp only at hol
      refine rq (bndA (U out) _ 40 (by simp only [List.length_cons,List.length_nil];omega)) ?_
      cbv
      (repeat' (first
| ((first
| (refine q1w (fun z hz=>?_);(try simp only at hz))
| refine rqa ?_
| refine chpA ?_
| refine QCt ?_
| refine QCf ?_);cbv)
| (refine QC.mk ?_ ?_ <;> intro hc <;> (try dsimp only at hc) <;> cbv)
| (refine br_mk2 ?_ ?_ <;> intro hb <;> (try subst hb) <;> cbv)))
      rename_i zb hzb zc hzc
      refine ⟨(i+1,z,un+1,u,out++[⟨f,i,bs⟩]),⟨by show z=((i+1:Nat):Int);(first | omega | (simp only [cst] at *;omega) | (simp only [sm] at *;omega)),by show i+1≤M.length;omega,by show q (i+1)=_;rw [hone,if_pos hdv],hu.up2 hul2⟩,by show M.length - (i+1) < M.length - i;omega,?_⟩
      cbv
      refine ⟨?_,trivial⟩
      show Blk.row (some 3) 78 (apL (U out) [.agg [.int .i64 f,.int .i64 j,.lst none (O.cp (O.rp zb (.int .u8 0)) 0 (O.ln (O.rp zb (.int .u8 0))) B)]])=.row (some 3) 78 (U (out++[⟨f,i,bs⟩]))
      rw [hcp B zb (by rw [hzb,oln]),hj,hUs out f i bs B hB]
     ·have hdv:¬ dd < v:=by omega
      refine ⟨(i+1,z,un+1,u,out),⟨by show z=((i+1:Nat):Int);(first | omega | (simp only [cst] at *;omega) | (simp only [sm] at *;omega)),by show i+1≤M.length;omega,by show q (i+1)=_;rw [hone,if_neg hdv],hu.up2 hul2⟩,by show M.length - (i+1) < M.length - i;omega,?_⟩
      cbv
      exact ⟨rfl,trivial⟩
  ·have e:i=M.length:=by (first | omega | (simp only [cst] at *;omega) | (simp only [sm] at *;omega))
   subst e
   refine ⟨?_,rfl,rfl⟩
   rw [hR,hqi]
end
section
open Go.RowKit
set_option maxHeartbeats 4000000
theorem vmT (a b:Int) (ha:0≤a∧a≤256) (hb:0≤b∧b≤256):VM [[0,a],[b,0]]:=⟨by simp,by simp,fun i r h=>by
 match i,h with
 | 0,h =>
  simp at h;subst h
  exact ⟨rfl,rfl,fun v hv=>by simp at hv;omega⟩
 | 1,h =>
  simp at h;subst h
  exact ⟨rfl,rfl,fun v hv=>by simp at hv;omega⟩⟩
theorem vtT (f:Int) (hf:0≤f∧f≤1) (bs:List UInt8) (h:bs.length≤127):VT 2 [⟨f,bs⟩]:=fun i t ht=>by
 match i,ht with
 | 0,ht =>
  simp at ht;subst ht
  exact ⟨by show (-1:Int) < f;omega,by show f < 2;omega,h⟩
theorem dFA (a b:Int) (bs:List UInt8) (ds:List Int):(dF [[0,a],[b,0]] [⟨0,bs⟩] ds 2).2=[]∨(dF [[0,a],[b,0]] [⟨0,bs⟩] ds 2).2=[⟨0,1,bs⟩]:=by
 have h0:dF [[0,a],[b,0]] [⟨0,bs⟩] ds 1=(0,[]):=(dF_skip (n:=0) (.inl rfl)).trans rfl
 have hl:lk [[0,a],[b,0]] 0 1=a:=rfl
 have hh:hd [[0,a],[b,0]] [⟨0,bs⟩] 1=if a≠0 then [⟨0,bs⟩] else []:=by
  unfold hd
  by_cases h:a=0
  ·subst h;rw [if_neg (by simp)];rfl
  ·rw [if_pos h];simp [hl,h]
 by_cases h:a=0
 ·left
  rw [dF_skip (n:=1) (.inr (by rw [hh,if_neg (by simp [h])];simp)),h0]
 ·rw [dF_one (n:=1) (t:=⟨0,bs⟩) rfl (by rw [hh,if_pos h]),h0]
  dsimp only
  split
  ·exact .inr rfl
  ·exact .inl rfl
theorem delA (a b:Int) (ha:0≤a∧a≤256) (hb:0≤b∧b≤256) (bs:List UInt8) (B:List SV) (hB:B=u8l bs) (h:bs.length≤127) (ds:List Int) (D:List SV) (hD:D=ints .u8 ds) (hdb:∀ d∈ds,0≤d∧d≤255) (hdl:ds.length≤1) :
  Good 21 (pu [.lst none [.lst none [.int .i64 0,.int .i64 a],.lst none [.int .i64 b,.int .i64 0]],.lst (some 2) [.agg [.int .i64 0,.lst none B]],.lst none D] (.tup [.lst (some 3) [],.int .i64 0])) ∨
  Good 21 (pu [.lst none [.lst none [.int .i64 0,.int .i64 a],.lst none [.int .i64 b,.int .i64 0]],.lst (some 2) [.agg [.int .i64 0,.lst none B]],.lst none D] (.tup [.lst (some 3) [.agg [.int .i64 0,.int .i64 1,.lst none B]],.int .i64 0])):=by
 have c:=fun R hR=>deliver_c [[0,a],[b,0]] _ rfl (vmT a b ha hb) [⟨0,bs⟩] [.agg [.int .i64 0,.lst none B]] (by rw [hB];rfl) (vtT 0 (by omega) bs h) (by simp) ds D hD hdb (by omega) R hR
 rcases dFA a b bs ds with e | e
 ·exact .inl (c _ (by show _=rcL (dF [[0,a],[b,0]] [⟨0,bs⟩] ds 2).2;rw [e];rfl))
 ·exact .inr (c _ (by show _=rcL (dF [[0,a],[b,0]] [⟨0,bs⟩] ds 2).2;rw [e,hB];rfl))
end
end Go.Proofs.YtgfpjhddojhfpaaGreat
