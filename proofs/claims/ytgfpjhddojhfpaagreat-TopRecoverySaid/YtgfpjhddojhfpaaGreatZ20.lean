/- Texts put together: VK VT VU VV VX VY. -/
import Derived.Test.YtgfpjhddojhfpaaGreatZ03
import Derived.Test.YtgfpjhddojhfpaaGreatZ17
import Derived.Test.YtgfpjhddojhfpaaGreatZ19
namespace Go.Proofs.YtgfpjhddojhfpaaGreat
set_option linter.unusedVariables false
set_option linter.unusedSimpArgs false
section
open Go.RowKit
set_option maxHeartbeats 8000000
end
section
open Go.RowKit
set_option maxHeartbeats 8000000
theorem clonedRow_c (ps:List (List UInt8)) (R:List SV) (hR:R=rowsB ps) (hn:ps.length≤5864062014805) (hb:∀ p∈ps,p.length≤140737488351232):Good 77 (nu [.lst none R] (.row 1) (.row none 30 R)):=by
 have hRl:R.length=ps.length:=by rw [hR,rowsB_len]
 have hE:=fun i hi=>rowsB_at hR i hi
 obtain ⟨H,hH⟩:∃ H:Nat→List SV,∀ i,H i=R.take i++List.replicate (R.length - i) .nil:=⟨_,fun _=>rfl⟩
 have hH0:List.replicate R.length SV.nil=H 0:=by rw [hH];simp
 have hHl:∀ i,i≤R.length→(H i).length=R.length:=fun i hi=>by rw [hH];simp;omega
 have hHs:∀ i y,R[i]?=some y→(H i).set i y=H (i+1):=fun i y hy=>by
  obtain ⟨h1,h2⟩:=List.getElem?_eq_some_iff.1 hy
  rw [hH,hH]
  apply List.ext_getElem?
  intro k
  rw [List.getElem?_set]
  by_cases hk:i=k
  ·subst hk
   rw [if_pos rfl,if_pos (by simp;omega),List.getElem?_append_left (by simp;omega),List.getElem?_take,if_pos (by omega),hy]
  ·rw [if_neg hk]
   by_cases h3:k < i
   ·rw [List.getElem?_append_left (by simp;omega),List.getElem?_append_left (by simp;omega),List.getElem?_take,List.getElem?_take,if_pos h3,if_pos (by omega)]
   ·rw [List.getElem?_append_right (by simp;omega),List.getElem?_append_right (by simp;omega),List.getElem?_replicate,List.getElem?_replicate]
    simp only [List.length_take]
    by_cases h4:k < R.length
    ·rw [if_pos (by omega),if_pos (by omega)]
    ·rw [if_neg (by omega),if_neg (by omega)]
 have hHn:H R.length=R:=by rw [hH];simp
 clear hH
 refine Good.of Tryz.func77 rfl (by rfl) (by kernel_rfl) ?_
 cbv
 (repeat' (first
| ((first
| (refine q1w (fun z hz=>?_);(try simp only at hz))
| refine rqa ?_
| refine chpA ?_
| refine QCt ?_
| refine QCf ?_);cbv)
| (refine QC.mk ?_ ?_ <;> intro hc <;> (try dsimp only at hc) <;> cbv)
| (refine br_mk2 ?_ ?_ <;> intro hb <;> (try subst hb) <;> cbv)))
 refine loopQ (A:=Nat × Int) (fun p=>p.2=p.1∧p.1≤ps.length) (fun p=>ps.length - p.1) (fun p=>[(11,.int .i64 p.2),(3,.row 8)]) (fun p=>[(8,.row none 30 (H p.1))]) (0,0) ⟨rfl,Nat.zero_le _⟩ ?_ ?_
 ·cbv
  rename_i z0 hz0
  refine ⟨?_,trivial⟩
  show Blk.row none 30 (O.rp z0 .nil)=.row none 30 (H 0)
  rw [orp,← hH0,show z0.toNat=R.length by (first | omega | (simp only [cst] at *;omega) | (simp only [sm] at *;omega))]
 ·intro ⟨i,j⟩ hi0
  have hj:j=(i:Int):=hi0.1
  have hi:i≤ps.length:=hi0.2
  clear hi0
  have hmk:True:=trivial
  have hli:=hHl i (by omega)
  cbv
  (repeat' (first
| ((first
| (refine q1w (fun z hz=>?_);(try simp only at hz))
| refine rqa ?_
| refine chpA ?_
| refine QCt ?_
| refine QCf ?_);cbv)
| (refine QC.mk ?_ ?_ <;> intro hc <;> (try dsimp only at hc) <;> cbv)
| (refine br_mk2 ?_ ?_ <;> intro hb <;> (try subst hb) <;> cbv)))
  ·have hlt:i < ps.length:=by (first | omega | (simp only [cst] at *;omega) | (simp only [sm] at *;omega))
   obtain ⟨b,B,hbi,hB,hEi⟩:=hE i hlt
   have hbl:=hb b (List.mem_of_getElem? hbi)
   have g1:=cloned_c b B hB hbl
   have hs:=hHs i _ hEi
   (refine qv (i,_) ⟨hj,hEi⟩ ?_;cbv;(repeat' (first
| ((first
| (refine q1w (fun z hz=>?_);(try simp only at hz))
| refine rqa ?_
| refine chpA ?_
| refine QCt ?_
| refine QCf ?_);cbv)
| (refine QC.mk ?_ ?_ <;> intro hc <;> (try dsimp only at hc) <;> cbv)
| (refine br_mk2 ?_ ?_ <;> intro hb <;> (try subst hb) <;> cbv))))
   (refine callq (g1) rfl rfl ?_;cbv;(repeat' (first
| ((first
| (refine q1w (fun z hz=>?_);(try simp only at hz))
| refine rqa ?_
| refine chpA ?_
| refine QCt ?_
| refine QCf ?_);cbv)
| (refine QC.mk ?_ ?_ <;> intro hc <;> (try dsimp only at hc) <;> cbv)
| (refine br_mk2 ?_ ?_ <;> intro hb <;> (try subst hb) <;> cbv))))
   refine qv i ⟨hj,by show i < O.ln (H i);rw [oln];omega⟩ ?_
   cbv
   (repeat' (first
| ((first
| (refine q1w (fun z hz=>?_);(try simp only at hz))
| refine rqa ?_
| refine chpA ?_
| refine QCt ?_
| refine QCf ?_);cbv)
| (refine QC.mk ?_ ?_ <;> intro hc <;> (try dsimp only at hc) <;> cbv)
| (refine br_mk2 ?_ ?_ <;> intro hb <;> (try subst hb) <;> cbv)))
   refine ⟨(i+1,z),⟨by show z=((i+1:Nat):Int);(first | omega | (simp only [cst] at *;omega) | (simp only [sm] at *;omega)),by show i+1≤ps.length;omega⟩,by show ps.length - (i+1) < ps.length - i;omega,?_⟩
   cbv
   refine ⟨?_,trivial⟩
   show Blk.row none 30 (O.st (H i) i (.lst none B))=.row none 30 (H (i+1))
   rw [ost,hs]
  ·have e:i=ps.length:=by (first | omega | (simp only [cst] at *;omega) | (simp only [sm] at *;omega))
   refine ⟨rfl,?_,rfl⟩
   show Blk.row none 30 (H i)=_
   rw [e,← hRl,hHn]
def zeroB (tag cnt:Int) (n:Nat) (hv:Int) (dn:Bool):Bool:=!dn && decide (tag=0∧cnt=0∧n=0∧hv=0)
theorem zero_c (tag cnt hv:Int) (dn:Bool) (R:List SV) (n:Nat) (hRl:R.length=n) (r:Bool) (hr:r=zeroB tag cnt n hv dn) :
  Good 81 (pu [.agg [.int .u8 tag,.int .i64 cnt,.lst none R,.int .u32 hv,.bool dn]] (.bool r)):=by
 cases dn
 ·have hr:r=decide (tag=0∧cnt=0∧n=0∧hv=0):=hr
  refine Good.of Tryz.func81 rfl (by rfl) (by kernel_rfl) ?_
  cbv
  (repeat' (first
| ((first
| (refine q1w (fun z hz=>?_);(try simp only at hz))
| refine rqa ?_
| refine chpA ?_
| refine QCt ?_
| refine QCf ?_);cbv)
| (refine QC.mk ?_ ?_ <;> intro hc <;> (try dsimp only at hc) <;> cbv)
| (refine br_mk2 ?_ ?_ <;> intro hb <;> (try subst hb) <;> cbv)))
  all_goals first
   | (refine Fin.mk ?_ rfl rfl
      have:r=true:=by rw [hr];exact decide_eq_true (by (first | omega | (simp only [cst] at *;omega) | (simp only [sm] at *;omega)))
      rw [this];done)
   | (refine Fin.mk ?_ rfl rfl
      have:r=false:=by rw [hr];exact decide_eq_false (by (first | omega | (simp only [cst] at *;omega) | (simp only [sm] at *;omega)))
      rw [this];done)
   | skip
 ·have hr:r=false:=hr
  refine Good.of Tryz.func81 rfl (by rfl) (by kernel_rfl) ?_
  cbv
  (repeat' (first
| ((first
| (refine q1w (fun z hz=>?_);(try simp only at hz))
| refine rqa ?_
| refine chpA ?_
| refine QCt ?_
| refine QCf ?_);cbv)
| (refine QC.mk ?_ ?_ <;> intro hc <;> (try dsimp only at hc) <;> cbv)
| (refine br_mk2 ?_ ?_ <;> intro hb <;> (try subst hb) <;> cbv)))
  all_goals (refine Fin.mk ?_ rfl rfl;rw [hr])
def VRc (tag cnt:Int) (ps:List (List UInt8)) (hv:Int) (dn:Bool):Prop :=
 zeroB tag cnt ps.length hv dn=true∨(1≤cnt∧cnt≤32∧(ps.length:Int)=cnt∧hv≠0∧hv=hasN ps ps.length∧(dn=true ↔ hv=allI ps.length))
theorem vreceiver_c (tag cnt hv:Int) (dn:Bool) (ps:List (List UInt8)) (R:List SV) (hR:R=rowsB ps) (hf:Rcv.fits ⟨tag,cnt,ps,hv,dn⟩) (b:Bool) (hb:b=true ↔ VRc tag cnt ps hv dn) :
  Good 80 (pu [.agg [.int .u8 tag,.int .i64 cnt,.lst none R,.int .u32 hv,.bool dn]] (.bool b)):=by
 have hRl:R.length=ps.length:=by rw [hR,rowsB_len]
 have hfb:=hf.b
 have hcb:=hf.cnt
 obtain ⟨r,hr⟩:∃ r,r=zeroB tag cnt ps.length hv dn:=⟨_,rfl⟩
 have g0:=zero_c tag cnt hv dn R ps.length hRl r hr
 have g1:ps.length≤32→Good 82 (pu [.lst none R] (.int .u32 (hasN ps ps.length))):=fun hn=>has_c ps R hR hn hfb _ rfl
 have g2:∀ N:Int,N=ps.length→ps.length≤32→Good 83 (pu [.int .i64 N] (.int .u32 (allI ps.length))):=fun N hN hn=>all_c ps.length N _ hN hn rfl
 unfold VRc at hb
 rw [← hr] at hb
 obtain ⟨h,hh⟩:∃ h:Int,h=hasN ps ps.length:=⟨_,rfl⟩
 obtain ⟨A,hA⟩:∃ A:Int,A=allI ps.length:=⟨_,rfl⟩
 rw [← hh] at g1 hb
 rw [← hA] at g2 hb
 have hbt:r=true→b=true:=fun h=>hb.2 (.inl h)
 have hbf:r=false→(b=true ↔ 1≤cnt∧cnt≤32∧(ps.length:Int)=cnt∧hv≠0∧hv=h∧(dn=true ↔ hv=A)):=fun h=>by rw [hb,h];simp
 clear hb hr
 have hmk:True:=trivial
 cases dn
 ·have hbf:r=false→(b=true ↔ 1≤cnt∧cnt≤32∧(ps.length:Int)=cnt∧hv≠0∧hv=h∧¬ hv=A):=fun e=>by have:=hbf e;simpa using this
  refine Good.of Tryz.func80 rfl (by rfl) (by kernel_rfl) ?_
  cbv
  (repeat' (first
| ((first
| (refine q1w (fun z hz=>?_);(try simp only at hz))
| refine rqa ?_
| refine chpA ?_
| refine QCt ?_
| refine QCf ?_);cbv)
| (refine QC.mk ?_ ?_ <;> intro hc <;> (try dsimp only at hc) <;> cbv)
| (refine br_mk2 ?_ ?_ <;> intro hb <;> (try subst hb) <;> cbv)))
  (refine callq (g0) rfl rfl ?_;cbv;(repeat' (first
| ((first
| (refine q1w (fun z hz=>?_);(try simp only at hz))
| refine rqa ?_
| refine chpA ?_
| refine QCt ?_
| refine QCf ?_);cbv)
| (refine QC.mk ?_ ?_ <;> intro hc <;> (try dsimp only at hc) <;> cbv)
| (refine br_mk2 ?_ ?_ <;> intro hb <;> (try subst hb) <;> cbv))))
  ·refine Fin.mk ?_ rfl rfl
   rw [hbt rfl]
  all_goals first
   | (refine Fin.mk ?_ rfl rfl
      have:b=true:=(hbf rfl).2 (by (first | omega | (simp only [cst] at *;omega) | (simp only [sm] at *;omega)))
      rw [this];done)
   | (refine Fin.mk ?_ rfl rfl
      have:b=false:=by
       cases hb0:b
       ·rfl
       ·exfalso
        have hq:=(hbf rfl).1 hb0
        clear hbf
        (first | omega | (simp only [cst] at *;omega) | (simp only [sm] at *;omega))
      rw [this];done)
   | skip
  have hn:ps.length≤32:=by (first | omega | (simp only [cst] at *;omega) | (simp only [sm] at *;omega))
  have g1:=g1 hn
  (refine callq (g1) rfl rfl ?_;cbv;(repeat' (first
| ((first
| (refine q1w (fun z hz=>?_);(try simp only at hz))
| refine rqa ?_
| refine chpA ?_
| refine QCt ?_
| refine QCf ?_);cbv)
| (refine QC.mk ?_ ?_ <;> intro hc <;> (try dsimp only at hc) <;> cbv)
| (refine br_mk2 ?_ ?_ <;> intro hb <;> (try subst hb) <;> cbv))))
  all_goals first
   | (refine Fin.mk ?_ rfl rfl
      have:b=true:=(hbf rfl).2 (by (first | omega | (simp only [cst] at *;omega) | (simp only [sm] at *;omega)))
      rw [this];done)
   | (refine Fin.mk ?_ rfl rfl
      have:b=false:=by
       cases hb0:b
       ·rfl
       ·exfalso
        have hq:=(hbf rfl).1 hb0
        clear hbf
        (first | omega | (simp only [cst] at *;omega) | (simp only [sm] at *;omega))
      rw [this];done)
   | skip
  have g2:=g2 cnt (by (first | omega | (simp only [cst] at *;omega) | (simp only [sm] at *;omega))) hn
  (refine callq (g2) rfl rfl ?_;cbv;(repeat' (first
| ((first
| (refine q1w (fun z hz=>?_);(try simp only at hz))
| refine rqa ?_
| refine chpA ?_
| refine QCt ?_
| refine QCf ?_);cbv)
| (refine QC.mk ?_ ?_ <;> intro hc <;> (try dsimp only at hc) <;> cbv)
| (refine br_mk2 ?_ ?_ <;> intro hb <;> (try subst hb) <;> cbv))))
  all_goals first
   | (refine Fin.mk ?_ rfl rfl
      have:b=true:=(hbf rfl).2 (by (first | omega | (simp only [cst] at *;omega) | (simp only [sm] at *;omega)))
      rw [this];done)
   | (refine Fin.mk ?_ rfl rfl
      have:b=false:=by
       cases hb0:b
       ·rfl
       ·exfalso
        have hq:=(hbf rfl).1 hb0
        clear hbf
        (first | omega | (simp only [cst] at *;omega) | (simp only [sm] at *;omega))
      rw [this];done)
   | skip
 ·have hbf:r=false→(b=true ↔ 1≤cnt∧cnt≤32∧(ps.length:Int)=cnt∧hv≠0∧hv=h∧hv=A):=fun e=>by have:=hbf e;simpa using this
  refine Good.of Tryz.func80 rfl (by rfl) (by kernel_rfl) ?_
  cbv
  (repeat' (first
| ((first
| (refine q1w (fun z hz=>?_);(try simp only at hz))
| refine rqa ?_
| refine chpA ?_
| refine QCt ?_
| refine QCf ?_);cbv)
| (refine QC.mk ?_ ?_ <;> intro hc <;> (try dsimp only at hc) <;> cbv)
| (refine br_mk2 ?_ ?_ <;> intro hb <;> (try subst hb) <;> cbv)))
  (refine callq (g0) rfl rfl ?_;cbv;(repeat' (first
| ((first
| (refine q1w (fun z hz=>?_);(try simp only at hz))
| refine rqa ?_
| refine chpA ?_
| refine QCt ?_
| refine QCf ?_);cbv)
| (refine QC.mk ?_ ?_ <;> intro hc <;> (try dsimp only at hc) <;> cbv)
| (refine br_mk2 ?_ ?_ <;> intro hb <;> (try subst hb) <;> cbv))))
  ·refine Fin.mk ?_ rfl rfl
   rw [hbt rfl]
  all_goals first
   | (refine Fin.mk ?_ rfl rfl
      have:b=true:=(hbf rfl).2 (by (first | omega | (simp only [cst] at *;omega) | (simp only [sm] at *;omega)))
      rw [this];done)
   | (refine Fin.mk ?_ rfl rfl
      have:b=false:=by
       cases hb0:b
       ·rfl
       ·exfalso
        have hq:=(hbf rfl).1 hb0
        clear hbf
        (first | omega | (simp only [cst] at *;omega) | (simp only [sm] at *;omega))
      rw [this];done)
   | skip
  have hn:ps.length≤32:=by (first | omega | (simp only [cst] at *;omega) | (simp only [sm] at *;omega))
  have g1:=g1 hn
  (refine callq (g1) rfl rfl ?_;cbv;(repeat' (first
| ((first
| (refine q1w (fun z hz=>?_);(try simp only at hz))
| refine rqa ?_
| refine chpA ?_
| refine QCt ?_
| refine QCf ?_);cbv)
| (refine QC.mk ?_ ?_ <;> intro hc <;> (try dsimp only at hc) <;> cbv)
| (refine br_mk2 ?_ ?_ <;> intro hb <;> (try subst hb) <;> cbv))))
  all_goals first
   | (refine Fin.mk ?_ rfl rfl
      have:b=true:=(hbf rfl).2 (by (first | omega | (simp only [cst] at *;omega) | (simp only [sm] at *;omega)))
      rw [this];done)
   | (refine Fin.mk ?_ rfl rfl
      have:b=false:=by
       cases hb0:b
       ·rfl
       ·exfalso
        have hq:=(hbf rfl).1 hb0
        clear hbf
        (first | omega | (simp only [cst] at *;omega) | (simp only [sm] at *;omega))
      rw [this];done)
   | skip
  have g2:=g2 cnt (by (first | omega | (simp only [cst] at *;omega) | (simp only [sm] at *;omega))) hn
  (refine callq (g2) rfl rfl ?_;cbv;(repeat' (first
| ((first
| (refine q1w (fun z hz=>?_);(try simp only at hz))
| refine rqa ?_
| refine chpA ?_
| refine QCt ?_
| refine QCf ?_);cbv)
| (refine QC.mk ?_ ?_ <;> intro hc <;> (try dsimp only at hc) <;> cbv)
| (refine br_mk2 ?_ ?_ <;> intro hb <;> (try subst hb) <;> cbv))))
  all_goals first
   | (refine Fin.mk ?_ rfl rfl
      have:b=true:=(hbf rfl).2 (by (first | omega | (simp only [cst] at *;omega) | (simp only [sm] at *;omega)))
      rw [this];done)
   | (refine Fin.mk ?_ rfl rfl
      have:b=false:=by
       cases hb0:b
       ·rfl
       ·exfalso
        have hq:=(hbf rfl).1 hb0
        clear hbf
        (first | omega | (simp only [cst] at *;omega) | (simp only [sm] at *;omega))
      rw [this];done)
   | skip
end
section
open Go.RowKit
set_option maxHeartbeats 8000000
theorem Wk.lst {sh:Option Nat} {l k:List SV} (h:WkL l k):Wk (.lst sh l) (.lst sh k):=fun w X ρ v hd=>by
 cases hd with
 | lst0 _ _ a cap =>
  have:k=[]:=List.length_eq_zero_iff.1 h.len.symm
  subst this
  exact .lst0 ρ sh a cap
 | lst _ _ _ b off cap us hb hx hc hu hl ho hh =>
  rw [h.len] at hc hl ⊢
  refine .lst ρ sh k b off cap us hb hx hc hu hl ho fun i h1=>?_
  obtain ⟨x,e1,e2⟩:=h.at i _ (List.getElem?_eq_getElem h1)
  obtain ⟨h2,e3⟩:=List.getElem?_eq_some_iff.1 e1
  have:=hh i h2
  rw [e3] at this
  exact e2 _ _ _ _ this
theorem WkL.nils:∀ n:Nat,WkL (List.replicate n .nil) (List.replicate n (.lst none []))
 | 0=>trivial
 | n+1=>⟨Wk.nil _,WkL.nils n⟩
theorem rowsB_rep (n:Nat):rowsB (List.replicate n [])=List.replicate n (.lst none []):=by simp [rowsB,u8l]
theorem rowsB_set (ps:List (List UInt8)) (i:Nat) (d:List UInt8):(rowsB ps).set i (.lst none (u8l d))=rowsB (ps.set i d):=by simp [rowsB,List.map_set]
def putP (ps:List (List UInt8)) (n:Nat) (d:List UInt8):List (List UInt8):=if (ps.getD n []).length=0 then ps.set n d else ps
theorem putP_len (ps:List (List UInt8)) (n:Nat) (d:List UInt8):(putP ps n d).length=ps.length:=by
 unfold putP;split <;> simp
theorem hasN_put (ps:List (List UInt8)) (n:Nat) (d:List UInt8) (hn:n < ps.length) (hd:0 < d.length):hasN ps ps.length ||| 2 ^ n=hasN (putP ps n d) (putP ps n d).length:=by
 rw [putP_len]
 apply Nat.eq_of_testBit_eq
 intro i
 rw [Nat.testBit_or,hasN,hasN,bm_bit,bm_bit,Nat.testBit_two_pow]
 unfold putP
 by_cases hi:i=n
 ·subst hi
  simp only [hn,decide_true,Bool.true_and,Bool.or_true]
  split
  ·simp [hn,hd]
  ·rename_i h;simp only [decide_eq_true (show 0 < (ps.getD i []).length by omega)]
 ·rw [decide_eq_false (show ¬ n=i from fun h=>hi h.symm),Bool.or_false]
  congr 1
  split
  ·simp [List.getElem?_set,Ne.symm hi]
  ·rfl
end
section
open Go.RowKit
set_option maxHeartbeats 8000000
set_option maxRecDepth 4000 in
theorem recv_n (tag cnt hv:Int) (dn:Bool) (ps:List (List UInt8)) (R:List SV) (hR:R=rowsB ps) (hf:Rcv.fits ⟨tag,cnt,ps,hv,dn⟩) (hv1:VRc tag cnt ps hv dn) (hz0:zeroB tag cnt ps.length hv dn=false)
  (n:Int) (k:Bool) (d:List UInt8) (D:List SV) (hD:D=u8l d) (hd:d.length≤140737488351232) (hp:valP n cnt d.length=true)
  (R':List SV) (hR':R'=rowsB (putP ps n.toNat d)) (h':Int) (hh':h'=hasN (putP ps n.toNat d) (putP ps n.toNat d).length) (b':Bool) (hb':b'=true ↔ h'=allI ps.length) :
  Good 33 (pu [.agg [.int .u8 tag,.int .i64 cnt,.lst none R,.int .u32 hv,.bool dn],.agg [.int .u8 tag,.int .i64 n,.int .i64 cnt,.bool k,.lst none D]] (.tup [.agg [.int .u8 tag,.int .i64 cnt,.lst none R',.int .u32 h',.bool b'],.int .u32 (if k=true then h' else 0),.bool k,.int .i64 0])):=by
 have hRl:R.length=ps.length:=by rw [hR,rowsB_len]
 have hDl:D.length=d.length:=by rw [hD,u8l_len]
 have hpv:=of_decide_eq_true hp
 have hcn:(ps.length:Int)=cnt:=by
  rcases hv1 with h | h
  ·rw [hz0] at h;cases h
  ·exact h.2.2.1
 have g1:=vreceiver_c tag cnt hv dn ps R hR hf true ⟨fun _=>hv1,fun _=>rfl⟩
 have g2:=pcvalid_c tag n cnt k D d.length true hDl hp.symm
 have g3:=zero_c tag cnt hv dn R ps.length hRl false hz0.symm
 have g4:=clonedRow_c ps R hR hf.n hf.b
 have g5:=cloned_c d D hD hd
 obtain ⟨q,hq⟩:∃ q,q=putP ps n.toNat d:=⟨_,rfl⟩
 have hql:q.length=ps.length:=by rw [hq,putP_len]
 have hqb:∀ p∈q,p.length≤140737488351232:=fun p h=>by
  rw [hq,putP] at h
  split at h
  ·rcases List.mem_or_eq_of_mem_set h with h | h
   ·exact hf.b p h
   ·rw [h];exact hd
  ·exact hf.b p h
 rw [← hq] at hR' hh'
 have g6:=has_c q R' hR' (by omega) hqb h' hh'
 have g7:∀ N:Int,N=ps.length→Good 83 (pu [.int .i64 N] (.int .u32 (allI ps.length))):=fun N hN=>all_c ps.length N _ hN (by omega) rfl
 have g7:=g7 cnt hcn.symm
 obtain ⟨A,hA⟩:∃ A:Int,A=allI ps.length:=⟨_,rfl⟩
 rw [← hA] at g7 hb'
 have hnl:n.toNat < ps.length:=by omega
 obtain ⟨bb,B,e1,e2,e3⟩:=rowsB_at hR n.toNat hnl
 have hBl:B.length=bb.length:=by rw [e2,u8l_len]
 have hj:n=(n.toNat:Int):=by omega
 obtain ⟨i,hi⟩:∃ i,i=n.toNat:=⟨_,rfl⟩
 rw [← hi] at hj hnl e3
 have hput:(bb.length=0→R.set i (.lst none D)=R')∧(¬ bb.length=0→R=R'):=by
  have hg:ps.getD n.toNat []=bb:=by rw [List.getD_eq_getElem?_getD,e1];rfl
  rw [hR',hq,putP,hg,hi]
  refine ⟨fun h=>?_,fun h=>?_⟩
  ·rw [if_pos h,hR,hD,rowsB_set]
  ·rw [if_neg h,hR]
 have hbl:bb.length≤140737488351232:=hf.b bb (List.mem_of_getElem? e1)
 clear hv1 hz0 hp hR hR' hh' hq hf e1 e2 hD hA
 have hmk:True:=trivial
 cases k
 ·skip
  refine Good.of Tryz.func33 rfl (by rfl) (by kernel_rfl) ?_
  cbv
  (repeat' (first
| ((first
| (refine q1w (fun z hz=>?_);(try simp only at hz))
| refine rqa ?_
| refine chpA ?_
| refine QCt ?_
| refine QCf ?_);cbv)
| (refine QC.mk ?_ ?_ <;> intro hc <;> (try dsimp only at hc) <;> cbv)
| (refine br_mk2 ?_ ?_ <;> intro hb <;> (try subst hb) <;> cbv)))
  (refine callq (g1) rfl rfl ?_;cbv;(repeat' (first
| ((first
| (refine q1w (fun z hz=>?_);(try simp only at hz))
| refine rqa ?_
| refine chpA ?_
| refine QCt ?_
| refine QCf ?_);cbv)
| (refine QC.mk ?_ ?_ <;> intro hc <;> (try dsimp only at hc) <;> cbv)
| (refine br_mk2 ?_ ?_ <;> intro hb <;> (try subst hb) <;> cbv))))
  (refine callq (g2) rfl rfl ?_;cbv;(repeat' (first
| ((first
| (refine q1w (fun z hz=>?_);(try simp only at hz))
| refine rqa ?_
| refine chpA ?_
| refine QCt ?_
| refine QCf ?_);cbv)
| (refine QC.mk ?_ ?_ <;> intro hc <;> (try dsimp only at hc) <;> cbv)
| (refine br_mk2 ?_ ?_ <;> intro hb <;> (try subst hb) <;> cbv))))
  (refine callq (g3) rfl rfl ?_;cbv;(repeat' (first
| ((first
| (refine q1w (fun z hz=>?_);(try simp only at hz))
| refine rqa ?_
| refine chpA ?_
| refine QCt ?_
| refine QCf ?_);cbv)
| (refine QC.mk ?_ ?_ <;> intro hc <;> (try dsimp only at hc) <;> cbv)
| (refine br_mk2 ?_ ?_ <;> intro hb <;> (try subst hb) <;> cbv))))
  (refine callq (g4) rfl rfl ?_;cbv;(repeat' (first
| ((first
| (refine q1w (fun z hz=>?_);(try simp only at hz))
| refine rqa ?_
| refine chpA ?_
| refine QCt ?_
| refine QCf ?_);cbv)
| (refine QC.mk ?_ ?_ <;> intro hc <;> (try dsimp only at hc) <;> cbv)
| (refine br_mk2 ?_ ?_ <;> intro hb <;> (try subst hb) <;> cbv))))
  (refine qv (i) (by (first | omega | (simp only [cst] at *;omega) | (simp only [sm] at *;omega))) ?_;cbv;(repeat' (first
| ((first
| (refine q1w (fun z hz=>?_);(try simp only at hz))
| refine rqa ?_
| refine chpA ?_
| refine QCt ?_
| refine QCf ?_);cbv)
| (refine QC.mk ?_ ?_ <;> intro hc <;> (try dsimp only at hc) <;> cbv)
| (refine br_mk2 ?_ ?_ <;> intro hb <;> (try subst hb) <;> cbv))))
  (refine qv _ (e3) ?_;cbv;(repeat' (first
| ((first
| (refine q1w (fun z hz=>?_);(try simp only at hz))
| refine rqa ?_
| refine chpA ?_
| refine QCt ?_
| refine QCf ?_);cbv)
| (refine QC.mk ?_ ?_ <;> intro hc <;> (try dsimp only at hc) <;> cbv)
| (refine br_mk2 ?_ ?_ <;> intro hb <;> (try subst hb) <;> cbv))))
  ·have hS:O.st R i (.lst none D)=R':=by rw [ost];exact hput.1 (by (first | omega | (simp only [cst] at *;omega) | (simp only [sm] at *;omega)))
   rw [← hS] at g6
   (refine callq (g5) rfl rfl ?_;cbv;(repeat' (first
| ((first
| (refine q1w (fun z hz=>?_);(try simp only at hz))
| refine rqa ?_
| refine chpA ?_
| refine QCt ?_
| refine QCf ?_);cbv)
| (refine QC.mk ?_ ?_ <;> intro hc <;> (try dsimp only at hc) <;> cbv)
| (refine br_mk2 ?_ ?_ <;> intro hb <;> (try subst hb) <;> cbv))))
   (refine qv (i) (by (first | omega | (simp only [cst] at *;omega) | (simp only [sm] at *;omega))) ?_;cbv;(repeat' (first
| ((first
| (refine q1w (fun z hz=>?_);(try simp only at hz))
| refine rqa ?_
| refine chpA ?_
| refine QCt ?_
| refine QCf ?_);cbv)
| (refine QC.mk ?_ ?_ <;> intro hc <;> (try dsimp only at hc) <;> cbv)
| (refine br_mk2 ?_ ?_ <;> intro hb <;> (try subst hb) <;> cbv))))
   (refine callq (g6) rfl rfl ?_;cbv;(repeat' (first
| ((first
| (refine q1w (fun z hz=>?_);(try simp only at hz))
| refine rqa ?_
| refine chpA ?_
| refine QCt ?_
| refine QCf ?_);cbv)
| (refine QC.mk ?_ ?_ <;> intro hc <;> (try dsimp only at hc) <;> cbv)
| (refine br_mk2 ?_ ?_ <;> intro hb <;> (try subst hb) <;> cbv))))
   (refine callq (g7) rfl rfl ?_;cbv;(repeat' (first
| ((first
| (refine q1w (fun z hz=>?_);(try simp only at hz))
| refine rqa ?_
| refine chpA ?_
| refine QCt ?_
| refine QCf ?_);cbv)
| (refine QC.mk ?_ ?_ <;> intro hc <;> (try dsimp only at hc) <;> cbv)
| (refine br_mk2 ?_ ?_ <;> intro hb <;> (try subst hb) <;> cbv))))
   ·have eb:b'=true:=hb'.2 hc
    refine Fin.mk ?_ rfl rfl
    rw [eb,← hS]
    try rfl
   ·have eb:b'=false:=by
     cases hbb:b'
     ·rfl
     ·exact absurd (hb'.1 hbb) hc
    refine Fin.mk ?_ rfl rfl
    rw [eb,← hS]
    try rfl
  ·have hS:R=R':=hput.2 (by (first | omega | (simp only [cst] at *;omega) | (simp only [sm] at *;omega)))
   rw [← hS] at g6
   (refine callq (g6) rfl rfl ?_;cbv;(repeat' (first
| ((first
| (refine q1w (fun z hz=>?_);(try simp only at hz))
| refine rqa ?_
| refine chpA ?_
| refine QCt ?_
| refine QCf ?_);cbv)
| (refine QC.mk ?_ ?_ <;> intro hc <;> (try dsimp only at hc) <;> cbv)
| (refine br_mk2 ?_ ?_ <;> intro hb <;> (try subst hb) <;> cbv))))
   (refine callq (g7) rfl rfl ?_;cbv;(repeat' (first
| ((first
| (refine q1w (fun z hz=>?_);(try simp only at hz))
| refine rqa ?_
| refine chpA ?_
| refine QCt ?_
| refine QCf ?_);cbv)
| (refine QC.mk ?_ ?_ <;> intro hc <;> (try dsimp only at hc) <;> cbv)
| (refine br_mk2 ?_ ?_ <;> intro hb <;> (try subst hb) <;> cbv))))
   ·have eb:b'=true:=hb'.2 hc
    refine Fin.mk ?_ rfl rfl
    rw [eb,← hS]
    try rfl
   ·have eb:b'=false:=by
     cases hbb:b'
     ·rfl
     ·exact absurd (hb'.1 hbb) hc
    refine Fin.mk ?_ rfl rfl
    rw [eb,← hS]
    try rfl
 ·skip
  refine Good.of Tryz.func33 rfl (by rfl) (by kernel_rfl) ?_
  cbv
  (repeat' (first
| ((first
| (refine q1w (fun z hz=>?_);(try simp only at hz))
| refine rqa ?_
| refine chpA ?_
| refine QCt ?_
| refine QCf ?_);cbv)
| (refine QC.mk ?_ ?_ <;> intro hc <;> (try dsimp only at hc) <;> cbv)
| (refine br_mk2 ?_ ?_ <;> intro hb <;> (try subst hb) <;> cbv)))
  (refine callq (g1) rfl rfl ?_;cbv;(repeat' (first
| ((first
| (refine q1w (fun z hz=>?_);(try simp only at hz))
| refine rqa ?_
| refine chpA ?_
| refine QCt ?_
| refine QCf ?_);cbv)
| (refine QC.mk ?_ ?_ <;> intro hc <;> (try dsimp only at hc) <;> cbv)
| (refine br_mk2 ?_ ?_ <;> intro hb <;> (try subst hb) <;> cbv))))
  (refine callq (g2) rfl rfl ?_;cbv;(repeat' (first
| ((first
| (refine q1w (fun z hz=>?_);(try simp only at hz))
| refine rqa ?_
| refine chpA ?_
| refine QCt ?_
| refine QCf ?_);cbv)
| (refine QC.mk ?_ ?_ <;> intro hc <;> (try dsimp only at hc) <;> cbv)
| (refine br_mk2 ?_ ?_ <;> intro hb <;> (try subst hb) <;> cbv))))
  (refine callq (g3) rfl rfl ?_;cbv;(repeat' (first
| ((first
| (refine q1w (fun z hz=>?_);(try simp only at hz))
| refine rqa ?_
| refine chpA ?_
| refine QCt ?_
| refine QCf ?_);cbv)
| (refine QC.mk ?_ ?_ <;> intro hc <;> (try dsimp only at hc) <;> cbv)
| (refine br_mk2 ?_ ?_ <;> intro hb <;> (try subst hb) <;> cbv))))
  (refine callq (g4) rfl rfl ?_;cbv;(repeat' (first
| ((first
| (refine q1w (fun z hz=>?_);(try simp only at hz))
| refine rqa ?_
| refine chpA ?_
| refine QCt ?_
| refine QCf ?_);cbv)
| (refine QC.mk ?_ ?_ <;> intro hc <;> (try dsimp only at hc) <;> cbv)
| (refine br_mk2 ?_ ?_ <;> intro hb <;> (try subst hb) <;> cbv))))
  (refine qv (i) (by (first | omega | (simp only [cst] at *;omega) | (simp only [sm] at *;omega))) ?_;cbv;(repeat' (first
| ((first
| (refine q1w (fun z hz=>?_);(try simp only at hz))
| refine rqa ?_
| refine chpA ?_
| refine QCt ?_
| refine QCf ?_);cbv)
| (refine QC.mk ?_ ?_ <;> intro hc <;> (try dsimp only at hc) <;> cbv)
| (refine br_mk2 ?_ ?_ <;> intro hb <;> (try subst hb) <;> cbv))))
  (refine qv _ (e3) ?_;cbv;(repeat' (first
| ((first
| (refine q1w (fun z hz=>?_);(try simp only at hz))
| refine rqa ?_
| refine chpA ?_
| refine QCt ?_
| refine QCf ?_);cbv)
| (refine QC.mk ?_ ?_ <;> intro hc <;> (try dsimp only at hc) <;> cbv)
| (refine br_mk2 ?_ ?_ <;> intro hb <;> (try subst hb) <;> cbv))))
  ·have hS:O.st R i (.lst none D)=R':=by rw [ost];exact hput.1 (by (first | omega | (simp only [cst] at *;omega) | (simp only [sm] at *;omega)))
   rw [← hS] at g6
   (refine callq (g5) rfl rfl ?_;cbv;(repeat' (first
| ((first
| (refine q1w (fun z hz=>?_);(try simp only at hz))
| refine rqa ?_
| refine chpA ?_
| refine QCt ?_
| refine QCf ?_);cbv)
| (refine QC.mk ?_ ?_ <;> intro hc <;> (try dsimp only at hc) <;> cbv)
| (refine br_mk2 ?_ ?_ <;> intro hb <;> (try subst hb) <;> cbv))))
   (refine qv (i) (by (first | omega | (simp only [cst] at *;omega) | (simp only [sm] at *;omega))) ?_;cbv;(repeat' (first
| ((first
| (refine q1w (fun z hz=>?_);(try simp only at hz))
| refine rqa ?_
| refine chpA ?_
| refine QCt ?_
| refine QCf ?_);cbv)
| (refine QC.mk ?_ ?_ <;> intro hc <;> (try dsimp only at hc) <;> cbv)
| (refine br_mk2 ?_ ?_ <;> intro hb <;> (try subst hb) <;> cbv))))
   (refine callq (g6) rfl rfl ?_;cbv;(repeat' (first
| ((first
| (refine q1w (fun z hz=>?_);(try simp only at hz))
| refine rqa ?_
| refine chpA ?_
| refine QCt ?_
| refine QCf ?_);cbv)
| (refine QC.mk ?_ ?_ <;> intro hc <;> (try dsimp only at hc) <;> cbv)
| (refine br_mk2 ?_ ?_ <;> intro hb <;> (try subst hb) <;> cbv))))
   (refine callq (g7) rfl rfl ?_;cbv;(repeat' (first
| ((first
| (refine q1w (fun z hz=>?_);(try simp only at hz))
| refine rqa ?_
| refine chpA ?_
| refine QCt ?_
| refine QCf ?_);cbv)
| (refine QC.mk ?_ ?_ <;> intro hc <;> (try dsimp only at hc) <;> cbv)
| (refine br_mk2 ?_ ?_ <;> intro hb <;> (try subst hb) <;> cbv))))
   ·have eb:b'=true:=hb'.2 hc
    refine Fin.mk ?_ rfl rfl
    rw [eb,← hS]
    try rfl
   ·have eb:b'=false:=by
     cases hbb:b'
     ·rfl
     ·exact absurd (hb'.1 hbb) hc
    refine Fin.mk ?_ rfl rfl
    rw [eb,← hS]
    try rfl
  ·have hS:R=R':=hput.2 (by (first | omega | (simp only [cst] at *;omega) | (simp only [sm] at *;omega)))
   rw [← hS] at g6
   (refine callq (g6) rfl rfl ?_;cbv;(repeat' (first
| ((first
| (refine q1w (fun z hz=>?_);(try simp only at hz))
| refine rqa ?_
| refine chpA ?_
| refine QCt ?_
| refine QCf ?_);cbv)
| (refine QC.mk ?_ ?_ <;> intro hc <;> (try dsimp only at hc) <;> cbv)
| (refine br_mk2 ?_ ?_ <;> intro hb <;> (try subst hb) <;> cbv))))
   (refine callq (g7) rfl rfl ?_;cbv;(repeat' (first
| ((first
| (refine q1w (fun z hz=>?_);(try simp only at hz))
| refine rqa ?_
| refine chpA ?_
| refine QCt ?_
| refine QCf ?_);cbv)
| (refine QC.mk ?_ ?_ <;> intro hc <;> (try dsimp only at hc) <;> cbv)
| (refine br_mk2 ?_ ?_ <;> intro hb <;> (try subst hb) <;> cbv))))
   ·have eb:b'=true:=hb'.2 hc
    refine Fin.mk ?_ rfl rfl
    rw [eb,← hS]
    try rfl
   ·have eb:b'=false:=by
     cases hbb:b'
     ·rfl
     ·exact absurd (hb'.1 hbb) hc
    refine Fin.mk ?_ rfl rfl
    rw [eb,← hS]
    try rfl
end
section
open Go.RowKit
set_option maxHeartbeats 8000000
end
section
open Go.RowKit
set_option maxHeartbeats 8000000
theorem wk_zr:Wk (.tup [.agg [.int .u8 0,.int .i64 0,.nil,.int .u32 0,.bool false],.int .u32 0,.bool false,.int .i64 1]) (.tup [.agg [.int .u8 0,.int .i64 0,.lst none [],.int .u32 0,.bool false],.int .u32 0,.bool false,.int .i64 1]) :=
 .tup ⟨.agg ⟨.rfl' _,.rfl' _,.nil _,.rfl' _,.rfl' _,trivial⟩,.rfl' _,.rfl' _,.rfl' _,trivial⟩
theorem recv_no (tag cnt hv:Int) (dn:Bool) (ps:List (List UInt8)) (R:List SV) (hR:R=rowsB ps) (hf:Rcv.fits ⟨tag,cnt,ps,hv,dn⟩) (b:Bool) (hb:b=true ↔ VRc tag cnt ps hv dn)
  (t n c:Int) (k:Bool) (D:List SV) (len:Nat) (hD:D.length=len) (hno:b=false∨valP n c len=false) :
  Good 33 (pu [.agg [.int .u8 tag,.int .i64 cnt,.lst none R,.int .u32 hv,.bool dn],.agg [.int .u8 t,.int .i64 n,.int .i64 c,.bool k,.lst none D]] (.tup [.agg [.int .u8 0,.int .i64 0,.lst none [],.int .u32 0,.bool false],.int .u32 0,.bool false,.int .i64 1])):=by
 refine Good.res ?_ wk_zr
 have g1:=vreceiver_c tag cnt hv dn ps R hR hf b hb
 obtain ⟨r,hr⟩:∃ r,r=valP n c len:=⟨_,rfl⟩
 have g2:=pcvalid_c t n c k D len r hD hr
 rw [← hr] at hno
 have hno:b=true→r=false:=fun h=>by rcases hno with h2 | h2;rw [h] at h2;cases h2;exact h2
 clear hb hr
 refine Good.of Tryz.func33 rfl (by rfl) (by kernel_rfl) ?_
 cbv
 (repeat' (first
| ((first
| (refine q1w (fun z hz=>?_);(try simp only at hz))
| refine rqa ?_
| refine chpA ?_
| refine QCt ?_
| refine QCf ?_);cbv)
| (refine QC.mk ?_ ?_ <;> intro hc <;> (try dsimp only at hc) <;> cbv)
| (refine br_mk2 ?_ ?_ <;> intro hb <;> (try subst hb) <;> cbv)))
 (refine callq (g1) rfl rfl ?_;cbv;(repeat' (first
| ((first
| (refine q1w (fun z hz=>?_);(try simp only at hz))
| refine rqa ?_
| refine chpA ?_
| refine QCt ?_
| refine QCf ?_);cbv)
| (refine QC.mk ?_ ?_ <;> intro hc <;> (try dsimp only at hc) <;> cbv)
| (refine br_mk2 ?_ ?_ <;> intro hb <;> (try subst hb) <;> cbv))))
 ·have e:=hno rfl
  subst e
  (refine callq (g2) rfl rfl ?_;cbv;(repeat' (first
| ((first
| (refine q1w (fun z hz=>?_);(try simp only at hz))
| refine rqa ?_
| refine chpA ?_
| refine QCt ?_
| refine QCf ?_);cbv)
| (refine QC.mk ?_ ?_ <;> intro hc <;> (try dsimp only at hc) <;> cbv)
| (refine br_mk2 ?_ ?_ <;> intro hb <;> (try subst hb) <;> cbv))))
  exact ⟨rfl,rfl,rfl⟩
 ·exact ⟨rfl,rfl,rfl⟩
theorem wk_zr9:Wk (.tup [.agg [.int .u8 0,.int .i64 0,.nil,.int .u32 0,.bool false],.int .u32 0,.bool false,.int .i64 9]) (.tup [.agg [.int .u8 0,.int .i64 0,.lst none [],.int .u32 0,.bool false],.int .u32 0,.bool false,.int .i64 9]) :=
 .tup ⟨.agg ⟨.rfl' _,.rfl' _,.nil _,.rfl' _,.rfl' _,trivial⟩,.rfl' _,.rfl' _,.rfl' _,trivial⟩
theorem recv_mm (tag cnt hv:Int) (dn:Bool) (ps:List (List UInt8)) (R:List SV) (hR:R=rowsB ps) (hf:Rcv.fits ⟨tag,cnt,ps,hv,dn⟩) (hv1:VRc tag cnt ps hv dn) (hz0:zeroB tag cnt ps.length hv dn=false)
  (t n c:Int) (k:Bool) (D:List SV) (len:Nat) (hD:D.length=len) (hp:valP n c len=true) (hne:tag≠t∨cnt≠c) :
  Good 33 (pu [.agg [.int .u8 tag,.int .i64 cnt,.lst none R,.int .u32 hv,.bool dn],.agg [.int .u8 t,.int .i64 n,.int .i64 c,.bool k,.lst none D]] (.tup [.agg [.int .u8 0,.int .i64 0,.lst none [],.int .u32 0,.bool false],.int .u32 0,.bool false,.int .i64 9])):=by
 refine Good.res ?_ (wk_zr9)
 have hRl:R.length=ps.length:=by rw [hR,rowsB_len]
 have g1:=vreceiver_c tag cnt hv dn ps R hR hf true ⟨fun _=>hv1,fun _=>rfl⟩
 have g2:=pcvalid_c t n c k D len true hD hp.symm
 have g3:=zero_c tag cnt hv dn R ps.length hRl false hz0.symm
 clear hv1 hz0 hp
 refine Good.of Tryz.func33 rfl (by rfl) (by kernel_rfl) ?_
 cbv
 (repeat' (first
| ((first
| (refine q1w (fun z hz=>?_);(try simp only at hz))
| refine rqa ?_
| refine chpA ?_
| refine QCt ?_
| refine QCf ?_);cbv)
| (refine QC.mk ?_ ?_ <;> intro hc <;> (try dsimp only at hc) <;> cbv)
| (refine br_mk2 ?_ ?_ <;> intro hb <;> (try subst hb) <;> cbv)))
 (refine callq (g1) rfl rfl ?_;cbv;(repeat' (first
| ((first
| (refine q1w (fun z hz=>?_);(try simp only at hz))
| refine rqa ?_
| refine chpA ?_
| refine QCt ?_
| refine QCf ?_);cbv)
| (refine QC.mk ?_ ?_ <;> intro hc <;> (try dsimp only at hc) <;> cbv)
| (refine br_mk2 ?_ ?_ <;> intro hb <;> (try subst hb) <;> cbv))))
 (refine callq (g2) rfl rfl ?_;cbv;(repeat' (first
| ((first
| (refine q1w (fun z hz=>?_);(try simp only at hz))
| refine rqa ?_
| refine chpA ?_
| refine QCt ?_
| refine QCf ?_);cbv)
| (refine QC.mk ?_ ?_ <;> intro hc <;> (try dsimp only at hc) <;> cbv)
| (refine br_mk2 ?_ ?_ <;> intro hb <;> (try subst hb) <;> cbv))))
 (refine callq (g3) rfl rfl ?_;cbv;(repeat' (first
| ((first
| (refine q1w (fun z hz=>?_);(try simp only at hz))
| refine rqa ?_
| refine chpA ?_
| refine QCt ?_
| refine QCf ?_);cbv)
| (refine QC.mk ?_ ?_ <;> intro hc <;> (try dsimp only at hc) <;> cbv)
| (refine br_mk2 ?_ ?_ <;> intro hb <;> (try subst hb) <;> cbv))))
 all_goals first | exact ⟨rfl,rfl,rfl⟩ | (exfalso;rename_i h1 h2;exact hne.elim h1 h2)
end
end Go.Proofs.YtgfpjhddojhfpaaGreat
