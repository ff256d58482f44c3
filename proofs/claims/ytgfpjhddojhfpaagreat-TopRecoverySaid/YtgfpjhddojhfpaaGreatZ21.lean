/- Texts put together: VZ VZr WA WB. -/
import Derived.Test.YtgfpjhddojhfpaaGreatZ15
import Derived.Test.YtgfpjhddojhfpaaGreatZ20
namespace Go.Proofs.YtgfpjhddojhfpaaGreat
set_option linter.unusedVariables false
set_option linter.unusedSimpArgs false
section
open Go.RowKit
set_option maxHeartbeats 8000000
theorem clonedNil_c (n:Nat) (hn:n≤32):Good 77 (nu [.lst none (List.replicate n .nil)] (.row 1) (.row none 30 (rowsB (List.replicate n [])))) :=
 (clonedRow_c (List.replicate n []) _ rfl (by simp;omega) (fun p h=>by rw [List.eq_of_mem_replicate h];simp)).argN ⟨.lst (by rw [rowsB_rep];exact WkL.nils n),trivial⟩
set_option maxRecDepth 4000 in
theorem recv_z (tag n cnt:Int) (k:Bool) (d:List UInt8) (D:List SV) (hD:D=u8l d) (hd:d.length≤140737488351232) (hp:valP n cnt d.length=true) (ps:List (List UInt8)) (hps:ps=List.replicate cnt.toNat []) (R:List SV) (hR:R=rowsB ps)
  (R':List SV) (hR':R'=rowsB (putP ps n.toNat d)) (h':Int) (hh':h'=hasN (putP ps n.toNat d) (putP ps n.toNat d).length) (b':Bool) (hb':b'=true ↔ h'=allI ps.length) :
  Good 33 (pu [.agg [.int .u8 0,.int .i64 0,.lst none [],.int .u32 0,.bool false],.agg [.int .u8 tag,.int .i64 n,.int .i64 cnt,.bool k,.lst none D]] (.tup [.agg [.int .u8 tag,.int .i64 cnt,.lst none R',.int .u32 h',.bool b'],.int .u32 (if k=true then h' else 0),.bool k,.int .i64 0])):=by
 have hRl:R.length=ps.length:=by rw [hR,rowsB_len]
 have hDl:D.length=d.length:=by rw [hD,u8l_len]
 have hpv:=of_decide_eq_true hp
 have hcn:(ps.length:Int)=cnt:=by rw [hps,List.length_replicate];omega
 have hpb:∀ p∈ps,p.length≤140737488351232:=fun p h=>by rw [hps] at h;rw [List.eq_of_mem_replicate h];simp
 have g1:=vreceiver_c 0 0 0 false [] [] rfl ⟨by decide,by decide,by decide,by decide,fun p h=>by cases h⟩ true ⟨fun _=>.inl rfl,fun _=>rfl⟩
 have g2:=pcvalid_c tag n cnt k D d.length true hDl hp.symm
 have g3:=zero_c 0 0 0 false [] 0 rfl true rfl
 have g4:=clonedNil_c cnt.toNat (by omega)
 rw [← hps,← hR,← orp cnt .nil] at g4
 have g5:=cloned_c d D hD hd
 obtain ⟨q,hq⟩:∃ q,q=putP ps n.toNat d:=⟨_,rfl⟩
 have hql:q.length=ps.length:=by rw [hq,putP_len]
 have hqb:∀ p∈q,p.length≤140737488351232:=fun p h=>by
  rw [hq,putP] at h
  split at h
  ·rcases List.mem_or_eq_of_mem_set h with h | h
   ·exact hpb p h
   ·rw [h];exact hd
  ·exact hpb p h
 rw [← hq] at hR' hh'
 have g6:=has_c q R' hR' (by omega) hqb h' hh'
 have g7:∀ N:Int,N=ps.length→Good 83 (pu [.int .i64 N] (.int .u32 (allI ps.length))):=fun N hN=>all_c ps.length N _ hN (by omega) rfl
 have g7:=g7 cnt hcn.symm
 obtain ⟨A,hA⟩:∃ A:Int,A=allI ps.length:=⟨_,rfl⟩
 rw [← hA] at g7 hb'
 have hnl:n.toNat < ps.length:=by omega
 obtain ⟨bb,B,e1,e2,e3⟩:=rowsB_at hR n.toNat hnl
 have hBl:B.length=bb.length:=by rw [e2,u8l_len]
 have hj:n=(n.toNat:Int):=by omega
 obtain ⟨i,hi⟩:∃ i,i=n.toNat:=⟨_,rfl⟩
 rw [← hi] at hj hnl e3
 have hput:(bb.length=0→R.set i (.lst none D)=R')∧(¬ bb.length=0→R=R'):=by
  have hg:ps.getD n.toNat []=bb:=by rw [List.getD_eq_getElem?_getD,e1];rfl
  rw [hR',hq,putP,hg,hi]
  refine ⟨fun h=>?_,fun h=>?_⟩
  ·rw [if_pos h,hR,hD,rowsB_set]
  ·rw [if_neg h,hR]
 have hbl:bb.length≤140737488351232:=hpb bb (List.mem_of_getElem? e1)
 clear hp hR hR' hh' hq e1 e2 hD hA
 have hmk:True:=trivial
 cases k
 ·skip
  refine Good.of Tryz.func33 rfl (by rfl) (by kernel_rfl) ?_
  cbv
  (repeat' (first
| ((first
| (refine q1w (fun z hz=>?_);(try simp only at hz))
| refine rqa ?_
| refine chpA ?_
| refine QCt ?_
| refine QCf ?_);cbv)
| (refine QC.mk ?_ ?_ <;> intro hc <;> (try dsimp only at hc) <;> cbv)
| (refine br_mk2 ?_ ?_ <;> intro hb <;> (try subst hb) <;> cbv)))
  (refine callq (g1) rfl rfl ?_;cbv;(repeat' (first
| ((first
| (refine q1w (fun z hz=>?_);(try simp only at hz))
| refine rqa ?_
| refine chpA ?_
| refine QCt ?_
| refine QCf ?_);cbv)
| (refine QC.mk ?_ ?_ <;> intro hc <;> (try dsimp only at hc) <;> cbv)
| (refine br_mk2 ?_ ?_ <;> intro hb <;> (try subst hb) <;> cbv))))
  (refine callq (g2) rfl rfl ?_;cbv;(repeat' (first
| ((first
| (refine q1w (fun z hz=>?_);(try simp only at hz))
| refine rqa ?_
| refine chpA ?_
| refine QCt ?_
| refine QCf ?_);cbv)
| (refine QC.mk ?_ ?_ <;> intro hc <;> (try dsimp only at hc) <;> cbv)
| (refine br_mk2 ?_ ?_ <;> intro hb <;> (try subst hb) <;> cbv))))
  (refine callq (g3) rfl rfl ?_;cbv;(repeat' (first
| ((first
| (refine q1w (fun z hz=>?_);(try simp only at hz))
| refine rqa ?_
| refine chpA ?_
| refine QCt ?_
| refine QCf ?_);cbv)
| (refine QC.mk ?_ ?_ <;> intro hc <;> (try dsimp only at hc) <;> cbv)
| (refine br_mk2 ?_ ?_ <;> intro hb <;> (try subst hb) <;> cbv))))
  (refine callq (g4) rfl rfl ?_;cbv;(repeat' (first
| ((first
| (refine q1w (fun z hz=>?_);(try simp only at hz))
| refine rqa ?_
| refine chpA ?_
| refine QCt ?_
| refine QCf ?_);cbv)
| (refine QC.mk ?_ ?_ <;> intro hc <;> (try dsimp only at hc) <;> cbv)
| (refine br_mk2 ?_ ?_ <;> intro hb <;> (try subst hb) <;> cbv))))
  (refine qv (i) (by (first | omega | (simp only [cst] at *;omega) | (simp only [sm] at *;omega))) ?_;cbv;(repeat' (first
| ((first
| (refine q1w (fun z hz=>?_);(try simp only at hz))
| refine rqa ?_
| refine chpA ?_
| refine QCt ?_
| refine QCf ?_);cbv)
| (refine QC.mk ?_ ?_ <;> intro hc <;> (try dsimp only at hc) <;> cbv)
| (refine br_mk2 ?_ ?_ <;> intro hb <;> (try subst hb) <;> cbv))))
  (refine qv _ (e3) ?_;cbv;(repeat' (first
| ((first
| (refine q1w (fun z hz=>?_);(try simp only at hz))
| refine rqa ?_
| refine chpA ?_
| refine QCt ?_
| refine QCf ?_);cbv)
| (refine QC.mk ?_ ?_ <;> intro hc <;> (try dsimp only at hc) <;> cbv)
| (refine br_mk2 ?_ ?_ <;> intro hb <;> (try subst hb) <;> cbv))))
  ·have hS:O.st R i (.lst none D)=R':=by rw [ost];exact hput.1 (by (first | omega | (simp only [cst] at *;omega) | (simp only [sm] at *;omega)))
   rw [← hS] at g6
   (refine callq (g5) rfl rfl ?_;cbv;(repeat' (first
| ((first
| (refine q1w (fun z hz=>?_);(try simp only at hz))
| refine rqa ?_
| refine chpA ?_
| refine QCt ?_
| refine QCf ?_);cbv)
| (refine QC.mk ?_ ?_ <;> intro hc <;> (try dsimp only at hc) <;> cbv)
| (refine br_mk2 ?_ ?_ <;> intro hb <;> (try subst hb) <;> cbv))))
   (refine qv (i) (by (first | omega | (simp only [cst] at *;omega) | (simp only [sm] at *;omega))) ?_;cbv;(repeat' (first
| ((first
| (refine q1w (fun z hz=>?_);(try simp only at hz))
| refine rqa ?_
| refine chpA ?_
| refine QCt ?_
| refine QCf ?_);cbv)
| (refine QC.mk ?_ ?_ <;> intro hc <;> (try dsimp only at hc) <;> cbv)
| (refine br_mk2 ?_ ?_ <;> intro hb <;> (try subst hb) <;> cbv))))
   (refine callq (g6) rfl rfl ?_;cbv;(repeat' (first
| ((first
| (refine q1w (fun z hz=>?_);(try simp only at hz))
| refine rqa ?_
| refine chpA ?_
| refine QCt ?_
| refine QCf ?_);cbv)
| (refine QC.mk ?_ ?_ <;> intro hc <;> (try dsimp only at hc) <;> cbv)
| (refine br_mk2 ?_ ?_ <;> intro hb <;> (try subst hb) <;> cbv))))
   (refine callq (g7) rfl rfl ?_;cbv;(repeat' (first
| ((first
| (refine q1w (fun z hz=>?_);(try simp only at hz))
| refine rqa ?_
| refine chpA ?_
| refine QCt ?_
| refine QCf ?_);cbv)
| (refine QC.mk ?_ ?_ <;> intro hc <;> (try dsimp only at hc) <;> cbv)
| (refine br_mk2 ?_ ?_ <;> intro hb <;> (try subst hb) <;> cbv))))
   ·have eb:b'=true:=hb'.2 hc
    refine Fin.mk ?_ rfl rfl
    rw [eb,← hS]
    try rfl
   ·have eb:b'=false:=by
     cases hbb:b'
     ·rfl
     ·exact absurd (hb'.1 hbb) hc
    refine Fin.mk ?_ rfl rfl
    rw [eb,← hS]
    try rfl
  ·have hS:R=R':=hput.2 (by (first | omega | (simp only [cst] at *;omega) | (simp only [sm] at *;omega)))
   rw [← hS] at g6
   (refine callq (g6) rfl rfl ?_;cbv;(repeat' (first
| ((first
| (refine q1w (fun z hz=>?_);(try simp only at hz))
| refine rqa ?_
| refine chpA ?_
| refine QCt ?_
| refine QCf ?_);cbv)
| (refine QC.mk ?_ ?_ <;> intro hc <;> (try dsimp only at hc) <;> cbv)
| (refine br_mk2 ?_ ?_ <;> intro hb <;> (try subst hb) <;> cbv))))
   (refine callq (g7) rfl rfl ?_;cbv;(repeat' (first
| ((first
| (refine q1w (fun z hz=>?_);(try simp only at hz))
| refine rqa ?_
| refine chpA ?_
| refine QCt ?_
| refine QCf ?_);cbv)
| (refine QC.mk ?_ ?_ <;> intro hc <;> (try dsimp only at hc) <;> cbv)
| (refine br_mk2 ?_ ?_ <;> intro hb <;> (try subst hb) <;> cbv))))
   ·have eb:b'=true:=hb'.2 hc
    refine Fin.mk ?_ rfl rfl
    rw [eb,← hS]
    try rfl
   ·have eb:b'=false:=by
     cases hbb:b'
     ·rfl
     ·exact absurd (hb'.1 hbb) hc
    refine Fin.mk ?_ rfl rfl
    rw [eb,← hS]
    try rfl
 ·skip
  refine Good.of Tryz.func33 rfl (by rfl) (by kernel_rfl) ?_
  cbv
  (repeat' (first
| ((first
| (refine q1w (fun z hz=>?_);(try simp only at hz))
| refine rqa ?_
| refine chpA ?_
| refine QCt ?_
| refine QCf ?_);cbv)
| (refine QC.mk ?_ ?_ <;> intro hc <;> (try dsimp only at hc) <;> cbv)
| (refine br_mk2 ?_ ?_ <;> intro hb <;> (try subst hb) <;> cbv)))
  (refine callq (g1) rfl rfl ?_;cbv;(repeat' (first
| ((first
| (refine q1w (fun z hz=>?_);(try simp only at hz))
| refine rqa ?_
| refine chpA ?_
| refine QCt ?_
| refine QCf ?_);cbv)
| (refine QC.mk ?_ ?_ <;> intro hc <;> (try dsimp only at hc) <;> cbv)
| (refine br_mk2 ?_ ?_ <;> intro hb <;> (try subst hb) <;> cbv))))
  (refine callq (g2) rfl rfl ?_;cbv;(repeat' (first
| ((first
| (refine q1w (fun z hz=>?_);(try simp only at hz))
| refine rqa ?_
| refine chpA ?_
| refine QCt ?_
| refine QCf ?_);cbv)
| (refine QC.mk ?_ ?_ <;> intro hc <;> (try dsimp only at hc) <;> cbv)
| (refine br_mk2 ?_ ?_ <;> intro hb <;> (try subst hb) <;> cbv))))
  (refine callq (g3) rfl rfl ?_;cbv;(repeat' (first
| ((first
| (refine q1w (fun z hz=>?_);(try simp only at hz))
| refine rqa ?_
| refine chpA ?_
| refine QCt ?_
| refine QCf ?_);cbv)
| (refine QC.mk ?_ ?_ <;> intro hc <;> (try dsimp only at hc) <;> cbv)
| (refine br_mk2 ?_ ?_ <;> intro hb <;> (try subst hb) <;> cbv))))
  (refine callq (g4) rfl rfl ?_;cbv;(repeat' (first
| ((first
| (refine q1w (fun z hz=>?_);(try simp only at hz))
| refine rqa ?_
| refine chpA ?_
| refine QCt ?_
| refine QCf ?_);cbv)
| (refine QC.mk ?_ ?_ <;> intro hc <;> (try dsimp only at hc) <;> cbv)
| (refine br_mk2 ?_ ?_ <;> intro hb <;> (try subst hb) <;> cbv))))
  (refine qv (i) (by (first | omega | (simp only [cst] at *;omega) | (simp only [sm] at *;omega))) ?_;cbv;(repeat' (first
| ((first
| (refine q1w (fun z hz=>?_);(try simp only at hz))
| refine rqa ?_
| refine chpA ?_
| refine QCt ?_
| refine QCf ?_);cbv)
| (refine QC.mk ?_ ?_ <;> intro hc <;> (try dsimp only at hc) <;> cbv)
| (refine br_mk2 ?_ ?_ <;> intro hb <;> (try subst hb) <;> cbv))))
  (refine qv _ (e3) ?_;cbv;(repeat' (first
| ((first
| (refine q1w (fun z hz=>?_);(try simp only at hz))
| refine rqa ?_
| refine chpA ?_
| refine QCt ?_
| refine QCf ?_);cbv)
| (refine QC.mk ?_ ?_ <;> intro hc <;> (try dsimp only at hc) <;> cbv)
| (refine br_mk2 ?_ ?_ <;> intro hb <;> (try subst hb) <;> cbv))))
  ·have hS:O.st R i (.lst none D)=R':=by rw [ost];exact hput.1 (by (first | omega | (simp only [cst] at *;omega) | (simp only [sm] at *;omega)))
   rw [← hS] at g6
   (refine callq (g5) rfl rfl ?_;cbv;(repeat' (first
| ((first
| (refine q1w (fun z hz=>?_);(try simp only at hz))
| refine rqa ?_
| refine chpA ?_
| refine QCt ?_
| refine QCf ?_);cbv)
| (refine QC.mk ?_ ?_ <;> intro hc <;> (try dsimp only at hc) <;> cbv)
| (refine br_mk2 ?_ ?_ <;> intro hb <;> (try subst hb) <;> cbv))))
   (refine qv (i) (by (first | omega | (simp only [cst] at *;omega) | (simp only [sm] at *;omega))) ?_;cbv;(repeat' (first
| ((first
| (refine q1w (fun z hz=>?_);(try simp only at hz))
| refine rqa ?_
| refine chpA ?_
| refine QCt ?_
| refine QCf ?_);cbv)
| (refine QC.mk ?_ ?_ <;> intro hc <;> (try dsimp only at hc) <;> cbv)
| (refine br_mk2 ?_ ?_ <;> intro hb <;> (try subst hb) <;> cbv))))
   (refine callq (g6) rfl rfl ?_;cbv;(repeat' (first
| ((first
| (refine q1w (fun z hz=>?_);(try simp only at hz))
| refine rqa ?_
| refine chpA ?_
| refine QCt ?_
| refine QCf ?_);cbv)
| (refine QC.mk ?_ ?_ <;> intro hc <;> (try dsimp only at hc) <;> cbv)
| (refine br_mk2 ?_ ?_ <;> intro hb <;> (try subst hb) <;> cbv))))
   (refine callq (g7) rfl rfl ?_;cbv;(repeat' (first
| ((first
| (refine q1w (fun z hz=>?_);(try simp only at hz))
| refine rqa ?_
| refine chpA ?_
| refine QCt ?_
| refine QCf ?_);cbv)
| (refine QC.mk ?_ ?_ <;> intro hc <;> (try dsimp only at hc) <;> cbv)
| (refine br_mk2 ?_ ?_ <;> intro hb <;> (try subst hb) <;> cbv))))
   ·have eb:b'=true:=hb'.2 hc
    refine Fin.mk ?_ rfl rfl
    rw [eb,← hS]
    try rfl
   ·have eb:b'=false:=by
     cases hbb:b'
     ·rfl
     ·exact absurd (hb'.1 hbb) hc
    refine Fin.mk ?_ rfl rfl
    rw [eb,← hS]
    try rfl
  ·have hS:R=R':=hput.2 (by (first | omega | (simp only [cst] at *;omega) | (simp only [sm] at *;omega)))
   rw [← hS] at g6
   (refine callq (g6) rfl rfl ?_;cbv;(repeat' (first
| ((first
| (refine q1w (fun z hz=>?_);(try simp only at hz))
| refine rqa ?_
| refine chpA ?_
| refine QCt ?_
| refine QCf ?_);cbv)
| (refine QC.mk ?_ ?_ <;> intro hc <;> (try dsimp only at hc) <;> cbv)
| (refine br_mk2 ?_ ?_ <;> intro hb <;> (try subst hb) <;> cbv))))
   (refine callq (g7) rfl rfl ?_;cbv;(repeat' (first
| ((first
| (refine q1w (fun z hz=>?_);(try simp only at hz))
| refine rqa ?_
| refine chpA ?_
| refine QCt ?_
| refine QCf ?_);cbv)
| (refine QC.mk ?_ ?_ <;> intro hc <;> (try dsimp only at hc) <;> cbv)
| (refine br_mk2 ?_ ?_ <;> intro hb <;> (try subst hb) <;> cbv))))
   ·have eb:b'=true:=hb'.2 hc
    refine Fin.mk ?_ rfl rfl
    rw [eb,← hS]
    try rfl
   ·have eb:b'=false:=by
     cases hbb:b'
     ·rfl
     ·exact absurd (hb'.1 hbb) hc
    refine Fin.mk ?_ rfl rfl
    rw [eb,← hS]
    try rfl
end
section
open Go.RowKit
set_option maxHeartbeats 8000000
end
section
open Go.RowKit
set_option maxHeartbeats 8000000
noncomputable def vrc (r:Rcv):Bool:=@decide (VRc r.tag r.cnt r.ps r.hv r.dn) (Classical.propDecidable _)
theorem vrc_iff (r:Rcv):vrc r=true ↔ VRc r.tag r.cnt r.ps r.hv r.dn:=by rw [vrc];exact @decide_eq_true_iff _ (Classical.propDecidable _)
def zR:Rcv:=⟨0,0,[],0,false⟩
def recvN (tag cnt:Int) (ps:List (List UInt8)) (p:Pce):Rcv:=⟨tag,cnt,putP ps p.n.toNat p.d,hasN (putP ps p.n.toNat p.d) (putP ps p.n.toNat p.d).length,decide ((hasN (putP ps p.n.toNat p.d) (putP ps p.n.toNat p.d).length:Int)=allI ps.length)⟩
noncomputable def recvP (r:Rcv) (p:Pce):Rcv × Int :=
 if vrc r=false∨valP p.n p.c p.d.length=false then (zR,1)
 else if zeroB r.tag r.cnt r.ps.length r.hv r.dn=true then (recvN p.tag p.c (List.replicate p.c.toNat []) p,0)
 else if r.tag≠p.tag∨r.cnt≠p.c then (zR,9)
 else (recvN r.tag r.cnt r.ps p,0)
abbrev Rcv.w (r:Rcv) (R:List SV):SV:=.agg [.int .u8 r.tag,.int .i64 r.cnt,.lst none R,.int .u32 r.hv,.bool r.dn]
theorem zeroB_iff {tag cnt hv:Int} {n:Nat} {dn:Bool} (h:zeroB tag cnt n hv dn=true):tag=0∧cnt=0∧n=0∧hv=0∧dn=false:=by
 unfold zeroB at h
 simp at h
 exact ⟨h.2.1,h.2.2.1,h.2.2.2.1,h.2.2.2.2,h.1⟩
theorem recv_p (r:Rcv) (R:List SV) (hR:R=rowsB r.ps) (hf:r.fits) (p:Pce) (D:List SV) (hD:D=u8l p.d) (hd:p.d.length≤140737488351232) (r':Rcv) (R':List SV) (hR':R'=rowsB r'.ps) (e:Int) (hX:recvP r p=(r',e)) :
  Good 33 (pu [r.w R,.agg [.int .u8 p.tag,.int .i64 p.n,.int .i64 p.c,.bool p.ack,.lst none D]] (.tup [r'.w R',.int .u32 (if e=0 then (if p.ack=true then r'.hv else 0) else 0),.bool (if e=0 then p.ack else false),.int .i64 e])):=by
 have hDl:D.length=p.d.length:=by rw [hD,u8l_len]
 unfold recvP at hX
 split at hX
 ·rename_i h
  obtain ⟨rfl,rfl⟩:=Prod.mk.inj hX
  rw [hR']
  exact recv_no r.tag r.cnt r.hv r.dn r.ps R hR hf _ (vrc_iff r) p.tag p.n p.c p.ack D _ hDl h
 rename_i hno
 have hv:vrc r=true:=by cases h:vrc r;exact absurd (.inl h) hno;rfl
 have hp:valP p.n p.c p.d.length=true:=by cases h:valP p.n p.c p.d.length;exact absurd (.inr h) hno;rfl
 split at hX
 ·rename_i hz
  obtain ⟨rfl,rfl⟩:=Prod.mk.inj hX
  obtain ⟨z1,z2,z3,z4,z5⟩:=zeroB_iff hz
  have hR0:R=[]:=by rw [hR,List.length_eq_zero_iff.1 z3];rfl
  have g:=recv_z p.tag p.n p.c p.ack p.d D hD hd hp _ rfl _ rfl R' hR' _ rfl _ decide_eq_true_iff
  rw [Rcv.w,z1,z2,z4,z5,hR0]
  exact g
 rename_i hz
 have hz0:zeroB r.tag r.cnt r.ps.length r.hv r.dn=false:=by cases h:zeroB r.tag r.cnt r.ps.length r.hv r.dn;rfl;exact absurd h hz
 split at hX
 ·rename_i hne
  obtain ⟨rfl,rfl⟩:=Prod.mk.inj hX
  rw [hR']
  exact recv_mm r.tag r.cnt r.hv r.dn r.ps R hR hf ((vrc_iff r).1 hv) hz0 p.tag p.n p.c p.ack D _ hDl hp hne
 ·rename_i hne
  obtain ⟨rfl,rfl⟩:=Prod.mk.inj hX
  have ht:r.tag=p.tag:=Classical.byContradiction fun h=>hne (.inl h)
  have hc:r.cnt=p.c:=Classical.byContradiction fun h=>hne (.inr h)
  rw [← hc] at hp
  rw [← ht,← hc]
  exact recv_n r.tag r.cnt r.hv r.dn r.ps R hR hf ((vrc_iff r).1 hv) hz0 p.n p.ack p.d D hD hd hp R' hR' _ rfl _ decide_eq_true_iff
end
section
open Go.RowKit
set_option maxHeartbeats 8000000
theorem flat_take (ps:List (List UInt8)) (i:Nat) (b:List UInt8) (h:ps[i]?=some b):(ps.take (i+1)).flatten=(ps.take i).flatten++b:=by
 obtain ⟨h1,h2⟩:=List.getElem?_eq_some_iff.1 h
 rw [← h2,← List.take_append_getElem h1,List.flatten_append];simp
theorem flat_le (ps:List (List UInt8)) (i:Nat):(ps.take i).flatten.length≤ps.flatten.length:=by
 conv=>rhs;rw [← List.take_append_drop i ps,List.flatten_append,List.length_append]
 omega
theorem dgram_no (tag cnt hv:Int) (dn:Bool) (ps:List (List UInt8)) (R:List SV) (hR:R=rowsB ps) (hf:Rcv.fits ⟨tag,cnt,ps,hv,dn⟩) (b:Bool) (hb:b=true ↔ VRc tag cnt ps hv dn) (hno:b=false∨dn=false) :
  Good 37 (pu [.agg [.int .u8 tag,.int .i64 cnt,.lst none R,.int .u32 hv,.bool dn]] (.tup [.lst none [],.bool false])):=by
 have g1:=vreceiver_c tag cnt hv dn ps R hR hf b hb
 have hno:b=true→dn=false:=fun h=>by rcases hno with h2 | h2;rw [h] at h2;cases h2;exact h2
 clear hb
 refine Good.of Tryz.func37 rfl (by rfl) (by kernel_rfl) ?_
 cbv
 (repeat' (first
| ((first
| (refine q1w (fun z hz=>?_);(try simp only at hz))
| refine rqa ?_
| refine chpA ?_
| refine QCt ?_
| refine QCf ?_);cbv)
| (refine QC.mk ?_ ?_ <;> intro hc <;> (try dsimp only at hc) <;> cbv)
| (refine br_mk2 ?_ ?_ <;> intro hb <;> (try subst hb) <;> cbv)))
 (refine callq (g1) rfl rfl ?_;cbv;(repeat' (first
| ((first
| (refine q1w (fun z hz=>?_);(try simp only at hz))
| refine rqa ?_
| refine chpA ?_
| refine QCt ?_
| refine QCf ?_);cbv)
| (refine QC.mk ?_ ?_ <;> intro hc <;> (try dsimp only at hc) <;> cbv)
| (refine br_mk2 ?_ ?_ <;> intro hb <;> (try subst hb) <;> cbv))))
 all_goals first | exact ⟨rfl,rfl,rfl⟩ | skip
 all_goals exact nomatch hno rfl
theorem dgram_yes (tag cnt hv:Int) (ps:List (List UInt8)) (R:List SV) (hR:R=rowsB ps) (hf:Rcv.fits ⟨tag,cnt,ps,hv,true⟩) (hv1:VRc tag cnt ps hv true) (hl:ps.flatten.length≤140737488351232) (L:List SV) (hL:L=u8l ps.flatten) :
  Good 37 (pu [.agg [.int .u8 tag,.int .i64 cnt,.lst none R,.int .u32 hv,.bool true]] (.tup [.lst none L,.bool true])):=by
 have g1:=vreceiver_c tag cnt hv true ps R hR hf true ⟨fun _=>hv1,fun _=>rfl⟩
 have hRl:R.length=ps.length:=by rw [hR,rowsB_len]
 have hE:=fun i hi=>rowsB_at hR i hi
 obtain ⟨G,hG⟩:∃ G:Nat→List SV,∀ i,G i=u8l (ps.take i).flatten:=⟨_,fun _=>rfl⟩
 have hG0:G 0=[]:=by rw [hG];rfl
 have hGs:∀ i b,ps[i]?=some b→G i++u8l b=G (i+1):=fun i b h=>by rw [hG,hG,flat_take ps i b h,u8l_app]
 have hGl:∀ i,(G i).length≤140737488351232:=fun i=>by rw [hG,u8l_len];have:=flat_le ps i;omega
 have hGn:G ps.length=L:=by rw [hG,hL,List.take_length]
 have hfn:=hf.n
 clear hv1 hG hL hf
 refine Good.of Tryz.func37 rfl (by rfl) (by kernel_rfl) ?_
 cbv
 have hmk:True:=trivial
 (repeat' (first
| ((first
| (refine q1w (fun z hz=>?_);(try simp only at hz))
| refine rqa ?_
| refine chpA ?_
| refine QCt ?_
| refine QCf ?_);cbv)
| (refine QC.mk ?_ ?_ <;> intro hc <;> (try dsimp only at hc) <;> cbv)
| (refine br_mk2 ?_ ?_ <;> intro hb <;> (try subst hb) <;> cbv)))
 (refine callq (g1) rfl rfl ?_;cbv;(repeat' (first
| ((first
| (refine q1w (fun z hz=>?_);(try simp only at hz))
| refine rqa ?_
| refine chpA ?_
| refine QCt ?_
| refine QCf ?_);cbv)
| (refine QC.mk ?_ ?_ <;> intro hc <;> (try dsimp only at hc) <;> cbv)
| (refine br_mk2 ?_ ?_ <;> intro hb <;> (try subst hb) <;> cbv))))
 refine loopQ (A:=Nat × Int) (fun p=>p.2=p.1∧p.1≤ps.length) (fun p=>ps.length - p.1) (fun p=>[(18,.int .i64 p.2),(4,.row 4)]) (fun p=>[(4,.row none 5 (G p.1))]) (0,0) ⟨rfl,Nat.zero_le _⟩ ?_ ?_
 ·cbv
  refine ⟨?_,trivial⟩
  show Blk.row none 5 []=.row none 5 (G 0)
  rw [hG0]
 ·intro ⟨i,j⟩ hh
  have hj:j=(i:Int):=hh.1
  have hi:i≤ps.length:=hh.2
  clear hh
  have hmq:True:=trivial
  cbv
  (repeat' (first
| ((first
| (refine q1w (fun z hz=>?_);(try simp only at hz))
| refine rqa ?_
| refine chpA ?_
| refine QCt ?_
| refine QCf ?_);cbv)
| (refine QC.mk ?_ ?_ <;> intro hc <;> (try dsimp only at hc) <;> cbv)
| (refine br_mk2 ?_ ?_ <;> intro hb <;> (try subst hb) <;> cbv)))
  ·have hlt:i < ps.length:=by (first | omega | (simp only [cst] at *;omega) | (simp only [sm] at *;omega))
   obtain ⟨b,B,hbi,hB,hEi⟩:=hE i hlt
   have hs:=hGs i b hbi
   rw [← hB] at hs
   have h1:=hGl (i+1)
   rw [← hs,List.length_append] at h1
   (refine qv (i,_) ⟨hj,hEi⟩ ?_;cbv;(repeat' (first
| ((first
| (refine q1w (fun z hz=>?_);(try simp only at hz))
| refine rqa ?_
| refine chpA ?_
| refine QCt ?_
| refine QCf ?_);cbv)
| (refine QC.mk ?_ ?_ <;> intro hc <;> (try dsimp only at hc) <;> cbv)
| (refine br_mk2 ?_ ?_ <;> intro hb <;> (try subst hb) <;> cbv))))
   refine ⟨(i+1,z),⟨by show z=((i+1:Nat):Int);(first | omega | (simp only [cst] at *;omega) | (simp only [sm] at *;omega)),by show i+1≤ps.length;omega⟩,by show ps.length - (i+1) < ps.length - i;omega,?_⟩
   cbv
   refine ⟨?_,trivial⟩
   show Blk.row none 5 (apL (G i) B)=.row none 5 (G (i+1))
   rw [apL_eq,hs]
  ·have e:i=ps.length:=by (first | omega | (simp only [cst] at *;omega) | (simp only [sm] at *;omega))
   refine Fin.mk ?_ rfl rfl
   show SV.tup [.lst none (G i),_]=_
   rw [e,hGn]
end
end Go.Proofs.YtgfpjhddojhfpaaGreat
