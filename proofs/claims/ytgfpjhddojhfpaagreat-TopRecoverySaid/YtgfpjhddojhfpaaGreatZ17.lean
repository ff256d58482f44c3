/- Texts put together: VB VC VD VA VF RO. -/
import Derived.Test.YtgfpjhddojhfpaaGreatZ03
import Derived.Test.YtgfpjhddojhfpaaGreatZ04
import Derived.Test.YtgfpjhddojhfpaaGreatZ16
import Derived.RangeFuncBound
import Derived.RangeFuncCalls
import Derived.RangeFuncLeaves
import Derived.Shelf.Abstract
import Derived.WalkKit
import Derived.OwnWalkIn
import Derived.TacticsInMore
import Derived.LoopNIn
import Derived.LoopIn
namespace Go.Proofs.YtgfpjhddojhfpaaGreat
set_option linter.unusedVariables false
set_option linter.unusedSimpArgs false
section
open Go.RowKit
def rowsB (l:List (List UInt8)):List SV:=l.map fun b=>.lst none (u8l b)
theorem rowsB_len (l:List (List UInt8)):(rowsB l).length=l.length:=by simp [rowsB]
theorem rowsB_at {l:List (List UInt8)} {R:List SV} (hR:R=rowsB l) (i:Nat) (hi:i < l.length):∃ b B,l[i]?=some b∧B=u8l b∧R[i]?=some (.lst none B) :=
 ⟨l[i],_,List.getElem?_eq_getElem hi,rfl,by rw [hR];simp [rowsB,hi]⟩
def bm (f:Nat→Bool):Nat→Nat
 | 0=>0
 | n+1=>bm f n+if f n then 2 ^ n else 0
theorem bm_lt (f:Nat→Bool):∀ n,bm f n < 2 ^ n
 | 0=>by simp [bm]
 | n+1=>by
  have:=bm_lt f n
  rw [bm,Nat.pow_succ]
  split <;> omega
theorem bm_or (f:Nat→Bool) (n:Nat) (h:f n=true):bm f n ||| 2 ^ n=bm f (n+1):=by
 rw [bm,if_pos h,Nat.or_comm,Nat.add_comm]
 have:=Nat.two_pow_add_eq_or_of_lt (bm_lt f n) 1
 simpa using this.symm
theorem bm_bit (f:Nat→Bool):∀ n i,(bm f n).testBit i=(decide (i < n) && f i)
 | 0,i=>by simp [bm]
 | n+1,i=>by
  rw [bm]
  by_cases h:f n=true
  ·rw [if_pos h]
   have:=Nat.two_pow_add_eq_or_of_lt (bm_lt f n) 1
   rw [Nat.add_comm,show 2 ^ n=2 ^ n * 1 by omega,this,Nat.testBit_or,bm_bit f n i]
   simp only [Nat.mul_one,Nat.testBit_two_pow]
   by_cases hi:i=n
   ·subst hi;simp [h]
   ·have e1:decide (n=i)=false:=decide_eq_false (by omega)
    rw [e1,Bool.false_or]
    congr 1
    exact decide_eq_decide.2 (by omega)
  ·rw [if_neg h,Nat.add_zero,bm_bit f n i]
   by_cases hi:i=n
   ·subst hi;simp at h;simp [h]
   ·congr 1
    exact decide_eq_decide.2 (by omega)
theorem bm_full (f:Nat→Bool) (n:Nat):bm f n=2 ^ n - 1 ↔ ∀ i,i < n→f i=true:=by
 constructor
 ·intro h i hi
  have:=bm_bit f n i
  rw [h,Nat.testBit_two_pow_sub_one] at this
  simpa [hi] using this.symm
 ·intro h
  apply Nat.eq_of_testBit_eq
  intro i
  rw [bm_bit,Nat.testBit_two_pow_sub_one]
  by_cases hi:i < n
  ·simp [hi,h i hi]
  ·simp [hi]
def hasN (ps:List (List UInt8)) (n:Nat):Nat:=bm (fun i=>decide (0 < (ps.getD i []).length)) n
structure Snd where
 st:Int
 tag:Int
 ps:List (List UInt8)
 ak:Int
 rd:Int
 un:Int
def Snd.v (s:Snd):SV:=.agg [.int .i64 s.st,.int .u8 s.tag,.lst none (rowsB s.ps),.int .u32 s.ak,.int .i64 s.rd,.int .i64 s.un]
def allI (n:Nat):Int:=2 ^ n - 1
theorem allI_nat (n:Nat):allI n=((2 ^ n - 1:Nat):Int):=by
 have:1≤2 ^ n:=Nat.one_le_two_pow
 rw [allI]
 rw [Int.natCast_sub this]
 simp
theorem allI_b {n:Nat} (h:n≤32):0≤allI n∧allI n≤4294967295:=by
 have h1:(2:Nat) ^ n≤2 ^ 32:=Nat.pow_le_pow_right (by omega) h
 have h2:1≤2 ^ n:=Nat.one_le_two_pow
 rw [allI_nat]
 omega
structure VS (s:Snd):Prop where
 n1:1≤s.ps.length
 n2:s.ps.length≤32
 ne:∀ p∈s.ps,p≠[]
 ak:s.ak≤allI s.ps.length
 r1:0≤s.rd
 r2:s.rd≤8
 u1:0≤s.un
 u2:s.un≤1099511627776
 d:s.ak=allI s.ps.length→s.st=2
 a:s.ak≠allI s.ps.length→s.st=1∨s.st=3
structure Snd.fits (s:Snd):Prop where
 st:-9223372036854775808≤s.st∧s.st≤9223372036854775807
 tag:0≤s.tag∧s.tag≤255
 ak:0≤s.ak∧s.ak≤4294967295
 rd:-9223372036854775808≤s.rd∧s.rd≤9223372036854775807
 un:-9223372036854775808≤s.un∧s.un≤9223372036854775807
 n:s.ps.length≤5864062014805
 b:∀ p∈s.ps,p.length≤140737488351232
end
section
open Go.RowKit
set_option maxHeartbeats 4000000
theorem cloned_c (b:List UInt8) (B:List SV) (hB:B=u8l b) (hb:b.length≤140737488351232):Good 75 (pu [.lst none B] (.lst none B)):=by
 have hl:B.length=b.length:=by rw [hB,u8l_len]
 refine Good.of Tryz.func75 rfl (by rfl) (by kernel_rfl) ?_
 cbv
 (repeat' (first
| ((first
| (refine q1w (fun z hz=>?_);(try simp only at hz))
| refine rqa ?_
| refine chpA ?_
| refine QCt ?_
| refine QCf ?_);cbv)
| (refine QC.mk ?_ ?_ <;> intro hc <;> (try dsimp only at hc) <;> cbv)
| (refine br_mk2 ?_ ?_ <;> intro hb <;> (try subst hb) <;> cbv)))
 refine ⟨?_,rfl,rfl⟩
 simp only [sm]
 rename_i z0 hz0
 have e:z0.toNat=B.length:=by (first | omega | (simp only [cst] at *;omega) | (simp only [sm] at *;omega))
 rw [e]
 simp
theorem all_c (n:Nat) (N A:Int) (hN:N=n) (hn:n≤32) (hA:A=allI n):Good 83 (pu [.int .i64 N] (.int .u32 A)):=by
 have hb:=allI_b hn
 refine Good.of Tryz.func83 rfl (by rfl) (by kernel_rfl) ?_
 cbv
 (repeat' (first
| ((first
| (refine q1w (fun z hz=>?_);(try simp only at hz))
| refine rqa ?_
| refine chpA ?_
| refine QCt ?_
| refine QCf ?_);cbv)
| (refine QC.mk ?_ ?_ <;> intro hc <;> (try dsimp only at hc) <;> cbv)
| (refine br_mk2 ?_ ?_ <;> intro hb <;> (try subst hb) <;> cbv)))
 rename_i z1 h1 z2 h2
 have e0:N.toNat=n:=by (first | omega | (simp only [cst] at *;omega) | (simp only [sm] at *;omega))
 rw [e0] at h1
 have e1:(2:Int) ^ n=allI n+1:=by rw [allI];omega
 rw [e1] at h1
 refine ⟨?_,rfl,rfl⟩
 have:z=A:=by omega
 rw [this]
theorem has_c (ps:List (List UInt8)) (R:List SV) (hR:R=rowsB ps) (hn:ps.length≤32) (hb:∀ p∈ps,p.length≤140737488351232) (h:Int) (hh:h=hasN ps ps.length):Good 82 (pu [.lst none R] (.int .u32 h)):=by
 have hRl:R.length=ps.length:=by rw [hR,rowsB_len]
 have hE:=fun i hi=>rowsB_at hR i hi
 obtain ⟨H,hH⟩:∃ H:Nat→Int,∀ i,H i=hasN ps i:=⟨_,fun _=>rfl⟩
 have hHb:∀ i,i≤32→0≤H i∧H i≤4294967295:=fun i hi=>by
  have h1:=bm_lt (fun i=>decide (0 < (ps.getD i []).length)) i
  have h2:(2:Nat) ^ i≤2 ^ 32:=Nat.pow_le_pow_right (by omega) hi
  rw [hH,hasN]
  omega
 have hHs:∀ i b,ps[i]?=some b→(0 < b.length→(((H i).toNat ||| (2 ^ i:Nat):Nat):Int)=H (i+1))∧(¬ 0 < b.length→H i=H (i+1)):=fun i b hib=>by
  have hg:ps.getD i []=b:=by rw [List.getD_eq_getElem?_getD,hib];rfl
  refine ⟨fun hp=>?_,fun hp=>?_⟩
  ·rw [hH,hH,hasN,hasN,Int.toNat_natCast,bm_or _ _ (by rw [hg];simpa using hp)]
  ·rw [hH,hH,hasN,hasN,bm,if_neg (by rw [hg];simpa using hp),Nat.add_zero]
 have hH0:(0:Int)=H 0:=by rw [hH];rfl
 rw [← hH] at hh
 clear hH
 refine Good.of Tryz.func82 rfl (by rfl) (by kernel_rfl) ?_
 cbv
 (repeat' (first
| ((first
| (refine q1w (fun z hz=>?_);(try simp only at hz))
| refine rqa ?_
| refine chpA ?_
| refine QCt ?_
| refine QCf ?_);cbv)
| (refine QC.mk ?_ ?_ <;> intro hc <;> (try dsimp only at hc) <;> cbv)
| (refine br_mk2 ?_ ?_ <;> intro hb <;> (try subst hb) <;> cbv)))
 refine loopQ (A:=Nat × Int × Int) (fun p=>p.2.1=p.1∧p.1≤ps.length∧p.2.2=H p.1) (fun p=>ps.length - p.1) (fun p=>[(8,.int .i64 p.2.1),(3,.int .u32 p.2.2)]) (fun p=>[]) (0,0,0) ⟨rfl,Nat.zero_le _,hH0⟩ ?_ ?_
 ·cbv
 ·intro ⟨i,j,x⟩ hi0
  have hj:j=(i:Int):=hi0.1
  have hi:i≤ps.length:=hi0.2.1
  have hx:x=H i:=hi0.2.2
  clear hi0
  have hmk:True:=trivial
  have hHi:=hHb i (by omega)
  cbv
  (repeat' (first
| ((first
| (refine q1w (fun z hz=>?_);(try simp only at hz))
| refine rqa ?_
| refine chpA ?_
| refine QCt ?_
| refine QCf ?_);cbv)
| (refine QC.mk ?_ ?_ <;> intro hc <;> (try dsimp only at hc) <;> cbv)
| (refine br_mk2 ?_ ?_ <;> intro hb <;> (try subst hb) <;> cbv)))
  ·have hlt:i < ps.length:=by (first | omega | (simp only [cst] at *;omega) | (simp only [sm] at *;omega))
   obtain ⟨b,B,hbi,hB,hEi⟩:=hE i hlt
   have hBl:B.length=b.length:=by rw [hB,u8l_len]
   have hs:=hHs i b hbi
   have hbl:=hb b (List.mem_of_getElem? hbi)
   (refine qv (i,_) ⟨hj,hEi⟩ ?_;cbv;(repeat' (first
| ((first
| (refine q1w (fun z hz=>?_);(try simp only at hz))
| refine rqa ?_
| refine chpA ?_
| refine QCt ?_
| refine QCf ?_);cbv)
| (refine QC.mk ?_ ?_ <;> intro hc <;> (try dsimp only at hc) <;> cbv)
| (refine br_mk2 ?_ ?_ <;> intro hb <;> (try subst hb) <;> cbv))))
   ·rename_i zs hzs zo hzo
    have hp:0 < b.length:=by (first | omega | (simp only [cst] at *;omega) | (simp only [sm] at *;omega))
    have ej:j.toNat=i:=by (first | omega | (simp only [cst] at *;omega) | (simp only [sm] at *;omega))
    have e2:(2:Nat) ^ i < 4294967296:=by
     have:(2:Nat) ^ i≤2 ^ 31:=Nat.pow_le_pow_right (by omega) (by omega)
     omega
    have e3:zs=((2 ^ i:Nat):Int):=by
     rw [hzs,ej,Int.one_mul]
     have:(2:Int) ^ i=((2 ^ i:Nat):Int):=by simp
     have e5:∀ p:Nat,p < 4294967296→(p:Int) % 4294967296=p:=fun p hp=>by omega
     rw [this]
     exact e5 _ e2
    have e4:zo=H (i+1):=by
     rw [hzo,hx,e3,Int.toNat_natCast]
     exact hs.1 hp
    refine ⟨(i+1,z,zo),⟨by show z=((i+1:Nat):Int);(first | omega | (simp only [cst] at *;omega) | (simp only [sm] at *;omega)),by show i+1≤ps.length;omega,e4⟩,by show ps.length - (i+1) < ps.length - i;omega,?_⟩
    cbv
   ·have hp:¬ 0 < b.length:=by (first | omega | (simp only [cst] at *;omega) | (simp only [sm] at *;omega))
    refine ⟨(i+1,z,x),⟨by show z=((i+1:Nat):Int);(first | omega | (simp only [cst] at *;omega) | (simp only [sm] at *;omega)),by show i+1≤ps.length;omega,by show x=H (i+1);rw [hx];exact hs.2 hp⟩,by show ps.length - (i+1) < ps.length - i;omega,?_⟩
    cbv
  ·have e:i=ps.length:=by (first | omega | (simp only [cst] at *;omega) | (simp only [sm] at *;omega))
   refine ⟨?_,rfl,rfl⟩
   rw [hx,hh,e]
theorem clonedPieces_c (ps:List (List UInt8)) (R:List SV) (hR:R=rowsB ps) (hn:ps.length≤5864062014805) (hb:∀ p∈ps,p.length≤140737488351232):Good 77 (pu [.lst none R] (.lst none R)):=by
 have hRl:R.length=ps.length:=by rw [hR,rowsB_len]
 have hE:=fun i hi=>rowsB_at hR i hi
 obtain ⟨H,hH⟩:∃ H:Nat→List SV,∀ i,H i=R.take i++List.replicate (R.length - i) .nil:=⟨_,fun _=>rfl⟩
 have hH0:List.replicate R.length SV.nil=H 0:=by rw [hH];simp
 have hHl:∀ i,i≤R.length→(H i).length=R.length:=fun i hi=>by rw [hH];simp;omega
 have hHs:∀ i y,R[i]?=some y→(H i).set i y=H (i+1):=fun i y hy=>by
  obtain ⟨h1,h2⟩:=List.getElem?_eq_some_iff.1 hy
  rw [hH,hH]
  apply List.ext_getElem?
  intro k
  rw [List.getElem?_set]
  by_cases hk:i=k
  ·subst hk
   rw [if_pos rfl,if_pos (by simp;omega),List.getElem?_append_left (by simp;omega),List.getElem?_take,if_pos (by omega),hy]
  ·rw [if_neg hk]
   by_cases h3:k < i
   ·rw [List.getElem?_append_left (by simp;omega),List.getElem?_append_left (by simp;omega),List.getElem?_take,List.getElem?_take,if_pos h3,if_pos (by omega)]
   ·rw [List.getElem?_append_right (by simp;omega),List.getElem?_append_right (by simp;omega),List.getElem?_replicate,List.getElem?_replicate]
    simp only [List.length_take]
    by_cases h4:k < R.length
    ·rw [if_pos (by omega),if_pos (by omega)]
    ·rw [if_neg (by omega),if_neg (by omega)]
 have hHn:H R.length=R:=by rw [hH];simp
 clear hH
 refine Good.of Tryz.func77 rfl (by rfl) (by kernel_rfl) ?_
 cbv
 (repeat' (first
| ((first
| (refine q1w (fun z hz=>?_);(try simp only at hz))
| refine rqa ?_
| refine chpA ?_
| refine QCt ?_
| refine QCf ?_);cbv)
| (refine QC.mk ?_ ?_ <;> intro hc <;> (try dsimp only at hc) <;> cbv)
| (refine br_mk2 ?_ ?_ <;> intro hb <;> (try subst hb) <;> cbv)))
 refine loopQ (A:=Nat × Int) (fun p=>p.2=p.1∧p.1≤ps.length) (fun p=>ps.length - p.1) (fun p=>[(11,.int .i64 p.2),(3,.row 8)]) (fun p=>[(8,.row none 30 (H p.1))]) (0,0) ⟨rfl,Nat.zero_le _⟩ ?_ ?_
 ·cbv
  rename_i z0 hz0
  refine ⟨?_,trivial⟩
  show Blk.row none 30 (O.rp z0 .nil)=.row none 30 (H 0)
  rw [orp,← hH0,show z0.toNat=R.length by (first | omega | (simp only [cst] at *;omega) | (simp only [sm] at *;omega))]
 ·intro ⟨i,j⟩ hi0
  have hj:j=(i:Int):=hi0.1
  have hi:i≤ps.length:=hi0.2
  clear hi0
  have hmk:True:=trivial
  have hli:=hHl i (by omega)
  cbv
  (repeat' (first
| ((first
| (refine q1w (fun z hz=>?_);(try simp only at hz))
| refine rqa ?_
| refine chpA ?_
| refine QCt ?_
| refine QCf ?_);cbv)
| (refine QC.mk ?_ ?_ <;> intro hc <;> (try dsimp only at hc) <;> cbv)
| (refine br_mk2 ?_ ?_ <;> intro hb <;> (try subst hb) <;> cbv)))
  ·have hlt:i < ps.length:=by (first | omega | (simp only [cst] at *;omega) | (simp only [sm] at *;omega))
   obtain ⟨b,B,hbi,hB,hEi⟩:=hE i hlt
   have hbl:=hb b (List.mem_of_getElem? hbi)
   have g1:=cloned_c b B hB hbl
   have hs:=hHs i _ hEi
   (refine qv (i,_) ⟨hj,hEi⟩ ?_;cbv;(repeat' (first
| ((first
| (refine q1w (fun z hz=>?_);(try simp only at hz))
| refine rqa ?_
| refine chpA ?_
| refine QCt ?_
| refine QCf ?_);cbv)
| (refine QC.mk ?_ ?_ <;> intro hc <;> (try dsimp only at hc) <;> cbv)
| (refine br_mk2 ?_ ?_ <;> intro hb <;> (try subst hb) <;> cbv))))
   (refine callq (g1) rfl rfl ?_;cbv;(repeat' (first
| ((first
| (refine q1w (fun z hz=>?_);(try simp only at hz))
| refine rqa ?_
| refine chpA ?_
| refine QCt ?_
| refine QCf ?_);cbv)
| (refine QC.mk ?_ ?_ <;> intro hc <;> (try dsimp only at hc) <;> cbv)
| (refine br_mk2 ?_ ?_ <;> intro hb <;> (try subst hb) <;> cbv))))
   refine qv i ⟨hj,by show i < O.ln (H i);rw [oln];omega⟩ ?_
   cbv
   (repeat' (first
| ((first
| (refine q1w (fun z hz=>?_);(try simp only at hz))
| refine rqa ?_
| refine chpA ?_
| refine QCt ?_
| refine QCf ?_);cbv)
| (refine QC.mk ?_ ?_ <;> intro hc <;> (try dsimp only at hc) <;> cbv)
| (refine br_mk2 ?_ ?_ <;> intro hb <;> (try subst hb) <;> cbv)))
   refine ⟨(i+1,z),⟨by show z=((i+1:Nat):Int);(first | omega | (simp only [cst] at *;omega) | (simp only [sm] at *;omega)),by show i+1≤ps.length;omega⟩,by show ps.length - (i+1) < ps.length - i;omega,?_⟩
   cbv
   refine ⟨?_,trivial⟩
   show Blk.row none 30 (O.st (H i) i (.lst none B))=.row none 30 (H (i+1))
   rw [ost,hs]
  ·have e:i=ps.length:=by (first | omega | (simp only [cst] at *;omega) | (simp only [sm] at *;omega))
   refine ⟨?_,rfl,rfl⟩
   show SV.lst none (H i)=_
   rw [e,← hRl,hHn]
end
section
open Go.RowKit
set_option maxHeartbeats 8000000
theorem xor_zero (a b:Nat):a ^^^ b=0 ↔ a=b:=by
 constructor
 ·intro h
  apply Nat.eq_of_testBit_eq
  intro i
  have h1:(a ^^^ b).testBit i=false:=by rw [h];simp
  rw [Nat.testBit_xor] at h1
  cases h2:a.testBit i <;> cases h3:b.testBit i <;> simp_all
 ·rintro rfl;exact Nat.xor_self a
theorem andNot_all (a:Int) (n:Nat) (h0:0≤a):(a.toNat ^^^ (a.toNat &&& (allI n).toNat)=0 ↔ a≤allI n):=by
 have e:(allI n).toNat=2 ^ n - 1:=by rw [allI_nat,Int.toNat_natCast]
 have h1:1≤2 ^ n:=Nat.one_le_two_pow
 rw [e,Nat.and_two_pow_sub_one_eq_mod,xor_zero,allI_nat]
 constructor
 ·intro h
  have:=Nat.mod_lt a.toNat (show 0 < 2 ^ n by omega)
  omega
 ·intro h
  exact (Nat.mod_eq_of_lt (by omega)).symm
theorem hasN_full (ps:List (List UInt8)):((hasN ps ps.length:Nat):Int)=allI ps.length ↔ ∀ p∈ps,p≠[]:=by
 rw [allI_nat]
 constructor
 ·intro h p hp
  obtain ⟨i,hi,rfl⟩:=List.mem_iff_getElem.1 hp
  have:=(bm_full _ _).1 (show hasN ps ps.length=2 ^ ps.length - 1 by omega) i hi
  simp only [List.getD_eq_getElem?_getD,List.getElem?_eq_getElem hi,Option.getD_some,decide_eq_true_eq] at this
  intro e;rw [e] at this;simp at this
 ·intro h
  have:=(bm_full (fun i=>decide (0 < (ps.getD i []).length)) ps.length).2 (fun i hi=>by
   simp only [List.getD_eq_getElem?_getD,List.getElem?_eq_getElem hi,Option.getD_some,decide_eq_true_eq]
   have:=h ps[i] (List.getElem_mem hi)
   cases hq:ps[i] with
   | nil=>exact absurd hq this
   | cons a l=>simp)
  exact congrArg _ this
theorem vsender_c (st tag ak rd un:Int) (ps:List (List UInt8)) (R:List SV) (hR:R=rowsB ps) (hf:Snd.fits ⟨st,tag,ps,ak,rd,un⟩) (b:Bool) (hb:b=true ↔ VS ⟨st,tag,ps,ak,rd,un⟩) :
  Good 76 (pu [.agg [.int .i64 st,.int .u8 tag,.lst none R,.int .u32 ak,.int .i64 rd,.int .i64 un]] (.bool b)):=by
 have hRl:R.length=ps.length:=by rw [hR,rowsB_len]
 have hfb:=hf.b
 have hak:=hf.ak
 have hfull:=hasN_full ps
 have han:=andNot_all ak ps.length hf.ak.1
 have g1:ps.length≤32→Good 82 (pu [.lst none R] (.int .u32 (hasN ps ps.length))):=fun hn=>has_c ps R hR hn hfb _ rfl
 have g2:∀ N:Int,N=ps.length→ps.length≤32→Good 83 (pu [.int .i64 N] (.int .u32 (allI ps.length))):=fun N hN hn=>all_c ps.length N _ hN hn rfl
 have hAb:=fun hn=>allI_b (n:=ps.length) hn
 obtain ⟨h,hh⟩:∃ h:Int,h=hasN ps ps.length:=⟨_,rfl⟩
 obtain ⟨A,hA⟩:∃ A:Int,A=allI ps.length:=⟨_,rfl⟩
 rw [← hh] at hfull g1
 rw [← hA] at hfull han hAb g2
 refine Good.of Tryz.func76 rfl (by rfl) (by kernel_rfl) ?_
 cbv
 have hmk:True:=trivial
 (repeat' (first
| ((first
| (refine q1w (fun z hz=>?_);(try simp only at hz))
| refine rqa ?_
| refine chpA ?_
| refine QCt ?_
| refine QCf ?_);cbv)
| (refine QC.mk ?_ ?_ <;> intro hc <;> (try dsimp only at hc) <;> cbv)
| (refine br_mk2 ?_ ?_ <;> intro hb <;> (try subst hb) <;> cbv)))
 all_goals first
  | (refine Fin.mk ?_ rfl rfl
     have:b=false:=by
      cases hb0:b
      ·rfl
      ·exfalso
       have v:=hb.1 hb0
       have n1:=v.n1
       have n2:=v.n2
       have ne:=hfull.2 v.ne
       have ak:=v.ak
       have r1:=v.r1
       have r2:=v.r2
       have u1:=v.u1
       have u2:=v.u2
       have d:=v.d
       have a:=v.a
       clear hb v
       dsimp only at *
       (first | omega | (simp only [cst] at *;omega) | (simp only [sm] at *;omega))
     rw [this];done)
  | (refine Fin.mk ?_ rfl rfl
     have:b=true:=hb.2 ⟨by dsimp only;(first | omega | (simp only [cst] at *;omega) | (simp only [sm] at *;omega)),by dsimp only;(first | omega | (simp only [cst] at *;omega) | (simp only [sm] at *;omega)),hfull.1 (by (first | omega | (simp only [cst] at *;omega) | (simp only [sm] at *;omega))),by dsimp only;(first | omega | (simp only [cst] at *;omega) | (simp only [sm] at *;omega)),by dsimp only;(first | omega | (simp only [cst] at *;omega) | (simp only [sm] at *;omega)),by dsimp only;(first | omega | (simp only [cst] at *;omega) | (simp only [sm] at *;omega)),by dsimp only;(first | omega | (simp only [cst] at *;omega) | (simp only [sm] at *;omega)),by dsimp only;(first | omega | (simp only [cst] at *;omega) | (simp only [sm] at *;omega)),by dsimp only;intro h0;(first | omega | (simp only [cst] at *;omega) | (simp only [sm] at *;omega)),by dsimp only;intro h0;(first | omega | (simp only [cst] at *;omega) | (simp only [sm] at *;omega))⟩
     rw [this];done)
  | skip
 have hn:ps.length≤32:=by (first | omega | (simp only [cst] at *;omega) | (simp only [sm] at *;omega))
 have hAb:=hAb hn
 have g1:=g1 hn
 (refine callq (g1) rfl rfl ?_;cbv;(repeat' (first
| ((first
| (refine q1w (fun z hz=>?_);(try simp only at hz))
| refine rqa ?_
| refine chpA ?_
| refine QCt ?_
| refine QCf ?_);cbv)
| (refine QC.mk ?_ ?_ <;> intro hc <;> (try dsimp only at hc) <;> cbv)
| (refine br_mk2 ?_ ?_ <;> intro hb <;> (try subst hb) <;> cbv))))
 have g2:=g2 z (by (first | omega | (simp only [cst] at *;omega) | (simp only [sm] at *;omega))) hn
 (refine callq (g2) rfl rfl ?_;cbv;(repeat' (first
| ((first
| (refine q1w (fun z hz=>?_);(try simp only at hz))
| refine rqa ?_
| refine chpA ?_
| refine QCt ?_
| refine QCf ?_);cbv)
| (refine QC.mk ?_ ?_ <;> intro hc <;> (try dsimp only at hc) <;> cbv)
| (refine br_mk2 ?_ ?_ <;> intro hb <;> (try subst hb) <;> cbv))))
 all_goals first
  | (refine Fin.mk ?_ rfl rfl
     have:b=false:=by
      cases hb0:b
      ·rfl
      ·exfalso
       have v:=hb.1 hb0
       have n1:=v.n1
       have n2:=v.n2
       have ne:=hfull.2 v.ne
       have ak:=v.ak
       have r1:=v.r1
       have r2:=v.r2
       have u1:=v.u1
       have u2:=v.u2
       have d:=v.d
       have a:=v.a
       clear hb v
       dsimp only at *
       (first | omega | (simp only [cst] at *;omega) | (simp only [sm] at *;omega))
     rw [this];done)
  | (refine Fin.mk ?_ rfl rfl
     have:b=true:=hb.2 ⟨by dsimp only;(first | omega | (simp only [cst] at *;omega) | (simp only [sm] at *;omega)),by dsimp only;(first | omega | (simp only [cst] at *;omega) | (simp only [sm] at *;omega)),hfull.1 (by (first | omega | (simp only [cst] at *;omega) | (simp only [sm] at *;omega))),by dsimp only;(first | omega | (simp only [cst] at *;omega) | (simp only [sm] at *;omega)),by dsimp only;(first | omega | (simp only [cst] at *;omega) | (simp only [sm] at *;omega)),by dsimp only;(first | omega | (simp only [cst] at *;omega) | (simp only [sm] at *;omega)),by dsimp only;(first | omega | (simp only [cst] at *;omega) | (simp only [sm] at *;omega)),by dsimp only;(first | omega | (simp only [cst] at *;omega) | (simp only [sm] at *;omega)),by dsimp only;intro h0;(first | omega | (simp only [cst] at *;omega) | (simp only [sm] at *;omega)),by dsimp only;intro h0;(first | omega | (simp only [cst] at *;omega) | (simp only [sm] at *;omega))⟩
     rw [this];done)
  | skip
 (refine callq (g2) rfl rfl ?_;cbv;(repeat' (first
| ((first
| (refine q1w (fun z hz=>?_);(try simp only at hz))
| refine rqa ?_
| refine chpA ?_
| refine QCt ?_
| refine QCf ?_);cbv)
| (refine QC.mk ?_ ?_ <;> intro hc <;> (try dsimp only at hc) <;> cbv)
| (refine br_mk2 ?_ ?_ <;> intro hb <;> (try subst hb) <;> cbv))))
 all_goals first
  | (refine Fin.mk ?_ rfl rfl
     have:b=false:=by
      cases hb0:b
      ·rfl
      ·exfalso
       have v:=hb.1 hb0
       have n1:=v.n1
       have n2:=v.n2
       have ne:=hfull.2 v.ne
       have ak:=v.ak
       have r1:=v.r1
       have r2:=v.r2
       have u1:=v.u1
       have u2:=v.u2
       have d:=v.d
       have a:=v.a
       clear hb v
       dsimp only at *
       (first | omega | (simp only [cst] at *;omega) | (simp only [sm] at *;omega))
     rw [this];done)
  | (refine Fin.mk ?_ rfl rfl
     have:b=true:=hb.2 ⟨by dsimp only;(first | omega | (simp only [cst] at *;omega) | (simp only [sm] at *;omega)),by dsimp only;(first | omega | (simp only [cst] at *;omega) | (simp only [sm] at *;omega)),hfull.1 (by (first | omega | (simp only [cst] at *;omega) | (simp only [sm] at *;omega))),by dsimp only;(first | omega | (simp only [cst] at *;omega) | (simp only [sm] at *;omega)),by dsimp only;(first | omega | (simp only [cst] at *;omega) | (simp only [sm] at *;omega)),by dsimp only;(first | omega | (simp only [cst] at *;omega) | (simp only [sm] at *;omega)),by dsimp only;(first | omega | (simp only [cst] at *;omega) | (simp only [sm] at *;omega)),by dsimp only;(first | omega | (simp only [cst] at *;omega) | (simp only [sm] at *;omega)),by dsimp only;intro h0;(first | omega | (simp only [cst] at *;omega) | (simp only [sm] at *;omega)),by dsimp only;intro h0;(first | omega | (simp only [cst] at *;omega) | (simp only [sm] at *;omega))⟩
     rw [this];done)
  | skip
 (refine callq (g2) rfl rfl ?_;cbv;(repeat' (first
| ((first
| (refine q1w (fun z hz=>?_);(try simp only at hz))
| refine rqa ?_
| refine chpA ?_
| refine QCt ?_
| refine QCf ?_);cbv)
| (refine QC.mk ?_ ?_ <;> intro hc <;> (try dsimp only at hc) <;> cbv)
| (refine br_mk2 ?_ ?_ <;> intro hb <;> (try subst hb) <;> cbv))))
 all_goals first
  | (refine Fin.mk ?_ rfl rfl
     have:b=false:=by
      cases hb0:b
      ·rfl
      ·exfalso
       have v:=hb.1 hb0
       have n1:=v.n1
       have n2:=v.n2
       have ne:=hfull.2 v.ne
       have ak:=v.ak
       have r1:=v.r1
       have r2:=v.r2
       have u1:=v.u1
       have u2:=v.u2
       have d:=v.d
       have a:=v.a
       clear hb v
       dsimp only at *
       (first | omega | (simp only [cst] at *;omega) | (simp only [sm] at *;omega))
     rw [this];done)
  | (refine Fin.mk ?_ rfl rfl
     have:b=true:=hb.2 ⟨by dsimp only;(first | omega | (simp only [cst] at *;omega) | (simp only [sm] at *;omega)),by dsimp only;(first | omega | (simp only [cst] at *;omega) | (simp only [sm] at *;omega)),hfull.1 (by (first | omega | (simp only [cst] at *;omega) | (simp only [sm] at *;omega))),by dsimp only;(first | omega | (simp only [cst] at *;omega) | (simp only [sm] at *;omega)),by dsimp only;(first | omega | (simp only [cst] at *;omega) | (simp only [sm] at *;omega)),by dsimp only;(first | omega | (simp only [cst] at *;omega) | (simp only [sm] at *;omega)),by dsimp only;(first | omega | (simp only [cst] at *;omega) | (simp only [sm] at *;omega)),by dsimp only;(first | omega | (simp only [cst] at *;omega) | (simp only [sm] at *;omega)),by dsimp only;intro h0;(first | omega | (simp only [cst] at *;omega) | (simp only [sm] at *;omega)),by dsimp only;intro h0;(first | omega | (simp only [cst] at *;omega) | (simp only [sm] at *;omega))⟩
     rw [this];done)
  | skip
end
section
open Go.RowKit Go.Shelf
def misX (m:Int):Nat→List SV→List (List SV)
 | _,[]=>[]
 | i,x::L=>if m / 2 ^ i % 2=0 then [.int .i64 i,x]::misX m (i+1) L else misX m (i+1) L
def cntF (m:Int):Nat→Nat→Nat
 | _,0=>0
 | j,i+1=>(if m / 2 ^ j % 2=0 then 1 else 0)+cntF m (j+1) i
theorem cntF_succ (m:Int):∀ (i j:Nat),cntF m j (i+1)=cntF m j i+(if m / 2 ^ (j+i) % 2=0 then 1 else 0)
 | 0,j=>by simp [cntF]
 | i+1,j=>by
  rw [cntF,cntF_succ m i (j+1),cntF]
  have:j+1+i=j+(i+1):=by omega
  rw [this]
  omega
theorem misX_at (m:Int):∀ (L:List SV) (j i:Nat) (x:SV),L[i]?=some x→m / 2 ^ (j+i) % 2=0→(misX m j L)[cntF m j i]?=some [.int .i64 ((j+i:Nat):Int),x]
 | [],j,i,x,h,_=>by simp at h
 | y::L,j,0,x,h,hm=>by
  simp at h
  subst h
  simp only [Nat.add_zero] at hm ⊢
  simp [misX,cntF,hm]
 | y::L,j,i+1,x,h,hm=>by
  have e:j+1+i=j+(i+1):=by omega
  have ih:=misX_at m L (j+1) i x (by simpa using h) (by rw [e];exact hm)
  rw [e] at ih
  simp only [misX,cntF]
  split
  ·rw [Nat.add_comm 1];simpa using ih
  ·simpa using ih
theorem misX_len (m:Int):∀ (L:List SV) (j:Nat),(misX m j L).length=cntF m j L.length
 | [],j=>rfl
 | y::L,j=>by
  simp only [misX,List.length_cons,cntF]
  split
  ·rw [List.length_cons,misX_len m L (j+1)];omega
  ·rw [misX_len m L (j+1)];omega
theorem and1 (m:Int) (h:0≤m∧m < 4294967296) (i:Nat) (hi:i < 32):((BitVec.ofInt 32 (m / 2 ^ i) &&& 1#32).toNat:Int)=m / 2 ^ i % 2:=by
 have h0:0≤m / 2 ^ i:=Int.ediv_nonneg h.1 (Int.pow_nonneg (by omega))
 have h1:m / 2 ^ i≤m:=Int.ediv_le_self _ h.1
 obtain ⟨k,hk⟩:=Int.eq_ofNat_of_zero_le h0
 rw [hk] at h1 ⊢
 have:(BitVec.ofInt 32 (k:Int)).toNat=k:=by rw [BitVec.toNat_ofInt];omega
 rw [BitVec.toNat_and,this]
 simp only [BitVec.toNat_ofNat]
 have e:(1:Nat) % 2 ^ 32=1:=by decide
 rw [e,Nat.and_one_is_mod]
 omega
theorem and1b (m:Int) (h:0≤m∧m < 4294967296) (i:Nat) (hi:i < 32):bits .and .u32 (m / 2 ^ i) 1=m / 2 ^ i % 2:=by
 have:=and1 m h i hi
 have h1:=Int.emod_nonneg (m / 2 ^ i) (show (2:Int)≠0 by omega)
 have h2:=Int.emod_lt_of_pos (m / 2 ^ i) (show (0:Int) < 2 by omega)
 unfold bits
 show IntKind.u32.wrap ((BitVec.ofInt 32 (m / 2 ^ i) &&& 1#32).toNat:Int)=_
 rw [IntKind.wrap_u32,this]
 omega
attribute [local go_sem] Oper.semAt_some
set_option maxRecDepth 100000 in
set_option maxHeartbeats 4000000 in
theorem missing1_in (l Bs b off len cap:Nat) (m:Int) (hm:0≤m∧m < 4294967296) (hlen:len≤32) (V:Nat→Value) (o:Nat) (Kp:World→Prop) (J:Nat→World→Prop) (Jx:World→Prop)
  (hK:∀ W,Kp W→W.cell? ⟨Bs,o+2,none⟩=some (.slice (some ⟨b,off,none⟩) len cap)∧W.cell? ⟨Bs,o+3,none⟩=some (.int .u32 m)∧∀ j,j < len→W.cell? ⟨b,off+j,none⟩=some (V j))
  (hJK:∀ k W,J k W→Kp W)
  (hY:∀ i W,i < len→m / 2 ^ i % 2=0→J (cntF m 0 i) W→∀ q,YieldAt Fence.wide q Tryz.prog l #[.int .i64 (i:Int),V i] W fun e W' =>
    (e=.returned (.bool true)∧J (cntF m 0 i+1) W')∨(e=.returned (.bool false)∧Jx W'))
  (W:World) (h0:J 0 W) (n:Nat) (hn:1≤n) :
  CallsIn Fence.wide n Tryz.prog 141 #[.func (.yield l) #[] #[],.pointer (some ⟨Bs,o,none⟩)] W fun e W'=>(∃ v,e=.returned v)∧(J (cntF m 0 len) W'∨Jx W'):=by
 refine callsIn_of_wp Tryz.func141 rfl trivial ?_ rfl
 simp only [Tryz.ntmps141,List.size_toArray,List.length_cons,List.length_nil,Nat.reduceAdd,Nat.reduceSub,Array.replicate_succ,Array.replicate_zero,List.push_toArray,List.append_toArray,List.nil_append,List.cons_append]
 obtain ⟨hc2,hc3,hcs⟩:=hK W (hJK _ _ h0)
 gi_wp2
 gi_loopw [8] (fun i wr=>∃ k:Nat,k≤len∧i=.int .i64 k∧J (cntF m 0 k) wr) (fun i _=>len - (intOf i).toNat)
 case atStart=>exact ⟨0,Nat.zero_le _,rfl,h0⟩
 case round =>
  obtain ⟨k,hk,rfl,hJs⟩:=hrel
  obtain ⟨hd2,hd3,hds⟩:=hK _ (hJK _ _ hJs)
  have hcx:=fun h:k < len=>hds k h
  by_cases hlt:k < len
  ·have hcx':=hcx hlt
   have hk32:k < 32:=by omega
   have han:bits .and .u32 (m / 2 ^ k) 1=m / 2 ^ k % 2:=and1b m hm k hk32
   by_cases hbit:m / 2 ^ k % 2=0
   ·obtain ⟨fn,tmps,assign,body,hy,hR⟩:=hY k wr hlt hbit hJs (n - 1)
    rw [hbit] at han
    gi_wp2
    refine hR.mono ?_
    rintro e W3 (⟨rfl,hJ3⟩ | ⟨rfl,hJx3⟩)
    ·gi_wp2
     go_roundw
     case rel=>exact ⟨k+1,by omega,by simp,by rw [cntF_succ,Nat.zero_add,if_pos hbit];exact hJ3⟩
     case measure=>simp [intOf];omega
    ·gi_wp2
     refine bodyPost_ret (results_none rfl _ _ _) rfl ?_
     exact ⟨⟨_,rfl⟩,.inr hJx3⟩
   ·have hb1:m / 2 ^ k % 2=1:=by
     have h1:=Int.emod_nonneg (m / 2 ^ k) (show (2:Int)≠0 by omega)
     have h2:=Int.emod_lt_of_pos (m / 2 ^ k) (show (0:Int) < 2 by omega)
     omega
    have hcn:cntF m 0 (k+1)=cntF m 0 k:=by rw [cntF_succ,Nat.zero_add,if_neg hbit,Nat.add_zero]
    rw [hb1] at han
    clear hb1 hbit
    gi_wp2
    refine ⟨fun _ h=>(by cases h),?_⟩
    gi_wp2
    go_roundw
    case rel=>exact ⟨k+1,by omega,by simp,by rw [hcn];exact hJs⟩
    case measure=>simp [intOf];omega
  ·obtain rfl:k=len:=by omega
   gi_wp2
   go_end0
   exact ⟨⟨_,rfl⟩,.inl hJs⟩
set_option maxRecDepth 100000 in
set_option maxHeartbeats 4000000 in
theorem missing1_nil (l Bs cap:Nat) (ad:Option Addr) (o:Nat) (J:Nat→World→Prop) (W:World) (hc2:W.cell? ⟨Bs,o+2,none⟩=some (.slice ad 0 cap)) (h0:J 0 W) (n:Nat) (hn:1≤n) :
  CallsIn Fence.wide n Tryz.prog 141 #[.func (.yield l) #[] #[],.pointer (some ⟨Bs,o,none⟩)] W fun e W'=>(∃ v,e=.returned v)∧J 0 W':=by
 refine callsIn_of_wp Tryz.func141 rfl trivial ?_ rfl
 simp only [Tryz.ntmps141,List.size_toArray,List.length_cons,List.length_nil,Nat.reduceAdd,Nat.reduceSub,Array.replicate_succ,Array.replicate_zero,List.push_toArray,List.append_toArray,List.nil_append,List.cons_append]
 gi_wp2
 gi_loopw [8] (fun i wr=>i=.int .i64 0∧J 0 wr) (fun _ _=>0)
 case atStart=>exact ⟨rfl,h0⟩
 case round =>
  obtain ⟨rfl,hJs⟩:=hrel
  gi_wp2
  go_end0
  exact ⟨⟨_,rfl⟩,hJs⟩
theorem missing1_q (st tag rd un m:Int) (L:List SV) (hm:0≤m∧m < 4294967296) (hl:L.length≤32) :
  Good 141 (seqC [.eptr (some 6) (.agg [.int .i64 st,.int .u8 tag,.lst none L,.int .u32 m,.int .i64 rd,.int .i64 un]) 0] (misX m 0 L)):=by
 refine ⟨⟨⟨Tryz.f141,Tryz.func141,rfl,by kernel_rfl⟩,fun _=>?_,(fun _ _ _ _ _ hc=>nomatch (congrArg CT.new hc)),(fun _ _ _ _ hc=>nomatch (congrArg CT.lent hc)),fun h=>by simp [isSeq,seqC] at h⟩⟩
 rw [seqC_L]
 refine ⟨fun w Y us hus l J Jx W hJb hJxb hKY hY h0 n=>?_⟩
 obtain ⟨v,rfl⟩:=List.length_eq_one_iff.1 (show us.length=1 from hus.1.symm)
 have hv:=hus.2 0 _ v rfl rfl
 cases hv with
 | eptr _ _ _ _ B o cs hb hx hu hcl hy =>
 rw [valAt_some_full (by rw [hcl];exact Nat.le_refl _)] at hy
 obtain ⟨cs',e,hd⟩:=Den.agg_iff.1 hy
 injection e with e
 injection e with e
 subst e
 have hcs:cs.length=6:=hcl
 have hc3:cs[3]?=some (.int .u32 m):=by
  have h3:(3:Nat) < cs.length:=by omega
  have:=hd.2 3 _ _ rfl (List.getElem?_eq_getElem h3)
  rw [List.getElem?_eq_getElem h3,Den.int_iff.1 this]
 have h2:(2:Nat) < cs.length:=by omega
 have hc2:=hd.2 2 _ _ rfl (List.getElem?_eq_getElem h2)
 have hu2:=hu 2 _ (List.getElem?_eq_getElem h2)
 have hu3:=hu 3 _ hc3
 have same:∀ {W1:World},KeepY Y w W1→∀ {b:Nat},b < w.heap.size→¬ Y b→∀ off,W1.cell? ⟨b,off,none⟩=w.cell? ⟨b,off,none⟩:=fun hk b hb hy off=>World.cell?_of_block (hk.same b hb hy)
 refine (callsIn_wide (n:=n)).2 ((callsIn_wide (n:=1)).1 ?_)
 have hk0:=hKY 0 W h0
 generalize hcv:cs[2]=c2 at hc2 hu2
 cases hc2 with
 | lst0 _ _ ad cap =>
  exact (missing1_nil l B cap ad (o+0) J W (by rw [Nat.add_zero,same hk0 hb hx];exact hu2) h0 1 (Nat.le_refl _)).mono fun e W' ⟨h1,h2⟩=>⟨h1,.inl h2⟩
 | lst _ _ _ b off cap us2 hb2 hx2 hc2' hu2' hl2 ho2 hd2 =>
  have hl2':us2.length=L.length:=by simpa [wid] using hl2
  refine (missing1_in l B b off L.length cap m hm hl (fun j=>(us2[j]?).getD undef) (o+0) (fun W1=>KeepY Y w W1) J Jx (fun W1 hk=>⟨?_,?_,fun j hj=>?_⟩) hKY (fun i W1 hi hbit hJ q=>?_) W h0 1 (Nat.le_refl _)).mono fun e W' ⟨h1,h2⟩=>⟨h1,?_⟩
  ·rw [Nat.add_zero,same hk hb hx];exact hu2
  ·rw [Nat.add_zero,same hk hb hx];exact hu3
  ·rw [same hk hb2 hx2,hu2' j _ (List.getElem?_eq_getElem (by omega))]
   simp [hl2',hj]
  ·have hx:=misX_at m L 0 i L[i] (List.getElem?_eq_getElem hi) (by rw [Nat.zero_add];exact hbit)
   rw [Nat.zero_add] at hx
   refine hY _ _ [.int .i64 (i:Int),(us2[i]?).getD undef] W1 hJ hx ⟨rfl,fun j x u hxx huu=>?_⟩ q
   match j,hxx,huu with
   | 0,hxx,huu=>simp at hxx huu;subst hxx;subst huu;exact .int _ _ _
   | 1,hxx,huu=>simp at hxx huu;subst hxx;subst huu;exact hd2 i hi
  ·rw [misX_len];exact h2
end
section
open Go.RowKit
structure Pce where
 tag:Int
 n:Int
 c:Int
 ack:Bool
 d:List UInt8
def Pce.v (p:Pce):SV:=.agg [.int .u8 p.tag,.int .i64 p.n,.int .i64 p.c,.bool p.ack,.lst none (u8l p.d)]
def pcL (l:List Pce):List SV:=l.map Pce.v
theorem pcL_len (l:List Pce):(pcL l).length=l.length:=by simp [pcL]
def opn (ak:Int) (n:Nat):List Nat:=(List.range n).filter fun i=>decide (ak / 2 ^ i % 2=0)
theorem misX_eq (m:Int):∀ (L:List SV) (j:Nat),misX m j L=((List.range L.length).filter fun i=>decide (m / 2 ^ (j+i) % 2=0)).map fun i=>[.int .i64 ((j+i:Nat):Int),L.getD i .any]
 | [],j=>rfl
 | y::L,j=>by
  have ih:=misX_eq m L (j+1)
  have e:∀ i,j+1+i=j+(i+1):=fun i=>by omega
  simp only [e] at ih
  simp only [misX,List.length_cons,List.range_succ_eq_map,List.filter_cons,Nat.add_zero,List.filter_map,ih]
  by_cases h:m / 2 ^ j % 2=0
  ·rw [if_pos h]
   simp only [h,decide_true,if_true,List.map_cons,List.map_map]
   rfl
  ·rw [if_neg h]
   simp only [h,decide_false,Bool.false_eq_true,if_false,List.map_map]
   rfl
def pre (tag:Int) (ps:List (List UInt8)) (ak:Int) (k:Nat):List Pce:=((opn ak ps.length).take k).map fun (i:Nat)=>(⟨tag,(i:Int),(ps.length:Int),false,ps.getD i []⟩:Pce)
def mark:List Pce→List Pce
 | []=>[]
 | [p]=>[{ p with ack:=true }]
 | p::q::l=>p::mark (q::l)
theorem mark_len:∀ l,(mark l).length=l.length
 | []=>rfl
 | [p]=>rfl
 | p::q::l=>by simp [mark,mark_len (q::l)]
theorem mark_set:∀ (l:List Pce) (k:Nat) (p:Pce),l.length=k+1→l[k]?=some p→l.set k { p with ack:=true }=mark l
 | [],k,p,h,_=>by simp at h
 | [q],0,p,_,h=>by simp at h;subst h;rfl
 | [q],k+1,p,h,_=>by simp at h
 | q::r::l,0,p,h,_=>by simp at h
 | q::r::l,k+1,p,h,g=>by
  rw [List.set_cons_succ,mark_set (r::l) k p (by simpa using h) (by simpa using g)]
  rfl
theorem pre_len (tag:Int) (ps:List (List UInt8)) (ak:Int) (k:Nat) (h:k≤(opn ak ps.length).length):(pre tag ps ak k).length=k:=by simp [pre];omega
theorem pre_succ (tag:Int) (ps:List (List UInt8)) (ak:Int) (k i:Nat) (h:(opn ak ps.length)[k]?=some i):pre tag ps ak (k+1)=pre tag ps ak k++[⟨tag,i,ps.length,false,ps.getD i []⟩]:=by
 obtain ⟨h1,h2⟩:=List.getElem?_eq_some_iff.1 h
 rw [pre,pre,← List.take_append_getElem h1,List.map_append,h2]
 rfl
theorem opn_lt {ak:Int} {n k i:Nat} (h:(opn ak n)[k]?=some i):i < n∧ak / 2 ^ i % 2=0:=by
 have:=List.mem_of_getElem? h
 unfold opn at this
 rw [List.mem_filter,List.mem_range] at this
 exact ⟨this.1,of_decide_eq_true this.2⟩
theorem opn_pos {ak:Int} {n:Nat} (h0:0≤ak) (h1:ak≤allI n) (h2:ak≠allI n):1≤(opn ak n).length:=by
 rcases Nat.eq_zero_or_pos (opn ak n).length with h | h
 ·exfalso
  have h3:∀ i,i < n→¬ ak / 2 ^ i % 2=0:=fun i hi he=>by
   have:i∈opn ak n:=by unfold opn;rw [List.mem_filter,List.mem_range];exact ⟨hi,decide_eq_true he⟩
   rw [List.length_eq_zero_iff.1 h] at this
   cases this
  obtain ⟨a,ha⟩:=Int.eq_ofNat_of_zero_le h0
  subst ha
  rw [allI_nat] at h1 h2
  have hp:1≤2 ^ n:=Nat.one_le_two_pow
  apply h2
  congr 1
  apply Nat.eq_of_testBit_eq
  intro i
  rw [Nat.testBit_two_pow_sub_one]
  by_cases hi:i < n
  ·have:=h3 i hi
   have e:((a:Int) / 2 ^ i % 2)=((a / 2 ^ i % 2:Nat):Int):=by simp
   rw [e] at this
   rw [Nat.testBit_eq_decide_div_mod_eq]
   simp only [hi,decide_true,decide_eq_true_eq]
   have:=Nat.mod_lt (a / 2 ^ i) (show 0 < 2 by omega)
   omega
  ·rw [Nat.testBit_lt_two_pow (Nat.lt_of_lt_of_le (show a < 2 ^ n by omega) (Nat.pow_le_pow_right (by omega) (by omega)))]
   simp [hi]
 ·exact h
def nextX (s:Snd) (ok:Bool) (now:Int):SV × List Pce × Int :=
 if ok=false then (.agg [.int .i64 0,.int .u8 0,.nil,.int .u32 0,.int .i64 0,.int .i64 0],[],1)
 else if now < 0∨1099511627776 < now then (.agg [.int .i64 0,.int .u8 0,.nil,.int .u32 0,.int .i64 0,.int .i64 0],[],2)
 else if s.st≠1∨now < s.un then (s.v,[],0)
 else if s.rd=8 then (({ s with st:=3 }:Snd).v,[],0)
 else (({ s with rd:=s.rd+1,un:=min (now+8) 1099511627776 }:Snd).v,mark (pre s.tag s.ps s.ak (min (opn s.ak s.ps.length).length 8)),0)
end
section
open Go.RowKit
structure Pce.fits (p:Pce):Prop where
 t:0≤p.tag∧p.tag≤255
 n:-9223372036854775808≤p.n∧p.n≤9223372036854775807
 c:-9223372036854775808≤p.c∧p.c≤9223372036854775807
 d:p.d.length≤140737488351232
structure Rcv where
 tag:Int
 cnt:Int
 ps:List (List UInt8)
 hv:Int
 dn:Bool
structure Rcv.fits (r:Rcv):Prop where
 tag:0≤r.tag∧r.tag≤255
 cnt:-9223372036854775808≤r.cnt∧r.cnt≤9223372036854775807
 hv:0≤r.hv∧r.hv≤4294967295
 n:r.ps.length≤5864062014805
 b:∀ p∈r.ps,p.length≤140737488351232
end
end Go.Proofs.YtgfpjhddojhfpaaGreat
