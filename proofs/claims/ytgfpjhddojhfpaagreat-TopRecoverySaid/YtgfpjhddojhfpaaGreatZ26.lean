/- Texts put together: EL EL2. -/
import Derived.Test.YtgfpjhddojhfpaaGreatZ04
import Derived.Test.YtgfpjhddojhfpaaGreatZ07
import Derived.Test.YtgfpjhddojhfpaaGreatZ10
import Derived.Test.YtgfpjhddojhfpaaGreatZ25
namespace Go.Proofs.YtgfpjhddojhfpaaGreat
set_option linter.unusedVariables false
set_option linter.unusedSimpArgs false
section
open Go.RowKit
set_option maxHeartbeats 4000000
set_option maxRecDepth 100000
def tstp (s:Int × Bool) (c:UInt8):Int × Bool:=(s.1+(if s.2=true then (c.toNat:Int) * 256 else c.toNat),!s.2)
def tot (l:List UInt8) (s:Int × Bool):Int × Bool:=l.foldl tstp s
def totL (L:List (List UInt8)) (s:Int × Bool):Int × Bool:=L.foldl (fun s l=>tot l s) s
theorem tot_b (l:List UInt8):∀ s:Int × Bool,s.1≤(tot l s).1∧(tot l s).1≤s.1+65280 * l.length:=by
 induction l with
 | nil=>intro s;simp [tot]
 | cons c l ih =>
  intro s
  have h:=ih (tstp s c)
  have hc:c.toNat≤255:=by have:=c.toNat_lt;omega
  have e:tot (c::l) s=tot l (tstp s c):=rfl
  rw [e]
  have e2:(tstp s c).1=s.1+(if s.2=true then (c.toNat:Int) * 256 else c.toNat):=rfl
  rw [e2] at h
  simp only [List.length_cons]
  split at h <;> omega
theorem totL_b (L:List (List UInt8)) (hl:∀ l∈L,l.length≤2000):∀ s:Int × Bool,s.1≤(totL L s).1∧(totL L s).1≤s.1+130560000 * L.length:=by
 induction L with
 | nil=>intro s;simp [totL]
 | cons c l ih =>
  intro s
  have h:=ih (fun x hx=>hl x (List.mem_cons_of_mem _ hx)) (tot c s)
  have h1:=tot_b c s
  have h2:=hl c List.mem_cons_self
  have e:totL (c::l) s=totL l (tot c s):=rfl
  rw [e]
  simp only [List.length_cons]
  omega
theorem tot_snoc (l:List UInt8) (c:UInt8) (s:Int × Bool):tot (l++[c]) s=tstp (tot l s) c:=by simp [tot]
theorem totL_snoc (L:List (List UInt8)) (l:List UInt8) (s:Int × Bool):totL (L++[l]) s=tot l (totL L s):=by simp [totL]
structure TotS (L:List (List UInt8)) (i:Nat) (n:Int) (b:Bool):Prop where
 h:(n,b)=totL (L.take i) (0,true)
structure TotI (l:List UInt8) (s:Int × Bool) (k:Nat) (n:Int) (b:Bool):Prop where
 h:(n,b)=tot (l.take k) s
theorem TotI.step {l:List UInt8} {s:Int × Bool} {k:Nat} {n:Int} {b:Bool} (h:TotI l s k n b) {c:UInt8} (hc:l[k]?=some c) {m:Int} (hm:m=n+(if b=true then (c.toNat:Int) * 256 else c.toNat)) {b':Bool} (hb:b'=!b):TotI l s (k+1) m b':=by
 have hk:k < l.length:=(List.getElem?_eq_some_iff.1 hc).1
 have e:l.take (k+1)=l.take k++[c]:=by rw [List.take_add_one,hc];rfl
 refine ⟨?_⟩
 rw [e,tot_snoc,← h.h,hm,hb]
 rfl
theorem TotS.step {L:List (List UInt8)} {i:Nat} {n:Int} {b:Bool} (h:TotS L i n b) {l:List UInt8} (hl:L[i]?=some l) {m:Int} {b':Bool} (hi:TotI l (n,b) l.length m b'):TotS L (i+1) m b':=by
 have e:L.take (i+1)=L.take i++[l]:=by rw [List.take_add_one,hl];rfl
 refine ⟨?_⟩
 rw [e,totL_snoc,← h.h,hi.h,List.take_length]
theorem TotI.bd {l:List UInt8} {s:Int × Bool} {k:Nat} {n:Int} {b:Bool} (h:TotI l s k n b) (hl:l.length≤2000):s.1≤n∧n≤s.1+130560000:=by
 have e:=tot_b (l.take k) s
 rw [← h.h] at e
 have:(l.take k).length≤2000:=by rw [List.length_take];omega
 dsimp only at e;omega
theorem TotS.bd {L:List (List UInt8)} {i:Nat} {n:Int} {b:Bool} (h:TotS L i n b) (hn:L.length≤6) (hl:∀ l∈L,l.length≤2000):0≤n∧n≤783360000:=by
 have e:=totL_b (L.take i) (fun l h=>hl l (List.mem_of_mem_take h)) (0,true)
 rw [← h.h] at e
 have:(L.take i).length≤6:=by rw [List.length_take];omega
 dsimp only at e;omega
theorem parts_at {L:List (List UInt8)} {LL:List SV} (h:LL=L.map fun l=>SV.lst none (u8l l)) (i:Nat) (hi:i < L.length):∃ l K,L[i]?=some l∧K=u8l l∧LL[i]?=some (.lst none K) :=
 ⟨L[i],_,List.getElem?_eq_getElem hi,rfl,by rw [h];simp [hi]⟩
theorem byte_at {l:List UInt8} {K:List SV} (h:K=u8l l) (k:Nat) (hk:k < l.length):∃ (c:UInt8) (v:Int),l[k]?=some c∧v=(c.toNat:Int)∧v≤255∧0≤v∧K[k]?=some (.int .u8 v) :=
 ⟨l[k],_,List.getElem?_eq_getElem hk,rfl,by have:=l[k].toNat_lt;omega,by omega,by rw [h];simp [u8l,hk]⟩
theorem total_c (L:List (List UInt8)) (LL:List SV) (hLL:LL=L.map fun l=>SV.lst none (u8l l)) (hn:L.length≤6) (hl:∀ l∈L,l.length≤2000) (r:Int) (hr:r=(totL L (0,true)).1) :
  Good 212 (pu [.lst none LL] (.int .u64 r)):=by
 have hLl:LL.length=L.length:=by rw [hLL];simp
 have hE:=fun i hi=>parts_at hLL i hi
 have S0:TotS L 0 0 true:=⟨rfl⟩
 have hfin:∀ n b,TotS L L.length n b→n=r:=fun n b h=>by rw [hr,← List.take_length (l:=L),← h.h]
 have hfin:Wrap (∀ n b,TotS L L.length n b→n=r):=⟨hfin⟩
 clear hr
 refine Good.of Tryz.func212 rfl (by rfl) (by kernel_rfl) ?_
 cbv
 (repeat' (first
| ((first
| (refine q1w (fun z hz=>?_);(try simp only at hz))
| refine rqa ?_
| refine chpA ?_
| refine QCt ?_
| refine QCf ?_);cbv)
| (refine QC.mk ?_ ?_ <;> intro hc <;> (try dsimp only at hc) <;> cbv)
| (refine br_mk2 ?_ ?_ <;> intro hb <;> (try subst hb) <;> cbv)))
 refine loopQ (A:=Nat × Int × Int × Bool) (fun p=>p.2.1=p.1∧p.1≤L.length∧TotS L p.1 p.2.2.1 p.2.2.2) (fun p=>L.length - p.1) (fun p=>[(11,.int .i64 p.2.1),(3,.int .u64 p.2.2.1),(4,.bool p.2.2.2)]) (fun p=>[]) (0,0,0,true) ⟨rfl,Nat.zero_le _,S0⟩ ?_ ?_
 ·cbv
 ·intro ⟨i,j,n,b⟩ hh
  have hj:j=(i:Int):=hh.1
  have hi:i≤L.length:=hh.2.1
  have hS:TotS L i n b:=hh.2.2
  have hbd:=hS.bd hn hl
  clear hh
  have hmk:True:=trivial
  cbv
  (repeat' (first
| ((first
| (refine q1w (fun z hz=>?_);(try simp only at hz))
| refine rqa ?_
| refine chpA ?_
| refine QCt ?_
| refine QCf ?_);cbv)
| (refine QC.mk ?_ ?_ <;> intro hc <;> (try dsimp only at hc) <;> cbv)
| (refine br_mk2 ?_ ?_ <;> intro hb <;> (try subst hb) <;> cbv)))
  ·have hlt:i < L.length:=by (first | omega | (simp only [cst] at *;omega) | (simp only [sm] at *;omega))
   obtain ⟨l,K,hl1,hK,hLi⟩:=hE i hlt
   have hKl:K.length=l.length:=by rw [hK,u8l_len]
   have hl2:=hl l (List.mem_of_getElem? hl1)
   have hB:=fun k hk=>byte_at hK k hk
   have I0:TotI l (n,b) 0 n b:=⟨rfl⟩
   (refine qv (i,_) ⟨hj,hLi⟩ ?_;cbv;(repeat' (first
| ((first
| (refine q1w (fun z hz=>?_);(try simp only at hz))
| refine rqa ?_
| refine chpA ?_
| refine QCt ?_
| refine QCf ?_);cbv)
| (refine QC.mk ?_ ?_ <;> intro hc <;> (try dsimp only at hc) <;> cbv)
| (refine br_mk2 ?_ ?_ <;> intro hb <;> (try subst hb) <;> cbv))))
   refine loopQ (A:=Nat × Int × Int × Bool) (fun p=>p.2.1=p.1∧p.1≤l.length∧TotI l (n,b) p.1 p.2.2.1 p.2.2.2) (fun p=>l.length - p.1) (fun p=>[(17,.int .i64 p.2.1),(3,.int .u64 p.2.2.1),(4,.bool p.2.2.2)]) (fun p=>[]) (0,0,n,b) ⟨rfl,Nat.zero_le _,I0⟩ ?_ ?_
   ·cbv
   ·intro ⟨k,jj,m,bb⟩ hh
    have hjk:jj=(k:Int):=hh.1
    have hkr:k≤l.length:=hh.2.1
    have hI:TotI l (n,b) k m bb:=hh.2.2
    have hbi:=hI.bd hl2
    have hb1:n≤m:=hbi.1
    have hb2:m≤n+130560000:=hbi.2
    clear hh hbi
    cbv
    (repeat' (first
| ((first
| (refine q1w (fun z hz=>?_);(try simp only at hz))
| refine rqa ?_
| refine chpA ?_
| refine QCt ?_
| refine QCf ?_);cbv)
| (refine QC.mk ?_ ?_ <;> intro hc <;> (try dsimp only at hc) <;> cbv)
| (refine br_mk2 ?_ ?_ <;> intro hb <;> (try subst hb) <;> cbv)))
    ·have hlk:k < l.length:=by (first | omega | (simp only [cst] at *;omega) | (simp only [sm] at *;omega))
     obtain ⟨c,v,hc,hv,hv1,hv2,hKk⟩:=hB k hlk
     refine qv (k,_) ⟨hjk,hKk⟩ ?_
     cbv
     (repeat' (first
| ((first
| (refine q1w (fun z hz=>?_);(try simp only at hz))
| refine rqa ?_
| refine chpA ?_
| refine QCt ?_
| refine QCf ?_);cbv)
| (refine QC.mk ?_ ?_ <;> intro hc <;> (try dsimp only at hc) <;> cbv)
| (refine br_mk2 ?_ ?_ <;> intro hb <;> (try subst hb) <;> cbv)))
     ·rename_i z1 h1 z2 h2 z3 h3
      have e:z3=m+v * 256:=by simp only [Int.reduceToNat,Int.reducePow] at *;(first | omega | (simp only [cst] at *;omega) | (simp only [sm] at *;omega))
      refine ⟨(k+1,z,z3,false),⟨by show z=((k+1:Nat):Int);(first | omega | (simp only [cst] at *;omega) | (simp only [sm] at *;omega)),by show k+1≤l.length;omega,hI.step hc (by rw [if_pos rfl];show z3=_;(first | omega | (simp only [cst] at *;omega) | (simp only [sm] at *;omega))) rfl⟩,by show l.length - (k+1) < l.length - k;omega,?_⟩
      cbv
     ·rename_i z1 h1 z3 h3
      have e:z3=m+v:=by (first | omega | (simp only [cst] at *;omega) | (simp only [sm] at *;omega))
      refine ⟨(k+1,z,z3,true),⟨by show z=((k+1:Nat):Int);(first | omega | (simp only [cst] at *;omega) | (simp only [sm] at *;omega)),by show k+1≤l.length;omega,hI.step hc (by rw [if_neg (by simp)];show z3=_;(first | omega | (simp only [cst] at *;omega) | (simp only [sm] at *;omega))) rfl⟩,by show l.length - (k+1) < l.length - k;omega,?_⟩
      cbv
    ·have hkl:k=l.length:=by (first | omega | (simp only [cst] at *;omega) | (simp only [sm] at *;omega))
     subst hkl
     refine ⟨(i+1,z,m,bb),⟨by show z=((i+1:Nat):Int);(first | omega | (simp only [cst] at *;omega) | (simp only [sm] at *;omega)),by show i+1≤L.length;omega,hS.step hl1 hI⟩,by show L.length - (i+1) < L.length - i;omega,?_⟩
     cbv
  ·have e:i=L.length:=by (first | omega | (simp only [cst] at *;omega) | (simp only [sm] at *;omega))
   subst e
   have e:=hfin.h _ _ hS
   exact ⟨by rw [e],rfl,rfl⟩
end
section
open Go.RowKit
set_option maxHeartbeats 4000000
set_option maxRecDepth 100000
theorem foldA (n r:Int) (hn:0≤n∧n≤1000000000) (h1:n≤65535) (hr:r=n):Good 211 (pu [.int .u64 n] (.int .u16 r)):=by
 refine Good.of Tryz.func211 rfl (by rfl) (by kernel_rfl) ?_
 cbv
 refine unrollq 4 ?_
 cbv
 (try (simp only [cwn];cbv));(repeat' (first
| ((first
| (refine q1w (fun z hz=>?_);(try simp [oln,Int.max_def,Int.min_def] at hz);(with_reducible refine litk hz ?_ ?_);(focus decide);subst hz)
| (refine q1w (fun z hz=>?_);(replace hz:=remP hz (by omega)))
| (refine q1w (fun z hz=>?_);(replace hz:=quoP hz (by omega)))
| (refine q1w (fun z hz=>?_);(replace hz:=modP hz (by omega)))
| (refine q1w (fun z hz=>?_);(try simp only [Int.reduceToNat,Int.reducePow] at hz))
| refine td ?_
| refine fd ?_
| refine rqa ?_
| refine vI ?_
| refine vA ?_
| refine vS ?_
| refine vR ?_
| refine chpA ?_
| refine QCt ?_
| refine QCf ?_);cbv;(try (simp only [cwn];cbv)))
| (simp only [cwn];cbv)
| (refine QC.mk ?_ ?_ <;> intro hc <;> (try dsimp only at hc) <;> cbv;(try (simp only [cwn];cbv)))
| (refine br_mk2 ?_ ?_ <;> intro hb <;> (try subst hb) <;> cbv;(try (simp only [cwn];cbv)))))
 have e:z=r:=by (first | omega | (simp only [cst] at *;omega) | (simp only [sm] at *;omega))
 subst e
 exact ⟨rfl,rfl,rfl⟩
theorem foldB (n m r:Int) (hn:0≤n∧n≤1000000000) (h1:65535 < n) (hm:m=n % 65536+n / 65536) (h2:m≤65535) (hr:r=m):Good 211 (pu [.int .u64 n] (.int .u16 r)):=by
 refine Good.of Tryz.func211 rfl (by rfl) (by kernel_rfl) ?_
 cbv
 refine unrollq 4 ?_
 cbv
 (try (simp only [cwn];cbv));(repeat' (first
| ((first
| (refine q1w (fun z hz=>?_);(try simp [oln,Int.max_def,Int.min_def] at hz);(with_reducible refine litk hz ?_ ?_);(focus decide);subst hz)
| (refine q1w (fun z hz=>?_);(replace hz:=remP hz (by omega)))
| (refine q1w (fun z hz=>?_);(replace hz:=quoP hz (by omega)))
| (refine q1w (fun z hz=>?_);(replace hz:=modP hz (by omega)))
| (refine q1w (fun z hz=>?_);(try simp only [Int.reduceToNat,Int.reducePow] at hz))
| refine td ?_
| refine fd ?_
| refine rqa ?_
| refine vI ?_
| refine vA ?_
| refine vS ?_
| refine vR ?_
| refine chpA ?_
| refine QCt ?_
| refine QCf ?_);cbv;(try (simp only [cwn];cbv)))
| (simp only [cwn];cbv)
| (refine QC.mk ?_ ?_ <;> intro hc <;> (try dsimp only at hc) <;> cbv;(try (simp only [cwn];cbv)))
| (refine br_mk2 ?_ ?_ <;> intro hb <;> (try subst hb) <;> cbv;(try (simp only [cwn];cbv)))))
 have e:z=r:=by (first | omega | (simp only [cst] at *;omega) | (simp only [sm] at *;omega))
 subst e
 exact ⟨rfl,rfl,rfl⟩
theorem foldC (n m k r:Int) (hn:0≤n∧n≤1000000000) (h1:65535 < n) (hm:m=n % 65536+n / 65536) (h2:65535 < m) (hk:k=m % 65536+m / 65536) (h3:k≤65535) (hr:r=k):Good 211 (pu [.int .u64 n] (.int .u16 r)):=by
 refine Good.of Tryz.func211 rfl (by rfl) (by kernel_rfl) ?_
 cbv
 refine unrollq 4 ?_
 cbv
 (try (simp only [cwn];cbv));(repeat' (first
| ((first
| (refine q1w (fun z hz=>?_);(try simp [oln,Int.max_def,Int.min_def] at hz);(with_reducible refine litk hz ?_ ?_);(focus decide);subst hz)
| (refine q1w (fun z hz=>?_);(replace hz:=remP hz (by omega)))
| (refine q1w (fun z hz=>?_);(replace hz:=quoP hz (by omega)))
| (refine q1w (fun z hz=>?_);(replace hz:=modP hz (by omega)))
| (refine q1w (fun z hz=>?_);(try simp only [Int.reduceToNat,Int.reducePow] at hz))
| refine td ?_
| refine fd ?_
| refine rqa ?_
| refine vI ?_
| refine vA ?_
| refine vS ?_
| refine vR ?_
| refine chpA ?_
| refine QCt ?_
| refine QCf ?_);cbv;(try (simp only [cwn];cbv)))
| (simp only [cwn];cbv)
| (refine QC.mk ?_ ?_ <;> intro hc <;> (try dsimp only at hc) <;> cbv;(try (simp only [cwn];cbv)))
| (refine br_mk2 ?_ ?_ <;> intro hb <;> (try subst hb) <;> cbv;(try (simp only [cwn];cbv)))))
 have e:z=r:=by (first | omega | (simp only [cst] at *;omega) | (simp only [sm] at *;omega))
 subst e
 exact ⟨rfl,rfl,rfl⟩
theorem fold_e (n:Int) (hn:0≤n∧n≤1000000000):∃ r:Int,(0≤r∧r≤65535)∧Good 211 (pu [.int .u64 n] (.int .u16 r)):=by
 by_cases h1:n≤65535
 ·exact ⟨n,by omega,foldA n n hn h1 rfl⟩
 ·by_cases h2:n % 65536+n / 65536≤65535
  ·exact ⟨_,by omega,foldB n _ _ hn (by omega) rfl h2 rfl⟩
  ·obtain ⟨m,hm⟩:∃ m,m=n % 65536+n / 65536:=⟨_,rfl⟩
   rw [← hm] at h2
   exact ⟨m % 65536+m / 65536,by omega,foldC n m _ _ hn (by omega) hm (by omega) rfl (by omega) rfl⟩
theorem inet_c (L:List (List UInt8)) (LL:List SV) (hLL:LL=L.map fun l=>SV.lst none (u8l l)) (hn:L.length≤6) (hl:∀ l∈L,l.length≤2000):∃ r:Int,(0≤r∧r≤65535)∧Good 189 (pu [.lst none LL] (.int .u16 r)):=by
 have hb:=totL_b L hl (0,true)
 have g:=total_c L LL hLL hn hl _ rfl
 generalize (totL L (0,true)).1=n at *
 have hn2:0≤n∧n≤783360000:=by omega
 clear hb hn hl
 obtain ⟨r,hr,g2⟩:=fold_e n (by omega)
 refine ⟨65535 - r,by omega,?_⟩
 refine Good.of Tryz.func189 rfl (by rfl) (by kernel_rfl) ?_
 cbv
 have hmk:True:=trivial
 (try (simp only [cwn];cbv));(repeat' (first
| ((first
| (refine q1w (fun z hz=>?_);(try simp [oln,Int.max_def,Int.min_def] at hz);(with_reducible refine litk hz ?_ ?_);(focus decide);subst hz)
| (refine q1w (fun z hz=>?_);(try simp only [Int.reduceToNat,Int.reducePow] at hz))
| refine td ?_
| refine fd ?_
| refine rqa ?_
| refine vI ?_
| refine vA ?_
| refine vS ?_
| refine vR ?_
| refine callq (g) rfl rfl ?_
| refine callq (g2) rfl rfl ?_
| refine chpA ?_
| refine QCt ?_
| refine QCf ?_);cbv;(try (simp only [cwn];cbv)))
| (simp only [cwn];cbv)
| (refine QC.mk ?_ ?_ <;> intro hc <;> (try dsimp only at hc) <;> cbv;(try (simp only [cwn];cbv)))
| (refine br_mk2 ?_ ?_ <;> intro hb <;> (try subst hb) <;> cbv;(try (simp only [cwn];cbv)))))
 have e:z=65535 - r:=by (first | omega | (simp only [cst] at *;omega) | (simp only [sm] at *;omega))
 subst e
 exact ⟨rfl,rfl,rfl⟩
end
end Go.Proofs.YtgfpjhddojhfpaaGreat
