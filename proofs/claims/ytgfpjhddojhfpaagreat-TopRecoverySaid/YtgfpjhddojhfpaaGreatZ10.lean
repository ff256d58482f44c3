/- Texts put together: MA MB MC. -/
import Derived.Test.YtgfpjhddojhfpaaGreatZ04
namespace Go.Proofs.YtgfpjhddojhfpaaGreat
set_option linter.unusedVariables false
set_option linter.unusedSimpArgs false
section
open Go.RowKit
set_option maxHeartbeats 8000000
def rowV (r:List Int):SV:=.lst none (ints .i64 r)
def medV (M:List (List Int)):List SV:=M.map rowV
theorem matV_len (M:List (List Int)):(medV M).length=M.length:=by simp [medV]
structure RowOk (n a:Nat) (r:List Int):Prop where
 l:r.length=n
 z:r.getD a 0=0
 v:∀ v∈r,0≤v∧v≤256
structure Med (M:List (List Int)):Prop where
 p:1≤M.length
 q:M.length≤6
 r:∀ i r,M[i]?=some r→RowOk M.length i r
end
section
open Go.RowKit
set_option maxHeartbeats 8000000
structure Wrap (p:Prop):Prop where
 h:p
structure VM (M:List (List Int)):Prop where
 p:1≤M.length
 q:M.length≤12
 r:∀ i r,M[i]?=some r→RowOk M.length i r
theorem Med.vm {M:List (List Int)} (h:Med M):VM M:=⟨h.p,Nat.le_trans h.q (by omega),h.r⟩
theorem medV_at {M:List (List Int)} {W:List SV} (hW:W=medV M) (i:Nat) (hi:i < M.length):∃ r R,M[i]?=some r∧R=ints .i64 r∧W[i]?=some (.lst none R) :=
 ⟨M[i],_,List.getElem?_eq_getElem hi,rfl,by rw [hW];simp [medV,rowV,hi]⟩
theorem row_at {r:List Int} {R:List SV} (hR:R=ints .i64 r) (i:Nat) (hi:i < r.length):R[i]?=some (.int .i64 (r.getD i 0)):=by rw [hR];exact ints_at i hi
theorem rowOk_mk {n a:Nat} {r:List Int} (h1:r.length=n) (h2:r.getD a 0=0) (h3:∀ k,k < r.length→0≤r.getD k 0∧r.getD k 0≤256):RowOk n a r:=⟨h1,h2,fun v hv=>by
 obtain ⟨k,hk,rfl⟩:=List.mem_iff_getElem.1 hv
 have:=h3 k hk
 rw [List.getD_eq_getElem?_getD,List.getElem?_eq_getElem hk] at this
 exact this⟩
theorem rowOk_v {n a:Nat} {r:List Int} (h:RowOk n a r) (k:Nat):0≤r.getD k 0∧r.getD k 0≤256:=by
 rw [List.getD_eq_getElem?_getD]
 cases hk:r[k]? with
 | none=>simp
 | some v=>exact h.v v (List.mem_of_getElem? hk)
theorem mvalid_c (M:List (List Int)) (W:List SV) (hW:W=medV M) (hl:M.length≤6000000000000) (hlr:∀ r∈M,r.length≤18000000000000) (b:Bool) (hb:b=true ↔ VM M):Good 125 (pu [.lst none W] (.bool b)):=by
 have hWl:W.length=M.length:=by rw [hW,matV_len]
 have hE:=fun i hi=>medV_at hW i hi
 have hshort:M.length < 1→b=false:=fun h=>by
  cases b with
  | false=>rfl
  | true=>have:=(hb.1 rfl).p;omega
 have hlong:12 < M.length→b=false:=fun h=>by
  cases b with
  | false=>rfl
  | true=>have:=(hb.1 rfl).q;omega
 have hbad:∀ (i:Nat) (r:List Int),M[i]?=some r→¬ RowOk M.length i r→b=false:=fun i r hr h=>by
  cases b with
  | false=>rfl
  | true=>exact absurd ((hb.1 rfl).r i r hr) h
 have hgood:1≤M.length→M.length≤12→(∀ (i:Nat) (r:List Int),M[i]?=some r→RowOk M.length i r)→b=true:=fun h1 h2 h3=>hb.2 ⟨h1,h2,h3⟩
 have Wr:Wrap ((M.length < 1→b=false)∧(12 < M.length→b=false)∧(∀ (i:Nat) (r:List Int),M[i]?=some r→¬ RowOk M.length i r→b=false)∧(1≤M.length→M.length≤12→(∀ (i:Nat) (r:List Int),M[i]?=some r→RowOk M.length i r)→b=true)):=⟨hshort,hlong,hbad,hgood⟩
 clear hshort hlong hbad hgood hb
 refine Good.of Tryz.func125 rfl (by rfl) (by kernel_rfl) ?_
 cbv
 (repeat' (first
| ((first
| (refine q1w (fun z hz=>?_);(try simp only at hz))
| refine rqa ?_
| refine chpA ?_
| refine QCt ?_
| refine QCf ?_);cbv)
| (refine QC.mk ?_ ?_ <;> intro hc <;> (try dsimp only at hc) <;> cbv)
| (refine br_mk2 ?_ ?_ <;> intro hb <;> (try subst hb) <;> cbv)))
 ·refine ⟨?_,rfl,rfl⟩
  rw [Wr.h.1 (by (first | omega | (simp only [cst] at *;omega) | (simp only [sm] at *;omega)))]
 ·refine ⟨?_,rfl,rfl⟩
  rw [Wr.h.2.1 (by (first | omega | (simp only [cst] at *;omega) | (simp only [sm] at *;omega)))]
 refine loopQ (A:=Nat × Int) (fun p=>p.2=p.1∧p.1≤M.length∧∀ (k:Nat) (r:List Int),M[k]?=some r→k < p.1→RowOk M.length k r) (fun p=>M.length - p.1) (fun p=>[(17,.int .i64 p.2)]) (fun p=>[]) (0,0) ⟨rfl,Nat.zero_le _,fun k y _ h=>absurd h (Nat.not_lt_zero k)⟩ ?_ ?_
 ·cbv
 ·intro ⟨i,j⟩ hh
  have hj:j=(i:Int):=hh.1
  have hi:i≤M.length:=hh.2.1
  have hk:=hh.2.2
  dsimp only at hk
  clear hh
  have hmk:True:=trivial
  cbv
  (repeat' (first
| ((first
| (refine q1w (fun z hz=>?_);(try simp only at hz))
| refine rqa ?_
| refine chpA ?_
| refine QCt ?_
| refine QCf ?_);cbv)
| (refine QC.mk ?_ ?_ <;> intro hc <;> (try dsimp only at hc) <;> cbv)
| (refine br_mk2 ?_ ?_ <;> intro hb <;> (try subst hb) <;> cbv)))
  ·have hlt:i < M.length:=by (first | omega | (simp only [cst] at *;omega) | (simp only [sm] at *;omega))
   obtain ⟨r,R,hr,hR,hLi⟩:=hE i hlt
   have hRl:R.length=r.length:=by rw [hR,ints_len]
   have hrl:=hlr r (List.mem_of_getElem? hr)
   (refine qv (i,_) ⟨hj,hLi⟩ ?_;cbv;(repeat' (first
| ((first
| (refine q1w (fun z hz=>?_);(try simp only at hz))
| refine rqa ?_
| refine chpA ?_
| refine QCt ?_
| refine QCf ?_);cbv)
| (refine QC.mk ?_ ?_ <;> intro hc <;> (try dsimp only at hc) <;> cbv)
| (refine br_mk2 ?_ ?_ <;> intro hb <;> (try subst hb) <;> cbv))))
   ·refine ⟨?_,rfl,rfl⟩
    have hne:r.length≠M.length:=by (first | omega | (simp only [cst] at *;omega) | (simp only [sm] at *;omega))
    rw [Wr.h.2.2.1 i r hr (fun h=>hne h.l)]
   ·have hrM:r.length=M.length:=by (first | omega | (simp only [cst] at *;omega) | (simp only [sm] at *;omega))
    have hri:=row_at hR i (by omega)
    have hM12:M.length≤12:=by (first | omega | (simp only [cst] at *;omega) | (simp only [sm] at *;omega))
    obtain ⟨v0,hv0⟩:∃ v,v=r.getD i 0:=⟨_,rfl⟩
    rw [← hv0] at hri
    (refine qv (i,_) ⟨hj,hri⟩ ?_;cbv;(repeat' (first
| ((first
| (refine q1w (fun z hz=>?_);(try simp only at hz))
| refine rqa ?_
| refine chpA ?_
| refine QCt ?_
| refine QCf ?_);cbv)
| (refine QC.mk ?_ ?_ <;> intro hc <;> (try dsimp only at hc) <;> cbv)
| (refine br_mk2 ?_ ?_ <;> intro hb <;> (try subst hb) <;> cbv))))
    ·refine ⟨?_,rfl,rfl⟩
     have hne:v0≠0:=by (first | omega | (simp only [cst] at *;omega) | (simp only [sm] at *;omega))
     rw [Wr.h.2.2.1 i r hr (fun h=>hne (hv0.trans h.z))]
    ·have hz0:r.getD i 0=0:=by rw [← hv0];(first | omega | (simp only [cst] at *;omega) | (simp only [sm] at *;omega))
     refine loopQ (A:=Nat × Int) (fun p=>p.2=p.1∧p.1≤r.length∧∀ (k:Nat),k < p.1→0≤r.getD k 0∧r.getD k 0≤256) (fun p=>r.length - p.1) (fun p=>[(36,.int .i64 p.2)]) (fun p=>[]) (0,0) ⟨rfl,Nat.zero_le _,fun k h=>absurd h (Nat.not_lt_zero k)⟩ ?_ ?_
     ·cbv
     ·intro ⟨k,jj⟩ hh
      have hjk:jj=(k:Int):=hh.1
      have hkr:k≤r.length:=hh.2.1
      have hkk:=hh.2.2
      dsimp only at hkk
      clear hh
      have hmk:True:=trivial
      cbv
      (repeat' (first
| ((first
| (refine q1w (fun z hz=>?_);(try simp only at hz))
| refine rqa ?_
| refine chpA ?_
| refine QCt ?_
| refine QCf ?_);cbv)
| (refine QC.mk ?_ ?_ <;> intro hc <;> (try dsimp only at hc) <;> cbv)
| (refine br_mk2 ?_ ?_ <;> intro hb <;> (try subst hb) <;> cbv)))
      ·have hlk:k < r.length:=by (first | omega | (simp only [cst] at *;omega) | (simp only [sm] at *;omega))
       have hrk:=row_at hR k hlk
       obtain ⟨v,hv⟩:∃ v,v=r.getD k 0:=⟨_,rfl⟩
       rw [← hv] at hrk
       (refine qv (k,_) ⟨hjk,hrk⟩ ?_;cbv;(repeat' (first
| ((first
| (refine q1w (fun z hz=>?_);(try simp only at hz))
| refine rqa ?_
| refine chpA ?_
| refine QCt ?_
| refine QCf ?_);cbv)
| (refine QC.mk ?_ ?_ <;> intro hc <;> (try dsimp only at hc) <;> cbv)
| (refine br_mk2 ?_ ?_ <;> intro hb <;> (try subst hb) <;> cbv))))
       ·refine ⟨?_,rfl,rfl⟩
        rw [Wr.h.2.2.1 i r hr (fun h=>by have:=rowOk_v h k;omega)]
       ·refine ⟨?_,rfl,rfl⟩
        rw [Wr.h.2.2.1 i r hr (fun h=>by have:=rowOk_v h k;omega)]
       ·refine ⟨(k+1,z),⟨by show z=((k+1:Nat):Int);(first | omega | (simp only [cst] at *;omega) | (simp only [sm] at *;omega)),by show k+1≤r.length;omega,fun q hq=>?_⟩,by show r.length - (k+1) < r.length - k;omega,?_⟩
        ·by_cases hqk:q=k
         ·rw [hqk,← hv];omega
         ·exact hkk q (by have:q < k+1:=hq;omega)
        cbv
      ·have hkl:k=r.length:=by (first | omega | (simp only [cst] at *;omega) | (simp only [sm] at *;omega))
       have hro:RowOk M.length i r:=rowOk_mk hrM hz0 (fun q hq=>hkk q (by omega))
       refine ⟨(i+1,z),⟨by show z=((i+1:Nat):Int);(first | omega | (simp only [cst] at *;omega) | (simp only [sm] at *;omega)),by show i+1≤M.length;omega,fun q rr hq hqi=>?_⟩,by show M.length - (i+1) < M.length - i;omega,?_⟩
       ·by_cases hqk:q=i
        ·rw [hqk,hr] at hq;injection hq with hq;rw [hqk,← hq];exact hro
        ·exact hk q rr hq (by have:q < i+1:=hqi;omega)
       cbv
  ·refine ⟨?_,rfl,rfl⟩
   have e:i=M.length:=by (first | omega | (simp only [cst] at *;omega) | (simp only [sm] at *;omega))
   rw [Wr.h.2.2.2 (by (first | omega | (simp only [cst] at *;omega) | (simp only [sm] at *;omega))) (by (first | omega | (simp only [cst] at *;omega) | (simp only [sm] at *;omega))) (fun k r hr=>hk k r hr (by have:=(List.getElem?_eq_some_iff.1 hr).1;omega))]
end
section
open Go.RowKit
set_option maxHeartbeats 8000000
structure Txn where
 f:Int
 b:List UInt8
def Txn.v (x:Txn):SV:=.agg [.int .i64 x.f,.lst none (u8l x.b)]
def txL (l:List Txn):List SV:=l.map Txn.v
theorem txL_len (l:List Txn):(txL l).length=l.length:=by simp [txL]
theorem tx_at {l:List Txn} {K:List SV} (hK:K=txL l) (i:Nat) (hi:i < l.length):∃ f b B,l[i]?=some ⟨f,b⟩∧B=u8l b∧K[i]?=some (.agg [.int .i64 f,.lst none B]) :=
 ⟨l[i].f,l[i].b,_,List.getElem?_eq_getElem hi,rfl,by rw [hK];simp [txL,Txn.v,hi]⟩
def prevF (tx:List Txn) (i:Nat):Int:=if i=0 then -1 else ((tx[i - 1]?).map Txn.f).getD (-1)
structure TxOk (n:Nat) (tx:List Txn) (i:Nat) (t:Txn):Prop where
 a:prevF tx i < t.f
 b:t.f < n
 c:t.b.length≤127
def VT (n:Nat) (tx:List Txn):Prop:=∀ (i:Nat) (t:Txn),tx[i]?=some t→TxOk n tx i t
theorem prevF_succ {tx:List Txn} {i:Nat} {t:Txn} (h:tx[i]?=some t):prevF tx (i+1)=t.f:=by simp [prevF,h]
theorem VT.lo {n:Nat} {tx:List Txn} (h:VT n tx):∀ (i:Nat) (t:Txn),tx[i]?=some t→0≤t.f
 | 0,t,ht=>by have:=(h 0 t ht).a;simp [prevF] at this;omega
 | i+1,t,ht=>by
  have hlt:=(List.getElem?_eq_some_iff.1 ht).1
  have h1:tx[i]?=some tx[i]:=List.getElem?_eq_getElem (by omega)
  have:=(h (i+1) t ht).a
  rw [prevF_succ h1] at this
  have:=VT.lo h i _ h1
  omega
theorem vslot_c (M:List (List Int)) (W:List SV) (hW:W=medV M) (hl:M.length≤6000000000000) (hlr:∀ r∈M,r.length≤18000000000000) (tx:List Txn) (K:List SV) (hK:K=txL tx) (hlk:tx.length≤6000000000000) (hlb:∀ t∈tx,t.b.length≤140737488351232) (b:Bool) (hb:b=true ↔ VM M∧VT M.length tx) :
  Good 63 (pu [.lst none W,.lst (some 2) K] (.bool b)):=by
 obtain ⟨b1,hb1⟩:∃ b,b=true ↔ VM M:=⟨@decide (VM M) (Classical.propDecidable _),by simp⟩
 have g1:=mvalid_c M W hW hl hlr b1 hb1
 have hWl:W.length=M.length:=by rw [hW,matV_len]
 have hKl:K.length=tx.length:=by rw [hK,txL_len]
 have hE:=fun i hi=>tx_at hK i hi
 have Wr:Wrap ((b1=false→b=false)∧(∀ (i:Nat) (t:Txn),tx[i]?=some t→¬ TxOk M.length tx i t→b=false)∧(b1=true→VT M.length tx→b=true)):=by
  refine ⟨fun h=>?_,fun i t ht h=>?_,fun h1 h2=>hb.2 ⟨hb1.1 h1,h2⟩⟩
  ·cases b with
   | false=>rfl
   | true=>have:=hb1.2 (hb.1 rfl).1;rw [this] at h;cases h
  ·cases b with
   | false=>rfl
   | true=>exact absurd ((hb.1 rfl).2 i t ht) h
 clear hb hb1
 refine Good.of Tryz.func63 rfl (by rfl) (by kernel_rfl) ?_
 cbv
 (repeat' (first
| ((first
| (refine q1w (fun z hz=>?_);(try simp only at hz))
| refine rqa ?_
| refine chpA ?_
| refine QCt ?_
| refine QCf ?_);cbv)
| (refine QC.mk ?_ ?_ <;> intro hc <;> (try dsimp only at hc) <;> cbv)
| (refine br_mk2 ?_ ?_ <;> intro hb <;> (try subst hb) <;> cbv)))
 (refine callq (g1) rfl rfl ?_;cbv;(repeat' (first
| ((first
| (refine q1w (fun z hz=>?_);(try simp only at hz))
| refine rqa ?_
| refine chpA ?_
| refine QCt ?_
| refine QCf ?_);cbv)
| (refine QC.mk ?_ ?_ <;> intro hc <;> (try dsimp only at hc) <;> cbv)
| (refine br_mk2 ?_ ?_ <;> intro hb <;> (try subst hb) <;> cbv))))
 ·refine loopQ (A:=Nat × Int × Int) (fun p=>p.2.1=p.1∧p.1≤tx.length∧p.2.2=prevF tx p.1∧∀ (k:Nat) (t:Txn),tx[k]?=some t→k < p.1→TxOk M.length tx k t) (fun p=>tx.length - p.1) (fun p=>[(13,.int .i64 p.2.1),(5,.int .i64 p.2.2)]) (fun p=>[]) (0,0,-1) ⟨rfl,Nat.zero_le _,rfl,fun k y _ h=>absurd h (Nat.not_lt_zero k)⟩ ?_ ?_
  ·cbv
  ·intro ⟨i,j,bf⟩ hh
   have hj:j=(i:Int):=hh.1
   have hi:i≤tx.length:=hh.2.1
   have hbf:bf=prevF tx i:=hh.2.2.1
   have hk:=hh.2.2.2
   dsimp only at hk
   clear hh
   have hmk:True:=trivial
   cbv
   (repeat' (first
| ((first
| (refine q1w (fun z hz=>?_);(try simp only at hz))
| refine rqa ?_
| refine chpA ?_
| refine QCt ?_
| refine QCf ?_);cbv)
| (refine QC.mk ?_ ?_ <;> intro hc <;> (try dsimp only at hc) <;> cbv)
| (refine br_mk2 ?_ ?_ <;> intro hb <;> (try subst hb) <;> cbv)))
   ·have hlt:i < tx.length:=by (first | omega | (simp only [cst] at *;omega) | (simp only [sm] at *;omega))
    obtain ⟨f,bs,B,ht,hB,hLi⟩:=hE i hlt
    have hBl:B.length=bs.length:=by rw [hB,u8l_len]
    have hbl:=hlb _ (List.mem_of_getElem? ht)
    (refine qv (i,_) ⟨hj,hLi⟩ ?_;cbv;(repeat' (first
| ((first
| (refine q1w (fun z hz=>?_);(try simp only at hz))
| refine rqa ?_
| refine chpA ?_
| refine QCt ?_
| refine QCf ?_);cbv)
| (refine QC.mk ?_ ?_ <;> intro hc <;> (try dsimp only at hc) <;> cbv)
| (refine br_mk2 ?_ ?_ <;> intro hb <;> (try subst hb) <;> cbv))))
    ·refine ⟨?_,rfl,rfl⟩
     rw [Wr.h.2.1 i _ ht (fun h=>by have:=h.a;dsimp only at this;omega)]
    ·refine ⟨?_,rfl,rfl⟩
     have hx:¬ f < M.length:=by (first | omega | (simp only [cst] at *;omega) | (simp only [sm] at *;omega))
     rw [Wr.h.2.1 i _ ht (fun h=>hx h.b)]
    ·refine ⟨?_,rfl,rfl⟩
     have hx:¬ bs.length≤127:=by (first | omega | (simp only [cst] at *;omega) | (simp only [sm] at *;omega))
     rw [Wr.h.2.1 i _ ht (fun h=>hx h.c)]
    ·have h1:prevF tx i < f:=by rw [← hbf];(first | omega | (simp only [cst] at *;omega) | (simp only [sm] at *;omega))
     have h2:f < M.length:=by (first | omega | (simp only [cst] at *;omega) | (simp only [sm] at *;omega))
     have h3:bs.length≤127:=by (first | omega | (simp only [cst] at *;omega) | (simp only [sm] at *;omega))
     refine ⟨(i+1,z,f),⟨by show z=((i+1:Nat):Int);(first | omega | (simp only [cst] at *;omega) | (simp only [sm] at *;omega)),by show i+1≤tx.length;omega,(prevF_succ ht).symm,fun q t hq hqi=>?_⟩,by show tx.length - (i+1) < tx.length - i;omega,?_⟩
     ·by_cases hqk:q=i
      ·rw [hqk,ht] at hq;injection hq with hq;rw [hqk,← hq];exact ⟨h1,h2,h3⟩
      ·exact hk q t hq (by have:q < i+1:=hqi;omega)
     cbv
   ·refine ⟨?_,rfl,rfl⟩
    have e:i=tx.length:=by (first | omega | (simp only [cst] at *;omega) | (simp only [sm] at *;omega))
    rw [Wr.h.2.2 rfl (fun q t hq=>hk q t hq (by have:=(List.getElem?_eq_some_iff.1 hq).1;omega))]
 ·refine ⟨?_,rfl,rfl⟩
  rw [Wr.h.1 rfl]
end
end Go.Proofs.YtgfpjhddojhfpaaGreat
