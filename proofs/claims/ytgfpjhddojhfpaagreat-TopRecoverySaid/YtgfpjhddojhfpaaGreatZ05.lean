/- Texts put together: SA SB SC SD. -/
import Derived.Test.YtgfpjhddojhfpaaGreatZ04
namespace Go.Proofs.YtgfpjhddojhfpaaGreat
set_option linter.unusedVariables false
set_option linter.unusedSimpArgs false
section
open Go.RowKit
set_option maxHeartbeats 4000000
def xo (a b:Int):Int:=((a.toNat ^^^ b.toNat:Nat):Int)
def oo (a b:Int):Int:=((a.toNat ||| b.toNat:Nat):Int)
def rotl (x:Int) (k:Nat):Int:=oo (x * 2 ^ k % 18446744073709551616) (x / 2 ^ (64 - k))
def ad (a b:Int):Int:=(a+b) % 18446744073709551616
def u6 (x:Int):Prop:=0≤x∧x≤18446744073709551615
theorem xo_u6 {a b:Int} (ha:u6 a) (hb:u6 b):u6 (xo a b):=by
 unfold u6 xo at *
 have:=Nat.xor_lt_two_pow (x:=a.toNat) (y:=b.toNat) (n:=64) (by omega) (by omega)
 omega
theorem oo_u6 {a b:Int} (ha:u6 a) (hb:u6 b):u6 (oo a b):=by
 unfold u6 oo at *
 have:=Nat.or_lt_two_pow (x:=a.toNat) (y:=b.toNat) (n:=64) (by omega) (by omega)
 omega
theorem ad_u6 (a b:Int):u6 (ad a b):=by unfold u6 ad;omega
theorem div_u6 {a:Int} (ha:u6 a) (k:Nat):u6 (a / 2 ^ k):=by
 have h2:(0:Int) < 2 ^ k:=Int.pow_pos (by omega)
 unfold u6 at *
 refine ⟨Int.ediv_nonneg ha.1 (by omega),?_⟩
 have:a / 2 ^ k≤a:=by
  refine Int.ediv_le_self _ ha.1
 omega
theorem rotl_u6 {x:Int} (hx:u6 x) (k:Nat):u6 (rotl x k):=oo_u6 (by unfold u6;omega) (div_u6 hx _)
theorem rot_c (x:Int) (hx:u6 x) (K:Int) (k:Nat) (hK:K=k) (h1:1≤k∧k≤63) (r:Int) (hr:r=rotl x k):Good 214 (pu [.int .u64 x,.int .i64 K] (.int .u64 r)):=by
 unfold u6 at hx
 have hK0:1≤K∧K≤63:=by omega
 have hK1:K.toNat=k:=by omega
 have hK2:(64 - K).toNat=64 - k:=by omega
 have hb:u6 (x / 2 ^ (64 - k)):=div_u6 hx _
 unfold u6 at hb
 refine Good.of Tryz.func214 rfl (by rfl) (by kernel_rfl) ?_
 cbv
 (repeat' (first
| ((first
| (refine q1w (fun z hz=>?_);(try simp only at hz))
| refine rqa ?_
| refine chpA ?_
| refine QCt ?_
| refine QCf ?_);cbv)
| (refine QC.mk ?_ ?_ <;> intro hc <;> (try dsimp only at hc) <;> cbv)
| (refine br_mk2 ?_ ?_ <;> intro hb <;> (try subst hb) <;> cbv)))
 rename_i z1 h1'
 have e:K=z:=by
  symm
  rw [hz,h1',hK]
  have h2:((k:Int) % 18446744073709551616).toNat=k:=by omega
  have h3:k &&& 63=k % 64:=Nat.and_two_pow_sub_one_eq_mod k 6
  show ((((k:Int) % 18446744073709551616).toNat &&& 63:Nat):Int)=k
  rw [h2,h3]
  omega
 subst e
 clear hz
 (repeat' (first
| ((first
| (refine q1w (fun z hz=>?_);(try simp only at hz))
| refine rqa ?_
| refine chpA ?_
| refine QCt ?_
| refine QCf ?_);cbv)
| (refine QC.mk ?_ ?_ <;> intro hc <;> (try dsimp only at hc) <;> cbv)
| (refine br_mk2 ?_ ?_ <;> intro hb <;> (try subst hb) <;> cbv)))
 rename_i z6 h6 z7 h7
 have e7:z7=64 - K:=by omega
 rw [e7,hK2] at hz
 rw [hK1] at h6
 refine q1 ⟨by omega,by omega,by omega,by omega⟩ fun y hy=>?_
 cbv
 refine ⟨?_,rfl,rfl⟩
 show SV.int .u64 y=.int .u64 r
 rw [hr,hy,h6,hz]
 rfl
end
section
open Go.RowKit
set_option maxHeartbeats 4000000
structure Sp where
 a:Int
 b:Int
 c:Int
 d:Int
structure Sp.Ok (s:Sp):Prop where
 a:u6 s.a
 b:u6 s.b
 c:u6 s.c
 d:u6 s.d
def rd (s:Sp):Sp :=
 let a1:=ad s.a s.b
 let b1:=xo (rotl s.b 13) a1
 let c1:=ad s.c s.d
 let d1:=xo (rotl s.d 16) c1
 let a2:=ad (rotl a1 32) d1
 let c2:=ad c1 b1
 ⟨a2,xo (rotl b1 17) c2,rotl c2 32,xo (rotl d1 21) a2⟩
theorem rd_ok {s:Sp} (h:s.Ok):(rd s).Ok:=by
 obtain ⟨h1,h2,h3,h4⟩:=h
 have e1:=ad_u6 s.a s.b
 have e2:=xo_u6 (rotl_u6 h2 13) e1
 have e3:=ad_u6 s.c s.d
 have e4:=xo_u6 (rotl_u6 h4 16) e3
 exact ⟨ad_u6 _ _,xo_u6 (rotl_u6 e2 17) (ad_u6 _ _),rotl_u6 (ad_u6 _ _) 32,xo_u6 (rotl_u6 e4 21) (ad_u6 _ _)⟩
def rdn:Nat→Sp→Sp
 | 0,s=>s
 | n+1,s=>rd (rdn n s)
theorem rdn_ok {s:Sp} (h:s.Ok):∀ n,(rdn n s).Ok
 | 0=>h
 | n+1=>rd_ok (rdn_ok h n)
theorem rdF (s:Sp) (h:s.Ok) (n:Nat):∃ A B C D:Nat→Int,A 0=s.a∧B 0=s.b∧C 0=s.c∧D 0=s.d∧(∀ i,u6 (A i)∧u6 (B i)∧u6 (C i)∧u6 (D i)) ∧
  (∀ i a1 b0 b1 c1 d0 d1 a0 a2 b2 b3 c2 c3 d2 d3,a1=ad (A i) (B i)→b0=rotl (B i) 13→b1=xo b0 a1→a0=rotl a1 32→c1=ad (C i) (D i)→d0=rotl (D i) 16→d1=xo d0 c1→a2=ad a0 d1→d2=rotl d1 21→d3=xo d2 a2→c2=ad c1 b1→b2=rotl b1 17→b3=xo b2 c2→c3=rotl c2 32 →
   A (i+1)=a2∧B (i+1)=b3∧C (i+1)=c3∧D (i+1)=d3)∧A n=(rdn n s).a∧B n=(rdn n s).b∧C n=(rdn n s).c∧D n=(rdn n s).d:=by
 refine ⟨fun i=>(rdn i s).a,fun i=>(rdn i s).b,fun i=>(rdn i s).c,fun i=>(rdn i s).d,rfl,rfl,rfl,rfl,fun i=>?_,?_,rfl,rfl,rfl,rfl⟩
 ·obtain ⟨h1,h2,h3,h4⟩:=rdn_ok h i
  exact ⟨h1,h2,h3,h4⟩
 ·intros
  subst_vars
  exact ⟨rfl,rfl,rfl,rfl⟩
theorem qxArr {n:Int} {m:Nat} {k:Nat→Prop} (h:n.toNat < m) (hn:0≤n) (g:k n.toNat):QV (fun q:Nat=>n=(q:Int)∧q < m) k:=⟨⟨n.toNat,⟨by omega,h⟩,g⟩⟩
theorem rounds_c (s:Sp) (h:s.Ok) (a b c d N ra rb rc rd:Int) (ha:a=s.a) (hb:b=s.b) (hc:c=s.c) (hd:d=s.d) (n:Nat) (hN:N=n) (hn:n≤4) (hra:ra=(rdn n s).a) (hrb:rb=(rdn n s).b) (hrc:rc=(rdn n s).c) (hrd:rd=(rdn n s).d) :
  Good 201 (pu [.agg [.int .u64 a,.int .u64 b,.int .u64 c,.int .u64 d],.int .i64 N] (.agg [.int .u64 ra,.int .u64 rb,.int .u64 rc,.int .u64 rd])):=by
 obtain ⟨A,B,C,D,A0,B0,C0,D0,hok,hst,An,Bn,Cn,Dn⟩:=rdF s h n
 refine Good.of Tryz.func201 rfl (by rfl) (by kernel_rfl) ?_
 cbv
 (repeat' (first
| ((first
| (refine q1w (fun z hz=>?_);(try simp only at hz))
| refine rqa ?_
| refine chpA ?_
| refine QCt ?_
| refine QCf ?_);cbv)
| (refine QC.mk ?_ ?_ <;> intro hc <;> (try dsimp only at hc) <;> cbv)
| (refine br_mk2 ?_ ?_ <;> intro hb <;> (try subst hb) <;> cbv)))
 refine loopQ (A:=Nat × Int) (fun p=>p.2=p.1∧p.1≤n) (fun p=>n - p.1) (fun p=>[(6,.int .i64 p.2)]) (fun p=>[(2,.chunk 299 (.agg [.int .u64 (A p.1),.int .u64 (B p.1),.int .u64 (C p.1),.int .u64 (D p.1)]))]) (0,0) ⟨rfl,by omega⟩ ?_ ?_
 ·cbv
  refine ⟨?_,trivial⟩
  show Blk.chunk 299 _=Blk.chunk 299 (.agg [.int .u64 (A 0),.int .u64 (B 0),.int .u64 (C 0),.int .u64 (D 0)])
  rw [A0,B0,C0,D0,ha,hb,hc,hd]
 ·intro ⟨i,j⟩ h
  have hj:j=(i:Int):=h.1
  have hi:i≤n:=h.2
  clear h
  have hA:=(hok i).1
  have hB:=(hok i).2.1
  have hC:=(hok i).2.2.1
  have hD:=(hok i).2.2.2
  have hs:=hst i
  have hA1:=hok (i+1)
  have hA':0≤A i∧A i≤18446744073709551615:=hA
  have hB':0≤B i∧B i≤18446744073709551615:=hB
  have hC':0≤C i∧C i≤18446744073709551615:=hC
  have hD':0≤D i∧D i≤18446744073709551615:=hD
  have key:∀ x:Int,0≤x∧x≤18446744073709551615→u6 x:=fun x h=>h
  cbv
  (repeat' (first
| ((first
| (refine q1w (fun z hz=>?_);(try simp only at hz))
| refine rqa ?_
| refine chpA ?_
| refine QCt ?_
| refine QCf ?_);cbv)
| (refine QC.mk ?_ ?_ <;> intro hc <;> (try dsimp only at hc) <;> cbv)
| (refine br_mk2 ?_ ?_ <;> intro hb <;> (try subst hb) <;> cbv)
| ((refine qxArr (by decide) (by decide) ?_;cbv))))
  ·revert z;intro a1 ha1
   have ua1:u6 a1:=by rw [show a1=ad (A i) (B i) from ha1];exact ad_u6 _ _
   have va1:0≤a1∧a1≤18446744073709551615:=ua1
   obtain ⟨b0,gb0⟩:∃ y,y=rotl (B i) 13:=⟨_,rfl⟩
   have ub0:=rotl_u6 hB 13
   rw [← gb0] at ub0
   have vb0:0≤b0∧b0≤18446744073709551615:=ub0
   refine callq (rot_c (B i) hB 13 13 rfl (by omega) b0 gb0) rfl rfl ?_
   cbv
   (repeat' (first
| ((first
| (refine q1w (fun z hz=>?_);(try simp only at hz))
| refine rqa ?_
| refine chpA ?_
| refine QCt ?_
| refine QCf ?_);cbv)
| (refine QC.mk ?_ ?_ <;> intro hc <;> (try dsimp only at hc) <;> cbv)
| (refine br_mk2 ?_ ?_ <;> intro hb <;> (try subst hb) <;> cbv)
| ((refine qxArr (by decide) (by decide) ?_;cbv))))
   revert z;intro b1 hb1
   have ub1:u6 b1:=by rw [show b1=xo b0 a1 from hb1];exact xo_u6 ub0 ua1
   have vb1:0≤b1∧b1≤18446744073709551615:=ub1
   obtain ⟨a0,ga0⟩:∃ y,y=rotl a1 32:=⟨_,rfl⟩
   have ua0:=rotl_u6 ua1 32
   rw [← ga0] at ua0
   have va0:0≤a0∧a0≤18446744073709551615:=ua0
   refine callq (rot_c a1 ua1 32 32 rfl (by omega) a0 ga0) rfl rfl ?_
   cbv
   (repeat' (first
| ((first
| (refine q1w (fun z hz=>?_);(try simp only at hz))
| refine rqa ?_
| refine chpA ?_
| refine QCt ?_
| refine QCf ?_);cbv)
| (refine QC.mk ?_ ?_ <;> intro hc <;> (try dsimp only at hc) <;> cbv)
| (refine br_mk2 ?_ ?_ <;> intro hb <;> (try subst hb) <;> cbv)
| ((refine qxArr (by decide) (by decide) ?_;cbv))))
   revert z;intro c1 hc1
   have uc1:u6 c1:=by rw [show c1=ad (C i) (D i) from hc1];exact ad_u6 _ _
   have vc1:0≤c1∧c1≤18446744073709551615:=uc1
   obtain ⟨d0,gd0⟩:∃ y,y=rotl (D i) 16:=⟨_,rfl⟩
   have ud0:=rotl_u6 hD 16
   rw [← gd0] at ud0
   have vd0:0≤d0∧d0≤18446744073709551615:=ud0
   refine callq (rot_c (D i) hD 16 16 rfl (by omega) d0 gd0) rfl rfl ?_
   cbv
   (repeat' (first
| ((first
| (refine q1w (fun z hz=>?_);(try simp only at hz))
| refine rqa ?_
| refine chpA ?_
| refine QCt ?_
| refine QCf ?_);cbv)
| (refine QC.mk ?_ ?_ <;> intro hc <;> (try dsimp only at hc) <;> cbv)
| (refine br_mk2 ?_ ?_ <;> intro hb <;> (try subst hb) <;> cbv)
| ((refine qxArr (by decide) (by decide) ?_;cbv))))
   rename_i d1 hd1
   revert z;intro a2 ha2
   have ud1:u6 d1:=by rw [show d1=xo d0 c1 from hd1];exact xo_u6 ud0 uc1
   have vd1:0≤d1∧d1≤18446744073709551615:=ud1
   have ua2:u6 a2:=by rw [show a2=ad a0 d1 from ha2];exact ad_u6 _ _
   have va2:0≤a2∧a2≤18446744073709551615:=ua2
   obtain ⟨d2,gd2⟩:∃ y,y=rotl d1 21:=⟨_,rfl⟩
   have ud2:=rotl_u6 ud1 21
   rw [← gd2] at ud2
   have vd2:0≤d2∧d2≤18446744073709551615:=ud2
   refine callq (rot_c d1 ud1 21 21 rfl (by omega) d2 gd2) rfl rfl ?_
   cbv
   (repeat' (first
| ((first
| (refine q1w (fun z hz=>?_);(try simp only at hz))
| refine rqa ?_
| refine chpA ?_
| refine QCt ?_
| refine QCf ?_);cbv)
| (refine QC.mk ?_ ?_ <;> intro hc <;> (try dsimp only at hc) <;> cbv)
| (refine br_mk2 ?_ ?_ <;> intro hb <;> (try subst hb) <;> cbv)
| ((refine qxArr (by decide) (by decide) ?_;cbv))))
   rename_i d3 hd3
   revert z;intro c2 hc2
   have ud3:u6 d3:=by rw [show d3=xo d2 a2 from hd3];exact xo_u6 ud2 ua2
   have vd3:0≤d3∧d3≤18446744073709551615:=ud3
   have uc2:u6 c2:=by rw [show c2=ad c1 b1 from hc2];exact ad_u6 _ _
   have vc2:0≤c2∧c2≤18446744073709551615:=uc2
   obtain ⟨b2,gb2⟩:∃ y,y=rotl b1 17:=⟨_,rfl⟩
   have ub2:=rotl_u6 ub1 17
   rw [← gb2] at ub2
   have vb2:0≤b2∧b2≤18446744073709551615:=ub2
   refine callq (rot_c b1 ub1 17 17 rfl (by omega) b2 gb2) rfl rfl ?_
   cbv
   (repeat' (first
| ((first
| (refine q1w (fun z hz=>?_);(try simp only at hz))
| refine rqa ?_
| refine chpA ?_
| refine QCt ?_
| refine QCf ?_);cbv)
| (refine QC.mk ?_ ?_ <;> intro hc <;> (try dsimp only at hc) <;> cbv)
| (refine br_mk2 ?_ ?_ <;> intro hb <;> (try subst hb) <;> cbv)
| ((refine qxArr (by decide) (by decide) ?_;cbv))))
   revert z;intro b3 hb3
   have ub3:u6 b3:=by rw [show b3=xo b2 c2 from hb3];exact xo_u6 ub2 uc2
   have vb3:0≤b3∧b3≤18446744073709551615:=ub3
   obtain ⟨c3,gc3⟩:∃ y,y=rotl c2 32:=⟨_,rfl⟩
   have uc3:=rotl_u6 uc2 32
   rw [← gc3] at uc3
   have vc3:0≤c3∧c3≤18446744073709551615:=uc3
   refine callq (rot_c c2 uc2 32 32 rfl (by omega) c3 gc3) rfl rfl ?_
   cbv
   (repeat' (first
| ((first
| (refine q1w (fun z hz=>?_);(try simp only at hz))
| refine rqa ?_
| refine chpA ?_
| refine QCt ?_
| refine QCf ?_);cbv)
| (refine QC.mk ?_ ?_ <;> intro hc <;> (try dsimp only at hc) <;> cbv)
| (refine br_mk2 ?_ ?_ <;> intro hb <;> (try subst hb) <;> cbv)
| ((refine qxArr (by decide) (by decide) ?_;cbv))))
   obtain ⟨e1,e2,e3,e4⟩:=hs a1 b0 b1 c1 d0 d1 a0 a2 b2 b3 c2 c3 d2 d3 ha1 gb0 hb1 ga0 hc1 gd0 hd1 ha2 gd2 hd3 hc2 gb2 hb3 gc3
   refine ⟨(i+1,z),⟨by (first | omega | (simp only [cst] at *;omega) | (simp only [sm] at *;omega)),by (first | omega | (simp only [cst] at *;omega) | (simp only [sm] at *;omega))⟩,by (first | omega | (simp only [cst] at *;omega) | (simp only [sm] at *;omega)),?_⟩
   cbv
   refine ⟨?_,trivial⟩
   show Blk.chunk 299 (.agg [.int .u64 a2,.int .u64 b3,.int .u64 c3,.int .u64 d3])=Blk.chunk 299 (.agg [.int .u64 (A (i+1)),.int .u64 (B (i+1)),.int .u64 (C (i+1)),.int .u64 (D (i+1))])
   rw [e1,e2,e3,e4]
  ·have e:i=n:=by (first | omega | (simp only [cst] at *;omega) | (simp only [sm] at *;omega))
   refine ⟨?_,rfl,rfl⟩
   show SV.agg [.int .u64 (A i),.int .u64 (B i),.int .u64 (C i),.int .u64 (D i)]=_
   rw [e,An,Bn,Cn,Dn,hra,hrb,hrc,hrd]
end
section
open Go.RowKit
set_option maxHeartbeats 4000000
def mixP (s:Sp) (m:Int):Sp :=
 let t:=rdn 2 ⟨s.a,s.b,s.c,xo s.d m⟩
 ⟨xo t.a m,t.b,t.c,t.d⟩
theorem mixP_ok {s:Sp} (h:s.Ok) {m:Int} (hm:u6 m):(mixP s m).Ok:=by
 have hk:(⟨s.a,s.b,s.c,xo s.d m⟩:Sp).Ok:=⟨h.a,h.b,h.c,xo_u6 h.d hm⟩
 have h2:=rdn_ok hk 2
 unfold mixP
 generalize rdn 2 ⟨s.a,s.b,s.c,xo s.d m⟩=t at *
 exact ⟨xo_u6 h2.a hm,h2.b,h2.c,h2.d⟩
theorem mix_c (s:Sp) (h:s.Ok) (m a b c d ra rb rc rd:Int) (hm:u6 m) (ha:a=s.a) (hb:b=s.b) (hc:c=s.c) (hd:d=s.d) (hra:ra=(mixP s m).a) (hrb:rb=(mixP s m).b) (hrc:rc=(mixP s m).c) (hrd:rd=(mixP s m).d) :
  Good 200 (pu [.agg [.int .u64 a,.int .u64 b,.int .u64 c,.int .u64 d],.int .u64 m] (.agg [.int .u64 ra,.int .u64 rb,.int .u64 rc,.int .u64 rd])):=by
 have hv:0≤m∧m≤18446744073709551615:=hm
 have hdv:0≤d∧d≤18446744073709551615:=by rw [hd];exact h.d
 obtain ⟨d1,hd1⟩:∃ y,y=xo d m:=⟨_,rfl⟩
 have hok:(⟨s.a,s.b,s.c,d1⟩:Sp).Ok:=⟨h.a,h.b,h.c,by rw [hd1];exact xo_u6 hdv hm⟩
 obtain ⟨t,ht⟩:∃ y,y=rdn 2 ⟨s.a,s.b,s.c,d1⟩:=⟨_,rfl⟩
 have htk:=rdn_ok hok 2
 rw [← ht] at htk
 obtain ⟨ta,hta⟩:∃ y,y=t.a:=⟨_,rfl⟩
 obtain ⟨tb,htb⟩:∃ y,y=t.b:=⟨_,rfl⟩
 obtain ⟨tc,htc⟩:∃ y,y=t.c:=⟨_,rfl⟩
 obtain ⟨td,htd⟩:∃ y,y=t.d:=⟨_,rfl⟩
 have hc2:=rounds_c ⟨s.a,s.b,s.c,d1⟩ hok a b c d1 2 ta tb tc td ha hb hc rfl 2 rfl (by omega) (by rw [hta,ht]) (by rw [htb,ht]) (by rw [htc,ht]) (by rw [htd,ht])
 have hav:0≤ta∧ta≤18446744073709551615:=by rw [hta];exact htk.a
 have em:mixP s m=⟨xo ta m,tb,tc,td⟩:=by
  rw [hta,htb,htc,htd,ht,hd1,hd,mixP]
 rw [em] at hra hrb hrc hrd
 refine Good.of Tryz.func200 rfl (by rfl) (by kernel_rfl) ?_
 cbv
 (repeat' (first
| ((first
| (refine q1w (fun z hz=>?_);(try simp only at hz))
| refine rqa ?_
| refine chpA ?_
| refine QCt ?_
| refine QCf ?_);cbv)
| (refine QC.mk ?_ ?_ <;> intro hc <;> (try dsimp only at hc) <;> cbv)
| (refine br_mk2 ?_ ?_ <;> intro hb <;> (try subst hb) <;> cbv)
| ((refine qxArr (by decide) (by decide) ?_;cbv))))
 have e:d1=z:=by rw [hz,hd1];rfl
 subst e
 clear hz
 refine callq hc2 rfl rfl ?_
 cbv
 (repeat' (first
| ((first
| (refine q1w (fun z hz=>?_);(try simp only at hz))
| refine rqa ?_
| refine chpA ?_
| refine QCt ?_
| refine QCf ?_);cbv)
| (refine QC.mk ?_ ?_ <;> intro hc <;> (try dsimp only at hc) <;> cbv)
| (refine br_mk2 ?_ ?_ <;> intro hb <;> (try subst hb) <;> cbv)
| ((refine qxArr (by decide) (by decide) ?_;cbv))))
 refine ⟨?_,rfl,rfl⟩
 show SV.agg [.int .u64 z,.int .u64 tb,.int .u64 tc,.int .u64 td]=_
 rw [hz,hra,hrb,hrc,hrd]
 rfl
def lsN:List UInt8→Nat
 | []=>0
 | b::l=>b.toNat+256 * lsN l
theorem lsN_lt:∀ l:List UInt8,lsN l < 256 ^ l.length
 | []=>by simp [lsN]
 | b::l=>by
  have:=lsN_lt l
  have hb:=b.toNat_lt
  simp only [lsN,List.length_cons,Nat.pow_succ]
  omega
theorem lsN_app:∀ (l m:List UInt8),lsN (l++m)=lsN l+256 ^ l.length * lsN m
 | [],m=>by simp [lsN]
 | b::l,m=>by
  simp only [List.cons_append,lsN,lsN_app l m,List.length_cons,Nat.pow_succ,Nat.mul_add]
  rw [Nat.mul_comm (256 ^ l.length) 256,Nat.mul_assoc]
  omega
theorem p256 (i:Nat):256 ^ i=2 ^ (8 * i):=by rw [Nat.pow_mul]
theorem lsN_step (l:List UInt8) (i:Nat) (hi:i < l.length) (h8:l.length≤8) (x s:Int) (hx:x=((l.getD i 0).toNat:Int) * 2 ^ (8 * i) % 18446744073709551616):oo (lsN (l.take i)) x=lsN (l.take (i+1)):=by
 have h1:l.take (i+1)=l.take i++[l.getD i 0]:=by rw [List.take_add_one];simp [List.getD,hi]
 have hl:(l.take i).length=i:=by rw [List.length_take];omega
 have hlt:=lsN_lt (l.take i)
 rw [h1,lsN_app,hl,p256] at *
 simp only [lsN,Nat.mul_zero,Nat.add_zero]
 have hb:=(l.getD i 0).toNat_lt
 generalize (l.getD i 0).toNat=b at *
 have hp:2 ^ (8 * i) * b < 2 ^ (8 * i) * 256:=(Nat.mul_lt_mul_left (Nat.two_pow_pos _)).2 hb
 have hp2:2 ^ (8 * i) * 256≤2 ^ 64:=by
  rw [show (256:Nat)=2 ^ 8 by rfl,← Nat.pow_add]
  exact Nat.pow_le_pow_right (by omega) (by omega)
 have hxe:x=((2 ^ (8 * i) * b:Nat):Int):=by
  rw [hx]
  have:((b:Int) * 2 ^ (8 * i))=((2 ^ (8 * i) * b:Nat):Int):=by
   rw [Int.natCast_mul,Int.natCast_pow]
   exact Int.mul_comm _ _
  rw [this]
  omega
 unfold oo
 rw [hxe,Int.toNat_natCast,Int.toNat_natCast,Nat.or_comm,← Nat.two_pow_add_eq_or_of_lt hlt]
 omega
end
section
open Go.RowKit
set_option maxHeartbeats 4000000
theorem lsF (bs:List UInt8) (h8:bs.length≤8):∃ V B:Nat→Int,V 0=0∧V bs.length=lsN bs∧(∀ i,u6 (V i))∧∀ i,i < bs.length→(u8l bs)[i]?=some (.int .u8 (B i))∧(0≤B i∧B i≤255)∧∀ x,x=B i * 2 ^ (8 * i) % 18446744073709551616→oo (V i) x=V (i+1):=by
 refine ⟨fun i=>lsN (bs.take i),fun i=>(bs.getD i 0).toNat,rfl,by simp,fun i=>?_,fun i hi=>⟨u8l_at i hi,?_,fun x hx=>lsN_step bs i hi h8 x x hx⟩⟩
 ·have h1:=lsN_lt (bs.take i)
  have h2:256 ^ (bs.take i).length≤256 ^ 8:=Nat.pow_le_pow_right (by omega) (by rw [List.length_take];omega)
  unfold u6
  dsimp only
  omega
 ·have:=(bs.getD i 0).toNat_lt
  dsimp only
  omega
theorem little_c (bs:List UInt8) (h8:bs.length≤8) (X:List SV) (r:Int) (hX:X=u8l bs) (hr:r=lsN bs):Good 199 (pu [.lst none X] (.int .u64 r)):=by
 obtain ⟨V,B,V0,Vn,hV,hB⟩:=lsF bs h8
 have hl:X.length=bs.length:=by rw [hX,u8l_len]
 refine Good.of Tryz.func199 rfl (by rfl) (by kernel_rfl) ?_
 cbv
 (repeat' (first
| ((first
| (refine q1w (fun z hz=>?_);(try simp only at hz))
| refine rqa ?_
| refine chpA ?_
| refine QCt ?_
| refine QCf ?_);cbv)
| (refine QC.mk ?_ ?_ <;> intro hc <;> (try dsimp only at hc) <;> cbv)
| (refine br_mk2 ?_ ?_ <;> intro hb <;> (try subst hb) <;> cbv)))
 refine loopQ (A:=Nat × Int) (fun p=>p.2=p.1∧p.1≤bs.length) (fun p=>bs.length - p.1) (fun p=>[(3,.int .u64 (V p.1)),(8,.int .i64 p.2)]) (fun p=>[]) (0,0) ⟨rfl,by omega⟩ ?_ ?_
 ·cbv
  refine ⟨⟨?_,trivial⟩,trivial⟩
  show SV.int .u64 0=SV.int .u64 (V 0)
  rw [V0]
 ·intro ⟨i,j⟩ h
  have hj:j=(i:Int):=h.1
  have hi:i≤bs.length:=h.2
  clear h
  have hv1:0≤V i∧V i≤18446744073709551615:=hV i
  have hbi:=hB i
  have hj8:(8 * j).toNat=8 * i:=by omega
  cbv
  (repeat' (first
| ((first
| (refine q1w (fun z hz=>?_);(try simp only at hz))
| refine rqa ?_
| refine chpA ?_
| refine QCt ?_
| refine QCf ?_);cbv)
| (refine QC.mk ?_ ?_ <;> intro hc <;> (try dsimp only at hc) <;> cbv)
| (refine br_mk2 ?_ ?_ <;> intro hb <;> (try subst hb) <;> cbv)))
  ·have hjm:i < bs.length:=by (first | omega | (simp only [cst] at *;omega) | (simp only [sm] at *;omega))
   have b1:=(hbi hjm).1
   have b2:=(hbi hjm).2.1
   have b3:=(hbi hjm).2.2
   refine qv (i,.int .u8 (B i)) ⟨hj,by rw [hX];exact b1⟩ ?_
   cbv
   (repeat' (first
| ((first
| (refine q1w (fun z hz=>?_);(try simp only at hz))
| refine rqa ?_
| refine chpA ?_
| refine QCt ?_
| refine QCf ?_);cbv)
| (refine QC.mk ?_ ?_ <;> intro hc <;> (try dsimp only at hc) <;> cbv)
| (refine br_mk2 ?_ ?_ <;> intro hb <;> (try subst hb) <;> cbv)))
   rename_i z0 g0 z1 g1 z2 g2 z3 g3
   have e0:z0=B i:=by omega
   rw [e0,g1,hj8] at g2
   have e3:=b3 z2 g2
   refine ⟨(i+1,z),⟨by (first | omega | (simp only [cst] at *;omega) | (simp only [sm] at *;omega)),by (first | omega | (simp only [cst] at *;omega) | (simp only [sm] at *;omega))⟩,by (first | omega | (simp only [cst] at *;omega) | (simp only [sm] at *;omega)),?_⟩
   cbv
   refine ⟨⟨?_,trivial⟩,trivial⟩
   show SV.int .u64 z3=SV.int .u64 (V (i+1))
   rw [← e3,g3]
   rfl
  ·have e:i=bs.length:=by (first | omega | (simp only [cst] at *;omega) | (simp only [sm] at *;omega))
   refine ⟨?_,rfl,rfl⟩
   show SV.int .u64 (V i)=.int .u64 r
   rw [e,Vn,hr]
def wordN (bs:List UInt8) (i:Nat):Int:=lsN ((bs.drop (8 * i)).take 8)
def lastW (bs:List UInt8):Int:=oo (lsN (bs.drop (8 * (bs.length / 8)))) ((bs.length:Int) * 2 ^ 56 % 18446744073709551616)
def stN (s:Sp) (bs:List UInt8):Nat→Sp
 | 0=>s
 | i+1=>mixP (stN s bs i) (wordN bs i)
def finP (s:Sp) (bs:List UInt8):Sp :=
 let t:=mixP (stN s bs (bs.length / 8)) (lastW bs)
 rdn 4 ⟨t.a,t.b,xo t.c 255,t.d⟩
def outP (t:Sp):Int:=xo (xo (xo t.a t.b) t.c) t.d
def iniP (k0 k1:Int):Sp:=⟨xo k0 8317987319222330741,xo k1 7237128888997146477,xo k0 7816392313619706465,xo k1 8387220255154660723⟩
def keyB:List UInt8:=[17,18,19,20,21,22,23,24,25,26,27,28,29,30,31,32]
def sumP (bs:List UInt8):Int:=outP (finP (iniP (lsN (keyB.take 8)) (lsN (keyB.drop 8))) bs)
theorem lsN_u6 (l:List UInt8) (h:l.length≤8):u6 (lsN l):=by
 have h1:=lsN_lt l
 have h2:256 ^ l.length≤256 ^ 8:=Nat.pow_le_pow_right (by omega) h
 unfold u6
 omega
theorem wordN_u6 (bs:List UInt8) (i:Nat):u6 (wordN bs i):=lsN_u6 _ (by rw [List.length_take];omega)
theorem lastW_u6 (bs:List UInt8):u6 (lastW bs):=oo_u6 (lsN_u6 _ (by rw [List.length_drop];omega)) (by unfold u6;omega)
theorem stN_ok {s:Sp} (h:s.Ok) (bs:List UInt8):∀ i,(stN s bs i).Ok
 | 0=>h
 | i+1=>mixP_ok (stN_ok h bs i) (wordN_u6 bs i)
theorem iniP_ok {k0 k1:Int} (h0:u6 k0) (h1:u6 k1):(iniP k0 k1).Ok:=⟨xo_u6 h0 (by unfold u6;omega),xo_u6 h1 (by unfold u6;omega),xo_u6 h0 (by unfold u6;omega),xo_u6 h1 (by unfold u6;omega)⟩
theorem finP_eq (s:Sp) (bs:List UInt8) (t:Sp) (ht:mixP (stN s bs (bs.length / 8)) (lastW bs)=t):finP s bs=rdn 4 ⟨t.a,t.b,xo t.c 255,t.d⟩:=by
 unfold finP
 rw [ht]
theorem sum_fin (bs:List UInt8) (k0 k1:Int) (hk0:k0=lsN (keyB.take 8)) (hk1:k1=lsN (keyB.drop 8)) (t:Sp) (ht:mixP (stN (iniP k0 k1) bs (bs.length / 8)) (lastW bs)=t) (q:Sp) (hq:q=rdn 4 ⟨t.a,t.b,xo t.c 255,t.d⟩) (x1 x2 qd:Int) (h1:x1=xo q.a q.b) (h2:x2=xo x1 q.c) (h3:qd=q.d):sumP bs=xo x2 qd:=by
 unfold sumP
 rw [← hk0,← hk1,finP_eq _ _ _ ht,← hq,outP,h2,h1,h3]
theorem sumF (bs:List UInt8) (s:Sp) (hs:s.Ok):∃ A B C D W:Nat→Int,A 0=s.a∧B 0=s.b∧C 0=s.c∧D 0=s.d ∧
  (∀ i,Good 200 (pu [.agg [.int .u64 (A i),.int .u64 (B i),.int .u64 (C i),.int .u64 (D i)],.int .u64 (W i)] (.agg [.int .u64 (A (i+1)),.int .u64 (B (i+1)),.int .u64 (C (i+1)),.int .u64 (D (i+1))]))) ∧
  (∀ i X,X=u8l ((bs.drop (8 * i)).take 8)→Good 199 (pu [.lst none X] (.int .u64 (W i)))) ∧
  (stN s bs (bs.length / 8)=⟨A (bs.length / 8),B (bs.length / 8),C (bs.length / 8),D (bs.length / 8)⟩):=by
 refine ⟨fun i=>(stN s bs i).a,fun i=>(stN s bs i).b,fun i=>(stN s bs i).c,fun i=>(stN s bs i).d,fun i=>wordN bs i,rfl,rfl,rfl,rfl,fun i=>?_,fun i X hX=>?_,rfl⟩
 ·exact mix_c (stN s bs i) (stN_ok hs bs i) _ _ _ _ _ _ _ _ _ (wordN_u6 bs i) rfl rfl rfl rfl rfl rfl rfl rfl
 ·exact little_c _ (by rw [List.length_take];omega) X _ hX rfl
theorem sum_c (bs:List UInt8) (X:List SV) (r:Int) (hX:X=u8l bs) (hl:bs.length≤100000) (hr:r=sumP bs) :
  Good 166 (pu [.agg [.int .u8 17,.int .u8 18,.int .u8 19,.int .u8 20,.int .u8 21,.int .u8 22,.int .u8 23,.int .u8 24,.int .u8 25,.int .u8 26,.int .u8 27,.int .u8 28,.int .u8 29,.int .u8 30,.int .u8 31,.int .u8 32],.lst none X] (.int .u64 r)):=by
 have hl':X.length=bs.length:=by rw [hX,u8l_len]
 obtain ⟨k0,hk0⟩:∃ y:Int,y=lsN (keyB.take 8):=⟨_,rfl⟩
 obtain ⟨k1,hk1⟩:∃ y:Int,y=lsN (keyB.drop 8):=⟨_,rfl⟩
 have u0:u6 k0:=by rw [hk0];exact lsN_u6 _ (by decide)
 have u1:u6 k1:=by rw [hk1];exact lsN_u6 _ (by decide)
 have v0:0≤k0∧k0≤18446744073709551615:=u0
 have v1:0≤k1∧k1≤18446744073709551615:=u1
 have l0:=little_c (keyB.take 8) (by decide) (O.tk 8 [.int .u8 17,.int .u8 18,.int .u8 19,.int .u8 20,.int .u8 21,.int .u8 22,.int .u8 23,.int .u8 24,.int .u8 25,.int .u8 26,.int .u8 27,.int .u8 28,.int .u8 29,.int .u8 30,.int .u8 31,.int .u8 32]) k0 (by rw [otk];rfl) hk0
 have l1:=little_c (keyB.drop 8) (by decide) (O.dr 8 [.int .u8 17,.int .u8 18,.int .u8 19,.int .u8 20,.int .u8 21,.int .u8 22,.int .u8 23,.int .u8 24,.int .u8 25,.int .u8 26,.int .u8 27,.int .u8 28,.int .u8 29,.int .u8 30,.int .u8 31,.int .u8 32]) k1 (by rw [odr];rfl) hk1
 obtain ⟨A,B,C,D,W,A0,B0,C0,D0,hm,hlw,An⟩:=sumF bs (iniP k0 k1) (iniP_ok u0 u1)
 obtain ⟨lw,hlw0⟩:∃ y:Int,y=lsN (bs.drop (8 * (bs.length / 8))):=⟨_,rfl⟩
 have ulw:u6 lw:=by rw [hlw0];exact lsN_u6 _ (by rw [List.length_drop];omega)
 have hLW:oo lw ((bs.length:Int) * 2 ^ 56 % 18446744073709551616)=lastW bs:=by rw [hlw0];rfl
 have vlw:0≤lw∧lw≤18446744073709551615:=ulw
 have hokw:=stN_ok (iniP_ok u0 u1) bs (bs.length / 8)
 refine Good.of Tryz.func166 rfl (by rfl) (by kernel_rfl) ?_
 cbv
 (repeat' (first
| ((first
| (refine q1w (fun z hz=>?_);(try simp only at hz))
| refine rqa ?_
| refine chpA ?_
| refine QCt ?_
| refine QCf ?_);cbv)
| (refine QC.mk ?_ ?_ <;> intro hc <;> (try dsimp only at hc) <;> cbv)
| (refine br_mk2 ?_ ?_ <;> intro hb <;> (try subst hb) <;> cbv)
| ((refine qxArr (by decide) (by decide) ?_;cbv))
| (refine callq (l0) rfl rfl ?_;cbv)
| (refine callq (l1) rfl rfl ?_;cbv)))
 rename_i a0 ga b0 gb c0 gc d0 gd z1 g1
 have hw:z=((bs.length / 8:Nat):Int):=by (first | omega | (simp only [cst] at *;omega) | (simp only [sm] at *;omega))
 obtain ⟨w,hwn⟩:∃ w,w=bs.length / 8:=⟨_,rfl⟩
 rw [← hwn] at hw An
 refine loopQ (A:=Nat × Int) (fun p=>p.2=p.1∧p.1≤w) (fun p=>w - p.1) (fun p=>[(27,.int .i64 p.2)]) (fun p=>[(7,.chunk 299 (.agg [.int .u64 (A p.1),.int .u64 (B p.1),.int .u64 (C p.1),.int .u64 (D p.1)]))]) (0,0) ⟨rfl,by omega⟩ ?_ ?_
 ·cbv
  refine ⟨?_,trivial⟩
  show Blk.chunk 299 (.agg [.int .u64 a0,.int .u64 b0,.int .u64 c0,.int .u64 d0])=Blk.chunk 299 (.agg [.int .u64 (A 0),.int .u64 (B 0),.int .u64 (C 0),.int .u64 (D 0)])
  rw [A0,B0,C0,D0,ga,gb,gc,gd]
  rfl
 ·intro ⟨i,j⟩ h
  have hj:j=(i:Int):=h.1
  have hi:i≤w:=h.2
  clear h
  have hmi:=hm i
  cbv
  (repeat' (first
| ((first
| (refine q1w (fun z hz=>?_);(try simp only at hz))
| refine rqa ?_
| refine chpA ?_
| refine QCt ?_
| refine QCf ?_);cbv)
| (refine QC.mk ?_ ?_ <;> intro hc <;> (try dsimp only at hc) <;> cbv)
| (refine br_mk2 ?_ ?_ <;> intro hb <;> (try subst hb) <;> cbv)))
  ·have hiw:i < w:=by (first | omega | (simp only [cst] at *;omega) | (simp only [sm] at *;omega))
   rename_i y1 f1 y2 f2
   have e1:y1.toNat=8 * i:=by (first | omega | (simp only [cst] at *;omega) | (simp only [sm] at *;omega))
   have e2:z.toNat - y1.toNat=8:=by (first | omega | (simp only [cst] at *;omega) | (simp only [sm] at *;omega))
   refine callq (hlw i (O.sg X (O.tn y1) (O.si z y1)) (by rw [osg,otn,osi,hX,u8l_drop,u8l_take,e2,e1])) rfl rfl ?_
   cbv
   (repeat' (first
| ((first
| (refine q1w (fun z hz=>?_);(try simp only at hz))
| refine rqa ?_
| refine chpA ?_
| refine QCt ?_
| refine QCf ?_);cbv)
| (refine QC.mk ?_ ?_ <;> intro hc <;> (try dsimp only at hc) <;> cbv)
| (refine br_mk2 ?_ ?_ <;> intro hb <;> (try subst hb) <;> cbv)))
   refine callq hmi rfl rfl ?_
   cbv
   (repeat' (first
| ((first
| (refine q1w (fun z hz=>?_);(try simp only at hz))
| refine rqa ?_
| refine chpA ?_
| refine QCt ?_
| refine QCf ?_);cbv)
| (refine QC.mk ?_ ?_ <;> intro hc <;> (try dsimp only at hc) <;> cbv)
| (refine br_mk2 ?_ ?_ <;> intro hb <;> (try subst hb) <;> cbv)))
   refine ⟨(i+1,z),⟨by (first | omega | (simp only [cst] at *;omega) | (simp only [sm] at *;omega)),by (first | omega | (simp only [cst] at *;omega) | (simp only [sm] at *;omega))⟩,by (first | omega | (simp only [cst] at *;omega) | (simp only [sm] at *;omega)),?_⟩
   cbv
   exact ⟨rfl,trivial⟩
  ·have e:i=w:=by (first | omega | (simp only [cst] at *;omega) | (simp only [sm] at *;omega))
   subst e
   rename_i z0 _
   have e1:z.toNat=8 * (bs.length / 8):=by (first | omega | (simp only [cst] at *;omega) | (simp only [sm] at *;omega))
   refine callq (little_c (bs.drop (8 * (bs.length / 8))) (by rw [List.length_drop];omega) (O.dr z X) lw (by rw [odr,hX,u8l_drop,e1]) hlw0) rfl rfl ?_
   cbv
   (repeat' (first
| ((first
| (refine q1w (fun z hz=>?_);(try simp only at hz))
| refine rqa ?_
| refine chpA ?_
| refine QCt ?_
| refine QCf ?_);cbv)
| (refine QC.mk ?_ ?_ <;> intro hc <;> (try dsimp only at hc) <;> cbv)
| (refine br_mk2 ?_ ?_ <;> intro hb <;> (try subst hb) <;> cbv)))
   rename_i y0 f0 y1 f1 y2 f2
   have ez:lastW bs=z:=by
    have h56:(2:Int) ^ Int.toNat 56=2 ^ 56:=rfl
    have hy1:y1=(bs.length:Int):=by (first | omega | (simp only [cst] at *;omega) | (simp only [sm] at *;omega))
    rw [← hLW,hz,f2,h56,hy1]
    rfl
   rw [← hwn] at hokw
   rw [An] at hokw
   have uz:u6 z:=by rw [← ez];exact lastW_u6 bs
   obtain ⟨t,ht⟩:∃ y,y=mixP ⟨A i,B i,C i,D i⟩ z:=⟨_,rfl⟩
   have htk:t.Ok:=by rw [ht];exact mixP_ok hokw uz
   obtain ⟨ta,hta⟩:∃ y,y=t.a:=⟨_,rfl⟩
   obtain ⟨tb,htb⟩:∃ y,y=t.b:=⟨_,rfl⟩
   obtain ⟨tc,htc⟩:∃ y,y=t.c:=⟨_,rfl⟩
   obtain ⟨td,htd⟩:∃ y,y=t.d:=⟨_,rfl⟩
   have vtc:0≤tc∧tc≤18446744073709551615:=by rw [htc];exact htk.c
   have hq:=mix_c ⟨A i,B i,C i,D i⟩ hokw z (A i) (B i) (C i) (D i) ta tb tc td uz rfl rfl rfl rfl (by rw [hta,ht]) (by rw [htb,ht]) (by rw [htc,ht]) (by rw [htd,ht])
   refine callq hq rfl rfl ?_
   clear hq
   cbv
   (repeat' (first
| ((first
| (refine q1w (fun z hz=>?_);(try simp only at hz))
| refine rqa ?_
| refine chpA ?_
| refine QCt ?_
| refine QCf ?_);cbv)
| (refine QC.mk ?_ ?_ <;> intro hc <;> (try dsimp only at hc) <;> cbv)
| (refine br_mk2 ?_ ?_ <;> intro hb <;> (try subst hb) <;> cbv)
| ((refine qxArr (by decide) (by decide) ?_;cbv))))
   obtain ⟨c2,hc2⟩:∃ y,y=xo tc 255:=⟨_,rfl⟩
   have e9:c2=z:=by rw [hc2,hz];rfl
   subst e9
   clear hz
   have hk4:(⟨ta,tb,c2,td⟩:Sp).Ok:=⟨by rw [hta];exact htk.a,by rw [htb];exact htk.b,by rw [hc2];exact xo_u6 vtc (by unfold u6;omega),by rw [htd];exact htk.d⟩
   obtain ⟨q,hq⟩:∃ y,y=rdn 4 ⟨ta,tb,c2,td⟩:=⟨_,rfl⟩
   have hqk:q.Ok:=by rw [hq];exact rdn_ok hk4 4
   obtain ⟨qa,hqa⟩:∃ y,y=q.a:=⟨_,rfl⟩
   obtain ⟨qb,hqb⟩:∃ y,y=q.b:=⟨_,rfl⟩
   obtain ⟨qc,hqc⟩:∃ y,y=q.c:=⟨_,rfl⟩
   obtain ⟨qd,hqd⟩:∃ y,y=q.d:=⟨_,rfl⟩
   have va:u6 qa:=by rw [hqa];exact hqk.a
   have vb:u6 qb:=by rw [hqb];exact hqk.b
   have vc:u6 qc:=by rw [hqc];exact hqk.c
   have vd:u6 qd:=by rw [hqd];exact hqk.d
   have va':0≤qa∧qa≤18446744073709551615:=va
   have vb':0≤qb∧qb≤18446744073709551615:=vb
   have vc':0≤qc∧qc≤18446744073709551615:=vc
   have vd':0≤qd∧qd≤18446744073709551615:=vd
   have hg:=rounds_c ⟨ta,tb,c2,td⟩ hk4 ta tb c2 td 4 qa qb qc qd rfl rfl rfl rfl 4 rfl (by omega) (by rw [hqa,hq]) (by rw [hqb,hq]) (by rw [hqc,hq]) (by rw [hqd,hq])
   refine callq hg rfl rfl ?_
   clear hg
   cbv
   (repeat' (first
| ((first
| (refine q1w (fun z hz=>?_);(try simp only at hz))
| refine rqa ?_
| refine chpA ?_
| refine QCt ?_
| refine QCf ?_);cbv)
| (refine QC.mk ?_ ?_ <;> intro hc <;> (try dsimp only at hc) <;> cbv)
| (refine br_mk2 ?_ ?_ <;> intro hb <;> (try subst hb) <;> cbv)
| ((refine qxArr (by decide) (by decide) ?_;cbv))))
   obtain ⟨x1,hx1⟩:∃ y,y=xo qa qb:=⟨_,rfl⟩
   have ux1:u6 x1:=by rw [hx1];exact xo_u6 va vb
   have e9:x1=z:=by rw [hx1,hz];rfl
   subst e9
   have vx1:0≤x1∧x1≤18446744073709551615:=ux1
   (repeat' (first
| ((first
| (refine q1w (fun z hz=>?_);(try simp only at hz))
| refine rqa ?_
| refine chpA ?_
| refine QCt ?_
| refine QCf ?_);cbv)
| (refine QC.mk ?_ ?_ <;> intro hc <;> (try dsimp only at hc) <;> cbv)
| (refine br_mk2 ?_ ?_ <;> intro hb <;> (try subst hb) <;> cbv)
| ((refine qxArr (by decide) (by decide) ?_;cbv))))
   obtain ⟨x2,hx2⟩:∃ y,y=xo x1 qc:=⟨_,rfl⟩
   have ux2:u6 x2:=by rw [hx2];exact xo_u6 ux1 vc
   have e9:x2=z:=by rw [hx2,hz];rfl
   subst e9
   have vx2:0≤x2∧x2≤18446744073709551615:=ux2
   (repeat' (first
| ((first
| (refine q1w (fun z hz=>?_);(try simp only at hz))
| refine rqa ?_
| refine chpA ?_
| refine QCt ?_
| refine QCf ?_);cbv)
| (refine QC.mk ?_ ?_ <;> intro hc <;> (try dsimp only at hc) <;> cbv)
| (refine br_mk2 ?_ ?_ <;> intro hb <;> (try subst hb) <;> cbv)
| ((refine qxArr (by decide) (by decide) ?_;cbv))))
   refine ⟨?_,rfl,rfl⟩
   show SV.int .u64 z=.int .u64 r
   have hfin:r=xo x2 qd:=by
    rw [hr]
    exact sum_fin bs k0 k1 hk0 hk1 t (by rw [← hwn,An,ez,ht]) q (by rw [hq,hc2,hta,htb,htc,htd]) x1 x2 qd (by rw [hx1,hqa,hqb]) (by rw [hx2,hqc]) hqd
   rw [hfin,hz]
   rfl
end
end Go.Proofs.YtgfpjhddojhfpaaGreat
