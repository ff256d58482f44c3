/- Texts put together: EV EW EX EY. -/
import Derived.Test.YtgfpjhddojhfpaaGreatZ32
import Derived.Test.YtgfpjhddojhfpaaGreatZ36
namespace Go.Proofs.YtgfpjhddojhfpaaGreat
set_option linter.unusedVariables false
set_option linter.unusedSimpArgs false
section
open Go.RowKit
set_option maxHeartbeats 4000000
set_option maxRecDepth 100000
theorem be_inj:∀ (n:Nat) (a b:List UInt8),a.length=n→b.length=n→be a=be b→a=b
 | 0,a,b,ha,hb,_=>by rw [List.length_eq_zero_iff.1 ha,List.length_eq_zero_iff.1 hb]
 | n+1,a,b,ha,hb,h=>by
  have ha':a≠[]:=fun e=>by rw [e] at ha;cases ha
  have hb':b≠[]:=fun e=>by rw [e] at hb;cases hb
  rw [← List.dropLast_concat_getLast ha',← List.dropLast_concat_getLast hb',be_snoc,be_snoc] at h
  have h1:=(a.getLast ha').toNat_lt
  have h2:=(b.getLast hb').toNat_lt
  have e1:be a.dropLast=be b.dropLast:=by omega
  have e2:(a.getLast ha').toNat=(b.getLast hb').toNat:=by omega
  have i:=be_inj n a.dropLast b.dropLast (by rw [List.length_dropLast];omega) (by rw [List.length_dropLast];omega) e1
  rw [← List.dropLast_concat_getLast ha',← List.dropLast_concat_getLast hb',i,UInt8.toNat_inj.1 e2]
theorem bytesOf_be (l:List UInt8) (n:Nat) (hn:l.length=n):bytesOf (be l) n=l:=by
 refine be_inj n _ _ (bytesOf_length _ _) hn ?_
 rw [be_bytesOf,Nat.mod_eq_of_lt]
 rw [← hn];exact be_lt l
theorem num_at (pre Fb rest:List UInt8) (B:List SV) (p q v n:Int) (hB:B=u8l (pre++(Fb++rest))) (hp:p=pre.length) (hn:n=Fb.length) (hq:q=p+Fb.length) (h1:1≤Fb.length) (h8:Fb.length≤8) (hl:(pre++(Fb++rest)).length≤2000) (hv:v=be Fb) :
  Good 190 (le 233 (rdS B p) [.int .i64 n] (.tup [.int .u64 v,.int .i64 0]) (rdS B q)) :=
 num_c _ B p v n q pre.length Fb.length hB hp hn (by omega) h1 h8 hl (by simp) (by rw [List.drop_left,List.take_left];exact hv)
theorem uint_at (pre Fb rest:List UInt8) (B:List SV) (p v n:Int) (hB:B=u8l (pre++(Fb++rest))) (hp:p=pre.length) (hn:n=Fb.length) (h1:1≤Fb.length) (h8:Fb.length≤8) (hl:(pre++(Fb++rest)).length≤2000) (hv:v=be Fb) :
  Good 84 (pu [.lst none B,.int .i64 p,.int .i64 n] (.tup [.int .u64 v,.bool true])) :=
 uint_c _ B p n v pre.length Fb.length hB hp hn h1 h8 (by omega) (by simp) (by rw [List.drop_left,List.take_left];exact hv)
theorem ip_at (pre Fb rest:List UInt8) (B:List SV) (p q a0 a1 a2 a3 a4 a5 a6 a7 a8 a9 b0 b1 b2 b3 b4 b5:Int) (hF:[SV.int .u8 a0,.int .u8 a1,.int .u8 a2,.int .u8 a3,.int .u8 a4,.int .u8 a5,.int .u8 a6,.int .u8 a7,.int .u8 a8,.int .u8 a9,.int .u8 b0,.int .u8 b1,.int .u8 b2,.int .u8 b3,.int .u8 b4,.int .u8 b5]=u8l Fb) (hB:B=u8l (pre++(Fb++rest))) (hp:p=pre.length) (hq:q=p+16) (hl:(pre++(Fb++rest)).length≤2000) :
  Good 194 (le 233 (rdS B p) [] (.tup [ipS a0 a1 a2 a3 a4 a5 a6 a7 a8 a9 b0 b1 b2 b3 b4 b5,.int .i64 0]) (rdS B q)):=by
 have s1:Fb.length=16:=by have:=congrArg List.length hF;simpa [u8l] using this.symm
 refine ip_c _ B p q pre.length a0 a1 a2 a3 a4 a5 a6 a7 a8 a9 b0 b1 b2 b3 b4 b5 hB hp hq hl (by simp;omega) ?_
 rw [hB,hp,Int.toNat_natCast,u8l_drop,u8l_take,List.drop_left,← s1,List.take_left,hF]
def Rdu (e m:Int) (Fb:List UInt8) (A:SV):Prop:=∀ (pre rest:List UInt8) (B:List SV) (p q:Int),B=u8l (pre++(Fb++rest))→p=pre.length→q=p+Fb.length→(pre++(Fb++rest)).length≤2000→Good 149 (le 233 (rdS B p) [.bool false,.int .i64 m,dvS e,fndS] (.tup [A,.int .i64 0]) (rdS B q))
def Rdg (m:Int) (Fb:List UInt8) (A:SV):Prop:=∀ (pre rest:List UInt8) (B:List SV) (p q:Int),B=u8l (pre++(Fb++rest))→p=pre.length→q=p+Fb.length→(pre++(Fb++rest)).length≤2000→Good 150 (le 233 (rdS B p) [.int .i64 m] (.tup [A,.int .i64 0]) (rdS B q))
theorem by16 {a0 a1 a2 a3 a4 a5 a6 a7 a8 a9 b0 b1 b2 b3 b4 b5:Int} (H:By16 a0 a1 a2 a3 a4 a5 a6 a7 a8 a9 b0 b1 b2 b3 b4 b5):∃ hs hl:List UInt8,[SV.int .u8 a0,.int .u8 a1,.int .u8 a2,.int .u8 a3,.int .u8 a4,.int .u8 a5,.int .u8 a6,.int .u8 a7]=u8l hs∧[SV.int .u8 a8,.int .u8 a9,.int .u8 b0,.int .u8 b1,.int .u8 b2,.int .u8 b3,.int .u8 b4,.int .u8 b5]=u8l hl:=by
 obtain ⟨hs,h1,_⟩:=u8l_of [a0,a1,a2,a3,a4,a5,a6,a7] (fun v hv=>by simp at hv;rcases hv with rfl | rfl | rfl | rfl | rfl | rfl | rfl | rfl <;> first | exact H.ha0 | exact H.ha1 | exact H.ha2 | exact H.ha3 | exact H.ha4 | exact H.ha5 | exact H.ha6 | exact H.ha7)
 obtain ⟨hl,h2,_⟩:=u8l_of [a8,a9,b0,b1,b2,b3,b4,b5] (fun v hv=>by simp at hv;rcases hv with rfl | rfl | rfl | rfl | rfl | rfl | rfl | rfl <;> first | exact H.ha8 | exact H.ha9 | exact H.hb0 | exact H.hb1 | exact H.hb2 | exact H.hb3 | exact H.hb4 | exact H.hb5)
 exact ⟨hs,hl,h1,h2⟩
theorem uni_form (e k:Int) (he:e=144115188075855873∧k=1∨e=144115188075855874∧k=2) (src:Bool) (a0 a1 a2 a3 a4 a5 a6 a7 a8 a9 b0 b1 b2 b3 b4 b5:Int) (H:By16 a0 a1 a2 a3 a4 a5 a6 a7 a8 a9 b0 b1 b2 b3 b4 b5) (h0:a0≠255) :
  ∃ (c:Bool) (m:Int) (F:List SV) (Fb:List UInt8),F=u8l Fb∧Fb.length≤16∧(0≤m∧m≤3)∧Good 135 (pu [ipS a0 a1 a2 a3 a4 a5 a6 a7 a8 a9 b0 b1 b2 b3 b4 b5,dvS e,.bool src,.lst (some 20) [],.int .i64 0] (fmS c m F)) ∧
   (c=true∧src=true∧m=0∧Fb=[]∧(a0=0∧a1=0∧a2=0∧a3=0∧a4=0∧a5=0∧a6=0∧a7=0∧a8=0∧a9=0∧b0=0∧b1=0∧b2=0∧b3=0∧b4=0∧b5=0)∨c=false∧Rdu e m Fb (ipS a0 a1 a2 a3 a4 a5 a6 a7 a8 a9 b0 b1 b2 b3 b4 b5)):=by
 obtain ⟨hs,hl,h1,h2⟩:=by16 H
 have l1:hs.length=8:=by have:=congrArg List.length h1;simpa [u8l] using this.symm
 have l2:hl.length=8:=by have:=congrArg List.length h2;simpa [u8l] using this.symm
 obtain ⟨h,hh⟩:∃ h:Int,h=be hs:=⟨_,rfl⟩
 obtain ⟨iid,hi⟩:∃ h:Int,h=be hl:=⟨_,rfl⟩
 have gs:=split_c a0 a1 a2 a3 a4 a5 a6 a7 a8 a9 b0 b1 b2 b3 b4 b5 h iid hs hl h1 h2 hh hi
 have c8:[SV.int .u8 a8,.int .u8 a9,.int .u8 b0,.int .u8 b1,.int .u8 b2,.int .u8 b3,.int .u8 b4,.int .u8 b5]=u8l (bytesOf iid 8):=by rw [h2,hi,bytesOf_be hl 8 l2]
 have bb1:=be_lt hs
 have bb2:=be_lt hl
 rw [l1] at bb1
 rw [l2] at bb2
 have hb1:0≤h∧h≤18446744073709551615:=by omega
 have hb2:0≤iid∧iid≤18446744073709551615:=by omega
 by_cases hL:a0=254∧a1=128∧a2=0∧a3=0∧a4=0∧a5=0∧a6=0∧a7=0
 ·obtain ⟨r0,r1,r2,r3,r4,r5,r6,r7⟩:=hL
  subst r0 r1 r2 r3 r4 r5 r6 r7
  by_cases hk:k=iid
  ·refine ⟨false,3,[],[],rfl,by simp,by omega,uni_own e k iid h _ _ _ _ _ _ _ _ _ _ _ _ _ _ _ _ src he hb2 c8 gs ⟨rfl,rfl,rfl,rfl,rfl,rfl,rfl,rfl⟩ hk,.inr ⟨rfl,fun pre rest B p q hB hp hq hl'=>?_⟩⟩
   have e1:q=p:=by simpa using hq
   rw [e1]
   exact runi_own e k he B p _ _ _ _ _ _ _ _ (by rw [hk];exact c8)
  ·by_cases h16:iid / 65536=16776704
   ·refine ⟨false,2,_,bytesOf iid 2,rfl,by rw [bytesOf_length];omega,by omega,uni_short e k iid h _ _ _ _ _ _ _ _ _ _ _ _ _ _ _ _ src he hb2 c8 gs ⟨rfl,rfl,rfl,rfl,rfl,rfl,rfl,rfl⟩ hk h16 _ rfl,.inr ⟨rfl,fun pre rest B p q hB hp hq hl'=>?_⟩⟩
    have ev:iid % 65536=be (bytesOf iid 2):=by
     obtain ⟨u,rfl⟩:=Int.eq_ofNat_of_zero_le hb2.1
     rw [be_bytesOf];rfl
    have g:=num_at pre (bytesOf iid 2) rest B p q (iid % 65536) 2 hB hp (by rw [bytesOf_length];rfl) hq (by rw [bytesOf_length];omega) (by rw [bytesOf_length];omega) hl' ev
    exact runi_short e k he B p q _ iid _ _ _ _ _ _ _ _ g (by omega) (by omega) c8
   ·refine ⟨false,1,_,bytesOf iid 8,rfl,by rw [bytesOf_length];omega,by omega,uni_iid e k iid h _ _ _ _ _ _ _ _ _ _ _ _ _ _ _ _ src he hb2 c8 gs ⟨rfl,rfl,rfl,rfl,rfl,rfl,rfl,rfl⟩ hk h16 _ rfl,.inr ⟨rfl,fun pre rest B p q hB hp hq hl'=>?_⟩⟩
    have ev:iid=be (bytesOf iid 8):=by rw [hi,bytesOf_be hl 8 l2]
    have g:=num_at pre (bytesOf iid 8) rest B p q iid 8 hB hp (by rw [bytesOf_length];rfl) hq (by rw [bytesOf_length];omega) (by rw [bytesOf_length];omega) hl' ev
    exact runi_iid e k he B p q iid _ _ _ _ _ _ _ _ g hb2 c8
 ·by_cases hz:src=true∧(a0=0∧a1=0∧a2=0∧a3=0∧a4=0∧a5=0∧a6=0∧a7=0∧a8=0∧a9=0∧b0=0∧b1=0∧b2=0∧b3=0∧b4=0∧b5=0)
  ·obtain ⟨hz1,z0,z1,z2,z3,z4,z5,z6,z7,z8,z9,y0,y1,y2,y3,y4,y5⟩:=hz
   subst hz1 z0 z1 z2 z3 z4 z5 z6 z7 z8 z9 y0 y1 y2 y3 y4 y5
   exact ⟨true,0,[],[],rfl,by simp,by omega,uni_none e,.inl ⟨rfl,rfl,rfl,rfl,rfl,rfl,rfl,rfl,rfl,rfl,rfl,rfl,rfl,rfl,rfl,rfl,rfl,rfl,rfl,rfl⟩⟩
  ·have eh:bytesOf h 8=hs:=by rw [hh,bytesOf_be hs 8 l1]
   have ei:bytesOf iid 8=hl:=by rw [hi,bytesOf_be hl 8 l2]
   refine ⟨false,0,_,hs++hl,rfl,by rw [List.length_append];omega,by omega,uni_whole e k iid h _ _ _ _ _ _ _ _ _ _ _ _ _ _ _ _ src he hb2 c8 gs hb1 hL hz _ _ rfl (by rw [eh,ei]),.inr ⟨rfl,fun pre rest B p q hB hp hq hl'=>?_⟩⟩
   have g:=ip_at pre (hs++hl) rest B p q a0 a1 a2 a3 a4 a5 a6 a7 a8 a9 b0 b1 b2 b3 b4 b5 (by rw [← u8l_app,← h1,← h2];rfl) hB hp (by rw [hq,List.length_append];omega) hl'
   exact runi_whole e k he B p q _ _ _ _ _ _ _ _ _ _ _ _ _ _ _ _ g h0
end
section
open Go.RowKit
set_option maxHeartbeats 4000000
set_option maxRecDepth 100000
theorem byte_ex (v:Int) (h:0≤v∧v≤255):∃ c:UInt8,v=(c.toNat:Int):=by
 refine ⟨UInt8.ofNat v.toNat,?_⟩
 rw [UInt8.toNat_ofNat'];omega
theorem grp_form (a0 a1 a2 a3 a4 a5 a6 a7 a8 a9 b0 b1 b2 b3 b4 b5:Int) (H:By16 a0 a1 a2 a3 a4 a5 a6 a7 a8 a9 b0 b1 b2 b3 b4 b5) (h0:a0=255) :
  ∃ (m:Int) (F:List SV) (Fb:List UInt8),F=u8l Fb∧Fb.length≤16∧(0≤m∧m≤3)∧Good 137 (pu [ipS a0 a1 a2 a3 a4 a5 a6 a7 a8 a9 b0 b1 b2 b3 b4 b5] (fmS false m F))∧Rdg m Fb (ipS a0 a1 a2 a3 a4 a5 a6 a7 a8 a9 b0 b1 b2 b3 b4 b5):=by
 obtain ⟨k1,e1⟩:=byte_ex a1 H.ha1
 obtain ⟨t1,f1⟩:=byte_ex b1 H.hb1
 obtain ⟨t2,f2⟩:=byte_ex b2 H.hb2
 obtain ⟨t3,f3⟩:=byte_ex b3 H.hb3
 obtain ⟨t4,f4⟩:=byte_ex b4 H.hb4
 obtain ⟨t5,f5⟩:=byte_ex b5 H.hb5
 have i1:=k1.toNat_lt
 have j1:=t1.toNat_lt
 have j2:=t2.toNat_lt
 have j3:=t3.toNat_lt
 have j4:=t4.toNat_lt
 have j5:=t5.toNat_lt
 by_cases h3:a1=2∧(a2=0∧a3=0∧a4=0∧a5=0∧a6=0∧a7=0∧a8=0∧a9=0∧b0=0∧b1=0∧b2=0∧b3=0∧b4=0)
 ·refine ⟨3,_,[t5],rfl,by simp,by omega,?_,?_⟩
  ·have g:=grp3 a0 a1 a2 a3 a4 a5 a6 a7 a8 a9 b0 b1 b2 b3 b4 b5 h3
   rw [f5] at g ⊢
   exact g
  ·intro pre rest B p q hB hp hq hl
   obtain ⟨r1,r2,r3,r4,r5,r6,r7,r8,r9,r10,r11,r12,r13,r14⟩:=h3
   subst h0 r1 r2 r3 r4 r5 r6 r7 r8 r9 r10 r11 r12 r13 r14
   have g:=num_at pre [t5] rest B p q _ 1 hB hp rfl hq (by simp) (by simp) hl rfl
   exact rgrp3 B p q _ _ g (by simp only [be,List.foldl];omega)
 by_cases h2:(a2=0∧a3=0∧a4=0∧a5=0∧a6=0∧a7=0∧a8=0∧a9=0∧b0=0∧b1=0∧b2=0)
 ·refine ⟨2,_,[k1,t3,t4,t5],rfl,by simp,by omega,?_,?_⟩
  ·have g:=grp2 a0 a1 a2 a3 a4 a5 a6 a7 a8 a9 b0 b1 b2 b3 b4 b5 h3 h2
   rw [e1,f3,f4,f5] at g ⊢
   exact g
  ·intro pre rest B p q hB hp hq hl
   obtain ⟨r2,r3,r4,r5,r6,r7,r8,r9,r10,r11,r12⟩:=h2
   subst h0 r2 r3 r4 r5 r6 r7 r8 r9 r10 r11 r12
   have g:=num_at pre [k1,t3,t4,t5] rest B p q _ 4 hB hp rfl hq (by simp) (by simp) hl rfl
   exact rgrp2 B p q _ _ _ _ _ g (by simp only [be,List.foldl];omega)
 by_cases h1:(a2=0∧a3=0∧a4=0∧a5=0∧a6=0∧a7=0∧a8=0∧a9=0∧b0=0)
 ·refine ⟨1,_,[k1,t1,t2,t3,t4,t5],rfl,by simp,by omega,?_,?_⟩
  ·have g:=grp1 a0 a1 a2 a3 a4 a5 a6 a7 a8 a9 b0 b1 b2 b3 b4 b5 h3 h2 h1
   rw [e1,f1,f2,f3,f4,f5] at g ⊢
   exact g
  ·intro pre rest B p q hB hp hq hl
   obtain ⟨r2,r3,r4,r5,r6,r7,r8,r9,r10⟩:=h1
   subst h0 r2 r3 r4 r5 r6 r7 r8 r9 r10
   have g:=num_at pre [k1,t1,t2,t3,t4,t5] rest B p q _ 6 hB hp rfl hq (by simp) (by simp) hl rfl
   exact rgrp1 B p q _ _ _ _ _ _ _ g (by simp only [be,List.foldl];omega)
 obtain ⟨hs,hl,g1,g2⟩:=by16 H
 have l1:hs.length=8:=by have:=congrArg List.length g1;simpa [u8l] using this.symm
 have l2:hl.length=8:=by have:=congrArg List.length g2;simpa [u8l] using this.symm
 have gA:[SV.int .u8 a0,.int .u8 a1,.int .u8 a2,.int .u8 a3,.int .u8 a4,.int .u8 a5,.int .u8 a6,.int .u8 a7,.int .u8 a8,.int .u8 a9,.int .u8 b0,.int .u8 b1,.int .u8 b2,.int .u8 b3,.int .u8 b4,.int .u8 b5]=u8l (hs++hl):=by rw [← u8l_app,← g1,← g2];rfl
 refine ⟨0,_,hs++hl,rfl,by rw [List.length_append];omega,by omega,?_,?_⟩
 ·rw [← gA];exact grp0 a0 a1 a2 a3 a4 a5 a6 a7 a8 a9 b0 b1 b2 b3 b4 b5 h3 h2 h1
 ·intro pre rest B p q hB hp hq hl'
  exact rgrp0 B p q a0 a1 a2 a3 a4 a5 a6 a7 a8 a9 b0 b1 b2 b3 b4 b5 (ip_at pre (hs++hl) rest B p q a0 a1 a2 a3 a4 a5 a6 a7 a8 a9 b0 b1 b2 b3 b4 b5 gA hB hp (by rw [hq,List.length_append];omega) hl') h0
def TKb (w:Bool) (n o v:Int) (Fb:List UInt8):Prop:=w=true∧(Fb.length:Int)=n∧v=be Fb∧1≤Fb.length∧Fb.length≤8∨w=false∧Fb=[]∧v=o
theorem take_at {w:Bool} {n o v:Int} {Fb:List UInt8} (h:TKb w n o v Fb) (pre rest:List UInt8) (B:List SV) (p q:Int) (hB:B=u8l (pre++(Fb++rest))) (hp:p=pre.length) (hq:q=p+Fb.length) (hl:(pre++(Fb++rest)).length≤2000) :
  Good 191 (gC [.bool w,.int .i64 n,.int .u64 o,.ptr 903 0,.cel (.ptr 0 0)] [(903,45,.int .i64 0,.int .i64 0),(0,233,rdS B p,rdS B q)] (.int .u64 v) .no):=by
 rcases h with ⟨rfl,h1,h2,h3,h4⟩ | ⟨rfl,rfl,rfl⟩
 ·exact take_y B n o p q v (num_at pre Fb rest B p q v n hB hp h1.symm hq h3 h4 hl h2)
 ·have e:q=p:=by simpa using hq
  rw [e]
  exact take_n B n _ p
theorem fA (cl fl:Int) (hc:0≤cl∧cl≤255) (hf:0≤fl∧fl≤1048575):∃ (cb:UInt8) (q0 q1 q2:Int),cl=(cb.toNat:Int)∧[SV.int .u8 q0,.int .u8 q1,.int .u8 q2]=u8l (bytesOf fl 3) ∧
  ∃ (f:Int) (w1 w2:Bool) (A:List SV) (Ab1 Ab2:List UInt8),(f=0∧cl≠0∧fl≠0∧A=[.int .u8 cl,.int .u8 q0,.int .u8 q1,.int .u8 q2]∨f=1∧cl=0∧fl≠0∧A=[.int .u8 q0,.int .u8 q1,.int .u8 q2]∨f=2∧cl≠0∧fl=0∧A=[.int .u8 cl]∨f=3∧cl=0∧fl=0∧A=[])∧(f=0∧w1=true∧w2=true∨f=1∧w1=false∧w2=true∨f=2∧w1=true∧w2=false∨f=3∧w1=false∧w2=false)∧A=u8l (Ab1++Ab2)∧Ab1.length≤1∧Ab2.length≤3∧TKb w1 1 0 cl Ab1∧TKb w2 3 0 fl Ab2:=by
 obtain ⟨cb,hcb⟩:=byte_ex cl hc
 have e:bytesOf fl 3=[digit fl 3 0,digit fl 3 1,digit fl 3 2]:=rfl
 have hq:[SV.int .u8 ((digit fl 3 0).toNat:Int),.int .u8 ((digit fl 3 1).toNat:Int),.int .u8 ((digit fl 3 2).toNat:Int)]=u8l (bytesOf fl 3):=by rw [e];rfl
 have hv:fl=be (bytesOf fl 3):=by
  obtain ⟨u,rfl⟩:=Int.eq_ofNat_of_zero_le hf.1
  rw [be_bytesOf,Nat.mod_eq_of_lt];have:=hf.2;omega
 have hb:cl=be [cb]:=by simp [be,hcb]
 refine ⟨cb,_,_,_,hcb,hq,?_⟩
 have t2:TKb true 3 0 fl (bytesOf fl 3):=.inl ⟨rfl,by rw [bytesOf_length];rfl,hv,by rw [bytesOf_length];omega,by rw [bytesOf_length];omega⟩
 have t1:TKb true 1 0 cl [cb]:=.inl ⟨rfl,rfl,hb,by simp,by simp⟩
 by_cases h1:cl=0 <;> by_cases h2:fl=0
 ·exact ⟨3,false,false,[],[],[],.inr (.inr (.inr ⟨rfl,h1,h2,rfl⟩)),.inr (.inr (.inr ⟨rfl,rfl,rfl⟩)),rfl,by simp,by simp,.inr ⟨rfl,rfl,h1⟩,.inr ⟨rfl,rfl,h2⟩⟩
 ·exact ⟨1,false,true,_,[],bytesOf fl 3,.inr (.inl ⟨rfl,h1,h2,rfl⟩),.inr (.inl ⟨rfl,rfl,rfl⟩),hq,by simp,by rw [bytesOf_length];omega,.inr ⟨rfl,rfl,h1⟩,t2⟩
 ·exact ⟨2,true,false,_,[cb],[],.inr (.inr (.inl ⟨rfl,h1,h2,rfl⟩)),.inr (.inr (.inl ⟨rfl,rfl,rfl⟩)),by rw [hcb];rfl,by simp,by simp,t1,.inr ⟨rfl,rfl,h2⟩⟩
 ·exact ⟨0,true,true,_,[cb],bytesOf fl 3,.inl ⟨rfl,h1,h2,rfl⟩,.inl ⟨rfl,rfl,rfl⟩,by rw [← u8l_app,← hq,hcb];rfl,by simp,by rw [bytesOf_length];omega,t1,t2⟩
theorem flds (cl fl nx hp:Int) (hc:0≤cl∧cl≤255) (hf:0≤fl∧fl≤1048575) (hn:0≤nx∧nx≤255) (hh:0≤hp∧hp≤255) :
  ∃ (first f n h:Int) (cb:UInt8) (q0 q1 q2:Int) (R:List SV) (Rb:List UInt8),cl=(cb.toNat:Int)∧[SV.int .u8 q0,.int .u8 q1,.int .u8 q2]=u8l (bytesOf fl 3)∧FE first f n h cl fl nx hp q0 q1 q2 R∧R=u8l Rb∧Rb.length≤6∧(96≤first∧first≤127) ∧
   ∀ (pre rest:List UInt8) (B:List SV) (p q:Int),B=u8l (pre++(Rb++rest))→p=pre.length→q=p+Rb.length→(pre++(Rb++rest)).length≤2000 →
    Good 145 (le 233 (rdS B p) [.int .i64 first] (.tup [pk0 cl fl nx hp,.int .i64 0]) (rdS B q)):=by
 obtain ⟨cb,q0,q1,q2,hcb,hq3,f,w1,w2,A,Ab1,Ab2,fa,fb,hA,la1,la2,t1,t2⟩:=fA cl fl hc hf
 obtain ⟨n,w3,N,Nb,n1,n2,hN,ln,t3⟩:∃ (n:Int) (w3:Bool) (N:List SV) (Nb:List UInt8),(n=0∧nx≠17∧N=[.int .u8 nx]∨n=1∧nx=17∧N=[])∧(n=0∧w3=true∨n=1∧w3=false)∧N=u8l Nb∧Nb.length≤1∧TKb w3 1 17 nx Nb:=by
  obtain ⟨b,hb⟩:=byte_ex nx hn
  by_cases h:nx=17
  ·exact ⟨1,false,[],[],.inr ⟨rfl,h,rfl⟩,.inr ⟨rfl,rfl⟩,rfl,by simp,.inr ⟨rfl,rfl,h⟩⟩
  ·exact ⟨0,true,_,[b],.inl ⟨rfl,h,rfl⟩,.inl ⟨rfl,rfl⟩,by rw [hb];rfl,by simp,.inl ⟨rfl,rfl,by simp [be,hb],by simp,by simp⟩⟩
 obtain ⟨h,w4,ho,Hh,Hb,h1,h2,hH,lh,t4⟩:∃ (h:Int) (w4:Bool) (ho:Int) (H:List SV) (Hb:List UInt8),(h=0∧(hp≠1∧hp≠64∧hp≠255)∧H=[.int .u8 hp]∨h=1∧hp=1∧H=[]∨h=2∧hp=64∧H=[]∨h=3∧hp=255∧H=[])∧(h=0∧w4=true∧ho=0∨h=1∧w4=false∧ho=1∨h=2∧w4=false∧ho=64∨h=3∧w4=false∧ho=255)∧H=u8l Hb∧Hb.length≤1∧TKb w4 1 ho hp Hb:=by
  obtain ⟨b,hb⟩:=byte_ex hp hh
  by_cases h1:hp=1
  ·exact ⟨1,false,1,[],[],.inr (.inl ⟨rfl,h1,rfl⟩),.inr (.inl ⟨rfl,rfl,rfl⟩),rfl,by simp,.inr ⟨rfl,rfl,h1⟩⟩
  by_cases h2:hp=64
  ·exact ⟨2,false,64,[],[],.inr (.inr (.inl ⟨rfl,h2,rfl⟩)),.inr (.inr (.inl ⟨rfl,rfl,rfl⟩)),rfl,by simp,.inr ⟨rfl,rfl,h2⟩⟩
  by_cases h3:hp=255
  ·exact ⟨3,false,255,[],[],.inr (.inr (.inr ⟨rfl,h3,rfl⟩)),.inr (.inr (.inr ⟨rfl,rfl,rfl⟩)),rfl,by simp,.inr ⟨rfl,rfl,h3⟩⟩
  ·exact ⟨0,true,0,_,[b],.inl ⟨rfl,⟨h1,h2,h3⟩,rfl⟩,.inl ⟨rfl,rfl,rfl⟩,by rw [hb];rfl,by simp,.inl ⟨rfl,rfl,by simp [be,hb],by simp,by simp⟩⟩
 have hfi:96≤96+8 * f+4 * n+h∧96+8 * f+4 * n+h≤127:=by
  have a1:0≤f∧f≤3:=by rcases fb with ⟨e,_⟩ | ⟨e,_⟩ | ⟨e,_⟩ | ⟨e,_⟩ <;> omega
  have a2:0≤n∧n≤1:=by rcases n2 with ⟨e,_⟩ | ⟨e,_⟩ <;> omega
  have a3:0≤h∧h≤3:=by rcases h2 with ⟨e,_⟩ | ⟨e,_⟩ | ⟨e,_⟩ | ⟨e,_⟩ <;> omega
  omega
 refine ⟨_,f,n,h,cb,q0,q1,q2,A++(N++Hh),Ab1++(Ab2++(Nb++Hb)),hcb,hq3,⟨rfl,A,N,Hh,rfl,fa,n1,h1⟩,by rw [hA,hN,hH,u8l_app,u8l_app,List.append_assoc],by simp only [List.length_append];omega,hfi,fun pre rest B p q hB hp' hq hl=>?_⟩
 simp only [List.length_append,List.append_assoc] at hB hq hl
 have hn0:n=0→nx≠17:=fun e=>by rcases n1 with ⟨_,h,_⟩ | ⟨h,_⟩;exact h;omega
 exact dfields_c _ f n h ho w1 w2 w3 w4 ⟨rfl,fb,n2,h2⟩ B p (p+Ab1.length) (p+Ab1.length+Ab2.length) (p+Ab1.length+Ab2.length+Nb.length) q cl fl nx hp
  (take_at t1 pre (Ab2++(Nb++(Hb++rest))) B _ _ hB hp' rfl (by simp only [List.length_append];omega))
  (take_at t2 (pre++Ab1) (Nb++(Hb++rest)) B _ _ (by rw [hB,List.append_assoc]) (by rw [List.length_append,hp'];omega) rfl (by simp only [List.length_append];omega))
  (take_at t3 (pre++Ab1++Ab2) (Hb++rest) B _ _ (by rw [hB,List.append_assoc,List.append_assoc]) (by rw [List.length_append,List.length_append,hp'];omega) rfl (by simp only [List.length_append];omega))
  (take_at t4 (pre++Ab1++Ab2++Nb) rest B _ _ (by rw [hB,List.append_assoc,List.append_assoc,List.append_assoc]) (by rw [List.length_append,List.length_append,List.length_append,hp'];omega) (by omega) (by simp only [List.length_append];omega))
  hc hf hn hn0 hh
end
section
open Go.RowKit
set_option maxHeartbeats 4000000
set_option maxRecDepth 100000
theorem be_ofv (v:Int) (n:Nat) (h:0≤v∧v < 256 ^ n):v=be (bytesOf v n):=by
 obtain ⟨u,rfl⟩:=Int.eq_ofNat_of_zero_le h.1
 rw [be_bytesOf,Nat.mod_eq_of_lt]
 have:=h.2
 exact_mod_cast this
theorem app_at (xb:List UInt8) (X:List SV) (v:Int) (n:Nat) (N:Int) (hX:X=u8l xb) (hN:N=n) (hn:n≤8) (hv:0≤v∧v < 18446744073709551616) (hl:xb.length≤2000) :
  Good 85 (nu [.lst none X,.int .u64 v,.int .i64 N] (.row 1) (.row none 5 (u8l (xb++bytesOf v n)))) :=
 append_c xb X _ v N n hX hN hn hv (by omega) rfl
theorem tku_at (pre rest:List UInt8) (B:List SV) (p q n v:Int) (k:Nat) (hB:B=u8l (pre++(bytesOf v k++rest))) (hp:p=pre.length) (hn:n=k) (hq:q=p+n) (h1:1≤k) (h8:k≤8) (hl:(pre++(bytesOf v k++rest)).length≤2000) (hv:0≤v∧v < 256 ^ k) :
  Good 151 (gC [.int .i64 n,.ptr 901 0,.ptr 902 0,.ptr 903 0] [(901,30,.lst none B,.lst none B),(902,3,.int .i64 p,.int .i64 q),(903,45,.int .i64 0,.int .i64 0)] (.int .u64 v) .no):=by
 have hpl:pre.length≤2000:=by rw [List.length_append] at hl;omega
 exact takeu_c B p q n v hq (by omega) (by omega) (uint_at pre (bytesOf v k) rest B p v n hB hp (by rw [bytesOf_length];exact hn) (by rw [bytesOf_length];omega) (by rw [bytesOf_length];omega) hl (be_ofv v k hv))
theorem udp_form (S cl fl hp a0 a1 a2 a3 a4 a5 a6 a7 a8 a9 b0 b1 b2 b3 b4 b5 x0 x1 x2 x3 x4 x5 x6 x7 x8 x9 y0 y1 y2 y3 y4 y5 sp dp:Int) (P:List SV) (hsp:0≤sp∧sp≤65535) (hdp:0≤dp∧dp≤65535) (hS:0≤S∧S≤65535) (gs:Good 90 (pu [pkS cl fl 17 hp a0 a1 a2 a3 a4 a5 a6 a7 a8 a9 b0 b1 b2 b3 b4 b5 x0 x1 x2 x3 x4 x5 x6 x7 x8 x9 y0 y1 y2 y3 y4 y5 sp dp (.lst none P)] (.int .u16 S))) :
  ∃ ub:List UInt8,ub.length≤7∧(∀ (xb:List UInt8) (X:List SV),X=u8l xb→xb.length≤100→Good 74 (nu [.lst none X,pkS cl fl 17 hp a0 a1 a2 a3 a4 a5 a6 a7 a8 a9 b0 b1 b2 b3 b4 b5 x0 x1 x2 x3 x4 x5 x6 x7 x8 x9 y0 y1 y2 y3 y4 y5 sp dp (.lst none P)] (.row 1) (.row none 5 (u8l (xb++ub))))) ∧
   ∀ (rest:List UInt8) (B:List SV) (n:Int),B=u8l (ub++rest)→n=ub.length→(ub++rest).length≤2000→Good 88 (pu [.lst none B] (.tup [.int .u16 sp,.int .u16 dp,.int .u16 S,.int .i64 n,.int .i64 0])):=by
 by_cases hw:61616≤sp∧sp < 61632∧61616≤dp∧dp < 61632
 ·obtain ⟨w1,w2,w3,w4⟩:=hw
  refine ⟨bytesOf 243 1++(bytesOf ((sp - 61616) * 16+dp - 61616) 1++(bytesOf (S) 2)),by simp only [List.length_append,bytesOf_length];omega,fun xb X hX hx=>?_,fun rest B n hB hn hl=>?_⟩
  ·have h1:=app_at xb X 243 1 1 hX rfl (by omega) (by omega) (by omega)
   have h2:=app_at (xb++bytesOf 243 1) _ ((sp - 61616) * 16+dp - 61616) 1 1 rfl rfl (by omega) (by omega) (by simp only [List.length_append,bytesOf_length];omega)
   have h3:=app_at (xb++bytesOf 243 1++bytesOf ((sp - 61616) * 16+dp - 61616) 1) _ (S) 2 2 rfl rfl (by omega) (by omega) (by simp only [List.length_append,bytesOf_length];omega)
   have g:=udp3_c cl fl hp a0 a1 a2 a3 a4 a5 a6 a7 a8 a9 b0 b1 b2 b3 b4 b5 x0 x1 x2 x3 x4 x5 x6 x7 x8 x9 y0 y1 y2 y3 y4 y5 sp dp S P X _ _ _ hsp hdp hS (by rw [hX,u8l_len];omega) ⟨w1,w2,w3,w4⟩ _ rfl gs h1 h2 h3
   simpa only [List.append_assoc] using g
  ·have eB:B=.int .u8 243::u8l (bytesOf ((sp - 61616) * 16+dp - 61616) 1++(bytesOf (S) 2++rest)):=by rw [hB];simp only [List.append_assoc];rfl
   have eq:.int .u8 243::u8l (bytesOf ((sp - 61616) * 16+dp - 61616) 1++(bytesOf (S) 2++rest))=u8l (([243]:List UInt8)++(bytesOf ((sp - 61616) * 16+dp - 61616) 1++(bytesOf (S) 2++rest))):=rfl
   simp only [List.length_append,bytesOf_length] at hl hn
   have t1:=tku_at (([243]:List UInt8)) (bytesOf (S) 2++(rest)) _ 1 2 1 ((sp - 61616) * 16+dp - 61616) 1 (eq.trans (by simp only [List.append_assoc])) rfl rfl rfl (by omega) (by omega) (by simp only [List.length_append,bytesOf_length,List.length_singleton];omega) (by omega)
   have t2:=tku_at (([243]:List UInt8)++bytesOf ((sp - 61616) * 16+dp - 61616) 1) (rest) _ 2 4 2 (S) 2 (eq.trans (by simp only [List.append_assoc])) rfl rfl rfl (by omega) (by omega) (by simp only [List.length_append,bytesOf_length,List.length_singleton];omega) (by omega)
   have en:n=4:=by omega
   rw [eB,en]
   exact rudp3 _ sp dp S _ 0 hsp hdp hS rfl ⟨w1,w2⟩ ⟨w3,w4⟩ t1 t2
 by_cases g1:(61440≤dp∧dp < 61696)
 ·have w1:=g1.1
  have w2:=g1.2
  have nw:¬ (61616≤sp∧sp < 61632∧61616≤dp∧dp < 61632):=hw
  clear hw
  refine ⟨bytesOf 241 1++(bytesOf (sp) 2++(bytesOf (dp - 61440) 1++(bytesOf (S) 2))),by simp only [List.length_append,bytesOf_length];omega,fun xb X hX hx=>?_,fun rest B n hB hn hl=>?_⟩
  ·have h1:=app_at xb X 241 1 1 hX rfl (by omega) (by omega) (by omega)
   have h2:=app_at (xb++bytesOf 241 1) _ (sp) 2 2 rfl rfl (by omega) (by omega) (by simp only [List.length_append,bytesOf_length];omega)
   have h3:=app_at (xb++bytesOf 241 1++bytesOf (sp) 2) _ (dp - 61440) 1 1 rfl rfl (by omega) (by omega) (by simp only [List.length_append,bytesOf_length];omega)
   have h4:=app_at (xb++bytesOf 241 1++bytesOf (sp) 2++bytesOf (dp - 61440) 1) _ (S) 2 2 rfl rfl (by omega) (by omega) (by simp only [List.length_append,bytesOf_length];omega)
   have g:=udp1_c cl fl hp a0 a1 a2 a3 a4 a5 a6 a7 a8 a9 b0 b1 b2 b3 b4 b5 x0 x1 x2 x3 x4 x5 x6 x7 x8 x9 y0 y1 y2 y3 y4 y5 sp dp S P X _ _ _ _ hsp hdp hS (by rw [hX,u8l_len];omega) ⟨nw,w1,w2⟩ _ rfl gs h1 h2 h3 h4
   simpa only [List.append_assoc] using g
  ·have eB:B=.int .u8 241::u8l (bytesOf (sp) 2++(bytesOf (dp - 61440) 1++(bytesOf (S) 2++rest))):=by rw [hB];simp only [List.append_assoc];rfl
   have eq:.int .u8 241::u8l (bytesOf (sp) 2++(bytesOf (dp - 61440) 1++(bytesOf (S) 2++rest)))=u8l (([241]:List UInt8)++(bytesOf (sp) 2++(bytesOf (dp - 61440) 1++(bytesOf (S) 2++rest)))):=rfl
   simp only [List.length_append,bytesOf_length] at hl hn
   have t1:=tku_at (([241]:List UInt8)) (bytesOf (dp - 61440) 1++(bytesOf (S) 2++(rest))) _ 1 3 2 (sp) 2 (eq.trans (by simp only [List.append_assoc])) rfl rfl rfl (by omega) (by omega) (by simp only [List.length_append,bytesOf_length,List.length_singleton];omega) (by omega)
   have t2:=tku_at (([241]:List UInt8)++bytesOf (sp) 2) (bytesOf (S) 2++(rest)) _ 3 4 1 (dp - 61440) 1 (eq.trans (by simp only [List.append_assoc])) rfl rfl rfl (by omega) (by omega) (by simp only [List.length_append,bytesOf_length,List.length_singleton];omega) (by omega)
   have t3:=tku_at (([241]:List UInt8)++bytesOf (sp) 2++bytesOf (dp - 61440) 1) (rest) _ 4 6 2 (S) 2 (eq.trans (by simp only [List.append_assoc])) rfl rfl rfl (by omega) (by omega) (by simp only [List.length_append,bytesOf_length,List.length_singleton];omega) (by omega)
   have en:n=6:=by omega
   rw [eB,en]
   exact rudp1 _ sp dp S _ _ hsp hdp hS rfl rfl ⟨w1,w2⟩ t1 t2 t3
 by_cases g2:(61440≤sp∧sp < 61696)
 ·have w1:=g2.1
  have w2:=g2.2
  have nw:¬ (61616≤sp∧sp < 61632∧61616≤dp∧dp < 61632):=hw
  clear hw
  refine ⟨bytesOf 242 1++(bytesOf (sp - 61440) 1++(bytesOf (dp) 2++(bytesOf (S) 2))),by simp only [List.length_append,bytesOf_length];omega,fun xb X hX hx=>?_,fun rest B n hB hn hl=>?_⟩
  ·have h1:=app_at xb X 242 1 1 hX rfl (by omega) (by omega) (by omega)
   have h2:=app_at (xb++bytesOf 242 1) _ (sp - 61440) 1 1 rfl rfl (by omega) (by omega) (by simp only [List.length_append,bytesOf_length];omega)
   have h3:=app_at (xb++bytesOf 242 1++bytesOf (sp - 61440) 1) _ (dp) 2 2 rfl rfl (by omega) (by omega) (by simp only [List.length_append,bytesOf_length];omega)
   have h4:=app_at (xb++bytesOf 242 1++bytesOf (sp - 61440) 1++bytesOf (dp) 2) _ (S) 2 2 rfl rfl (by omega) (by omega) (by simp only [List.length_append,bytesOf_length];omega)
   have g:=udp2_c cl fl hp a0 a1 a2 a3 a4 a5 a6 a7 a8 a9 b0 b1 b2 b3 b4 b5 x0 x1 x2 x3 x4 x5 x6 x7 x8 x9 y0 y1 y2 y3 y4 y5 sp dp S P X _ _ _ _ hsp hdp hS (by rw [hX,u8l_len];omega) ⟨nw,g1,w1,w2⟩ _ rfl gs h1 h2 h3 h4
   simpa only [List.append_assoc] using g
  ·have eB:B=.int .u8 242::u8l (bytesOf (sp - 61440) 1++(bytesOf (dp) 2++(bytesOf (S) 2++rest))):=by rw [hB];simp only [List.append_assoc];rfl
   have eq:.int .u8 242::u8l (bytesOf (sp - 61440) 1++(bytesOf (dp) 2++(bytesOf (S) 2++rest)))=u8l (([242]:List UInt8)++(bytesOf (sp - 61440) 1++(bytesOf (dp) 2++(bytesOf (S) 2++rest)))):=rfl
   simp only [List.length_append,bytesOf_length] at hl hn
   have t1:=tku_at (([242]:List UInt8)) (bytesOf (dp) 2++(bytesOf (S) 2++(rest))) _ 1 2 1 (sp - 61440) 1 (eq.trans (by simp only [List.append_assoc])) rfl rfl rfl (by omega) (by omega) (by simp only [List.length_append,bytesOf_length,List.length_singleton];omega) (by omega)
   have t2:=tku_at (([242]:List UInt8)++bytesOf (sp - 61440) 1) (bytesOf (S) 2++(rest)) _ 2 4 2 (dp) 2 (eq.trans (by simp only [List.append_assoc])) rfl rfl rfl (by omega) (by omega) (by simp only [List.length_append,bytesOf_length,List.length_singleton];omega) (by omega)
   have t3:=tku_at (([242]:List UInt8)++bytesOf (sp - 61440) 1++bytesOf (dp) 2) (rest) _ 4 6 2 (S) 2 (eq.trans (by simp only [List.append_assoc])) rfl rfl rfl (by omega) (by omega) (by simp only [List.length_append,bytesOf_length,List.length_singleton];omega) (by omega)
   have en:n=6:=by omega
   rw [eB,en]
   exact rudp2 _ sp dp S _ _ hsp hdp hS rfl rfl ⟨w1,w2⟩ t1 t2 t3
 ·have nw:¬ (61616≤sp∧sp < 61632∧61616≤dp∧dp < 61632):=hw
  clear hw
  refine ⟨bytesOf 240 1++(bytesOf (sp) 2++(bytesOf (dp) 2++(bytesOf (S) 2))),by simp only [List.length_append,bytesOf_length];omega,fun xb X hX hx=>?_,fun rest B n hB hn hl=>?_⟩
  ·have h1:=app_at xb X 240 1 1 hX rfl (by omega) (by omega) (by omega)
   have h2:=app_at (xb++bytesOf 240 1) _ (sp) 2 2 rfl rfl (by omega) (by omega) (by simp only [List.length_append,bytesOf_length];omega)
   have h3:=app_at (xb++bytesOf 240 1++bytesOf (sp) 2) _ (dp) 2 2 rfl rfl (by omega) (by omega) (by simp only [List.length_append,bytesOf_length];omega)
   have h4:=app_at (xb++bytesOf 240 1++bytesOf (sp) 2++bytesOf (dp) 2) _ (S) 2 2 rfl rfl (by omega) (by omega) (by simp only [List.length_append,bytesOf_length];omega)
   have g:=udp0_c cl fl hp a0 a1 a2 a3 a4 a5 a6 a7 a8 a9 b0 b1 b2 b3 b4 b5 x0 x1 x2 x3 x4 x5 x6 x7 x8 x9 y0 y1 y2 y3 y4 y5 sp dp S P X _ _ _ _ hsp hdp hS (by rw [hX,u8l_len];omega) ⟨nw,g1,g2⟩ gs h1 h2 h3 h4
   simpa only [List.append_assoc] using g
  ·have eB:B=.int .u8 240::u8l (bytesOf (sp) 2++(bytesOf (dp) 2++(bytesOf (S) 2++rest))):=by rw [hB];simp only [List.append_assoc];rfl
   have eq:.int .u8 240::u8l (bytesOf (sp) 2++(bytesOf (dp) 2++(bytesOf (S) 2++rest)))=u8l (([240]:List UInt8)++(bytesOf (sp) 2++(bytesOf (dp) 2++(bytesOf (S) 2++rest)))):=rfl
   simp only [List.length_append,bytesOf_length] at hl hn
   have t1:=tku_at (([240]:List UInt8)) (bytesOf (dp) 2++(bytesOf (S) 2++(rest))) _ 1 3 2 (sp) 2 (eq.trans (by simp only [List.append_assoc])) rfl rfl rfl (by omega) (by omega) (by simp only [List.length_append,bytesOf_length,List.length_singleton];omega) (by omega)
   have t2:=tku_at (([240]:List UInt8)++bytesOf (sp) 2) (bytesOf (S) 2++(rest)) _ 3 5 2 (dp) 2 (eq.trans (by simp only [List.append_assoc])) rfl rfl rfl (by omega) (by omega) (by simp only [List.length_append,bytesOf_length,List.length_singleton];omega) (by omega)
   have t3:=tku_at (([240]:List UInt8)++bytesOf (sp) 2++bytesOf (dp) 2) (rest) _ 5 7 2 (S) 2 (eq.trans (by simp only [List.append_assoc])) rfl rfl rfl (by omega) (by omega) (by simp only [List.length_append,bytesOf_length,List.length_singleton];omega) (by omega)
   have en:n=7:=by omega
   rw [eB,en]
   exact rudp0 _ sp dp S _ _ hsp hdp hS rfl rfl t1 t2 t3
end
section
open Go.RowKit
set_option maxHeartbeats 4000000
set_option maxRecDepth 100000
theorem shd_ok (c mc:Bool) (m m2 rc rm z:Int) (hm:0≤m∧m≤3) (hm2:0≤m2∧m2≤3) (hrc:rc=if c=true then 64 else 0) (hrm:rm=if mc=true then 8 else 0) (hz:z=rc+16 * m+rm+m2):SHd z rc m rm m2:=by
 have a:m=0∨m=1∨m=2∨m=3:=by omega
 have b:m2=0∨m2=1∨m2=2∨m2=3:=by omega
 rcases a with rfl | rfl | rfl | rfl <;> rcases b with rfl | rfl | rfl | rfl <;> cases c <;> cases mc <;> simp at hrc hrm <;> subst hrc hrm hz <;> exact ⟨by decide,by decide,by decide,by decide,by decide,by decide,by decide⟩
theorem hdr (cl fl nx hp a0 a1 a2 a3 a4 a5 a6 a7 a8 a9 b0 b1 b2 b3 b4 b5 x0 x1 x2 x3 x4 x5 x6 x7 x8 x9 y0 y1 y2 y3 y4 y5 sp dp:Int) (P:List SV) (H:PkOk cl fl nx hp a0 sp dp P.length) (Hs:By16 a0 a1 a2 a3 a4 a5 a6 a7 a8 a9 b0 b1 b2 b3 b4 b5) (Hd:By16 x0 x1 x2 x3 x4 x5 x6 x7 x8 x9 y0 y1 y2 y3 y4 y5) :
  ∃ (fB:UInt8) (first:Int) (hb:List UInt8),first=(fB.toNat:Int)∧(96≤first∧first≤127)∧hb.length≤40 ∧
   Good 73 (nu [pkS cl fl nx hp a0 a1 a2 a3 a4 a5 a6 a7 a8 a9 b0 b1 b2 b3 b4 b5 x0 x1 x2 x3 x4 x5 x6 x7 x8 x9 y0 y1 y2 y3 y4 y5 sp dp (.lst none P),dvS 144115188075855873,dvS 144115188075855874,.lst (some 20) [],.int .i64 0] (.tup [.row 1,.int .i64 0]) (.row none 5 (u8l (fB::hb)))) ∧
   ∀ (rest:List UInt8) (B:List SV) (at':Int),B=u8l ((fB::hb)++rest)→at'=(fB::hb).length→((fB::hb)++rest).length≤2000 →
    Good 87 (pu [.lst none B,dvS 144115188075855873,dvS 144115188075855874,.lst (some 20) [],.int .i64 0] (.tup [pkS cl fl nx hp a0 a1 a2 a3 a4 a5 a6 a7 a8 a9 b0 b1 b2 b3 b4 b5 x0 x1 x2 x3 x4 x5 x6 x7 x8 x9 y0 y1 y2 y3 y4 y5 0 0 .nil,.int .i64 at',.int .i64 0])):=by
 obtain ⟨first,f,n,h,cb,q0,q1,q2,R,Rb,hcb,hq3,hFE,hR,hRb,hfi,rdF⟩:=flds cl fl nx hp H.hcl H.hfl H.hnx H.hhp
 obtain ⟨c,m,F,Fb,hF,hFb,hm,gs,rs⟩:=uni_form 144115188075855873 1 (.inl ⟨rfl,rfl⟩) true a0 a1 a2 a3 a4 a5 a6 a7 a8 a9 b0 b1 b2 b3 b4 b5 Hs H.ha0
 obtain ⟨mc,m2,F2,Fb2,hmc,hF2,hFb2,hm2,gT,gF,rT,rF⟩:∃ (mc:Bool) (m2:Int) (F2:List SV) (Fb2:List UInt8),mc=decide (x0=255)∧F2=u8l Fb2∧Fb2.length≤16∧(0≤m2∧m2≤3) ∧
   (mc=true→Good 137 (pu [ipS x0 x1 x2 x3 x4 x5 x6 x7 x8 x9 y0 y1 y2 y3 y4 y5] (fmS false m2 F2)))∧(mc=false→Good 135 (pu [ipS x0 x1 x2 x3 x4 x5 x6 x7 x8 x9 y0 y1 y2 y3 y4 y5,dvS 144115188075855874,.bool false,.lst (some 20) [],.int .i64 0] (fmS false m2 F2))) ∧
   (mc=true→Rdg m2 Fb2 (ipS x0 x1 x2 x3 x4 x5 x6 x7 x8 x9 y0 y1 y2 y3 y4 y5))∧(mc=false→Rdu 144115188075855874 m2 Fb2 (ipS x0 x1 x2 x3 x4 x5 x6 x7 x8 x9 y0 y1 y2 y3 y4 y5)):=by
  by_cases hx:x0=255
  ·obtain ⟨m2,F2,Fb2,g1,g2,g3,g4,g5⟩:=grp_form x0 x1 x2 x3 x4 x5 x6 x7 x8 x9 y0 y1 y2 y3 y4 y5 Hd hx
   exact ⟨true,m2,F2,Fb2,by rw [decide_eq_true hx],g1,g2,g3,fun _=>g4,fun h=>(nomatch h),fun _=>g5,fun h=>(nomatch h)⟩
  ·obtain ⟨c2,m2,F2,Fb2,g1,g2,g3,g4,g5⟩:=uni_form 144115188075855874 2 (.inr ⟨rfl,rfl⟩) false x0 x1 x2 x3 x4 x5 x6 x7 x8 x9 y0 y1 y2 y3 y4 y5 Hd hx
   rcases g5 with ⟨_,g,_⟩ | ⟨rfl,g5⟩
   ·exact (nomatch g)
   ·exact ⟨false,m2,F2,Fb2,by rw [decide_eq_false hx],g1,g2,g3,fun h=>(nomatch h),fun _=>g4,fun h=>(nomatch h),fun _=>g5⟩
 obtain ⟨rc,hrc⟩:∃ r:Int,r=if c=true then 64 else 0:=⟨_,rfl⟩
 obtain ⟨rm,hrm⟩:∃ r:Int,r=if mc=true then 8 else 0:=⟨_,rfl⟩
 obtain ⟨z,hz⟩:∃ z:Int,z=rc+16 * m+rm+m2:=⟨_,rfl⟩
 have hS:=shd_ok c mc m m2 rc rm z hm hm2 hrc hrm hz
 obtain ⟨fB,hfB⟩:=byte_ex first (by omega)
 obtain ⟨sB,hsB⟩:=byte_ex z (by have:=hS.r;omega)
 have k1:O.ap [SV.int .u8 first,.int .u8 z] R=u8l (fB::sB::Rb):=by rw [oap,hR,hfB,hsB];rfl
 have k2:apL (u8l (fB::sB::Rb)) F=u8l (fB::sB::Rb++Fb):=by rw [apL_app,hF,u8l_app]
 have k3:apL (u8l (fB::sB::Rb++Fb)) F2=u8l (fB::sB::Rb++Fb++Fb2):=by rw [apL_app,hF2,u8l_app]
 have gf:=efields_c first f n h q0 q1 q2 cl fl nx hp a0 a1 a2 a3 a4 a5 a6 a7 a8 a9 b0 b1 b2 b3 b4 b5 x0 x1 x2 x3 x4 x5 x6 x7 x8 x9 y0 y1 y2 y3 y4 y5 sp dp P R hFE cb hcb hq3 H.hfl
 have ge:=ienc_c 144115188075855873 144115188075855874 first m m2 z rc rm cl fl nx hp a0 a1 a2 a3 a4 a5 a6 a7 a8 a9 b0 b1 b2 b3 b4 b5 x0 x1 x2 x3 x4 x5 x6 x7 x8 x9 y0 y1 y2 y3 y4 y5 sp dp c mc P R F F2 _ _ _ H hm hm2 (by omega) (by rw [hR,u8l_len];omega) (by rw [hF,u8l_len];exact hFb) (by rw [hF2,u8l_len];exact hFb2) hrc hrm hmc hz gf gs gT gF k1 k2 k3
 refine ⟨fB,first,sB::Rb++Fb++Fb2,hfB,hfi,by simp only [List.cons_append,List.length_cons,List.length_append];omega,ge,fun rest B at' hB hat hl=>?_⟩
 have e0:fB::(sB::Rb++Fb++Fb2)++rest=[fB]++([sB]++(Rb++(Fb++(Fb2++rest)))):=by simp
 have hlen:(fB::(sB::Rb++Fb++Fb2)).length=2+Rb.length+Fb.length+Fb2.length:=by simp only [List.cons_append,List.length_cons,List.length_append];omega
 rw [hlen] at hat
 rw [e0] at hB hl
 have n1:=num_at [] [fB] ([sB]++(Rb++(Fb++(Fb2++rest)))) B 0 1 first 1 hB rfl rfl rfl (by simp) (by simp) hl (by rw [hfB];simp [be])
 have n2:=num_at [fB] [sB] (Rb++(Fb++(Fb2++rest))) B 1 2 z 1 hB rfl rfl rfl (by simp) (by simp) hl (by rw [hsB];simp [be])
 have gst:=start_c first z rc m rm m2 hS hfi B 1 2 n1 n2
 have gfd:=rdF [fB,sB] (Fb++(Fb2++rest)) B 2 (2+Rb.length) hB rfl rfl hl
 have hB2:B=u8l ([fB,sB]++Rb++(Fb++(Fb2++rest))):=by rw [hB];simp
 have hl2:([fB,sB]++Rb++(Fb++(Fb2++rest))).length≤2000:=by rw [← show [fB]++([sB]++(Rb++(Fb++(Fb2++rest))))=[fB,sB]++Rb++(Fb++(Fb2++rest)) by simp];exact hl
 have hB3:B=u8l ([fB,sB]++Rb++Fb++(Fb2++rest)):=by rw [hB];simp
 have hl3:([fB,sB]++Rb++Fb++(Fb2++rest)).length≤2000:=by rw [← show [fB]++([sB]++(Rb++(Fb++(Fb2++rest))))=[fB,sB]++Rb++Fb++(Fb2++rest) by simp];exact hl
 have p2:(2+(Rb.length:Int))=(([fB,sB]++Rb).length:Nat):=by simp;omega
 have p3:(2+(Rb.length:Int)+Fb.length)=(([fB,sB]++Rb++Fb).length:Nat):=by simp;omega
 have hat':at'=2+(Rb.length:Int)+Fb.length+Fb2.length:=by omega
 rcases rs with ⟨rfl,-,rfl,rfl,z0,z1,z2,z3,z4,z5,z6,z7,z8,z9,w0,w1,w2,w3,w4,w5⟩ | ⟨rfl,rs⟩
 ·subst z0 z1 z2 z3 z4 z5 z6 z7 z8 z9 w0 w1 w2 w3 w4 w5
  have er:rc=64:=hrc
  subst er
  have hat2:at'=2+(Rb.length:Int)+Fb2.length:=by rw [hat'];simp
  have p3':(2+(Rb.length:Int))=(([fB,sB]++Rb++([]:List UInt8)).length:Nat):=by rw [← p3];simp
  cases hq:mc
  ·have er:rm=0:=by rw [hrm,hq];rfl
   subst er
   exact idec_nu _ _ first z (z / 16) m2 2 (2+Rb.length) 0 at' cl fl nx hp x0 x1 x2 x3 x4 x5 x6 x7 x8 x9 y0 y1 y2 y3 y4 y5 B hS rfl gst gfd (rF hq _ rest B _ _ hB3 p3' hat2 hl3)
  ·have er:rm=8:=by rw [hrm,hq];rfl
   subst er
   exact idec_ng _ _ first z (z / 16) m2 2 (2+Rb.length) 0 at' cl fl nx hp x0 x1 x2 x3 x4 x5 x6 x7 x8 x9 y0 y1 y2 y3 y4 y5 B hS rfl gst gfd (rT hq _ rest B _ _ hB3 p3' hat2 hl3)
 ·have er:rc=0:=hrc
  subst er
  have gu:=rs _ (Fb2++rest) B _ (2+(Rb.length:Int)+Fb.length) hB2 p2 rfl hl2
  cases hq:mc
  ·have er:rm=0:=by rw [hrm,hq];rfl
   subst er
   exact idec_uu _ _ first z (z / 16) m m2 2 (2+Rb.length) _ at' cl fl nx hp a0 a1 a2 a3 a4 a5 a6 a7 a8 a9 b0 b1 b2 b3 b4 b5 x0 x1 x2 x3 x4 x5 x6 x7 x8 x9 y0 y1 y2 y3 y4 y5 B hS rfl gst gfd gu (rF hq _ rest B _ _ hB3 p3 hat' hl3)
  ·have er:rm=8:=by rw [hrm,hq];rfl
   subst er
   exact idec_ug _ _ first z (z / 16) m m2 2 (2+Rb.length) _ at' cl fl nx hp a0 a1 a2 a3 a4 a5 a6 a7 a8 a9 b0 b1 b2 b3 b4 b5 x0 x1 x2 x3 x4 x5 x6 x7 x8 x9 y0 y1 y2 y3 y4 y5 B hS rfl gst gfd gu (rT hq _ rest B _ _ hB3 p3 hat' hl3)
theorem pack (cl fl nx hp a0 a1 a2 a3 a4 a5 a6 a7 a8 a9 b0 b1 b2 b3 b4 b5 x0 x1 x2 x3 x4 x5 x6 x7 x8 x9 y0 y1 y2 y3 y4 y5 sp dp:Int) (pay:List UInt8) (P:List SV) (hP:P=u8l pay) (H:PkOk cl fl nx hp a0 sp dp P.length) (Hs:By16 a0 a1 a2 a3 a4 a5 a6 a7 a8 a9 b0 b1 b2 b3 b4 b5) (Hd:By16 x0 x1 x2 x3 x4 x5 x6 x7 x8 x9 y0 y1 y2 y3 y4 y5) :
  ∃ C:List UInt8,1≤C.length∧C.length≤1300∧C.length≤48+pay.length ∧
   Good 28 (nu [pkS cl fl nx hp a0 a1 a2 a3 a4 a5 a6 a7 a8 a9 b0 b1 b2 b3 b4 b5 x0 x1 x2 x3 x4 x5 x6 x7 x8 x9 y0 y1 y2 y3 y4 y5 sp dp (.lst none P),dvS 144115188075855873,dvS 144115188075855874,.lst (some 20) [],.int .i64 0] (.tup [.row 1,.int .i64 0]) (.row none 5 (u8l C))) ∧
   Good 38 (nu [.lst none (u8l C),dvS 144115188075855873,dvS 144115188075855874,.lst (some 20) [],.int .i64 0] (.tup [pkS cl fl nx hp a0 a1 a2 a3 a4 a5 a6 a7 a8 a9 b0 b1 b2 b3 b4 b5 x0 x1 x2 x3 x4 x5 x6 x7 x8 x9 y0 y1 y2 y3 y4 y5 sp dp (.row 1),.int .i64 0]) (.row none 5 P)):=by
 obtain ⟨fB,first,hb,hfB,hfi,hbl,ge,gd⟩:=hdr cl fl nx hp a0 a1 a2 a3 a4 a5 a6 a7 a8 a9 b0 b1 b2 b3 b4 b5 x0 x1 x2 x3 x4 x5 x6 x7 x8 x9 y0 y1 y2 y3 y4 y5 sp dp P H Hs Hd
 have hPl:P.length=pay.length:=by rw [hP,u8l_len]
 have hpn:=H.hn
 by_cases hnx:nx=17
 ·subst hnx
  have hpm:=H.hm rfl
  obtain ⟨sa,sl,g1,g2⟩:=by16 Hs
  obtain ⟨da,dl,g3,g4⟩:=by16 Hd
  obtain ⟨S,hS,gs⟩:=psum_e cl fl hp a0 a1 a2 a3 a4 a5 a6 a7 a8 a9 b0 b1 b2 b3 b4 b5 x0 x1 x2 x3 x4 x5 x6 x7 x8 x9 y0 y1 y2 y3 y4 y5 sp dp pay (sa++sl) (da++dl) P hP H (by rw [← u8l_app,← g1,← g2];rfl) (by rw [← u8l_app,← g3,← g4];rfl)
  obtain ⟨ub,hub,gu,gr⟩:=udp_form S cl fl hp a0 a1 a2 a3 a4 a5 a6 a7 a8 a9 b0 b1 b2 b3 b4 b5 x0 x1 x2 x3 x4 x5 x6 x7 x8 x9 y0 y1 y2 y3 y4 y5 sp dp P H.hsp H.hdp hS gs
  have k:apL (u8l (fB::hb++ub)) P=u8l (fB::hb++ub++pay):=by rw [apL_app,hP,u8l_app]
  have hl:(fB::hb++ub++pay).length≤1300:=by simp only [List.length_append,List.length_cons];omega
  have eC:u8l (fB::hb++ub++pay)=.int .u8 first::u8l (hb++ub++pay):=by rw [hfB];rfl
  refine ⟨fB::hb++ub++pay,by simp,hl,by simp only [List.length_append,List.length_cons];omega,cenc_y _ _ cl fl hp a0 a1 a2 a3 a4 a5 a6 a7 a8 a9 b0 b1 b2 b3 b4 b5 x0 x1 x2 x3 x4 x5 x6 x7 x8 x9 y0 y1 y2 y3 y4 y5 sp dp P _ (u8l (fB::hb++ub)) _ (by rw [u8l_len];simp only [List.length_append,List.length_cons];omega) (by omega) ge (gu _ _ rfl (by simp only [List.length_cons];omega)) k,?_⟩
  rw [eC]
  have d1:O.dr ((fB::hb).length:Nat) (.int .u8 first::u8l (hb++ub++pay))=u8l (ub++pay):=by
   rw [← eC,odr,Int.toNat_natCast,u8l_drop,List.append_assoc,List.drop_left]
  have d2:O.dr (ub.length:Nat) (u8l (ub++pay))=P:=by
   rw [odr,Int.toNat_natCast,u8l_drop,List.drop_left,hP]
  refine cdec_y _ _ first ((fB::hb).length:Nat) (ub.length:Nat) S cl fl hp a0 a1 a2 a3 a4 a5 a6 a7 a8 a9 b0 b1 b2 b3 b4 b5 x0 x1 x2 x3 x4 x5 x6 x7 x8 x9 y0 y1 y2 y3 y4 y5 sp dp _ P H hS hfi (by omega) (by omega) (by rw [u8l_len,hPl];simp only [List.length_append,List.length_cons];omega) ?_ ?_ ?_ gs
  ·rw [← eC]
   exact gd (ub++pay) _ _ (by rw [List.append_assoc]) rfl (by rw [← List.append_assoc];omega)
  ·rw [d1]
   exact gr pay _ _ rfl rfl (by simp only [List.length_append];omega)
  ·rw [d1,d2]
 ·obtain ⟨rfl,rfl⟩:=H.hz hnx
  have k:apL (u8l (fB::hb)) P=u8l (fB::hb++pay):=by rw [apL_app,hP,u8l_app]
  have hl:(fB::hb++pay).length≤1300:=by simp only [List.length_append,List.length_cons];omega
  have eC:u8l (fB::hb++pay)=.int .u8 first::u8l (hb++pay):=by rw [hfB];rfl
  refine ⟨fB::hb++pay,by simp,hl,by simp only [List.length_append,List.length_cons];omega,cenc_n _ _ cl fl nx hp a0 a1 a2 a3 a4 a5 a6 a7 a8 a9 b0 b1 b2 b3 b4 b5 x0 x1 x2 x3 x4 x5 x6 x7 x8 x9 y0 y1 y2 y3 y4 y5 0 0 hnx P _ _ (by rw [u8l_len];simp only [List.length_cons];omega) (by omega) ge k,?_⟩
  rw [eC]
  refine cdec_n _ _ first ((fB::hb).length:Nat) cl fl nx hp a0 a1 a2 a3 a4 a5 a6 a7 a8 a9 b0 b1 b2 b3 b4 b5 x0 x1 x2 x3 x4 x5 x6 x7 x8 x9 y0 y1 y2 y3 y4 y5 hnx _ P H hfi (by omega) (by rw [u8l_len,hPl];simp only [List.length_append,List.length_cons];omega) ?_ ?_
  ·rw [← eC]
   exact gd pay _ _ rfl rfl (by omega)
  ·rw [← eC,odr,Int.toNat_natCast,u8l_drop,List.drop_left,hP]
end
end Go.Proofs.YtgfpjhddojhfpaaGreat
