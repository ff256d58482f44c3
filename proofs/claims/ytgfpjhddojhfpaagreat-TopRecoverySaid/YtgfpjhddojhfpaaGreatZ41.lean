/- Texts put together: EZe. -/
import Derived.Test.YtgfpjhddojhfpaaGreatZ33
import Derived.Test.YtgfpjhddojhfpaaGreatZ40
namespace Go.Proofs.YtgfpjhddojhfpaaGreat
set_option linter.unusedVariables false
set_option linter.unusedSimpArgs false
section
open Go.RowKit
set_option maxHeartbeats 8000000
set_option maxRecDepth 100000
theorem rudpz_c (nx r:Int) (hr:r=if nx=17 then 8 else 0):Good 131 (pu [.agg [.int .u8 0,.int .u32 0,.int .u8 nx,.int .u8 0,.int .u8 0,.int .u8 0,.int .u8 0,.int .u8 0,.int .u8 0,.int .u8 0,.int .u8 0,.int .u8 0,.int .u8 0,.int .u8 0,.int .u8 0,.int .u8 0,.int .u8 0,.int .u8 0,.int .u8 0,.int .u8 0,.int .u8 0,.int .u8 0,.int .u8 0,.int .u8 0,.int .u8 0,.int .u8 0,.int .u8 0,.int .u8 0,.int .u8 0,.int .u8 0,.int .u8 0,.int .u8 0,.int .u8 0,.int .u8 0,.int .u8 0,.int .u8 0,.int .u16 0,.int .u16 0,.nil]] (.int .i64 r)):=by
 by_cases h:nx=17
 ·rw [if_pos h] at hr
  subst hr h
  refine Good.of Tryz.func131 rfl (by rfl) (by kernel_rfl) ?_
  cbv
  exact wlkc
 ·rw [if_neg h] at hr
  subst hr
  refine Good.of Tryz.func131 rfl (by rfl) (by kernel_rfl) ?_
  cbv
  exact wlkc
theorem rsize_c (nx r:Int) (hr:r=if nx=17 then 48 else 40):Good 72 (pu [.agg [.int .u8 0,.int .u32 0,.int .u8 nx,.int .u8 0,.int .u8 0,.int .u8 0,.int .u8 0,.int .u8 0,.int .u8 0,.int .u8 0,.int .u8 0,.int .u8 0,.int .u8 0,.int .u8 0,.int .u8 0,.int .u8 0,.int .u8 0,.int .u8 0,.int .u8 0,.int .u8 0,.int .u8 0,.int .u8 0,.int .u8 0,.int .u8 0,.int .u8 0,.int .u8 0,.int .u8 0,.int .u8 0,.int .u8 0,.int .u8 0,.int .u8 0,.int .u8 0,.int .u8 0,.int .u8 0,.int .u8 0,.int .u8 0,.int .u16 0,.int .u16 0,.nil]] (.int .i64 r)):=by
 have g:=rudpz_c nx _ rfl
 obtain ⟨u,hu⟩:∃ u:Int,u=if nx=17 then 8 else 0:=⟨_,rfl⟩
 rw [← hu] at g
 have e:r=40+u:=by rw [hr,hu];split <;> rfl
 clear hr
 have hb:0≤u∧u≤8:=by rw [hu];split <;> omega
 clear hu
 refine Good.of Tryz.func72 rfl (by rfl) (by kernel_rfl) ?_
 cbv
 have hmk:True:=trivial
 (try (simp only [cwn];cbv));(repeat' (first
| ((first
| (refine q1w (fun z hz=>?_);(have e:r=z:=by omega);subst e)
| (refine q1w (fun z hz=>?_);(try simp [oln,Int.max_def,Int.min_def] at hz);(with_reducible refine litk hz ?_ ?_);(focus decide);subst hz)
| (refine q1w (fun z hz=>?_);(try simp only [Int.reduceToNat,Int.reducePow] at hz))
| refine td ?_
| refine fd ?_
| refine rqa ?_
| refine vI ?_
| refine vA ?_
| refine vS ?_
| refine vR ?_
| refine callq (g) rfl rfl ?_
| refine chpA ?_
| refine QCt ?_
| refine QCf ?_);cbv;(try (simp only [cwn];cbv)))
| (simp only [cwn];cbv)
| (refine QC.mk ?_ ?_ <;> intro hc <;> (try dsimp only at hc) <;> cbv;(try (simp only [cwn];cbv)))
| (refine br_mk2 ?_ ?_ <;> intro hb <;> (try subst hb) <;> cbv;(try (simp only [cwn];cbv)))))
 exact ⟨rfl,rfl,rfl⟩
theorem opt_e {L:List SV} {c:Int} (t:Tp L c) (n:Int) (hn:1≤n∧n≤2000000) (y:Bool):∃ v d:Int,(0≤v∧v < n)∧Tp L d∧(y=true∧Good 42 (le 144 (.agg [.lst none L,.int .i64 c]) [.int .i64 n] (.int .i64 v) (.agg [.lst none L,.int .i64 d]))∨y=false∧v=0∧d=c):=by
 cases y
 ·exact ⟨0,c,by omega,t,.inr ⟨rfl,rfl,rfl⟩⟩
 ·obtain ⟨v,d,p,u,t2,g⟩:=next2_e t n hn
  exact ⟨v,d,⟨p,u⟩,t2,.inl ⟨rfl,g⟩⟩
theorem packet_e {L:List SV} {a:Int} (h:Tp L a):∃ (cl fl nx hp a0 a1 a2 a3 a4 a5 a6 a7 a8 a9 b0 b1 b2 b3 b4 b5 x0 x1 x2 x3 x4 x5 x6 x7 x8 x9 y0 y1 y2 y3 y4 y5 sp dp:Int) (pay:List UInt8) (b:Int),PkOk cl fl nx hp a0 sp dp pay.length∧By16 a0 a1 a2 a3 a4 a5 a6 a7 a8 a9 b0 b1 b2 b3 b4 b5∧By16 x0 x1 x2 x3 x4 x5 x6 x7 x8 x9 y0 y1 y2 y3 y4 y5∧Tp L b ∧
  Good 27 (leN 144 (.agg [.lst none L,.int .i64 a]) [dvS 144115188075855873,dvS 144115188075855874] (pkS cl fl nx hp a0 a1 a2 a3 a4 a5 a6 a7 a8 a9 b0 b1 b2 b3 b4 b5 x0 x1 x2 x3 x4 x5 x6 x7 x8 x9 y0 y1 y2 y3 y4 y5 sp dp (.row 1)) (.agg [.lst none L,.int .i64 b]) (.row none 5 (u8l pay))):=by
 obtain ⟨n1,c1,p1,u1,t1,g1⟩:=next_e h 5 (by omega)
 obtain ⟨nx,hnx0,hnx⟩:∃ x:Int,(x=17∨x=58∨x=59∨x=0)∧[SV.int .u8 17,.int .u8 17,.int .u8 58,.int .u8 59,.int .u8 0][n1.toNat]?=some (.int .u8 x):=by
  rcases (show n1=0∨n1=1∨n1=2∨n1=3∨n1=4 by omega) with r | r | r | r | r <;> subst r <;> exact ⟨_,by decide,rfl⟩
 obtain ⟨n2,c2,p2,u2,t2,g2⟩:=next_e t1 5 (by omega)
 obtain ⟨hp,hhp0,hhp⟩:∃ x:Int,(0≤x∧x≤255)∧[SV.int .u8 1,.int .u8 64,.int .u8 255,.int .u8 0,.int .u8 63][n2.toNat]?=some (.int .u8 x):=by
  rcases (show n2=0∨n2=1∨n2=2∨n2=3∨n2=4 by omega) with r | r | r | r | r <;> subst r <;> exact ⟨_,by decide,rfl⟩
 obtain ⟨a0,a1,a2,a3,a4,a5,a6,a7,a8,a9,b0,b1,b2,b3,b4,b5,c3,HS,t3,g3⟩:=ip_e t2 144115188075855873 1 (.inl ⟨rfl,rfl⟩)
 obtain ⟨x0,x1,x2,x3,x4,x5,x6,x7,x8,x9,y0,y1,y2,y3,y4,y5,c4,HD,t4,g4⟩:=ip_e t3 144115188075855874 2 (.inr ⟨rfl,rfl⟩)
 obtain ⟨bs,c5,lb,t5,g5⟩:=bytes_e t4 12 (by omega)
 obtain ⟨o1,c6,t6,g6⟩:=bool_e t5 3 (by omega)
 obtain ⟨cl,c7,bcl,t7,k7⟩:=opt_e t6 256 (by omega) o1
 obtain ⟨o2,c8,t8,g8⟩:=bool_e t7 3 (by omega)
 obtain ⟨fl,c9,bfl,t9,k9⟩:=opt_e t8 1048576 (by omega) o2
 obtain ⟨r0,hr0⟩:∃ r:Bool,r=decide (a0=255):=⟨_,rfl⟩
 have gm:=rimc_c a0 a1 a2 a3 a4 a5 a6 a7 a8 a9 b0 b1 b2 b3 b4 b5 r0 hr0
 obtain ⟨s0,ks⟩:∃ s0:Int,r0=true∧s0=32∨r0=false∧s0=a0:=by
  cases r0
  ·exact ⟨a0,.inr ⟨rfl,rfl⟩⟩
  ·exact ⟨32,.inl ⟨rfl,rfl⟩⟩
 have hs0:s0≠255:=by
  rcases ks with ⟨_,e⟩ | ⟨e,e2⟩
  ·omega
  ·rw [e] at hr0;have:=of_decide_eq_false hr0.symm;omega
 obtain ⟨sp,dp,c11,bsp,bdp,t11,kp⟩:∃ sp dp d:Int,(0≤sp∧sp≤65535)∧(0≤dp∧dp≤65535)∧Tp L d∧((∃ c10,nx=17∧Good 70 (le 144 (.agg [.lst none L,.int .i64 c9]) [] (.int .u16 sp) (.agg [.lst none L,.int .i64 c10]))∧Good 70 (le 144 (.agg [.lst none L,.int .i64 c10]) [] (.int .u16 dp) (.agg [.lst none L,.int .i64 d])))∨nx≠17∧sp=0∧dp=0∧d=c9):=by
  by_cases hx:nx=17
  ·obtain ⟨v,d,b1,t1,g1⟩:=port_e t9
   obtain ⟨w,d2,b2,t2,g2⟩:=port_e t1
   exact ⟨v,w,d2,b1,b2,t2,.inl ⟨d,hx,g1,g2⟩⟩
  ·exact ⟨0,0,c9,by omega,by omega,t9,.inr ⟨hx,rfl,rfl,rfl⟩⟩
 obtain ⟨o5,c12,t12,g12⟩:=bool_e t11 12 (by omega)
 obtain ⟨sz,hsz⟩:∃ z:Int,z=if nx=17 then 48 else 40:=⟨_,rfl⟩
 have gz:=rsize_c nx sz hsz
 have hszb:(nx=17→sz=48)∧(nx≠17→sz=40):=by rw [hsz];constructor <;> intro e <;> simp [e]
 have hsz2:40≤sz∧sz≤48:=by rw [hsz];split <;> omega
 obtain ⟨pay,c14,hpl,t14,kf⟩:∃ (pay:List UInt8) (d:Int),(pay.length:Int)≤1280 - sz∧Tp L d∧((∃ (n5 nn c13:Int),o5=true∧(0≤n5∧n5 < 2)∧nn=1280 - sz - n5∧Good 42 (le 144 (.agg [.lst none L,.int .i64 c12]) [.int .i64 2] (.int .i64 n5) (.agg [.lst none L,.int .i64 c13]))∧Good 71 (leN 144 (.agg [.lst none L,.int .i64 c13]) [.int .i64 nn] (.row 1) (.agg [.lst none L,.int .i64 d]) (.row none 5 (u8l pay))))∨o5=false∧pay=bs∧d=c12):=by
  cases o5
  ·exact ⟨bs,c12,by omega,t12,.inr ⟨rfl,rfl,rfl⟩⟩
  ·obtain ⟨n5,d,p,u,t,g⟩:=next_e t12 2 (by omega)
   obtain ⟨R,zs,d2,e1,e2,e3,tt,gg⟩:=fill_e t (1280 - sz - n5) (by omega)
   obtain ⟨fb,f1,f2⟩:=u8l_of zs e3
   rw [e1,f1] at gg
   exact ⟨fb,d2,by rw [f2,e2];omega,tt,.inl ⟨n5,_,d,rfl,⟨p,u⟩,rfl,g,gg⟩⟩
 have hok:PkOk cl fl nx hp s0 sp dp pay.length:=⟨by clear kp kf ks k7 k9;omega,by clear kp kf ks k7 k9;omega,by clear kp kf ks k7 k9;omega,hhp0,hs0,bsp,bdp,fun e=>by rcases kp with ⟨_,e2,_⟩ | ⟨_,e2,e3,_⟩;exact absurd e2 e;exact ⟨e2,e3⟩,by clear kp kf ks k7 k9;omega,fun e=>by have:=hszb.1 e;clear kp kf ks k7 k9;omega⟩
 have HS':By16 s0 a1 a2 a3 a4 a5 a6 a7 a8 a9 b0 b1 b2 b3 b4 b5:=by
  refine ⟨?_,HS.ha1,HS.ha2,HS.ha3,HS.ha4,HS.ha5,HS.ha6,HS.ha7,HS.ha8,HS.ha9,HS.hb0,HS.hb1,HS.hb2,HS.hb3,HS.hb4,HS.hb5⟩
  clear kp kf k7 k9
  rcases ks with ⟨_,e⟩ | ⟨_,e⟩
  ·omega
  ·rw [e];exact HS.ha0
 refine ⟨cl,fl,nx,hp,s0,a1,a2,a3,a4,a5,a6,a7,a8,a9,b0,b1,b2,b3,b4,b5,x0,x1,x2,x3,x4,x5,x6,x7,x8,x9,y0,y1,y2,y3,y4,y5,sp,dp,pay,c14,hok,HS',HD,t14,?_⟩
 clear hok HS' HS HD h t1 t2 t3 t4 t5 t6 t7 t8 t9 t11 t12 t14 hszb hsz hr0 hs0
 obtain ⟨PB,hPB⟩:∃ R,R=u8l bs:=⟨_,rfl⟩
 obtain ⟨PP,hPP⟩:∃ R,R=u8l pay:=⟨_,rfl⟩
 rw [← hPB] at g5
 rw [← hPP] at kf ⊢
 rcases k7 with ⟨rfl,k7⟩ | ⟨rfl,rfl,rfl⟩ <;> rcases k9 with ⟨rfl,k9⟩ | ⟨rfl,rfl,rfl⟩ <;> rcases ks with ⟨rfl,rfl⟩ | ⟨rfl,rfl⟩ <;> rcases kp with ⟨c10,rfl,kp1,kp2⟩ | ⟨hne,rfl,rfl,rfl⟩ <;> rcases kf with ⟨n5,nn,c13,rfl,hn5,hnn,kf1,kf2⟩ | ⟨rfl,hf,rfl⟩
 all_goals (try (rw [hf,← hPB] at hPP;subst hPP))
 all_goals
  as_aux_lemma =>
   refine Good.of Tryz.func27 rfl (by rfl) (by kernel_rfl) ?_
   cbv
   have hmk:True:=trivial
   (repeat' (first
| ((first
| (refine q1w (fun z hz=>?_);(have e:cl=z:=by omega);subst e)
| (refine q1w (fun z hz=>?_);(have e:fl=z:=by omega);subst e)
| (refine q1w (fun z hz=>?_);(have e:nn=z:=by omega);subst e)
| (refine q1w (fun z hz=>?_);(try simp [oln,Int.max_def,Int.min_def] at hz);(with_reducible refine litk hz ?_ ?_);(focus decide);subst hz)
| (refine q1w (fun z hz=>?_);(try simp only [Int.reduceToNat,Int.reducePow] at hz))
| refine td ?_
| refine fd ?_
| refine rqa ?_
| refine vI ?_
| refine vA ?_
| refine vS ?_
| refine vR ?_
| refine qv (n1.toNat) (by (first | omega | (simp only [cst] at *;omega) | (simp only [sm] at *;omega))) ?_
| refine qv (n2.toNat) (by (first | omega | (simp only [cst] at *;omega) | (simp only [sm] at *;omega))) ?_
| refine qv _ (hnx) ?_
| refine qv _ (hhp) ?_
| refine callq (g1) rfl rfl ?_
| refine callq (g2) rfl rfl ?_
| refine callq (g3) rfl rfl ?_
| refine callq (g4) rfl rfl ?_
| refine callq (g5) rfl rfl ?_
| refine callq (g6) rfl rfl ?_
| refine callq (k7) rfl rfl ?_
| refine callq (g8) rfl rfl ?_
| refine callq (k9) rfl rfl ?_
| refine callq (gm) rfl rfl ?_
| refine callq (kp1) rfl rfl ?_
| refine callq (kp2) rfl rfl ?_
| refine callq (g12) rfl rfl ?_
| refine callq (gz) rfl rfl ?_
| refine callq (kf1) rfl rfl ?_
| refine callq (kf2) rfl rfl ?_
| refine chpA ?_
| refine QCt ?_
| refine QCf ?_);cbv)
| (refine QC.mk ?_ ?_ <;> intro hc <;> (try dsimp only at hc) <;> cbv)
| (refine br_mk2 ?_ ?_ <;> intro hb <;> (try subst hb) <;> cbv)))
   exact ⟨rfl,rfl,rfl⟩
end
end Go.Proofs.YtgfpjhddojhfpaaGreat
