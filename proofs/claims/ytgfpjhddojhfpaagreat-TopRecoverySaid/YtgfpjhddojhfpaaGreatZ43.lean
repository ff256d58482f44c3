/- Texts put together: KW. -/
import Derived.Test.YtgfpjhddojhfpaaGreatZ04
import Derived.Test.YtgfpjhddojhfpaaGreatZ24
import Derived.Test.YtgfpjhddojhfpaaGreatZ33
import Derived.Test.YtgfpjhddojhfpaaGreatZ37
import Derived.Test.YtgfpjhddojhfpaaGreatZ41
import Derived.Test.YtgfpjhddojhfpaaGreatZ42
namespace Go.Proofs.YtgfpjhddojhfpaaGreat
set_option linter.unusedVariables false
set_option linter.unusedSimpArgs false
section
open Go.RowKit
set_option maxHeartbeats 16000000
set_option maxRecDepth 100000
theorem recov_w (cl fl nx hp a0 a1 a2 a3 a4 a5 a6 a7 a8 a9 b0 b1 b2 b3 b4 b5 x0 x1 x2 x3 x4 x5 x6 x7 x8 x9 y0 y1 y2 y3 y4 y5 sp dp:Int) (Z T DS PP CC R:List SV) (ds:List Int) (qn a0' a ta tb:Int) (hdl:DS.length=ds.length) (hdb:ds.length≤140737488351232) (hds:DS=ints .u8 ds)
  (hab:40≤a∧a≤256) (ha0':a=40+a0')
  (h0:Good 9 (nu [.lst none Z] (.ptr 1 0) (.chunk 144 (.agg [.lst none T,.int .i64 0]))))
  (gp:Good 27 (leN 144 (.agg [.lst none T,.int .i64 0]) [dvS 144115188075855873,dvS 144115188075855874] (pkS cl fl nx hp a0 a1 a2 a3 a4 a5 a6 a7 a8 a9 b0 b1 b2 b3 b4 b5 x0 x1 x2 x3 x4 x5 x6 x7 x8 x9 y0 y1 y2 y3 y4 y5 sp dp (.row 1)) (.agg [.lst none T,.int .i64 tb]) (.row none 5 PP)))
  (ge:Good 28 (nu [pkS cl fl nx hp a0 a1 a2 a3 a4 a5 a6 a7 a8 a9 b0 b1 b2 b3 b4 b5 x0 x1 x2 x3 x4 x5 x6 x7 x8 x9 y0 y1 y2 y3 y4 y5 sp dp (.lst none PP),dvS 144115188075855873,dvS 144115188075855874,.lst (some 20) [],.int .i64 0] (.tup [.row 1,.int .i64 0]) (.row none 5 CC)))
  (gd:Good 38 (nu [.lst none CC,dvS 144115188075855873,dvS 144115188075855874,.lst (some 20) [],.int .i64 0] (.tup [pkS cl fl nx hp a0 a1 a2 a3 a4 a5 a6 a7 a8 a9 b0 b1 b2 b3 b4 b5 x0 x1 x2 x3 x4 x5 x6 x7 x8 x9 y0 y1 y2 y3 y4 y5 sp dp (.row 1),.int .i64 0]) (.row none 5 PP)))
  (gsm:Good 40 (pu [pkS cl fl nx hp a0 a1 a2 a3 a4 a5 a6 a7 a8 a9 b0 b1 b2 b3 b4 b5 x0 x1 x2 x3 x4 x5 x6 x7 x8 x9 y0 y1 y2 y3 y4 y5 sp dp (.lst none PP),pkS cl fl nx hp a0 a1 a2 a3 a4 a5 a6 a7 a8 a9 b0 b1 b2 b3 b4 b5 x0 x1 x2 x3 x4 x5 x6 x7 x8 x9 y0 y1 y2 y3 y4 y5 sp dp (.lst none PP)] (.bool true)))
  (gcs:Good 39 (pu [.lst none CC,.lst none CC] (.bool true)))
  (gb:Good 29 (pu [.lst none CC,.int .u8 5,.int .i64 80] (.tup [sndV R 1 0 0 0,.int .i64 0])))
  (gm:Good 12 (pu [.int .i64 qn,.int .i64 217] (.int .i64 a0')))
  (ST AK RD UN TG CN HV CT LA WI:Nat→Int) (RR:Nat→List SV) (DN:Nat→Bool) (NN:Nat→Nat)
  (hr:∀ n,n≤2500→RunT a ds R ST AK RD UN TG CN HV CT LA WI RR DN NN n)
  (i1:ST 0=1) (i2:AK 0=0) (i3:RD 0=0) (i4:UN 0=0) (i5:TG 0=0) (i6:CN 0=0) (i7:HV 0=0) (i8:CT 0=1) (i9:LA 0=0) (i10:WI 0=4294967295) (i11:RR 0=[]) (i12:DN 0=false) (i13:NN 0=0)
  (hend:ST 2500=2∧DN 2500=true∧Good 37 (pu [rcvV (RR 2500) (TG 2500) (CN 2500) (HV 2500) true] (.tup [.lst none CC,.bool true]))∨ST 2500=3∧∃ (DD:List SV) (b:Bool),Good 37 (pu [rcvV (RR 2500) (TG 2500) (CN 2500) (HV 2500) (DN 2500)] (.tup [.lst none DD,.bool b]))) :
  Good 5 (pu [.lst none Z,.int .i64 qn,.lst none DS] (.bool true)):=by
 have hqb:0≤a0'∧a0'≤216:=by omega
 refine Good.of Tryz.func5 rfl (by rfl) (by kernel_rfl) ?_
 cbv
 have hmk:True:=trivial
 (repeat' (first
| ((first
| (refine q1w (fun z hz=>?_);(have e:a=z:=by omega);subst e)
| (refine q1w (fun z hz=>?_);(try simp [oln,Int.max_def,Int.min_def] at hz);(with_reducible refine litk hz ?_ ?_);(focus decide);subst hz)
| (refine q1w (fun z hz=>?_);(try simp only [Int.reduceToNat,Int.reducePow] at hz))
| refine td ?_
| refine fd ?_
| refine rqa ?_
| refine vI ?_
| refine vA ?_
| refine vS ?_
| refine vR ?_
| refine callq (h0) rfl rfl ?_
| refine callq (w13_0) rfl rfl ?_
| refine callq (w13_1) rfl rfl ?_
| refine callq (gp) rfl rfl ?_
| refine callq (ge) rfl rfl ?_
| refine callq (gb) rfl rfl ?_
| refine callq (w7_0) rfl rfl ?_
| refine callq (gm) rfl rfl ?_
| refine chpA ?_
| refine QCt ?_
| refine QCf ?_);cbv)
| (refine QC.mk ?_ ?_ <;> intro hc <;> (try dsimp only at hc) <;> cbv)
| (refine br_mk2 ?_ ?_ <;> intro hb <;> (try subst hb) <;> cbv)))
 refine loopQF [85] (A:=(Nat × Int) × Int) (fun p=>p.1.2=p.1.1∧p.1.1≤2500∧p.2=NN p.1.1) (fun p=>2500 - p.1.1) (fun p=>[(19,.int .i64 p.1.2),(18,.int .i64 p.2)]) (fun p=>[(11,.chunk 88 (sndV R (ST p.1.1) (AK p.1.1) (RD p.1.1) (UN p.1.1))),(17,.chunk 92 (rcvV (RR p.1.1) (TG p.1.1) (CN p.1.1) (HV p.1.1) (DN p.1.1))),(13,.chunk 36 (gS (CT p.1.1) 0 [])),(14,.chunk 36 (gS 0 9 [peS (LA p.1.1) (WI p.1.1)]))]) ((0,0),0) ⟨rfl,Nat.zero_le _,by show (0:Int)=(NN 0:Int);rw [i13];rfl⟩ ?_ ?_
 ·cbv
  rw [i1,i2,i3,i4,i5,i6,i7,i8,i9,i10,i11,i12]
  repeat' (first | exact rfl | exact trivial | apply And.intro)
 ·intro ⟨⟨n,j⟩,b⟩ hh
  have hj:j=(n:Int):=hh.1
  have hn:n≤2500:=hh.2.1
  have hb:b=(NN n:Int):=hh.2.2
  have hrn:=hr n hn
  have hnn:=hrn.nn hn
  have hb2:0≤b∧b≤20000:=by omega
  clear hh hr i1 i2 i3 i4 i5 i6 i7 i8 i9 i10 i11 i12 i13 h0 gp ge gb gm
  have hmq:True:=trivial
  cbv
  by_cases hst:ST n=1
  ·obtain ⟨hn3,L,st,ak,rd,un,tg,cn,hv,ct,la,wi,rr,dn,hL8,gN,⟨t1,t2,t3,t4,t5,t6,t7,t8⟩,hP,hct,f1,f2,f3,f4,f5,f6,f7,f8,f9,f10,f11,f12,f13⟩:=hrn.go hst
   have gN:=gN j hj
   clear hrn hend gd gsm gcs
   (repeat' (first
| ((first
| (refine q1w (fun z hz=>?_);(try simp [oln,Int.max_def,Int.min_def] at hz);(with_reducible refine litk hz ?_ ?_);(focus decide);subst hz)
| (refine q1w (fun z hz=>?_);(try simp only [Int.reduceToNat,Int.reducePow] at hz))
| refine td ?_
| refine fd ?_
| refine rqa ?_
| refine vI ?_
| refine vA ?_
| refine vS ?_
| refine vR ?_
| refine callq (gN) rfl rfl ?_
| refine chpA ?_
| refine QCt ?_
| refine QCf ?_);cbv)
| (refine QC.mk ?_ ?_ <;> intro hc <;> (try dsimp only at hc) <;> cbv)
| (refine br_mk2 ?_ ?_ <;> intro hb <;> (try subst hb) <;> cbv)))
   refine loopQ (A:=(Nat × Int) × Int) (fun p=>p.1.2=p.1.1∧p.1.1≤L.length∧p.2=(NN n:Int)+p.1.1) (fun p=>L.length - p.1.1) (fun p=>[(23,.int .i64 p.1.2),(18,.int .i64 p.2)]) (fun p=>[(11,.chunk 88 (sndV R (st p.1.1) (ak p.1.1) (rd p.1.1) (un p.1.1))),(17,.chunk 92 (rcvV (rr p.1.1) (tg p.1.1) (cn p.1.1) (hv p.1.1) (dn p.1.1))),(13,.chunk 36 (gS (ct p.1.1) 0 [])),(14,.chunk 36 (gS 0 9 [peS (la p.1.1) (wi p.1.1)]))]) ((0,0),b) ⟨rfl,Nat.zero_le _,by show b=(NN n:Int)+((0:Nat):Int);(first | omega | (simp only [cst] at *;omega) | (simp only [sm] at *;omega))⟩ ?_ ?_
   ·cbv
    rw [t1,t2,t3,t4,t5,t6,t7,t8]
    repeat' (first | exact rfl | exact trivial | apply And.intro)
   ·intro ⟨⟨k,i⟩,c⟩ hh
    have hi:i=(k:Int):=hh.1
    have hk:k≤L.length:=hh.2.1
    have hc:c=(NN n:Int)+k:=hh.2.2
    clear hh
    cbv
    by_cases hkl:k < L.length
    ·as_aux_lemma =>
      
      have hct1:=hct (k+1) hkl
      have hctk:=hct k hk
      obtain ⟨hcc,jj,cc,κ,B,C,E,hLk,g1,g2,hcase⟩:=hP k hkl
      clear hP hct f1 f2 f3 f4 f5 f6 f7 f8 f9 f10 f11 f12 f13 t1 t2 t3 t4 t5 t6 t7 t8 gN hst
      obtain ⟨m,hm⟩:∃ m:Nat,m=NN n+k:=⟨_,rfl⟩
      rw [← hm] at hcase
      have hcm:c=(m:Int):=by (first | omega | (simp only [cst] at *;omega) | (simp only [sm] at *;omega))
      obtain ⟨i1,hi1⟩:∃ z:Int,z=i+1:=⟨_,rfl⟩
      obtain ⟨c1,hc1⟩:∃ z:Int,z=c+1:=⟨_,rfl⟩
      obtain ⟨zL,hzL⟩:∃ z:Int,z=((O.ln L:Nat):Int):=⟨_,rfl⟩
      obtain ⟨zD,hzD⟩:∃ z:Int,z=((O.ln DS:Nat):Int):=⟨_,rfl⟩
      have hzL2:i < zL:=by rw [hzL,oln];(first | omega | (simp only [cst] at *;omega) | (simp only [sm] at *;omega))
      have hzD3:zD=(ds.length:Int):=by rw [hzD,oln,hdl]
      have hcb:0≤c∧c≤30000:=by (first | omega | (simp only [cst] at *;omega) | (simp only [sm] at *;omega))
      have hib:0≤i∧i≤10:=by (first | omega | (simp only [cst] at *;omega) | (simp only [sm] at *;omega))
      have hfin1:i1=((k+1:Nat):Int):=by (first | omega | (simp only [cst] at *;omega) | (simp only [sm] at *;omega))
      have hfin2:c1=(NN n:Int)+((k+1:Nat):Int):=by (first | omega | (simp only [cst] at *;omega) | (simp only [sm] at *;omega))
      have hzD4:0≤zD∧zD≤140737488351232:=by omega
      obtain ⟨DD,hDD⟩:∃ D,D=drw ds m:=⟨_,rfl⟩
      rw [← hDD] at hcase
      by_cases hin:m < ds.length
      ·have hcz:c < zD:=by omega
       have hsg:(Classical.choice lo_ex).sg DS ((Classical.choice lo_ex).tn c) ((Classical.choice lo_ex).si c1 c)=DD:=by
        show O.sg DS (O.tn c) (O.si c1 c)=DD
        rw [osg,otn,osi,hDD,hds,hc1,hcm,drw]
        have e1:((m:Int)+1).toNat - (m:Int).toNat=1:=by omega
        rw [e1,Int.toNat_natCast,ints_drop,ints_take]
       clear hin hDD hzD3 hcm hm hds hdl
       rcases hcase with ⟨gL,l1,l2,l3,l4,l5,l6,l7,l8,l9,l10,l11⟩ | ⟨gL,g3,g4,bm,A,g5,g6,g7,hA⟩
       ·skip
        have hmy:True:=trivial
        (repeat' (first
| ((first
| (refine q1w (fun z hz=>?_);(have e:=hzL.trans hz.symm);subst e)
| (refine q1w (fun z hz=>?_);(have e:=hzD.trans hz.symm);subst e)
| (refine q1w (fun z hz=>?_);(have e:c1=z:=by omega);subst e)
| (refine q1w (fun z hz=>?_);(have e:i1=z:=by omega);subst e)
| (simp only [hsg])
| (refine q1w (fun z hz=>?_);(try simp [oln,Int.max_def,Int.min_def] at hz);(with_reducible refine litk hz ?_ ?_);(focus decide);subst hz)
| (refine q1w (fun z hz=>?_);(try simp only [Int.reduceToNat,Int.reducePow] at hz))
| refine td ?_
| refine fd ?_
| refine rqa ?_
| refine vI ?_
| refine vA ?_
| refine vS ?_
| refine vR ?_
| refine qv (k,_) ⟨hi,hLk⟩ ?_
| refine callq (g1) rfl rfl ?_
| refine callq (g2) rfl rfl ?_
| refine callq (gL) rfl rfl ?_
| refine callq (g3) rfl rfl ?_
| refine callq (g4) rfl rfl ?_
| refine callq (g5) rfl rfl ?_
| refine callq (g6) rfl rfl ?_
| refine callq (g7) rfl rfl ?_
| refine callq (g8) rfl rfl ?_
| (refine unrollq 3 ?_)
| refine chpA ?_
| refine QCt ?_
| refine QCf ?_);cbv)
| (refine QC.mk ?_ ?_ <;> intro hc <;> (try dsimp only at hc) <;> cbv)
| (refine br_mk2 ?_ ?_ <;> intro hb <;> (try subst hb) <;> cbv)))
        skip
        refine ⟨((k+1,i1),c1),⟨hfin1,by show k+1≤L.length;omega,hfin2⟩,by show L.length - (k+1) < L.length - k;omega,?_⟩
        cbv
        rw [l1,l2,l3,l4,l5,l6,l7,l8,l9,l10,l11]
        repeat' (first | exact rfl | exact trivial | apply And.intro)
       ·rcases hA with ⟨rfl,g8⟩ | ⟨rfl,s1,s2,s3,s4⟩
        ·skip
         have hmy:True:=trivial
         (repeat' (first
| ((first
| (refine q1w (fun z hz=>?_);(have e:=hzL.trans hz.symm);subst e)
| (refine q1w (fun z hz=>?_);(have e:=hzD.trans hz.symm);subst e)
| (refine q1w (fun z hz=>?_);(have e:c1=z:=by omega);subst e)
| (refine q1w (fun z hz=>?_);(have e:i1=z:=by omega);subst e)
| (simp only [hsg])
| (refine q1w (fun z hz=>?_);(try simp [oln,Int.max_def,Int.min_def] at hz);(with_reducible refine litk hz ?_ ?_);(focus decide);subst hz)
| (refine q1w (fun z hz=>?_);(try simp only [Int.reduceToNat,Int.reducePow] at hz))
| refine td ?_
| refine fd ?_
| refine rqa ?_
| refine vI ?_
| refine vA ?_
| refine vS ?_
| refine vR ?_
| refine qv (k,_) ⟨hi,hLk⟩ ?_
| refine callq (g1) rfl rfl ?_
| refine callq (g2) rfl rfl ?_
| refine callq (gL) rfl rfl ?_
| refine callq (g3) rfl rfl ?_
| refine callq (g4) rfl rfl ?_
| refine callq (g5) rfl rfl ?_
| refine callq (g6) rfl rfl ?_
| refine callq (g7) rfl rfl ?_
| refine callq (g8) rfl rfl ?_
| (refine unrollq 3 ?_)
| refine chpA ?_
| refine QCt ?_
| refine QCf ?_);cbv)
| (refine QC.mk ?_ ?_ <;> intro hc <;> (try dsimp only at hc) <;> cbv)
| (refine br_mk2 ?_ ?_ <;> intro hb <;> (try subst hb) <;> cbv)))
         skip
         refine ⟨((k+1,i1),c1),⟨hfin1,by show k+1≤L.length;omega,hfin2⟩,by show L.length - (k+1) < L.length - k;omega,?_⟩
         cbv
         repeat' (first | exact rfl | exact trivial | apply And.intro)
        ·skip
         have hmy:True:=trivial
         (repeat' (first
| ((first
| (refine q1w (fun z hz=>?_);(have e:=hzL.trans hz.symm);subst e)
| (refine q1w (fun z hz=>?_);(have e:=hzD.trans hz.symm);subst e)
| (refine q1w (fun z hz=>?_);(have e:c1=z:=by omega);subst e)
| (refine q1w (fun z hz=>?_);(have e:i1=z:=by omega);subst e)
| (simp only [hsg])
| (refine q1w (fun z hz=>?_);(try simp [oln,Int.max_def,Int.min_def] at hz);(with_reducible refine litk hz ?_ ?_);(focus decide);subst hz)
| (refine q1w (fun z hz=>?_);(try simp only [Int.reduceToNat,Int.reducePow] at hz))
| refine td ?_
| refine fd ?_
| refine rqa ?_
| refine vI ?_
| refine vA ?_
| refine vS ?_
| refine vR ?_
| refine qv (k,_) ⟨hi,hLk⟩ ?_
| refine callq (g1) rfl rfl ?_
| refine callq (g2) rfl rfl ?_
| refine callq (gL) rfl rfl ?_
| refine callq (g3) rfl rfl ?_
| refine callq (g4) rfl rfl ?_
| refine callq (g5) rfl rfl ?_
| refine callq (g6) rfl rfl ?_
| refine callq (g7) rfl rfl ?_
| refine callq (g8) rfl rfl ?_
| (refine unrollq 3 ?_)
| refine chpA ?_
| refine QCt ?_
| refine QCf ?_);cbv)
| (refine QC.mk ?_ ?_ <;> intro hc <;> (try dsimp only at hc) <;> cbv)
| (refine br_mk2 ?_ ?_ <;> intro hb <;> (try subst hb) <;> cbv)))
         skip
         refine ⟨((k+1,i1),c1),⟨hfin1,by show k+1≤L.length;omega,hfin2⟩,by show L.length - (k+1) < L.length - k;omega,?_⟩
         cbv
         rw [s1,s2,s3,s4]
         repeat' (first | exact rfl | exact trivial | apply And.intro)
      ·have hcz:¬ c < zD:=by omega
       have eD:DD=[]:=by rw [hDD,drw,List.drop_of_length_le (by omega)];rfl
       subst eD
       clear hin hDD hzD3 hcm hm hds hdl
       rcases hcase with ⟨gL,l1,l2,l3,l4,l5,l6,l7,l8,l9,l10,l11⟩ | ⟨gL,g3,g4,bm,A,g5,g6,g7,hA⟩
       ·skip
        have hmy:True:=trivial
        (repeat' (first
| ((first
| (refine q1w (fun z hz=>?_);(have e:=hzL.trans hz.symm);subst e)
| (refine q1w (fun z hz=>?_);(have e:=hzD.trans hz.symm);subst e)
| (refine q1w (fun z hz=>?_);(have e:c1=z:=by omega);subst e)
| (refine q1w (fun z hz=>?_);(have e:i1=z:=by omega);subst e)
| (simp only [hsg])
| (refine q1w (fun z hz=>?_);(try simp [oln,Int.max_def,Int.min_def] at hz);(with_reducible refine litk hz ?_ ?_);(focus decide);subst hz)
| (refine q1w (fun z hz=>?_);(try simp only [Int.reduceToNat,Int.reducePow] at hz))
| refine td ?_
| refine fd ?_
| refine rqa ?_
| refine vI ?_
| refine vA ?_
| refine vS ?_
| refine vR ?_
| refine qv (k,_) ⟨hi,hLk⟩ ?_
| refine callq (g1) rfl rfl ?_
| refine callq (g2) rfl rfl ?_
| refine callq (gL) rfl rfl ?_
| refine callq (g3) rfl rfl ?_
| refine callq (g4) rfl rfl ?_
| refine callq (g5) rfl rfl ?_
| refine callq (g6) rfl rfl ?_
| refine callq (g7) rfl rfl ?_
| refine callq (g8) rfl rfl ?_
| (refine unrollq 3 ?_)
| refine chpA ?_
| refine QCt ?_
| refine QCf ?_);cbv)
| (refine QC.mk ?_ ?_ <;> intro hc <;> (try dsimp only at hc) <;> cbv)
| (refine br_mk2 ?_ ?_ <;> intro hb <;> (try subst hb) <;> cbv)))
        skip
        refine ⟨((k+1,i1),c1),⟨hfin1,by show k+1≤L.length;omega,hfin2⟩,by show L.length - (k+1) < L.length - k;omega,?_⟩
        cbv
        rw [l1,l2,l3,l4,l5,l6,l7,l8,l9,l10,l11]
        repeat' (first | exact rfl | exact trivial | apply And.intro)
       ·rcases hA with ⟨rfl,g8⟩ | ⟨rfl,s1,s2,s3,s4⟩
        ·skip
         have hmy:True:=trivial
         (repeat' (first
| ((first
| (refine q1w (fun z hz=>?_);(have e:=hzL.trans hz.symm);subst e)
| (refine q1w (fun z hz=>?_);(have e:=hzD.trans hz.symm);subst e)
| (refine q1w (fun z hz=>?_);(have e:c1=z:=by omega);subst e)
| (refine q1w (fun z hz=>?_);(have e:i1=z:=by omega);subst e)
| (simp only [hsg])
| (refine q1w (fun z hz=>?_);(try simp [oln,Int.max_def,Int.min_def] at hz);(with_reducible refine litk hz ?_ ?_);(focus decide);subst hz)
| (refine q1w (fun z hz=>?_);(try simp only [Int.reduceToNat,Int.reducePow] at hz))
| refine td ?_
| refine fd ?_
| refine rqa ?_
| refine vI ?_
| refine vA ?_
| refine vS ?_
| refine vR ?_
| refine qv (k,_) ⟨hi,hLk⟩ ?_
| refine callq (g1) rfl rfl ?_
| refine callq (g2) rfl rfl ?_
| refine callq (gL) rfl rfl ?_
| refine callq (g3) rfl rfl ?_
| refine callq (g4) rfl rfl ?_
| refine callq (g5) rfl rfl ?_
| refine callq (g6) rfl rfl ?_
| refine callq (g7) rfl rfl ?_
| refine callq (g8) rfl rfl ?_
| (refine unrollq 3 ?_)
| refine chpA ?_
| refine QCt ?_
| refine QCf ?_);cbv)
| (refine QC.mk ?_ ?_ <;> intro hc <;> (try dsimp only at hc) <;> cbv)
| (refine br_mk2 ?_ ?_ <;> intro hb <;> (try subst hb) <;> cbv)))
         skip
         refine ⟨((k+1,i1),c1),⟨hfin1,by show k+1≤L.length;omega,hfin2⟩,by show L.length - (k+1) < L.length - k;omega,?_⟩
         cbv
         repeat' (first | exact rfl | exact trivial | apply And.intro)
        ·skip
         have hmy:True:=trivial
         (repeat' (first
| ((first
| (refine q1w (fun z hz=>?_);(have e:=hzL.trans hz.symm);subst e)
| (refine q1w (fun z hz=>?_);(have e:=hzD.trans hz.symm);subst e)
| (refine q1w (fun z hz=>?_);(have e:c1=z:=by omega);subst e)
| (refine q1w (fun z hz=>?_);(have e:i1=z:=by omega);subst e)
| (simp only [hsg])
| (refine q1w (fun z hz=>?_);(try simp [oln,Int.max_def,Int.min_def] at hz);(with_reducible refine litk hz ?_ ?_);(focus decide);subst hz)
| (refine q1w (fun z hz=>?_);(try simp only [Int.reduceToNat,Int.reducePow] at hz))
| refine td ?_
| refine fd ?_
| refine rqa ?_
| refine vI ?_
| refine vA ?_
| refine vS ?_
| refine vR ?_
| refine qv (k,_) ⟨hi,hLk⟩ ?_
| refine callq (g1) rfl rfl ?_
| refine callq (g2) rfl rfl ?_
| refine callq (gL) rfl rfl ?_
| refine callq (g3) rfl rfl ?_
| refine callq (g4) rfl rfl ?_
| refine callq (g5) rfl rfl ?_
| refine callq (g6) rfl rfl ?_
| refine callq (g7) rfl rfl ?_
| refine callq (g8) rfl rfl ?_
| (refine unrollq 3 ?_)
| refine chpA ?_
| refine QCt ?_
| refine QCf ?_);cbv)
| (refine QC.mk ?_ ?_ <;> intro hc <;> (try dsimp only at hc) <;> cbv)
| (refine br_mk2 ?_ ?_ <;> intro hb <;> (try subst hb) <;> cbv)))
         skip
         refine ⟨((k+1,i1),c1),⟨hfin1,by show k+1≤L.length;omega,hfin2⟩,by show L.length - (k+1) < L.length - k;omega,?_⟩
         cbv
         rw [s1,s2,s3,s4]
         repeat' (first | exact rfl | exact trivial | apply And.intro)
      
    ·as_aux_lemma =>
      
      have hke:k=L.length:=by omega
      obtain ⟨zL,hzL⟩:∃ z:Int,z=((O.ln L:Nat):Int):=⟨_,rfl⟩
      have hzL2:¬ i < zL:=by rw [hzL,oln];(first | omega | (simp only [cst] at *;omega) | (simp only [sm] at *;omega))
      obtain ⟨j1,hj1⟩:∃ z:Int,z=j+1:=⟨_,rfl⟩
      have hjb:0≤j∧j≤2500:=by (first | omega | (simp only [cst] at *;omega) | (simp only [sm] at *;omega))
      have hfin1:j1=((n+1:Nat):Int):=by (first | omega | (simp only [cst] at *;omega) | (simp only [sm] at *;omega))
      have hfin2:c=(NN (n+1):Int):=by rw [f13];(first | omega | (simp only [cst] at *;omega) | (simp only [sm] at *;omega))
      subst hke
      have hmy:True:=trivial
      (repeat' (first
| ((first
| (refine q1w (fun z hz=>?_);(have e:=hzL.trans hz.symm);subst e)
| (refine q1w (fun z hz=>?_);(have e:j1=z:=by omega);subst e)
| (refine q1w (fun z hz=>?_);(try simp [oln,Int.max_def,Int.min_def] at hz);(with_reducible refine litk hz ?_ ?_);(focus decide);subst hz)
| (refine q1w (fun z hz=>?_);(try simp only [Int.reduceToNat,Int.reducePow] at hz))
| refine td ?_
| refine fd ?_
| refine rqa ?_
| refine vI ?_
| refine vA ?_
| refine vS ?_
| refine vR ?_
| refine chpA ?_
| refine QCt ?_
| refine QCf ?_);cbv)
| (refine QC.mk ?_ ?_ <;> intro hc <;> (try dsimp only at hc) <;> cbv)
| (refine br_mk2 ?_ ?_ <;> intro hb <;> (try subst hb) <;> cbv)))
      refine ⟨((n+1,j1),c),⟨hfin1,by show n+1≤2500;omega,hfin2⟩,by show 2500 - (n+1) < 2500 - n;omega,?_⟩
      cbv
      rw [f1,f2,f3,f4,f5,f6,f7,f8,f9,f10,f11,f12]
      repeat' (first | exact rfl | exact trivial | apply And.intro)
      
  ·as_aux_lemma =>
    
    obtain ⟨e1,e2,e3,e4,e5,e6⟩:=hrn.stop hst
    rw [e1,e2,e3,e4,e5,e6] at hend
    clear hrn e1 e2 e3 e4 e5 e6
    have hmy:True:=trivial
    rcases hend with ⟨hS,hD,gD⟩ | ⟨hS,DD,bb,gD⟩
    ·have gD:Good 37 (pu [rcvV (RR n) (TG n) (CN n) (HV n) (DN n)] (.tup [.lst none CC,.bool true])):=by rw [hD];exact gD
     have a1:=w13_0
     have a2:=w13_1
     have a4:=sane_c
     exact wlkcLX
    ·skip
     have a1:=sane_c
     exact wlkcLX
    
end
end Go.Proofs.YtgfpjhddojhfpaaGreat
