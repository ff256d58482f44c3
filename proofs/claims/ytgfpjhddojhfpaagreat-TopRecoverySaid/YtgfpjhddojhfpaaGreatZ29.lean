/- Texts put together: EE EF EG. -/
import Derived.Test.YtgfpjhddojhfpaaGreatZ28
namespace Go.Proofs.YtgfpjhddojhfpaaGreat
set_option linter.unusedVariables false
set_option linter.unusedSimpArgs false
section
open Go.RowKit
set_option maxHeartbeats 4000000
set_option maxRecDepth 100000
theorem zero15_c (a0 a1 a2 a3 a4 a5 a6 a7 a8 a9 b0 b1 b2 b3 b4 b5:Int) (r:Bool) (hr:r=decide (a2=0∧a3=0∧a4=0∧a5=0∧a6=0∧a7=0∧a8=0∧a9=0∧b0=0∧b1=0∧b2=0∧b3=0∧b4=0)):Good 188 (pu [.int .i64 2,.int .i64 15,.eptr (some 16) (ipS a0 a1 a2 a3 a4 a5 a6 a7 a8 a9 b0 b1 b2 b3 b4 b5) 0] (.bool r)):=by
 refine Good.of Tryz.func188 rfl (by rfl) (by kernel_rfl) ?_
 cbv
 have hmk:True:=trivial
 (try (simp only [cwn];cbv));(repeat' (first
| ((first
| refine td ?_
| refine fd ?_
| (refine q1w (fun z hz=>?_);(simp [oln,Int.max_def,Int.min_def] at hz);subst hz)
| (refine q1w (fun z hz=>?_);(try simp only at hz))
| refine rqa ?_
| refine vI ?_
| refine vA ?_
| refine vS ?_
| refine vR ?_
| refine chpA ?_
| refine QCt ?_
| refine QCf ?_
| refine unrollq 400 ?_);cbv;(try (simp only [cwn];cbv)))
| (simp only [cwn];cbv)
| (refine QC.mk ?_ ?_ <;> intro hc <;> (try dsimp only at hc) <;> cbv;(try (simp only [cwn];cbv)))
| (refine br_mk2 ?_ ?_ <;> intro hb <;> (try subst hb) <;> cbv;(try (simp only [cwn];cbv)))))
 all_goals (refine ⟨?_,rfl,rfl⟩;rw [hr];first | rw [decide_eq_true (by omega)] | rw [decide_eq_false (by omega)])
theorem zero13_c (a0 a1 a2 a3 a4 a5 a6 a7 a8 a9 b0 b1 b2 b3 b4 b5:Int) (r:Bool) (hr:r=decide (a2=0∧a3=0∧a4=0∧a5=0∧a6=0∧a7=0∧a8=0∧a9=0∧b0=0∧b1=0∧b2=0)):Good 188 (pu [.int .i64 2,.int .i64 13,.eptr (some 16) (ipS a0 a1 a2 a3 a4 a5 a6 a7 a8 a9 b0 b1 b2 b3 b4 b5) 0] (.bool r)):=by
 refine Good.of Tryz.func188 rfl (by rfl) (by kernel_rfl) ?_
 cbv
 have hmk:True:=trivial
 (try (simp only [cwn];cbv));(repeat' (first
| ((first
| refine td ?_
| refine fd ?_
| (refine q1w (fun z hz=>?_);(simp [oln,Int.max_def,Int.min_def] at hz);subst hz)
| (refine q1w (fun z hz=>?_);(try simp only at hz))
| refine rqa ?_
| refine vI ?_
| refine vA ?_
| refine vS ?_
| refine vR ?_
| refine chpA ?_
| refine QCt ?_
| refine QCf ?_
| refine unrollq 400 ?_);cbv;(try (simp only [cwn];cbv)))
| (simp only [cwn];cbv)
| (refine QC.mk ?_ ?_ <;> intro hc <;> (try dsimp only at hc) <;> cbv;(try (simp only [cwn];cbv)))
| (refine br_mk2 ?_ ?_ <;> intro hb <;> (try subst hb) <;> cbv;(try (simp only [cwn];cbv)))))
 all_goals (refine ⟨?_,rfl,rfl⟩;rw [hr];first | rw [decide_eq_true (by omega)] | rw [decide_eq_false (by omega)])
theorem zero11_c (a0 a1 a2 a3 a4 a5 a6 a7 a8 a9 b0 b1 b2 b3 b4 b5:Int) (r:Bool) (hr:r=decide (a2=0∧a3=0∧a4=0∧a5=0∧a6=0∧a7=0∧a8=0∧a9=0∧b0=0)):Good 188 (pu [.int .i64 2,.int .i64 11,.eptr (some 16) (ipS a0 a1 a2 a3 a4 a5 a6 a7 a8 a9 b0 b1 b2 b3 b4 b5) 0] (.bool r)):=by
 refine Good.of Tryz.func188 rfl (by rfl) (by kernel_rfl) ?_
 cbv
 have hmk:True:=trivial
 (try (simp only [cwn];cbv));(repeat' (first
| ((first
| refine td ?_
| refine fd ?_
| (refine q1w (fun z hz=>?_);(simp [oln,Int.max_def,Int.min_def] at hz);subst hz)
| (refine q1w (fun z hz=>?_);(try simp only at hz))
| refine rqa ?_
| refine vI ?_
| refine vA ?_
| refine vS ?_
| refine vR ?_
| refine chpA ?_
| refine QCt ?_
| refine QCf ?_
| refine unrollq 400 ?_);cbv;(try (simp only [cwn];cbv)))
| (simp only [cwn];cbv)
| (refine QC.mk ?_ ?_ <;> intro hc <;> (try dsimp only at hc) <;> cbv;(try (simp only [cwn];cbv)))
| (refine br_mk2 ?_ ?_ <;> intro hb <;> (try subst hb) <;> cbv;(try (simp only [cwn];cbv)))))
 all_goals (refine ⟨?_,rfl,rfl⟩;rw [hr];first | rw [decide_eq_true (by omega)] | rw [decide_eq_false (by omega)])
theorem grp3 (a0 a1 a2 a3 a4 a5 a6 a7 a8 a9 b0 b1 b2 b3 b4 b5:Int) (h:a1=2∧(a2=0∧a3=0∧a4=0∧a5=0∧a6=0∧a7=0∧a8=0∧a9=0∧b0=0∧b1=0∧b2=0∧b3=0∧b4=0)):Good 137 (pu [ipS a0 a1 a2 a3 a4 a5 a6 a7 a8 a9 b0 b1 b2 b3 b4 b5] (fmS false 3 [.int .u8 b5])):=by
 have z1:=zero15_c a0 a1 a2 a3 a4 a5 a6 a7 a8 a9 b0 b1 b2 b3 b4 b5 true (by rw [decide_eq_true h.2])
 have z2:=zero13_c a0 a1 a2 a3 a4 a5 a6 a7 a8 a9 b0 b1 b2 b3 b4 b5 _ rfl
 have z3:=zero11_c a0 a1 a2 a3 a4 a5 a6 a7 a8 a9 b0 b1 b2 b3 b4 b5 _ rfl
 refine Good.of Tryz.func137 rfl (by rfl) (by kernel_rfl) ?_
 cbv
 have hmk:True:=trivial
 exact wlkcU
theorem grp2 (a0 a1 a2 a3 a4 a5 a6 a7 a8 a9 b0 b1 b2 b3 b4 b5:Int) (h:¬ (a1=2∧(a2=0∧a3=0∧a4=0∧a5=0∧a6=0∧a7=0∧a8=0∧a9=0∧b0=0∧b1=0∧b2=0∧b3=0∧b4=0))) (h2:(a2=0∧a3=0∧a4=0∧a5=0∧a6=0∧a7=0∧a8=0∧a9=0∧b0=0∧b1=0∧b2=0)):Good 137 (pu [ipS a0 a1 a2 a3 a4 a5 a6 a7 a8 a9 b0 b1 b2 b3 b4 b5] (fmS false 2 [.int .u8 a1,.int .u8 b3,.int .u8 b4,.int .u8 b5])):=by
 obtain ⟨rz,hrz⟩:∃ rz,rz=decide (a2=0∧a3=0∧a4=0∧a5=0∧a6=0∧a7=0∧a8=0∧a9=0∧b0=0∧b1=0∧b2=0∧b3=0∧b4=0):=⟨_,rfl⟩
 have z1:=zero15_c a0 a1 a2 a3 a4 a5 a6 a7 a8 a9 b0 b1 b2 b3 b4 b5 rz hrz
 have z2:=zero13_c a0 a1 a2 a3 a4 a5 a6 a7 a8 a9 b0 b1 b2 b3 b4 b5 true (by rw [decide_eq_true h2])
 have z3:=zero11_c a0 a1 a2 a3 a4 a5 a6 a7 a8 a9 b0 b1 b2 b3 b4 b5 _ rfl
 by_cases ha:a1=2
 ·have hrf:rz=false:=by rw [hrz];exact decide_eq_false (fun k=>h ⟨ha,k⟩)
  subst hrf
  refine Good.of Tryz.func137 rfl (by rfl) (by kernel_rfl) ?_
  cbv
  have hmk:True:=trivial
  exact wlkcU
 ·refine Good.of Tryz.func137 rfl (by rfl) (by kernel_rfl) ?_
  cbv
  have hmk:True:=trivial
  exact wlkcU
theorem grp1 (a0 a1 a2 a3 a4 a5 a6 a7 a8 a9 b0 b1 b2 b3 b4 b5:Int) (h:¬ (a1=2∧(a2=0∧a3=0∧a4=0∧a5=0∧a6=0∧a7=0∧a8=0∧a9=0∧b0=0∧b1=0∧b2=0∧b3=0∧b4=0))) (h2:¬ (a2=0∧a3=0∧a4=0∧a5=0∧a6=0∧a7=0∧a8=0∧a9=0∧b0=0∧b1=0∧b2=0)) (h3:(a2=0∧a3=0∧a4=0∧a5=0∧a6=0∧a7=0∧a8=0∧a9=0∧b0=0)):Good 137 (pu [ipS a0 a1 a2 a3 a4 a5 a6 a7 a8 a9 b0 b1 b2 b3 b4 b5] (fmS false 1 [.int .u8 a1,.int .u8 b1,.int .u8 b2,.int .u8 b3,.int .u8 b4,.int .u8 b5])):=by
 obtain ⟨rz,hrz⟩:∃ rz,rz=decide (a2=0∧a3=0∧a4=0∧a5=0∧a6=0∧a7=0∧a8=0∧a9=0∧b0=0∧b1=0∧b2=0∧b3=0∧b4=0):=⟨_,rfl⟩
 have z1:=zero15_c a0 a1 a2 a3 a4 a5 a6 a7 a8 a9 b0 b1 b2 b3 b4 b5 rz hrz
 have z2:=zero13_c a0 a1 a2 a3 a4 a5 a6 a7 a8 a9 b0 b1 b2 b3 b4 b5 false (by rw [decide_eq_false h2])
 have z3:=zero11_c a0 a1 a2 a3 a4 a5 a6 a7 a8 a9 b0 b1 b2 b3 b4 b5 true (by rw [decide_eq_true h3])
 by_cases ha:a1=2
 ·have hrf:rz=false:=by rw [hrz];exact decide_eq_false (fun k=>h ⟨ha,k⟩)
  subst hrf
  refine Good.of Tryz.func137 rfl (by rfl) (by kernel_rfl) ?_
  cbv
  have hmk:True:=trivial
  exact wlkcU
 ·refine Good.of Tryz.func137 rfl (by rfl) (by kernel_rfl) ?_
  cbv
  have hmk:True:=trivial
  exact wlkcU
theorem grp0 (a0 a1 a2 a3 a4 a5 a6 a7 a8 a9 b0 b1 b2 b3 b4 b5:Int) (h:¬ (a1=2∧(a2=0∧a3=0∧a4=0∧a5=0∧a6=0∧a7=0∧a8=0∧a9=0∧b0=0∧b1=0∧b2=0∧b3=0∧b4=0))) (h2:¬ (a2=0∧a3=0∧a4=0∧a5=0∧a6=0∧a7=0∧a8=0∧a9=0∧b0=0∧b1=0∧b2=0)) (h3:¬ (a2=0∧a3=0∧a4=0∧a5=0∧a6=0∧a7=0∧a8=0∧a9=0∧b0=0)):Good 137 (pu [ipS a0 a1 a2 a3 a4 a5 a6 a7 a8 a9 b0 b1 b2 b3 b4 b5] (fmS false 0 [.int .u8 a0,.int .u8 a1,.int .u8 a2,.int .u8 a3,.int .u8 a4,.int .u8 a5,.int .u8 a6,.int .u8 a7,.int .u8 a8,.int .u8 a9,.int .u8 b0,.int .u8 b1,.int .u8 b2,.int .u8 b3,.int .u8 b4,.int .u8 b5])):=by
 obtain ⟨rz,hrz⟩:∃ rz,rz=decide (a2=0∧a3=0∧a4=0∧a5=0∧a6=0∧a7=0∧a8=0∧a9=0∧b0=0∧b1=0∧b2=0∧b3=0∧b4=0):=⟨_,rfl⟩
 have z1:=zero15_c a0 a1 a2 a3 a4 a5 a6 a7 a8 a9 b0 b1 b2 b3 b4 b5 rz hrz
 have z2:=zero13_c a0 a1 a2 a3 a4 a5 a6 a7 a8 a9 b0 b1 b2 b3 b4 b5 false (by rw [decide_eq_false h2])
 have z3:=zero11_c a0 a1 a2 a3 a4 a5 a6 a7 a8 a9 b0 b1 b2 b3 b4 b5 false (by rw [decide_eq_false h3])
 by_cases ha:a1=2
 ·have hrf:rz=false:=by rw [hrz];exact decide_eq_false (fun k=>h ⟨ha,k⟩)
  subst hrf
  refine Good.of Tryz.func137 rfl (by rfl) (by kernel_rfl) ?_
  cbv
  have hmk:True:=trivial
  exact wlkcU
 ·refine Good.of Tryz.func137 rfl (by rfl) (by kernel_rfl) ?_
  cbv
  have hmk:True:=trivial
  exact wlkcU
end
section
open Go.RowKit
set_option maxHeartbeats 4000000
set_option maxRecDepth 100000
abbrev rdS (B:List SV) (p:Int):SV:=.agg [.lst none B,.int .i64 p]
theorem num_c (bs:List UInt8) (B:List SV) (p v n m:Int) (a k:Nat) (hB:B=u8l bs) (hp:p=a) (hn:n=k) (hm:m=p+n) (h1:1≤k) (h8:k≤8) (hl:bs.length≤2000) (hb:a+k≤bs.length) (hv:v=be ((bs.drop a).take k)) :
  Good 190 (le 233 (rdS B p) [.int .i64 n] (.tup [.int .u64 v,.int .i64 0]) (rdS B m)):=by
 have g:=uint_c bs B p n v a k hB hp hn h1 h8 (by omega) hb hv
 refine Good.of Tryz.func190 rfl (by rfl) (by kernel_rfl) ?_
 cbv
 have hmk:True:=trivial
 (repeat' (first
| ((first
| (refine q1w (fun z hz=>?_);(try simp only at hz))
| refine rqa ?_
| refine chpA ?_
| refine QCt ?_
| refine QCf ?_);cbv)
| (refine QC.mk ?_ ?_ <;> intro hc <;> (try dsimp only at hc) <;> cbv)
| (refine br_mk2 ?_ ?_ <;> intro hb <;> (try subst hb) <;> cbv)
| (refine callq (g) rfl rfl ?_;cbv)))
 exact ⟨rfl,rfl,by rw [hm,hz]⟩
theorem ifc {c X Y:Prop} {d:Decidable c} (h:c) (g:X):@ite Prop c d X Y:=by rw [if_pos h];exact g
theorem allInt_u8l (l:List UInt8):allIntB (u8l l)=true:=by
 induction l with
 | nil=>rfl
 | cons b l ih=>exact ih
theorem ip_c (bs:List UInt8) (B:List SV) (p m:Int) (a:Nat) (a0 a1 a2 a3 a4 a5 a6 a7 a8 a9 b0 b1 b2 b3 b4 b5:Int) (hB:B=u8l bs) (hp:p=a) (hm:m=p+16) (hl:bs.length≤2000) (hb:a+16≤bs.length)
  (hv:List.take 16 (List.drop p.toNat B)=[.int .u8 a0,.int .u8 a1,.int .u8 a2,.int .u8 a3,.int .u8 a4,.int .u8 a5,.int .u8 a6,.int .u8 a7,.int .u8 a8,.int .u8 a9,.int .u8 b0,.int .u8 b1,.int .u8 b2,.int .u8 b3,.int .u8 b4,.int .u8 b5]) :
  Good 194 (le 233 (rdS B p) [] (.tup [ipS a0 a1 a2 a3 a4 a5 a6 a7 a8 a9 b0 b1 b2 b3 b4 b5,.int .i64 0]) (rdS B m)):=by
 have hA:allIntB (O.dr p B)=true:=by rw [odr,hB,u8l_drop];exact allInt_u8l _
 have hlB:B.length=bs.length:=by rw [hB,u8l_len]
 have hcp:O.cp [.int .u8 0,.int .u8 0,.int .u8 0,.int .u8 0,.int .u8 0,.int .u8 0,.int .u8 0,.int .u8 0,.int .u8 0,.int .u8 0,.int .u8 0,.int .u8 0,.int .u8 0,.int .u8 0,.int .u8 0,.int .u8 0] 0 16 ((Classical.choice lo_ex).dr p B)=[.int .u8 a0,.int .u8 a1,.int .u8 a2,.int .u8 a3,.int .u8 a4,.int .u8 a5,.int .u8 a6,.int .u8 a7,.int .u8 a8,.int .u8 a9,.int .u8 b0,.int .u8 b1,.int .u8 b2,.int .u8 b3,.int .u8 b4,.int .u8 b5]:=by
  show O.cp _ 0 16 (O.dr p B)=_
  have hl16:min (List.drop p.toNat B).length 16=16:=by rw [List.length_drop,hlB];omega
  rw [ocp,odr,hl16,hv];rfl
 refine Good.of Tryz.func194 rfl (by rfl) (by kernel_rfl) ?_
 cbv
 have hmk:True:=trivial
 (repeat' (first
| ((first
| (refine q1w (fun z hz=>?_);(try simp only at hz))
| refine rqa ?_
| refine chpA ?_
| refine QCt ?_
| refine QCf ?_);cbv)
| (refine QC.mk ?_ ?_ <;> intro hc <;> (try dsimp only at hc) <;> cbv)
| (refine br_mk2 ?_ ?_ <;> intro hb <;> (try subst hb) <;> cbv)))
 refine ifc ?_ ?_
 ·exact (allIntB.eq_def _).symm.trans hA
 simp only [hcp]
 cbv
 (repeat' (first
| ((first
| (refine q1w (fun z hz=>?_);(try simp only at hz))
| refine rqa ?_
| refine chpA ?_
| refine QCt ?_
| refine QCf ?_);cbv)
| (refine QC.mk ?_ ?_ <;> intro hc <;> (try dsimp only at hc) <;> cbv)
| (refine br_mk2 ?_ ?_ <;> intro hb <;> (try subst hb) <;> cbv)))
 exact ⟨rfl,rfl,by rw [hm,hz]⟩
end
section
open Go.RowKit
set_option maxHeartbeats 4000000
set_option maxRecDepth 100000
theorem imc_c (a0 a1 a2 a3 a4 a5 a6 a7 a8 a9 b0 b1 b2 b3 b4 b5:Int) (r:Bool) (hr:r=decide (a0=255)):Good 136 (pu [ipS a0 a1 a2 a3 a4 a5 a6 a7 a8 a9 b0 b1 b2 b3 b4 b5] (.bool r)):=by
 refine Good.of Tryz.func136 rfl (by rfl) (by kernel_rfl) ?_
 cbv
 have hmk:True:=trivial
 (try (simp only [cwn];cbv));(repeat' (first
| ((first
| refine td ?_
| refine fd ?_
| (refine q1w (fun z hz=>?_);(simp [oln,Int.max_def,Int.min_def] at hz);subst hz)
| (refine q1w (fun z hz=>?_);(try simp only at hz))
| refine rqa ?_
| refine vI ?_
| refine vA ?_
| refine vS ?_
| refine vR ?_
| refine chpA ?_
| refine QCt ?_
| refine QCf ?_);cbv;(try (simp only [cwn];cbv)))
| (simp only [cwn];cbv)
| (refine QC.mk ?_ ?_ <;> intro hc <;> (try dsimp only at hc) <;> cbv;(try (simp only [cwn];cbv)))
| (refine br_mk2 ?_ ?_ <;> intro hb <;> (try subst hb) <;> cbv;(try (simp only [cwn];cbv)))))
 all_goals (refine ⟨?_,rfl,rfl⟩;rw [hr];try first | rw [decide_eq_true (by omega)] | rw [decide_eq_false (by omega)])
abbrev fndS:SV:=.clo 147 [.eptr none (.lst (some 20) []) 0,.eptr none (.int .i64 0) 0,.eptr none (.int .i64 0) 0]
theorem runi_own (e k:Int) (he:e=144115188075855873∧k=1∨e=144115188075855874∧k=2) (B:List SV) (p:Int) (c0 c1 c2 c3 c4 c5 c6 c7:Int)  (hc8:[SV.int .u8 c0,.int .u8 c1,.int .u8 c2,.int .u8 c3,.int .u8 c4,.int .u8 c5,.int .u8 c6,.int .u8 c7]=u8l (bytesOf k 8)) :
  Good 149 (le 233 (rdS B p) [.bool false,.int .i64 3,dvS e,fndS] (.tup [ipS 254 128 0 0 0 0 0 0 c0 c1 c2 c3 c4 c5 c6 c7,.int .i64 0]) (rdS B p)):=by
 have gi:=iid_c e k he
 have gl:=lloc_c
 have gj:=join_c k c0 c1 c2 c3 c4 c5 c6 c7 (by omega) hc8 vpre0
 have gm:=imc_c 254 128 0 0 0 0 0 0 c0 c1 c2 c3 c4 c5 c6 c7 false rfl
 refine Good.of Tryz.func149 rfl (by rfl) (by kernel_rfl) ?_
 cbv
 have hmk:True:=trivial
 exact wlkc
theorem runi_short (e k:Int) (he:e=144115188075855873∧k=1∨e=144115188075855874∧k=2) (B:List SV) (p:Int) (q v iid c0 c1 c2 c3 c4 c5 c6 c7:Int) (gn:Good 190 (le 233 (rdS B p) [.int .i64 2] (.tup [.int .u64 v,.int .i64 0]) (rdS B q))) (hv:0≤v∧v≤65535) (hi:iid=v+1099478073344) (hc8:[SV.int .u8 c0,.int .u8 c1,.int .u8 c2,.int .u8 c3,.int .u8 c4,.int .u8 c5,.int .u8 c6,.int .u8 c7]=u8l (bytesOf iid 8)) :
  Good 149 (le 233 (rdS B p) [.bool false,.int .i64 2,dvS e,fndS] (.tup [ipS 254 128 0 0 0 0 0 0 c0 c1 c2 c3 c4 c5 c6 c7,.int .i64 0]) (rdS B q)):=by
 have gi:=iid_c e k he
 have gl:=lloc_c
 have gj:=join_c iid c0 c1 c2 c3 c4 c5 c6 c7 (by omega) hc8 vpre0
 have gm:=imc_c 254 128 0 0 0 0 0 0 c0 c1 c2 c3 c4 c5 c6 c7 false rfl
 refine Good.of Tryz.func149 rfl (by rfl) (by kernel_rfl) ?_
 cbv
 have hmk:True:=trivial
 (try (simp only [cwn];cbv));(repeat' (first
| ((first
| ((refine q1w (fun z hz=>?_);(try simp only at hz);have e:z=iid:=by omega);subst e)
| refine td ?_
| refine fd ?_
| (refine q1w (fun z hz=>?_);(simp [oln,Int.max_def,Int.min_def] at hz);subst hz)
| (refine q1w (fun z hz=>?_);(try simp only at hz))
| refine rqa ?_
| refine vI ?_
| refine vA ?_
| refine vS ?_
| refine vR ?_
| refine callq (gi) rfl rfl ?_
| refine callq (gl) rfl rfl ?_
| refine callq (gn) rfl rfl ?_
| refine callq (gj) rfl rfl ?_
| refine callq (gm) rfl rfl ?_
| refine chpA ?_
| refine QCt ?_
| refine QCf ?_);cbv;(try (simp only [cwn];cbv)))
| (simp only [cwn];cbv)
| (refine QC.mk ?_ ?_ <;> intro hc <;> (try dsimp only at hc) <;> cbv;(try (simp only [cwn];cbv)))
| (refine br_mk2 ?_ ?_ <;> intro hb <;> (try subst hb) <;> cbv;(try (simp only [cwn];cbv)))))
 exact ⟨rfl,rfl,rfl⟩
theorem runi_iid (e k:Int) (he:e=144115188075855873∧k=1∨e=144115188075855874∧k=2) (B:List SV) (p:Int) (q v c0 c1 c2 c3 c4 c5 c6 c7:Int) (gn:Good 190 (le 233 (rdS B p) [.int .i64 8] (.tup [.int .u64 v,.int .i64 0]) (rdS B q))) (hv:0≤v∧v≤18446744073709551615) (hc8:[SV.int .u8 c0,.int .u8 c1,.int .u8 c2,.int .u8 c3,.int .u8 c4,.int .u8 c5,.int .u8 c6,.int .u8 c7]=u8l (bytesOf v 8)) :
  Good 149 (le 233 (rdS B p) [.bool false,.int .i64 1,dvS e,fndS] (.tup [ipS 254 128 0 0 0 0 0 0 c0 c1 c2 c3 c4 c5 c6 c7,.int .i64 0]) (rdS B q)):=by
 have gi:=iid_c e k he
 have gl:=lloc_c
 have gj:=join_c v c0 c1 c2 c3 c4 c5 c6 c7 (by omega) hc8 vpre0
 have gm:=imc_c 254 128 0 0 0 0 0 0 c0 c1 c2 c3 c4 c5 c6 c7 false rfl
 refine Good.of Tryz.func149 rfl (by rfl) (by kernel_rfl) ?_
 cbv
 have hmk:True:=trivial
 exact wlkc
theorem runi_whole (e k:Int) (he:e=144115188075855873∧k=1∨e=144115188075855874∧k=2) (B:List SV) (p:Int) (q a0 a1 a2 a3 a4 a5 a6 a7 a8 a9 b0 b1 b2 b3 b4 b5:Int) (gp:Good 194 (le 233 (rdS B p) [] (.tup [ipS a0 a1 a2 a3 a4 a5 a6 a7 a8 a9 b0 b1 b2 b3 b4 b5,.int .i64 0]) (rdS B q))) (h0:a0≠255) :
  Good 149 (le 233 (rdS B p) [.bool false,.int .i64 0,dvS e,fndS] (.tup [ipS a0 a1 a2 a3 a4 a5 a6 a7 a8 a9 b0 b1 b2 b3 b4 b5,.int .i64 0]) (rdS B q)):=by
 have gi:=iid_c e k he
 have gl:=lloc_c
 have gm:=imc_c a0 a1 a2 a3 a4 a5 a6 a7 a8 a9 b0 b1 b2 b3 b4 b5 false (by rw [decide_eq_false h0])
 refine Good.of Tryz.func149 rfl (by rfl) (by kernel_rfl) ?_
 cbv
 have hmk:True:=trivial
 exact wlkc
end
end Go.Proofs.YtgfpjhddojhfpaaGreat
