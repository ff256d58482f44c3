/- Texts put together: ES ET EU. -/
import Derived.Test.YtgfpjhddojhfpaaGreatZ30
import Derived.Test.YtgfpjhddojhfpaaGreatZ31
import Derived.Test.YtgfpjhddojhfpaaGreatZ34
import Derived.Test.YtgfpjhddojhfpaaGreatZ35
namespace Go.Proofs.YtgfpjhddojhfpaaGreat
set_option linter.unusedVariables false
set_option linter.unusedSimpArgs false
section
open Go.RowKit
set_option maxHeartbeats 4000000
set_option maxRecDepth 100000
theorem ienc_c (e1 e2 first m m2 s rc rm cl fl nx hp a0 a1 a2 a3 a4 a5 a6 a7 a8 a9 b0 b1 b2 b3 b4 b5 x0 x1 x2 x3 x4 x5 x6 x7 x8 x9 y0 y1 y2 y3 y4 y5 sp dp:Int) (c mc:Bool) (P R F F2 M1 M2 M3:List SV) (H:PkOk cl fl nx hp a0 sp dp P.length)
  (hm:0≤m∧m≤3) (hm2:0≤m2∧m2≤3) (hfi:0≤first∧first≤255) (hR:R.length≤10) (hF:F.length≤16) (hF2:F2.length≤16)
  (hrc:rc=if c=true then 64 else 0) (hrm:rm=if mc=true then 8 else 0) (hmc:mc=decide (x0=255)) (hs:s=rc+16 * m+rm+m2)
  (gf:Good 134 (pu [pkS cl fl nx hp a0 a1 a2 a3 a4 a5 a6 a7 a8 a9 b0 b1 b2 b3 b4 b5 x0 x1 x2 x3 x4 x5 x6 x7 x8 x9 y0 y1 y2 y3 y4 y5 sp dp (.lst none P)] (.tup [.int .i64 first,.lst none R])))
  (gs:Good 135 (pu [ipS a0 a1 a2 a3 a4 a5 a6 a7 a8 a9 b0 b1 b2 b3 b4 b5,dvS e1,.bool true,.lst (some 20) [],.int .i64 0] (fmS c m F)))
  (gT:mc=true→Good 137 (pu [ipS x0 x1 x2 x3 x4 x5 x6 x7 x8 x9 y0 y1 y2 y3 y4 y5] (fmS false m2 F2)))
  (gF:mc=false→Good 135 (pu [ipS x0 x1 x2 x3 x4 x5 x6 x7 x8 x9 y0 y1 y2 y3 y4 y5,dvS e2,.bool false,.lst (some 20) [],.int .i64 0] (fmS false m2 F2)))
  (k1:O.ap [.int .u8 first,.int .u8 s] R=M1) (k2:apL M1 F=M2) (k3:apL M2 F2=M3) :
  Good 73 (nu [pkS cl fl nx hp a0 a1 a2 a3 a4 a5 a6 a7 a8 a9 b0 b1 b2 b3 b4 b5 x0 x1 x2 x3 x4 x5 x6 x7 x8 x9 y0 y1 y2 y3 y4 y5 sp dp (.lst none P),dvS e1,dvS e2,.lst (some 20) [],.int .i64 0] (.tup [.row 1,.int .i64 0]) (.row none 5 M3)):=by
 have gv:=pvalid_c cl fl nx hp a0 a1 a2 a3 a4 a5 a6 a7 a8 a9 b0 b1 b2 b3 b4 b5 x0 x1 x2 x3 x4 x5 x6 x7 x8 x9 y0 y1 y2 y3 y4 y5 sp dp P H
 have gc:=chk_c e1 e2
 have f1:=iflag_c false 128 0 rfl
 have f2:=iflag_c c 64 rc hrc
 have f3:=iflag_c mc 8 rm hrm
 have f4:=iflag_c false 4 0 rfl
 have gm:=imc_c x0 x1 x2 x3 x4 x5 x6 x7 x8 x9 y0 y1 y2 y3 y4 y5 mc hmc
 have hrc2:0≤rc∧rc≤64:=by rw [hrc];split <;> omega
 have hrm2:0≤rm∧rm≤8:=by rw [hrm];split <;> omega
 have hM1:M1.length=2+R.length:=by rw [← k1,oap];simp;omega
 have hM2:M2.length=M1.length+F.length:=by rw [← k2,apL_app,List.length_append]
 clear hrc hrm hmc H
 unfold apL at k2 k3
 replace k1:(Classical.choice lo_ex).ap [.int .u8 first,.int .u8 s] R=M1:=k1
 cases mc
 ·have gF:=gF rfl
  clear gT
  refine Good.of Tryz.func73 rfl (by rfl) (by kernel_rfl) ?_
  cbv
  have hmk:True:=trivial
  (repeat' (first
| ((first
| (simp only [k1])
| (simp only [k2])
| (simp only [k3])
| (refine q1w (fun z hz=>?_);(have e:s=z:=by omega);subst e)
| (refine q1w (fun z hz=>?_);(have e:first=z:=by omega);subst e)
| (refine q1w (fun z hz=>?_);(try simp [oln,Int.max_def,Int.min_def] at hz);(with_reducible refine litk hz ?_ ?_);(focus decide);subst hz)
| (refine q1w (fun z hz=>?_);(try simp only [Int.reduceToNat,Int.reducePow] at hz))
| refine td ?_
| refine fd ?_
| refine rqa ?_
| refine vI ?_
| refine vA ?_
| refine vS ?_
| refine vR ?_
| refine callq (gv) rfl rfl ?_
| refine callq (gc) rfl rfl ?_
| refine callq (gf) rfl rfl ?_
| refine callq (gs) rfl rfl ?_
| refine callq (gm) rfl rfl ?_
| refine callq (gF) rfl rfl ?_
| refine callq (f1) rfl rfl ?_
| refine callq (f2) rfl rfl ?_
| refine callq (f3) rfl rfl ?_
| refine callq (f4) rfl rfl ?_
| refine chpA ?_
| refine QCt ?_
| refine QCf ?_);cbv)
| (refine QC.mk ?_ ?_ <;> intro hc <;> (try dsimp only at hc) <;> cbv)
| (refine br_mk2 ?_ ?_ <;> intro hb <;> (try subst hb) <;> cbv)))
  exact ⟨rfl,rfl,rfl⟩
 ·have gT:=gT rfl
  clear gF
  refine Good.of Tryz.func73 rfl (by rfl) (by kernel_rfl) ?_
  cbv
  have hmk:True:=trivial
  (repeat' (first
| ((first
| (simp only [k1])
| (simp only [k2])
| (simp only [k3])
| (refine q1w (fun z hz=>?_);(have e:s=z:=by omega);subst e)
| (refine q1w (fun z hz=>?_);(have e:first=z:=by omega);subst e)
| (refine q1w (fun z hz=>?_);(try simp [oln,Int.max_def,Int.min_def] at hz);(with_reducible refine litk hz ?_ ?_);(focus decide);subst hz)
| (refine q1w (fun z hz=>?_);(try simp only [Int.reduceToNat,Int.reducePow] at hz))
| refine td ?_
| refine fd ?_
| refine rqa ?_
| refine vI ?_
| refine vA ?_
| refine vS ?_
| refine vR ?_
| refine callq (gv) rfl rfl ?_
| refine callq (gc) rfl rfl ?_
| refine callq (gf) rfl rfl ?_
| refine callq (gs) rfl rfl ?_
| refine callq (gm) rfl rfl ?_
| refine callq (gT) rfl rfl ?_
| refine callq (f1) rfl rfl ?_
| refine callq (f2) rfl rfl ?_
| refine callq (f3) rfl rfl ?_
| refine callq (f4) rfl rfl ?_
| refine chpA ?_
| refine QCt ?_
| refine QCf ?_);cbv)
| (refine QC.mk ?_ ?_ <;> intro hc <;> (try dsimp only at hc) <;> cbv)
| (refine br_mk2 ?_ ?_ <;> intro hb <;> (try subst hb) <;> cbv)))
  exact ⟨rfl,rfl,rfl⟩
end
section
open Go.RowKit
set_option maxHeartbeats 4000000
set_option maxRecDepth 100000
theorem idec_ng (e1 e2 first z2 s16 m2 p2 p3 p4 p5 cl fl nx hp x0 x1 x2 x3 x4 x5 x6 x7 x8 x9 y0 y1 y2 y3 y4 y5:Int) (B:List SV) (H:SHd z2 64 0 8 m2) (h16:s16=z2 / 16)
  (gst:Good 144 (le 233 (rdS B 0) [] (.tup [.int .i64 first,.int .i64 z2,.int .i64 0,.int .i64 0]) (rdS B p2)))
  (gfd:Good 145 (le 233 (rdS B p2) [.int .i64 first] (.tup [pk0 cl fl nx hp,.int .i64 0]) (rdS B p3)))
  (gd:Good 150 (le 233 (rdS B p3) [.int .i64 m2] (.tup [ipS x0 x1 x2 x3 x4 x5 x6 x7 x8 x9 y0 y1 y2 y3 y4 y5,.int .i64 0]) (rdS B p5))) :
  Good 87 (pu [.lst none B,dvS e1,dvS e2,.lst (some 20) [],.int .i64 0] (.tup [pkS cl fl nx hp 0 0 0 0 0 0 0 0 0 0 0 0 0 0 0 0 x0 x1 x2 x3 x4 x5 x6 x7 x8 x9 y0 y1 y2 y3 y4 y5 0 0 .nil,.int .i64 p5,.int .i64 0])):=by
 have gc:=chk_c e1 e2
 have gf:=find_c
 obtain ⟨r,a128,a64,a8,a4,a3,m3⟩:=H
 rw [← h16] at m3
 have hs16:0≤s16∧s16≤7:=by omega
 refine Good.of Tryz.func87 rfl (by rfl) (by kernel_rfl) ?_
 cbv
 have hmk:True:=trivial
 (repeat' (first
| ((first
| (refine q1w (fun z hz=>?_);(try simp only [Int.reduceToNat,Int.reducePow] at hz);(have e:=(hz.trans m3).symm);subst e)
| (refine q1w (fun z hz=>?_);(try simp only [Int.reduceToNat,Int.reducePow] at hz);(have e:=(hz.trans a3).symm);subst e)
| (refine q1w (fun z hz=>?_);(try simp only [Int.reduceToNat,Int.reducePow] at hz);(first | replace hz:=hz.trans a64 | replace hz:=hz.trans a8 | replace hz:=hz.trans a4);subst hz)
| (refine q1w (fun z hz=>?_);(try simp only [Int.reduceToNat,Int.reducePow] at hz);(have e:s16=z:=h16.trans hz.symm);subst e)
| (refine q1w (fun z hz=>?_);(try simp [oln,Int.max_def,Int.min_def] at hz);(with_reducible refine litk hz ?_ ?_);(focus decide);subst hz)
| (refine q1w (fun z hz=>?_);(try simp only [Int.reduceToNat,Int.reducePow] at hz))
| refine td ?_
| refine fd ?_
| refine rqa ?_
| refine vI ?_
| refine vA ?_
| refine vS ?_
| refine vR ?_
| refine callq (gc) rfl rfl ?_
| refine callq (gf) rfl rfl ?_
| refine callq (gst) rfl rfl ?_
| refine callq (gfd) rfl rfl ?_
| refine callq (gd) rfl rfl ?_
| refine chpA ?_
| refine QCt ?_
| refine QCf ?_);cbv)
| (refine QC.mk ?_ ?_ <;> intro hc <;> (try dsimp only at hc) <;> cbv)
| (refine br_mk2 ?_ ?_ <;> intro hb <;> (try subst hb) <;> cbv)))
 all_goals exact ⟨rfl,rfl,rfl⟩
theorem idec_nu (e1 e2 first z2 s16 m2 p2 p3 p4 p5 cl fl nx hp x0 x1 x2 x3 x4 x5 x6 x7 x8 x9 y0 y1 y2 y3 y4 y5:Int) (B:List SV) (H:SHd z2 64 0 0 m2) (h16:s16=z2 / 16)
  (gst:Good 144 (le 233 (rdS B 0) [] (.tup [.int .i64 first,.int .i64 z2,.int .i64 0,.int .i64 0]) (rdS B p2)))
  (gfd:Good 145 (le 233 (rdS B p2) [.int .i64 first] (.tup [pk0 cl fl nx hp,.int .i64 0]) (rdS B p3)))
  (gd:Good 149 (le 233 (rdS B p3) [.bool false,.int .i64 m2,dvS e2,fndS] (.tup [ipS x0 x1 x2 x3 x4 x5 x6 x7 x8 x9 y0 y1 y2 y3 y4 y5,.int .i64 0]) (rdS B p5))) :
  Good 87 (pu [.lst none B,dvS e1,dvS e2,.lst (some 20) [],.int .i64 0] (.tup [pkS cl fl nx hp 0 0 0 0 0 0 0 0 0 0 0 0 0 0 0 0 x0 x1 x2 x3 x4 x5 x6 x7 x8 x9 y0 y1 y2 y3 y4 y5 0 0 .nil,.int .i64 p5,.int .i64 0])):=by
 have gc:=chk_c e1 e2
 have gf:=find_c
 obtain ⟨r,a128,a64,a8,a4,a3,m3⟩:=H
 rw [← h16] at m3
 have hs16:0≤s16∧s16≤7:=by omega
 refine Good.of Tryz.func87 rfl (by rfl) (by kernel_rfl) ?_
 cbv
 have hmk:True:=trivial
 (repeat' (first
| ((first
| (refine q1w (fun z hz=>?_);(try simp only [Int.reduceToNat,Int.reducePow] at hz);(have e:=(hz.trans m3).symm);subst e)
| (refine q1w (fun z hz=>?_);(try simp only [Int.reduceToNat,Int.reducePow] at hz);(have e:=(hz.trans a3).symm);subst e)
| (refine q1w (fun z hz=>?_);(try simp only [Int.reduceToNat,Int.reducePow] at hz);(first | replace hz:=hz.trans a64 | replace hz:=hz.trans a8 | replace hz:=hz.trans a4);subst hz)
| (refine q1w (fun z hz=>?_);(try simp only [Int.reduceToNat,Int.reducePow] at hz);(have e:s16=z:=h16.trans hz.symm);subst e)
| (refine q1w (fun z hz=>?_);(try simp [oln,Int.max_def,Int.min_def] at hz);(with_reducible refine litk hz ?_ ?_);(focus decide);subst hz)
| (refine q1w (fun z hz=>?_);(try simp only [Int.reduceToNat,Int.reducePow] at hz))
| refine td ?_
| refine fd ?_
| refine rqa ?_
| refine vI ?_
| refine vA ?_
| refine vS ?_
| refine vR ?_
| refine callq (gc) rfl rfl ?_
| refine callq (gf) rfl rfl ?_
| refine callq (gst) rfl rfl ?_
| refine callq (gfd) rfl rfl ?_
| refine callq (gd) rfl rfl ?_
| refine chpA ?_
| refine QCt ?_
| refine QCf ?_);cbv)
| (refine QC.mk ?_ ?_ <;> intro hc <;> (try dsimp only at hc) <;> cbv)
| (refine br_mk2 ?_ ?_ <;> intro hb <;> (try subst hb) <;> cbv)))
 all_goals exact ⟨rfl,rfl,rfl⟩
theorem idec_ug (e1 e2 first z2 s16 m m2 p2 p3 p4 p5 cl fl nx hp a0 a1 a2 a3 a4 a5 a6 a7 a8 a9 b0 b1 b2 b3 b4 b5 x0 x1 x2 x3 x4 x5 x6 x7 x8 x9 y0 y1 y2 y3 y4 y5:Int) (B:List SV) (H:SHd z2 0 m 8 m2) (h16:s16=z2 / 16)
  (gst:Good 144 (le 233 (rdS B 0) [] (.tup [.int .i64 first,.int .i64 z2,.int .i64 0,.int .i64 0]) (rdS B p2)))
  (gfd:Good 145 (le 233 (rdS B p2) [.int .i64 first] (.tup [pk0 cl fl nx hp,.int .i64 0]) (rdS B p3)))
  (gs:Good 149 (le 233 (rdS B p3) [.bool false,.int .i64 m,dvS e1,fndS] (.tup [ipS a0 a1 a2 a3 a4 a5 a6 a7 a8 a9 b0 b1 b2 b3 b4 b5,.int .i64 0]) (rdS B p4)))
  (gd:Good 150 (le 233 (rdS B p4) [.int .i64 m2] (.tup [ipS x0 x1 x2 x3 x4 x5 x6 x7 x8 x9 y0 y1 y2 y3 y4 y5,.int .i64 0]) (rdS B p5))) :
  Good 87 (pu [.lst none B,dvS e1,dvS e2,.lst (some 20) [],.int .i64 0] (.tup [pkS cl fl nx hp a0 a1 a2 a3 a4 a5 a6 a7 a8 a9 b0 b1 b2 b3 b4 b5 x0 x1 x2 x3 x4 x5 x6 x7 x8 x9 y0 y1 y2 y3 y4 y5 0 0 .nil,.int .i64 p5,.int .i64 0])):=by
 have gc:=chk_c e1 e2
 have gf:=find_c
 obtain ⟨r,a128,a64,a8,a4,a3,m3⟩:=H
 rw [← h16] at m3
 have hs16:0≤s16∧s16≤7:=by omega
 refine Good.of Tryz.func87 rfl (by rfl) (by kernel_rfl) ?_
 cbv
 have hmk:True:=trivial
 (repeat' (first
| ((first
| (refine q1w (fun z hz=>?_);(try simp only [Int.reduceToNat,Int.reducePow] at hz);(have e:=(hz.trans m3).symm);subst e)
| (refine q1w (fun z hz=>?_);(try simp only [Int.reduceToNat,Int.reducePow] at hz);(have e:=(hz.trans a3).symm);subst e)
| (refine q1w (fun z hz=>?_);(try simp only [Int.reduceToNat,Int.reducePow] at hz);(first | replace hz:=hz.trans a64 | replace hz:=hz.trans a8 | replace hz:=hz.trans a4);subst hz)
| (refine q1w (fun z hz=>?_);(try simp only [Int.reduceToNat,Int.reducePow] at hz);(have e:s16=z:=h16.trans hz.symm);subst e)
| (refine q1w (fun z hz=>?_);(try simp [oln,Int.max_def,Int.min_def] at hz);(with_reducible refine litk hz ?_ ?_);(focus decide);subst hz)
| (refine q1w (fun z hz=>?_);(try simp only [Int.reduceToNat,Int.reducePow] at hz))
| refine td ?_
| refine fd ?_
| refine rqa ?_
| refine vI ?_
| refine vA ?_
| refine vS ?_
| refine vR ?_
| refine callq (gc) rfl rfl ?_
| refine callq (gf) rfl rfl ?_
| refine callq (gst) rfl rfl ?_
| refine callq (gfd) rfl rfl ?_
| refine callq (gs) rfl rfl ?_
| refine callq (gd) rfl rfl ?_
| refine chpA ?_
| refine QCt ?_
| refine QCf ?_);cbv)
| (refine QC.mk ?_ ?_ <;> intro hc <;> (try dsimp only at hc) <;> cbv)
| (refine br_mk2 ?_ ?_ <;> intro hb <;> (try subst hb) <;> cbv)))
 all_goals exact ⟨rfl,rfl,rfl⟩
theorem idec_uu (e1 e2 first z2 s16 m m2 p2 p3 p4 p5 cl fl nx hp a0 a1 a2 a3 a4 a5 a6 a7 a8 a9 b0 b1 b2 b3 b4 b5 x0 x1 x2 x3 x4 x5 x6 x7 x8 x9 y0 y1 y2 y3 y4 y5:Int) (B:List SV) (H:SHd z2 0 m 0 m2) (h16:s16=z2 / 16)
  (gst:Good 144 (le 233 (rdS B 0) [] (.tup [.int .i64 first,.int .i64 z2,.int .i64 0,.int .i64 0]) (rdS B p2)))
  (gfd:Good 145 (le 233 (rdS B p2) [.int .i64 first] (.tup [pk0 cl fl nx hp,.int .i64 0]) (rdS B p3)))
  (gs:Good 149 (le 233 (rdS B p3) [.bool false,.int .i64 m,dvS e1,fndS] (.tup [ipS a0 a1 a2 a3 a4 a5 a6 a7 a8 a9 b0 b1 b2 b3 b4 b5,.int .i64 0]) (rdS B p4)))
  (gd:Good 149 (le 233 (rdS B p4) [.bool false,.int .i64 m2,dvS e2,fndS] (.tup [ipS x0 x1 x2 x3 x4 x5 x6 x7 x8 x9 y0 y1 y2 y3 y4 y5,.int .i64 0]) (rdS B p5))) :
  Good 87 (pu [.lst none B,dvS e1,dvS e2,.lst (some 20) [],.int .i64 0] (.tup [pkS cl fl nx hp a0 a1 a2 a3 a4 a5 a6 a7 a8 a9 b0 b1 b2 b3 b4 b5 x0 x1 x2 x3 x4 x5 x6 x7 x8 x9 y0 y1 y2 y3 y4 y5 0 0 .nil,.int .i64 p5,.int .i64 0])):=by
 have gc:=chk_c e1 e2
 have gf:=find_c
 obtain ⟨r,a128,a64,a8,a4,a3,m3⟩:=H
 rw [← h16] at m3
 have hs16:0≤s16∧s16≤7:=by omega
 refine Good.of Tryz.func87 rfl (by rfl) (by kernel_rfl) ?_
 cbv
 have hmk:True:=trivial
 (repeat' (first
| ((first
| (refine q1w (fun z hz=>?_);(try simp only [Int.reduceToNat,Int.reducePow] at hz);(have e:=(hz.trans m3).symm);subst e)
| (refine q1w (fun z hz=>?_);(try simp only [Int.reduceToNat,Int.reducePow] at hz);(have e:=(hz.trans a3).symm);subst e)
| (refine q1w (fun z hz=>?_);(try simp only [Int.reduceToNat,Int.reducePow] at hz);(first | replace hz:=hz.trans a64 | replace hz:=hz.trans a8 | replace hz:=hz.trans a4);subst hz)
| (refine q1w (fun z hz=>?_);(try simp only [Int.reduceToNat,Int.reducePow] at hz);(have e:s16=z:=h16.trans hz.symm);subst e)
| (refine q1w (fun z hz=>?_);(try simp [oln,Int.max_def,Int.min_def] at hz);(with_reducible refine litk hz ?_ ?_);(focus decide);subst hz)
| (refine q1w (fun z hz=>?_);(try simp only [Int.reduceToNat,Int.reducePow] at hz))
| refine td ?_
| refine fd ?_
| refine rqa ?_
| refine vI ?_
| refine vA ?_
| refine vS ?_
| refine vR ?_
| refine callq (gc) rfl rfl ?_
| refine callq (gf) rfl rfl ?_
| refine callq (gst) rfl rfl ?_
| refine callq (gfd) rfl rfl ?_
| refine callq (gs) rfl rfl ?_
| refine callq (gd) rfl rfl ?_
| refine chpA ?_
| refine QCt ?_
| refine QCf ?_);cbv)
| (refine QC.mk ?_ ?_ <;> intro hc <;> (try dsimp only at hc) <;> cbv)
| (refine br_mk2 ?_ ?_ <;> intro hb <;> (try subst hb) <;> cbv)))
 all_goals exact ⟨rfl,rfl,rfl⟩
end
section
open Go.RowKit
set_option maxHeartbeats 4000000
set_option maxRecDepth 100000
theorem cenc_y (e1 e2 cl fl hp a0 a1 a2 a3 a4 a5 a6 a7 a8 a9 b0 b1 b2 b3 b4 b5 x0 x1 x2 x3 x4 x5 x6 x7 x8 x9 y0 y1 y2 y3 y4 y5 sp dp:Int) (P X Y M:List SV) (hY:Y.length≤100) (hP:P.length≤1280)
  (ge:Good 73 (nu [pkS cl fl 17 hp a0 a1 a2 a3 a4 a5 a6 a7 a8 a9 b0 b1 b2 b3 b4 b5 x0 x1 x2 x3 x4 x5 x6 x7 x8 x9 y0 y1 y2 y3 y4 y5 sp dp (.lst none P),dvS e1,dvS e2,.lst (some 20) [],.int .i64 0] (.tup [.row 1,.int .i64 0]) (.row none 5 X)))
  (gu:Good 74 (nu [.lst none X,pkS cl fl 17 hp a0 a1 a2 a3 a4 a5 a6 a7 a8 a9 b0 b1 b2 b3 b4 b5 x0 x1 x2 x3 x4 x5 x6 x7 x8 x9 y0 y1 y2 y3 y4 y5 sp dp (.lst none P)] (.row 1) (.row none 5 Y))) (k:apL Y P=M) :
  Good 28 (nu [pkS cl fl 17 hp a0 a1 a2 a3 a4 a5 a6 a7 a8 a9 b0 b1 b2 b3 b4 b5 x0 x1 x2 x3 x4 x5 x6 x7 x8 x9 y0 y1 y2 y3 y4 y5 sp dp (.lst none P),dvS e1,dvS e2,.lst (some 20) [],.int .i64 0] (.tup [.row 1,.int .i64 0]) (.row none 5 M)):=by
 unfold apL at k
 refine Good.of Tryz.func28 rfl (by rfl) (by kernel_rfl) ?_
 cbv
 have hmk:True:=trivial
 (repeat' (first
| ((first
| (simp only [k])
| (refine q1w (fun z hz=>?_);(try simp [oln,Int.max_def,Int.min_def] at hz);(with_reducible refine litk hz ?_ ?_);(focus decide);subst hz)
| (refine q1w (fun z hz=>?_);(try simp only [Int.reduceToNat,Int.reducePow] at hz))
| refine td ?_
| refine fd ?_
| refine rqa ?_
| refine vI ?_
| refine vA ?_
| refine vS ?_
| refine vR ?_
| refine callq (ge) rfl rfl ?_
| refine callq (gu) rfl rfl ?_
| refine chpA ?_
| refine QCt ?_
| refine QCf ?_);cbv)
| (refine QC.mk ?_ ?_ <;> intro hc <;> (try dsimp only at hc) <;> cbv)
| (refine br_mk2 ?_ ?_ <;> intro hb <;> (try subst hb) <;> cbv)))
 exact ⟨rfl,rfl,rfl⟩
theorem cenc_n (e1 e2 cl fl nx hp a0 a1 a2 a3 a4 a5 a6 a7 a8 a9 b0 b1 b2 b3 b4 b5 x0 x1 x2 x3 x4 x5 x6 x7 x8 x9 y0 y1 y2 y3 y4 y5 sp dp:Int) (hnx:nx≠17) (P X M:List SV) (hX:X.length≤100) (hP:P.length≤1280)
  (ge:Good 73 (nu [pkS cl fl nx hp a0 a1 a2 a3 a4 a5 a6 a7 a8 a9 b0 b1 b2 b3 b4 b5 x0 x1 x2 x3 x4 x5 x6 x7 x8 x9 y0 y1 y2 y3 y4 y5 sp dp (.lst none P),dvS e1,dvS e2,.lst (some 20) [],.int .i64 0] (.tup [.row 1,.int .i64 0]) (.row none 5 X))) (k:apL X P=M) :
  Good 28 (nu [pkS cl fl nx hp a0 a1 a2 a3 a4 a5 a6 a7 a8 a9 b0 b1 b2 b3 b4 b5 x0 x1 x2 x3 x4 x5 x6 x7 x8 x9 y0 y1 y2 y3 y4 y5 sp dp (.lst none P),dvS e1,dvS e2,.lst (some 20) [],.int .i64 0] (.tup [.row 1,.int .i64 0]) (.row none 5 M)):=by
 unfold apL at k
 refine Good.of Tryz.func28 rfl (by rfl) (by kernel_rfl) ?_
 cbv
 have hmk:True:=trivial
 (repeat' (first
| ((first
| (simp only [k])
| (refine q1w (fun z hz=>?_);(try simp [oln,Int.max_def,Int.min_def] at hz);(with_reducible refine litk hz ?_ ?_);(focus decide);subst hz)
| (refine q1w (fun z hz=>?_);(try simp only [Int.reduceToNat,Int.reducePow] at hz))
| refine td ?_
| refine fd ?_
| refine rqa ?_
| refine vI ?_
| refine vA ?_
| refine vS ?_
| refine vR ?_
| refine callq (ge) rfl rfl ?_
| refine chpA ?_
| refine QCt ?_
| refine QCf ?_);cbv)
| (refine QC.mk ?_ ?_ <;> intro hc <;> (try dsimp only at hc) <;> cbv)
| (refine br_mk2 ?_ ?_ <;> intro hb <;> (try subst hb) <;> cbv)))
 exact ⟨rfl,rfl,rfl⟩
theorem copyAll (P:List SV) (z:Int) (x:SV) (h:z=((O.ln P:Nat):Int)):O.cp (O.rp z x) 0 (O.ln (O.rp z x)) P=P:=by
 rw [ocp,orp,h,oln,oln,Int.toNat_natCast,List.length_replicate];simp
theorem cdec_y (e1 e2 first at' sz S cl fl hp a0 a1 a2 a3 a4 a5 a6 a7 a8 a9 b0 b1 b2 b3 b4 b5 x0 x1 x2 x3 x4 x5 x6 x7 x8 x9 y0 y1 y2 y3 y4 y5 sp dp:Int) (B P:List SV) (H:PkOk cl fl 17 hp a0 sp dp P.length) (hS:0≤S∧S≤65535) (hf:96≤first∧first≤127) (hat:0≤at') (hsz:0≤sz) (hlen:(B.length:Int)+1=at'+sz+P.length)
  (gd:Good 87 (pu [.lst none (.int .u8 first::B),dvS e1,dvS e2,.lst (some 20) [],.int .i64 0] (.tup [pkS cl fl 17 hp a0 a1 a2 a3 a4 a5 a6 a7 a8 a9 b0 b1 b2 b3 b4 b5 x0 x1 x2 x3 x4 x5 x6 x7 x8 x9 y0 y1 y2 y3 y4 y5 0 0 .nil,.int .i64 at',.int .i64 0])))
  (gr:Good 88 (pu [.lst none (O.dr at' (.int .u8 first::B))] (.tup [.int .u16 sp,.int .u16 dp,.int .u16 S,.int .i64 sz,.int .i64 0])))
  (k:O.dr sz (O.dr at' (.int .u8 first::B))=P)
  (gs:Good 90 (pu [pkS cl fl 17 hp a0 a1 a2 a3 a4 a5 a6 a7 a8 a9 b0 b1 b2 b3 b4 b5 x0 x1 x2 x3 x4 x5 x6 x7 x8 x9 y0 y1 y2 y3 y4 y5 sp dp (.lst none P)] (.int .u16 S))) :
  Good 38 (nu [.lst none (.int .u8 first::B),dvS e1,dvS e2,.lst (some 20) [],.int .i64 0] (.tup [pkS cl fl 17 hp a0 a1 a2 a3 a4 a5 a6 a7 a8 a9 b0 b1 b2 b3 b4 b5 x0 x1 x2 x3 x4 x5 x6 x7 x8 x9 y0 y1 y2 y3 y4 y5 sp dp (.row 1),.int .i64 0]) (.row none 5 P)):=by
 have hm:=H.hm rfl
 have gz:=psize_c cl fl 17 hp a0 a1 a2 a3 a4 a5 a6 a7 a8 a9 b0 b1 b2 b3 b4 b5 x0 x1 x2 x3 x4 x5 x6 x7 x8 x9 y0 y1 y2 y3 y4 y5 sp dp P _ rfl (by omega)
 rw [if_pos rfl] at gz
 obtain ⟨n,hn⟩:∃ n:Int,(P.length:Int)=n:=⟨_,rfl⟩
 rw [hn] at gz
 have hnb:0≤n∧n≤1232:=by omega
 obtain ⟨zz,hzz⟩:∃ z:Int,z=40+n+8:=⟨_,rfl⟩
 rw [← hzz] at gz
 replace k:(Classical.choice lo_ex).dr sz ((Classical.choice lo_ex).dr at' (.int .u8 first::B))=P:=k
 clear H
 refine Good.of Tryz.func38 rfl (by rfl) (by kernel_rfl) ?_
 cbv
 have hmk:True:=trivial
 (repeat' (first
| ((first
| (simp only [k])
| (refine q1w (fun z hz=>?_);(try simp [oln,Int.max_def,Int.min_def] at hz);(with_reducible refine litk hz ?_ ?_);(focus decide);subst hz)
| (refine q1w (fun z hz=>?_);(try simp only [Int.reduceToNat,Int.reducePow] at hz))
| refine td ?_
| refine fd ?_
| refine rqa ?_
| refine vI ?_
| refine vA ?_
| refine vS ?_
| refine vR ?_
| refine callq (gd) rfl rfl ?_
| refine callq (gr) rfl rfl ?_
| refine callq (gz) rfl rfl ?_
| refine callq (gs) rfl rfl ?_
| refine chpB ?_
| refine QCt ?_
| refine QCf ?_);cbv)
| (refine QC.mk ?_ ?_ <;> intro hc <;> (try dsimp only at hc) <;> cbv)
| (refine br_mk2 ?_ ?_ <;> intro hb <;> (try subst hb) <;> cbv)))
 refine ⟨rfl,congrArg (fun l=>Blk.row none _ l) (copyAll _ _ _ (by assumption)),rfl⟩
theorem cdec_n (e1 e2 first at' cl fl nx hp a0 a1 a2 a3 a4 a5 a6 a7 a8 a9 b0 b1 b2 b3 b4 b5 x0 x1 x2 x3 x4 x5 x6 x7 x8 x9 y0 y1 y2 y3 y4 y5:Int) (hnx:nx≠17) (B P:List SV) (H:PkOk cl fl nx hp a0 0 0 P.length) (hf:96≤first∧first≤127) (hat:0≤at') (hlen:(B.length:Int)+1=at'+P.length)
  (gd:Good 87 (pu [.lst none (.int .u8 first::B),dvS e1,dvS e2,.lst (some 20) [],.int .i64 0] (.tup [pkS cl fl nx hp a0 a1 a2 a3 a4 a5 a6 a7 a8 a9 b0 b1 b2 b3 b4 b5 x0 x1 x2 x3 x4 x5 x6 x7 x8 x9 y0 y1 y2 y3 y4 y5 0 0 .nil,.int .i64 at',.int .i64 0])))
  (k:O.dr at' (.int .u8 first::B)=P) :
  Good 38 (nu [.lst none (.int .u8 first::B),dvS e1,dvS e2,.lst (some 20) [],.int .i64 0] (.tup [pkS cl fl nx hp a0 a1 a2 a3 a4 a5 a6 a7 a8 a9 b0 b1 b2 b3 b4 b5 x0 x1 x2 x3 x4 x5 x6 x7 x8 x9 y0 y1 y2 y3 y4 y5 0 0 (.row 1),.int .i64 0]) (.row none 5 P)):=by
 have hm:=H.hn
 have gz:=psize_c cl fl nx hp a0 a1 a2 a3 a4 a5 a6 a7 a8 a9 b0 b1 b2 b3 b4 b5 x0 x1 x2 x3 x4 x5 x6 x7 x8 x9 y0 y1 y2 y3 y4 y5 0 0 P _ rfl (by omega)
 rw [if_neg hnx] at gz
 obtain ⟨n,hn⟩:∃ n:Int,(P.length:Int)=n:=⟨_,rfl⟩
 rw [hn] at gz
 have hnb:0≤n∧n≤1240:=by omega
 obtain ⟨zz,hzz⟩:∃ z:Int,z=40+n+0:=⟨_,rfl⟩
 rw [← hzz] at gz
 replace k:(Classical.choice lo_ex).dr at' (.int .u8 first::B)=P:=k
 obtain ⟨hfl,hnxb⟩:=(⟨H.hfl,H.hnx⟩:_∧_)
 clear H
 refine Good.of Tryz.func38 rfl (by rfl) (by kernel_rfl) ?_
 cbv
 have hmk:True:=trivial
 (repeat' (first
| ((first
| (simp only [k])
| (refine q1w (fun z hz=>?_);(try simp [oln,Int.max_def,Int.min_def] at hz);(with_reducible refine litk hz ?_ ?_);(focus decide);subst hz)
| (refine q1w (fun z hz=>?_);(try simp only [Int.reduceToNat,Int.reducePow] at hz))
| refine td ?_
| refine fd ?_
| refine rqa ?_
| refine vI ?_
| refine vA ?_
| refine vS ?_
| refine vR ?_
| refine callq (gd) rfl rfl ?_
| refine callq (gz) rfl rfl ?_
| refine chpB ?_
| refine QCt ?_
| refine QCf ?_);cbv)
| (refine QC.mk ?_ ?_ <;> intro hc <;> (try dsimp only at hc) <;> cbv)
| (refine br_mk2 ?_ ?_ <;> intro hb <;> (try subst hb) <;> cbv)))
 refine ⟨rfl,congrArg (fun l=>Blk.row none _ l) (copyAll _ _ _ (by assumption)),rfl⟩
end
end Go.Proofs.YtgfpjhddojhfpaaGreat
