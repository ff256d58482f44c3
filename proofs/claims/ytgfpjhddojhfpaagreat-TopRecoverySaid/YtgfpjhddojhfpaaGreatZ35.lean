/- Texts put together: ER. -/
import Derived.Test.YtgfpjhddojhfpaaGreatZ03
import Derived.Test.YtgfpjhddojhfpaaGreatZ33
namespace Go.Proofs.YtgfpjhddojhfpaaGreat
set_option linter.unusedVariables false
set_option linter.unusedSimpArgs false
section
open Go.RowKit
set_option maxHeartbeats 4000000
set_option maxRecDepth 100000
structure FE (first f n h cl fl nx hp q0 q1 q2:Int) (R:List SV):Prop where
 a:first=96+8 * f+4 * n+h
 r:∃ A N H:List SV,R=A++(N++H) ∧
  (f=0∧cl≠0∧fl≠0∧A=[.int .u8 cl,.int .u8 q0,.int .u8 q1,.int .u8 q2]∨f=1∧cl=0∧fl≠0∧A=[.int .u8 q0,.int .u8 q1,.int .u8 q2]∨f=2∧cl≠0∧fl=0∧A=[.int .u8 cl]∨f=3∧cl=0∧fl=0∧A=[]) ∧
  (n=0∧nx≠17∧N=[.int .u8 nx]∨n=1∧nx=17∧N=[]) ∧
  (h=0∧(hp≠1∧hp≠64∧hp≠255)∧H=[.int .u8 hp]∨h=1∧hp=1∧H=[]∨h=2∧hp=64∧H=[]∨h=3∧hp=255∧H=[])
theorem efields_c (first f n h q0 q1 q2 cl fl nx hp a0 a1 a2 a3 a4 a5 a6 a7 a8 a9 b0 b1 b2 b3 b4 b5 x0 x1 x2 x3 x4 x5 x6 x7 x8 x9 y0 y1 y2 y3 y4 y5 sp dp:Int) (P R:List SV) (hF:FE first f n h cl fl nx hp q0 q1 q2 R) (cb:UInt8) (hcb:cl=(cb.toNat:Int)) (hq:[SV.int .u8 q0,.int .u8 q1,.int .u8 q2]=u8l (bytesOf fl 3)) (hfl:0≤fl∧fl≤1048575) :
  Good 134 (pu [pkS cl fl nx hp a0 a1 a2 a3 a4 a5 a6 a7 a8 a9 b0 b1 b2 b3 b4 b5 x0 x1 x2 x3 x4 x5 x6 x7 x8 x9 y0 y1 y2 y3 y4 y5 sp dp (.lst none P)] (.tup [.int .i64 first,.lst none R])):=by
 have gT:=iflag_c true 4 4 rfl
 have gF:=iflag_c false 4 0 rfl
 have g0:=append_c [cb] [.int .u8 cl] [SV.int .u8 cl,.int .u8 q0,.int .u8 q1,.int .u8 q2] fl 3 3 (by rw [hcb];rfl) rfl (by omega) (by omega) (by simp) (by rw [← u8l_app,← hq,hcb];rfl)
 have g1:=append_c [] [] [SV.int .u8 q0,.int .u8 q1,.int .u8 q2] fl 3 3 rfl rfl (by omega) (by omega) (by simp) (by rw [List.nil_append];exact hq)
 have hcl:0≤cl∧cl≤255:=by have:=cb.toNat_lt;omega
 obtain ⟨ha,A,N,H,hR,h1,h2,h3⟩:=hF
 clear hq hcb
 rcases h1 with ⟨rfl,h1,h4,rfl⟩ | ⟨rfl,rfl,h4,rfl⟩ | ⟨rfl,h1,rfl,rfl⟩ | ⟨rfl,rfl,rfl,rfl⟩ <;> rcases h2 with ⟨rfl,h2,rfl⟩ | ⟨rfl,rfl,rfl⟩ <;> rcases h3 with ⟨rfl,h3,rfl⟩ | ⟨rfl,rfl,rfl⟩ | ⟨rfl,rfl,rfl⟩ | ⟨rfl,rfl,rfl⟩
 all_goals (simp only [List.cons_append,List.nil_append] at hR;subst hR;simp at ha;subst ha)
 all_goals try refine Good.res (r:=.tup [.int .i64 _,.nil]) ?_ (Wk.tup ⟨Wk.rfl' _,Wk.nil _,trivial⟩)
 all_goals
  refine Good.of Tryz.func134 rfl (by rfl) (by kernel_rfl) ?_
  cbv
  have hmk:True:=trivial
  (try (simp only [cwn];cbv));(repeat' (first
| ((first
| (refine q1w (fun z hz=>?_);(have e:fl=z:=by omega);subst e)
| (refine q1w (fun z hz=>?_);(try simp [oln,Int.max_def,Int.min_def] at hz);(with_reducible refine litk hz ?_ ?_);(focus decide);subst hz)
| (refine q1w (fun z hz=>?_);(try simp only [Int.reduceToNat,Int.reducePow] at hz))
| refine td ?_
| refine fd ?_
| refine rqa ?_
| refine vI ?_
| refine vA ?_
| refine vS ?_
| refine vR ?_
| refine callq (gT) rfl rfl ?_
| refine callq (gF) rfl rfl ?_
| refine callq (g0) rfl rfl ?_
| refine callq (g1) rfl rfl ?_
| refine chpB ?_
| refine QCt ?_
| refine QCf ?_);cbv;(try (simp only [cwn];cbv)))
| (simp only [cwn];cbv)
| (refine QC.mk ?_ ?_ <;> intro hc <;> (try dsimp only at hc) <;> cbv;(try (simp only [cwn];cbv)))
| (refine br_mk2 ?_ ?_ <;> intro hb <;> (try subst hb) <;> cbv;(try (simp only [cwn];cbv)))))
 all_goals exact ⟨rfl,rfl,rfl⟩
end
end Go.Proofs.YtgfpjhddojhfpaaGreat
