/- Texts put together: EH EJ. -/
import Derived.Test.YtgfpjhddojhfpaaGreatZ29
namespace Go.Proofs.YtgfpjhddojhfpaaGreat
set_option linter.unusedVariables false
set_option linter.unusedSimpArgs false
section
open Go.RowKit
set_option maxHeartbeats 4000000
set_option maxRecDepth 100000
theorem rgrp0 (B:List SV) (p q a0 a1 a2 a3 a4 a5 a6 a7 a8 a9 b0 b1 b2 b3 b4 b5:Int) (gp:Good 194 (le 233 (rdS B p) [] (.tup [ipS a0 a1 a2 a3 a4 a5 a6 a7 a8 a9 b0 b1 b2 b3 b4 b5,.int .i64 0]) (rdS B q))) (h0:a0=255) :
  Good 150 (le 233 (rdS B p) [.int .i64 0] (.tup [ipS a0 a1 a2 a3 a4 a5 a6 a7 a8 a9 b0 b1 b2 b3 b4 b5,.int .i64 0]) (rdS B q)):=by
 have gm:=imc_c a0 a1 a2 a3 a4 a5 a6 a7 a8 a9 b0 b1 b2 b3 b4 b5 true (by rw [decide_eq_true h0])
 refine Good.of Tryz.func150 rfl (by rfl) (by kernel_rfl) ?_
 cbv
 have hmk:True:=trivial
 exact wlkc
theorem rgrp3 (B:List SV) (p q v b5:Int) (gn:Good 190 (le 233 (rdS B p) [.int .i64 1] (.tup [.int .u64 v,.int .i64 0]) (rdS B q))) (hb:b5=v / 1 % 256) :
  Good 150 (le 233 (rdS B p) [.int .i64 3] (.tup [ipS 255 2 0 0 0 0 0 0 0 0 0 0 0 0 0 b5,.int .i64 0]) (rdS B q)):=by
 refine Good.of Tryz.func150 rfl (by rfl) (by kernel_rfl) ?_
 cbv
 have hmk:True:=trivial
 (try (simp only [cwn];cbv));(repeat' (first
| ((first
| (refine q1w (fun z hz=>?_);(try simp [oln,Int.max_def,Int.min_def] at hz);(with_reducible refine litk hz ?_ ?_);(focus decide);subst hz)
| (refine q1w (fun z hz=>?_);(try simp only [Int.reduceToNat,Int.reducePow] at hz))
| refine td ?_
| refine fd ?_
| refine rqa ?_
| refine vI ?_
| refine vA ?_
| refine vS ?_
| refine vR ?_
| refine callq (gn) rfl rfl ?_
| refine chpA ?_
| refine QCt ?_
| refine QCf ?_
| refine unrollq 400 ?_);cbv;(try (simp only [cwn];cbv)))
| (simp only [cwn];cbv)
| (refine QC.mk ?_ ?_ <;> intro hc <;> (try dsimp only at hc) <;> cbv;(try (simp only [cwn];cbv)))
| (refine br_mk2 ?_ ?_ <;> intro hb <;> (try subst hb) <;> cbv;(try (simp only [cwn];cbv)))))
 skip
 refine ⟨?_,rfl,rfl⟩
 exact congrArg (fun s=>SV.tup [s,.int .i64 0]) (by refine ip_ext ?_ ?_ ?_ ?_ ?_ ?_ ?_ ?_ ?_ ?_ ?_ ?_ ?_ ?_ ?_ ?_ <;> (subst_vars;rfl))
theorem rgrp2 (B:List SV) (p q v a1 b3 b4 b5:Int) (gn:Good 190 (le 233 (rdS B p) [.int .i64 4] (.tup [.int .u64 v,.int .i64 0]) (rdS B q))) (hb:a1=v / 16777216 % 256∧b3=v / 65536 % 256∧b4=v / 256 % 256∧b5=v / 1 % 256) :
  Good 150 (le 233 (rdS B p) [.int .i64 2] (.tup [ipS 255 a1 0 0 0 0 0 0 0 0 0 0 0 b3 b4 b5,.int .i64 0]) (rdS B q)):=by
 refine Good.of Tryz.func150 rfl (by rfl) (by kernel_rfl) ?_
 cbv
 have hmk:True:=trivial
 (try (simp only [cwn];cbv));(repeat' (first
| ((first
| (refine q1w (fun z hz=>?_);(try simp [oln,Int.max_def,Int.min_def] at hz);(with_reducible refine litk hz ?_ ?_);(focus decide);subst hz)
| (refine q1w (fun z hz=>?_);(try simp only [Int.reduceToNat,Int.reducePow] at hz))
| refine td ?_
| refine fd ?_
| refine rqa ?_
| refine vI ?_
| refine vA ?_
| refine vS ?_
| refine vR ?_
| refine callq (gn) rfl rfl ?_
| refine chpA ?_
| refine QCt ?_
| refine QCf ?_
| refine unrollq 400 ?_);cbv;(try (simp only [cwn];cbv)))
| (simp only [cwn];cbv)
| (refine QC.mk ?_ ?_ <;> intro hc <;> (try dsimp only at hc) <;> cbv;(try (simp only [cwn];cbv)))
| (refine br_mk2 ?_ ?_ <;> intro hb <;> (try subst hb) <;> cbv;(try (simp only [cwn];cbv)))))
 obtain ⟨ha1,hb3,hb4,hb5⟩:=hb
 refine ⟨?_,rfl,rfl⟩
 exact congrArg (fun s=>SV.tup [s,.int .i64 0]) (by refine ip_ext ?_ ?_ ?_ ?_ ?_ ?_ ?_ ?_ ?_ ?_ ?_ ?_ ?_ ?_ ?_ ?_ <;> (subst_vars;rfl))
theorem rgrp1 (B:List SV) (p q v a1 b1 b2 b3 b4 b5:Int) (gn:Good 190 (le 233 (rdS B p) [.int .i64 6] (.tup [.int .u64 v,.int .i64 0]) (rdS B q))) (hb:a1=v / 1099511627776 % 256∧b1=v / 4294967296 % 256∧b2=v / 16777216 % 256∧b3=v / 65536 % 256∧b4=v / 256 % 256∧b5=v / 1 % 256) :
  Good 150 (le 233 (rdS B p) [.int .i64 1] (.tup [ipS 255 a1 0 0 0 0 0 0 0 0 0 b1 b2 b3 b4 b5,.int .i64 0]) (rdS B q)):=by
 refine Good.of Tryz.func150 rfl (by rfl) (by kernel_rfl) ?_
 cbv
 have hmk:True:=trivial
 (try (simp only [cwn];cbv));(repeat' (first
| ((first
| (refine q1w (fun z hz=>?_);(try simp [oln,Int.max_def,Int.min_def] at hz);(with_reducible refine litk hz ?_ ?_);(focus decide);subst hz)
| (refine q1w (fun z hz=>?_);(try simp only [Int.reduceToNat,Int.reducePow] at hz))
| refine td ?_
| refine fd ?_
| refine rqa ?_
| refine vI ?_
| refine vA ?_
| refine vS ?_
| refine vR ?_
| refine callq (gn) rfl rfl ?_
| refine chpA ?_
| refine QCt ?_
| refine QCf ?_
| refine unrollq 400 ?_);cbv;(try (simp only [cwn];cbv)))
| (simp only [cwn];cbv)
| (refine QC.mk ?_ ?_ <;> intro hc <;> (try dsimp only at hc) <;> cbv;(try (simp only [cwn];cbv)))
| (refine br_mk2 ?_ ?_ <;> intro hb <;> (try subst hb) <;> cbv;(try (simp only [cwn];cbv)))))
 obtain ⟨ha1,hb1,hb2,hb3,hb4,hb5⟩:=hb
 refine ⟨?_,rfl,rfl⟩
 exact congrArg (fun s=>SV.tup [s,.int .i64 0]) (by refine ip_ext ?_ ?_ ?_ ?_ ?_ ?_ ?_ ?_ ?_ ?_ ?_ ?_ ?_ ?_ ?_ ?_ <;> (subst_vars;rfl))
end
section
open Go.RowKit
set_option maxHeartbeats 4000000
set_option maxRecDepth 100000
structure SHd (s c m mc m2:Int):Prop where
 r:0≤s∧s≤127
 a128:((s.toNat &&& 128:Nat):Int)=0
 a64:((s.toNat &&& 64:Nat):Int)=c
 a8:((s.toNat &&& 8:Nat):Int)=mc
 a4:((s.toNat &&& 4:Nat):Int)=0
 a3:((s.toNat &&& 3:Nat):Int)=m2
 m3:(((s / 16).toNat &&& 3:Nat):Int)=m
theorem start_c (first s c m mc m2:Int) (H:SHd s c m mc m2) (hf:96≤first∧first≤127) (B:List SV) (p1 p2:Int)
  (g1:Good 190 (le 233 (rdS B 0) [.int .i64 1] (.tup [.int .u64 first,.int .i64 0]) (rdS B p1))) (g2:Good 190 (le 233 (rdS B p1) [.int .i64 1] (.tup [.int .u64 s,.int .i64 0]) (rdS B p2))) :
  Good 144 (le 233 (rdS B 0) [] (.tup [.int .i64 first,.int .i64 s,.int .i64 0,.int .i64 0]) (rdS B p2)):=by
 obtain ⟨r,a128,a64,a8,a4,a3,m3⟩:=H
 refine Good.of Tryz.func144 rfl (by rfl) (by kernel_rfl) ?_
 cbv
 have hmk:True:=trivial
 (try (simp only [cwn];cbv));(repeat' (first
| ((first
| (refine q1w (fun z hz=>?_);(try simp [oln,Int.max_def,Int.min_def] at hz);(with_reducible refine litk hz ?_ ?_);(focus decide);subst hz)
| (refine q1w (fun z hz=>?_);(try simp only [Int.reduceToNat,Int.reducePow] at hz))
| refine td ?_
| refine fd ?_
| refine rqa ?_
| refine vI ?_
| refine vA ?_
| refine vS ?_
| refine vR ?_
| refine callq (g1) rfl rfl ?_
| refine callq (g2) rfl rfl ?_
| refine chpA ?_
| refine QCt ?_
| refine QCf ?_);cbv;(try (simp only [cwn];cbv)))
| (simp only [cwn];cbv)
| (refine QC.mk ?_ ?_ <;> intro hc <;> (try dsimp only at hc) <;> cbv;(try (simp only [cwn];cbv)))
| (refine br_mk2 ?_ ?_ <;> intro hb <;> (try subst hb) <;> cbv;(try (simp only [cwn];cbv)))))
 all_goals exact ⟨rfl,rfl,rfl⟩
theorem chk_c (e1 e2:Int):Good 133 (pu [dvS e1,dvS e2,.lst (some 20) [],.int .i64 0] (.int .i64 0)):=by
 have g1:=avalid_c 3 0 e1 true rfl
 have g2:=avalid_c 3 0 e2 true rfl
 refine Good.of Tryz.func133 rfl (by rfl) (by kernel_rfl) ?_
 cbv
 have hmk:True:=trivial
 have a2:=cvalid0
 exact wlkc
theorem find_c:Good 146 (pu [.int .i64 0,.eptr none (.lst (some 20) []) 0,.eptr none (.int .i64 0) 0] fndS):=by
 refine Good.of Tryz.func146 rfl (by rfl) (by kernel_rfl) ?_
 cbv
 have hmk:True:=trivial
 exact wlkc
end
end Go.Proofs.YtgfpjhddojhfpaaGreat
