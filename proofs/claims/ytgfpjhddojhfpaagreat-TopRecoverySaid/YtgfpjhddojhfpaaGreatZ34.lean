/- Texts put together: EP EQ. -/
import Derived.Test.YtgfpjhddojhfpaaGreatZ33
namespace Go.Proofs.YtgfpjhddojhfpaaGreat
set_option linter.unusedVariables false
set_option linter.unusedSimpArgs false
section
open Go.RowKit
set_option maxHeartbeats 4000000
set_option maxRecDepth 100000
theorem within2_c (v f c:Int) (r:Bool) (hv:0≤v∧v≤65535) (hf:0≤f∧f≤65535) (hc:0≤c∧c≤65535) (hr:r=decide (f≤v∧v < f+c)):Good 139 (pu [.int .u16 v,.int .i64 f,.int .i64 c] (.bool r)):=by
 refine Good.of Tryz.func139 rfl (by rfl) (by kernel_rfl) ?_
 cbv
 have hmk:True:=trivial
 (try (simp only [cwn];cbv));(repeat' (first
| ((first
| (refine q1w (fun z hz=>?_);(try simp [oln,Int.max_def,Int.min_def] at hz);(with_reducible refine litk hz ?_ ?_);(focus decide);subst hz)
| (refine q1w (fun z hz=>?_);(replace hz:=remP hz (by omega)))
| (refine q1w (fun z hz=>?_);(replace hz:=quoP hz (by omega)))
| (refine q1w (fun z hz=>?_);(replace hz:=modP hz (by omega)))
| (refine q1w (fun z hz=>?_);(try simp only [Int.reduceToNat,Int.reducePow] at hz))
| refine td ?_
| refine fd ?_
| refine rqa ?_
| refine vI ?_
| refine vA ?_
| refine vS ?_
| refine vR ?_
| refine chpA ?_
| refine QCt ?_
| refine QCf ?_);cbv;(try (simp only [cwn];cbv)))
| (simp only [cwn];cbv)
| (refine QC.mk ?_ ?_ <;> intro hc <;> (try dsimp only at hc) <;> cbv;(try (simp only [cwn];cbv)))
| (refine br_mk2 ?_ ?_ <;> intro hb <;> (try subst hb) <;> cbv;(try (simp only [cwn];cbv)))))
 all_goals (refine ⟨?_,rfl,rfl⟩;rw [hr];first | rw [decide_eq_true (by omega)] | rw [decide_eq_false (by omega)])
theorem addu_c (v n:Int) (X R:List SV) (g:Good 85 (nu [.lst none X,.int .u64 v,.int .i64 n] (.row 1) (.row none 5 R))):Good 140 (gC [.int .u64 v,.int .i64 n,.ptr 902 0] [(902,30,.lst none X,.row 1)] (.tup []) (.row none 5 R)):=by
 refine Good.ofG Tryz.func140 rfl (by rfl) (by kernel_rfl) ?_
 cbv
 have hmk:True:=trivial
 exact wlkc
theorem udp3_c (cl fl hp a0 a1 a2 a3 a4 a5 a6 a7 a8 a9 b0 b1 b2 b3 b4 b5 x0 x1 x2 x3 x4 x5 x6 x7 x8 x9 y0 y1 y2 y3 y4 y5 sp dp S:Int) (P X R1 R2 R3:List SV) (hsp:0≤sp∧sp≤65535) (hdp:0≤dp∧dp≤65535) (hS:0≤S∧S≤65535) (hl:X.length≤2000) (hw:61616≤sp∧sp < 61632∧61616≤dp∧dp < 61632) (v2:Int) (hv2:v2=(sp - 61616) * 16+dp - 61616)
  (gs:Good 90 (pu [pkS cl fl 17 hp a0 a1 a2 a3 a4 a5 a6 a7 a8 a9 b0 b1 b2 b3 b4 b5 x0 x1 x2 x3 x4 x5 x6 x7 x8 x9 y0 y1 y2 y3 y4 y5 sp dp (.lst none P)] (.int .u16 S))) (h1:Good 85 (nu [.lst none X,.int .u64 243,.int .i64 1] (.row 1) (.row none 5 R1))) (h2:Good 85 (nu [.lst none R1,.int .u64 v2,.int .i64 1] (.row 1) (.row none 5 R2))) (h3:Good 85 (nu [.lst none R2,.int .u64 S,.int .i64 2] (.row 1) (.row none 5 R3))) :
  Good 74 (nu [.lst none X,pkS cl fl 17 hp a0 a1 a2 a3 a4 a5 a6 a7 a8 a9 b0 b1 b2 b3 b4 b5 x0 x1 x2 x3 x4 x5 x6 x7 x8 x9 y0 y1 y2 y3 y4 y5 sp dp (.lst none P)] (.row 1) (.row none 5 R3)):=by
 have a1_:=addu_c _ _ _ _ h1
 have a2_:=addu_c _ _ _ _ h2
 have a3_:=addu_c _ _ _ _ h3
 have w1:=within2_c sp 61616 16 true (by omega) (by omega) (by omega) (by rw [decide_eq_true (by omega)])
 have w2:=within2_c dp 61616 16 true (by omega) (by omega) (by omega) (by rw [decide_eq_true (by omega)])
 have w3:=within2_c dp 61440 256 _ (by omega) (by omega) (by omega) rfl
 have w4:=within2_c sp 61440 256 _ (by omega) (by omega) (by omega) rfl
 refine Good.of Tryz.func74 rfl (by rfl) (by kernel_rfl) ?_
 cbv
 have hmk:True:=trivial
 (try (simp only [cwn];cbv));(repeat' (first
| ((first
| (refine q1w (fun z hz=>?_);(have e:S=z:=by omega);subst e)
| (refine q1w (fun z hz=>?_);(have e:v2=z:=by omega);subst e)
| (refine q1w (fun z hz=>?_);(try simp [oln,Int.max_def,Int.min_def] at hz);(with_reducible refine litk hz ?_ ?_);(focus decide);subst hz)
| (refine q1w (fun z hz=>?_);(replace hz:=remP hz (by omega)))
| (refine q1w (fun z hz=>?_);(replace hz:=quoP hz (by omega)))
| (refine q1w (fun z hz=>?_);(replace hz:=modP hz (by omega)))
| (refine q1w (fun z hz=>?_);(try simp only [Int.reduceToNat,Int.reducePow] at hz))
| refine td ?_
| refine fd ?_
| refine rqa ?_
| refine vI ?_
| refine vA ?_
| refine vS ?_
| refine vR ?_
| refine genq (a1_) rfl rfl ?_
| refine genq (a2_) rfl rfl ?_
| refine genq (a3_) rfl rfl ?_
| refine callq (w1) rfl rfl ?_
| refine callq (w2) rfl rfl ?_
| refine callq (w3) rfl rfl ?_
| refine callq (w4) rfl rfl ?_
| refine callq (gs) rfl rfl ?_
| refine chpB ?_
| refine QCt ?_
| refine QCf ?_);cbv;(try (simp only [cwn];cbv)))
| (simp only [cwn];cbv)
| (refine QC.mk ?_ ?_ <;> intro hc <;> (try dsimp only at hc) <;> cbv;(try (simp only [cwn];cbv)))
| (refine br_mk2 ?_ ?_ <;> intro hb <;> (try subst hb) <;> cbv;(try (simp only [cwn];cbv)))))
 exact ⟨rfl,rfl,rfl⟩
theorem udp1_c (cl fl hp a0 a1 a2 a3 a4 a5 a6 a7 a8 a9 b0 b1 b2 b3 b4 b5 x0 x1 x2 x3 x4 x5 x6 x7 x8 x9 y0 y1 y2 y3 y4 y5 sp dp S:Int) (P X R1 R2 R3 R4:List SV) (hsp:0≤sp∧sp≤65535) (hdp:0≤dp∧dp≤65535) (hS:0≤S∧S≤65535) (hl:X.length≤2000) (hw:¬ (61616≤sp∧sp < 61632∧61616≤dp∧dp < 61632)∧(61440≤dp∧dp < 61696)) (v2:Int) (hv2:v2=dp - 61440)
  (gs:Good 90 (pu [pkS cl fl 17 hp a0 a1 a2 a3 a4 a5 a6 a7 a8 a9 b0 b1 b2 b3 b4 b5 x0 x1 x2 x3 x4 x5 x6 x7 x8 x9 y0 y1 y2 y3 y4 y5 sp dp (.lst none P)] (.int .u16 S))) (h1:Good 85 (nu [.lst none X,.int .u64 241,.int .i64 1] (.row 1) (.row none 5 R1))) (h2:Good 85 (nu [.lst none R1,.int .u64 sp,.int .i64 2] (.row 1) (.row none 5 R2))) (h3:Good 85 (nu [.lst none R2,.int .u64 v2,.int .i64 1] (.row 1) (.row none 5 R3))) (h4:Good 85 (nu [.lst none R3,.int .u64 S,.int .i64 2] (.row 1) (.row none 5 R4))) :
  Good 74 (nu [.lst none X,pkS cl fl 17 hp a0 a1 a2 a3 a4 a5 a6 a7 a8 a9 b0 b1 b2 b3 b4 b5 x0 x1 x2 x3 x4 x5 x6 x7 x8 x9 y0 y1 y2 y3 y4 y5 sp dp (.lst none P)] (.row 1) (.row none 5 R4)):=by
 have a1_:=addu_c _ _ _ _ h1
 have a2_:=addu_c _ _ _ _ h2
 have a3_:=addu_c _ _ _ _ h3
 have a4_:=addu_c _ _ _ _ h4
 obtain ⟨r1,e1⟩:∃ r,r=decide (61616≤sp∧sp < 61616+16):=⟨_,rfl⟩
 obtain ⟨r2,e2⟩:∃ r,r=decide (61616≤dp∧dp < 61616+16):=⟨_,rfl⟩
 have w1:=within2_c sp 61616 16 r1 (by omega) (by omega) (by omega) e1
 have w2:=within2_c dp 61616 16 r2 (by omega) (by omega) (by omega) e2
 have key:r1=false∨r1=true∧r2=false:=by
  by_cases h:61616≤sp∧sp < 61616+16
  ·exact .inr ⟨by rw [e1,decide_eq_true h],by rw [e2,decide_eq_false (by omega)]⟩
  ·exact .inl (by rw [e1,decide_eq_false h])
 have w3:=within2_c dp 61440 256 true (by omega) (by omega) (by omega) (by rw [decide_eq_true (by omega)])
 have w4:=within2_c sp 61440 256 _ (by omega) (by omega) (by omega) rfl
 replace hw:=hw.2
 clear e1 e2
 rcases key with rfl | ⟨rfl,rfl⟩
 all_goals
  refine Good.of Tryz.func74 rfl (by rfl) (by kernel_rfl) ?_
  cbv
  have hmk:True:=trivial
  (try (simp only [cwn];cbv));(repeat' (first
| ((first
| (refine q1w (fun z hz=>?_);(have e:S=z:=by omega);subst e)
| (refine q1w (fun z hz=>?_);(have e:sp=z:=by omega);subst e)
| (refine q1w (fun z hz=>?_);(have e:v2=z:=by omega);subst e)
| (refine q1w (fun z hz=>?_);(try simp [oln,Int.max_def,Int.min_def] at hz);(with_reducible refine litk hz ?_ ?_);(focus decide);subst hz)
| (refine q1w (fun z hz=>?_);(replace hz:=remP hz (by omega)))
| (refine q1w (fun z hz=>?_);(replace hz:=quoP hz (by omega)))
| (refine q1w (fun z hz=>?_);(replace hz:=modP hz (by omega)))
| (refine q1w (fun z hz=>?_);(try simp only [Int.reduceToNat,Int.reducePow] at hz))
| refine td ?_
| refine fd ?_
| refine rqa ?_
| refine vI ?_
| refine vA ?_
| refine vS ?_
| refine vR ?_
| refine genq (a1_) rfl rfl ?_
| refine genq (a2_) rfl rfl ?_
| refine genq (a3_) rfl rfl ?_
| refine genq (a4_) rfl rfl ?_
| refine callq (w1) rfl rfl ?_
| refine callq (w2) rfl rfl ?_
| refine callq (w3) rfl rfl ?_
| refine callq (w4) rfl rfl ?_
| refine callq (gs) rfl rfl ?_
| refine chpB ?_
| refine QCt ?_
| refine QCf ?_);cbv;(try (simp only [cwn];cbv)))
| (simp only [cwn];cbv)
| (refine QC.mk ?_ ?_ <;> intro hc <;> (try dsimp only at hc) <;> cbv;(try (simp only [cwn];cbv)))
| (refine br_mk2 ?_ ?_ <;> intro hb <;> (try subst hb) <;> cbv;(try (simp only [cwn];cbv)))))
  exact ⟨rfl,rfl,rfl⟩
theorem udp2_c (cl fl hp a0 a1 a2 a3 a4 a5 a6 a7 a8 a9 b0 b1 b2 b3 b4 b5 x0 x1 x2 x3 x4 x5 x6 x7 x8 x9 y0 y1 y2 y3 y4 y5 sp dp S:Int) (P X R1 R2 R3 R4:List SV) (hsp:0≤sp∧sp≤65535) (hdp:0≤dp∧dp≤65535) (hS:0≤S∧S≤65535) (hl:X.length≤2000) (hw:¬ (61616≤sp∧sp < 61632∧61616≤dp∧dp < 61632)∧¬ (61440≤dp∧dp < 61696)∧(61440≤sp∧sp < 61696)) (v2:Int) (hv2:v2=sp - 61440)
  (gs:Good 90 (pu [pkS cl fl 17 hp a0 a1 a2 a3 a4 a5 a6 a7 a8 a9 b0 b1 b2 b3 b4 b5 x0 x1 x2 x3 x4 x5 x6 x7 x8 x9 y0 y1 y2 y3 y4 y5 sp dp (.lst none P)] (.int .u16 S))) (h1:Good 85 (nu [.lst none X,.int .u64 242,.int .i64 1] (.row 1) (.row none 5 R1))) (h2:Good 85 (nu [.lst none R1,.int .u64 v2,.int .i64 1] (.row 1) (.row none 5 R2))) (h3:Good 85 (nu [.lst none R2,.int .u64 dp,.int .i64 2] (.row 1) (.row none 5 R3))) (h4:Good 85 (nu [.lst none R3,.int .u64 S,.int .i64 2] (.row 1) (.row none 5 R4))) :
  Good 74 (nu [.lst none X,pkS cl fl 17 hp a0 a1 a2 a3 a4 a5 a6 a7 a8 a9 b0 b1 b2 b3 b4 b5 x0 x1 x2 x3 x4 x5 x6 x7 x8 x9 y0 y1 y2 y3 y4 y5 sp dp (.lst none P)] (.row 1) (.row none 5 R4)):=by
 have a1_:=addu_c _ _ _ _ h1
 have a2_:=addu_c _ _ _ _ h2
 have a3_:=addu_c _ _ _ _ h3
 have a4_:=addu_c _ _ _ _ h4
 obtain ⟨r1,e1⟩:∃ r,r=decide (61616≤sp∧sp < 61616+16):=⟨_,rfl⟩
 obtain ⟨r2,e2⟩:∃ r,r=decide (61616≤dp∧dp < 61616+16):=⟨_,rfl⟩
 have w1:=within2_c sp 61616 16 r1 (by omega) (by omega) (by omega) e1
 have w2:=within2_c dp 61616 16 r2 (by omega) (by omega) (by omega) e2
 have key:r1=false∨r1=true∧r2=false:=by
  by_cases h:61616≤sp∧sp < 61616+16
  ·exact .inr ⟨by rw [e1,decide_eq_true h],by rw [e2,decide_eq_false (by omega)]⟩
  ·exact .inl (by rw [e1,decide_eq_false h])
 have w3:=within2_c dp 61440 256 false (by omega) (by omega) (by omega) (by rw [decide_eq_false (by omega)])
 have w4:=within2_c sp 61440 256 true (by omega) (by omega) (by omega) (by rw [decide_eq_true (by omega)])
 replace hw:=hw.2.2
 clear e1 e2
 rcases key with rfl | ⟨rfl,rfl⟩
 all_goals
  refine Good.of Tryz.func74 rfl (by rfl) (by kernel_rfl) ?_
  cbv
  have hmk:True:=trivial
  (try (simp only [cwn];cbv));(repeat' (first
| ((first
| (refine q1w (fun z hz=>?_);(have e:S=z:=by omega);subst e)
| (refine q1w (fun z hz=>?_);(have e:v2=z:=by omega);subst e)
| (refine q1w (fun z hz=>?_);(have e:dp=z:=by omega);subst e)
| (refine q1w (fun z hz=>?_);(try simp [oln,Int.max_def,Int.min_def] at hz);(with_reducible refine litk hz ?_ ?_);(focus decide);subst hz)
| (refine q1w (fun z hz=>?_);(replace hz:=remP hz (by omega)))
| (refine q1w (fun z hz=>?_);(replace hz:=quoP hz (by omega)))
| (refine q1w (fun z hz=>?_);(replace hz:=modP hz (by omega)))
| (refine q1w (fun z hz=>?_);(try simp only [Int.reduceToNat,Int.reducePow] at hz))
| refine td ?_
| refine fd ?_
| refine rqa ?_
| refine vI ?_
| refine vA ?_
| refine vS ?_
| refine vR ?_
| refine genq (a1_) rfl rfl ?_
| refine genq (a2_) rfl rfl ?_
| refine genq (a3_) rfl rfl ?_
| refine genq (a4_) rfl rfl ?_
| refine callq (w1) rfl rfl ?_
| refine callq (w2) rfl rfl ?_
| refine callq (w3) rfl rfl ?_
| refine callq (w4) rfl rfl ?_
| refine callq (gs) rfl rfl ?_
| refine chpB ?_
| refine QCt ?_
| refine QCf ?_);cbv;(try (simp only [cwn];cbv)))
| (simp only [cwn];cbv)
| (refine QC.mk ?_ ?_ <;> intro hc <;> (try dsimp only at hc) <;> cbv;(try (simp only [cwn];cbv)))
| (refine br_mk2 ?_ ?_ <;> intro hb <;> (try subst hb) <;> cbv;(try (simp only [cwn];cbv)))))
  exact ⟨rfl,rfl,rfl⟩
theorem udp0_c (cl fl hp a0 a1 a2 a3 a4 a5 a6 a7 a8 a9 b0 b1 b2 b3 b4 b5 x0 x1 x2 x3 x4 x5 x6 x7 x8 x9 y0 y1 y2 y3 y4 y5 sp dp S:Int) (P X R1 R2 R3 R4:List SV) (hsp:0≤sp∧sp≤65535) (hdp:0≤dp∧dp≤65535) (hS:0≤S∧S≤65535) (hl:X.length≤2000) (hw:¬ (61616≤sp∧sp < 61632∧61616≤dp∧dp < 61632)∧¬ (61440≤dp∧dp < 61696)∧¬ (61440≤sp∧sp < 61696))
  (gs:Good 90 (pu [pkS cl fl 17 hp a0 a1 a2 a3 a4 a5 a6 a7 a8 a9 b0 b1 b2 b3 b4 b5 x0 x1 x2 x3 x4 x5 x6 x7 x8 x9 y0 y1 y2 y3 y4 y5 sp dp (.lst none P)] (.int .u16 S))) (h1:Good 85 (nu [.lst none X,.int .u64 240,.int .i64 1] (.row 1) (.row none 5 R1))) (h2:Good 85 (nu [.lst none R1,.int .u64 sp,.int .i64 2] (.row 1) (.row none 5 R2))) (h3:Good 85 (nu [.lst none R2,.int .u64 dp,.int .i64 2] (.row 1) (.row none 5 R3))) (h4:Good 85 (nu [.lst none R3,.int .u64 S,.int .i64 2] (.row 1) (.row none 5 R4))) :
  Good 74 (nu [.lst none X,pkS cl fl 17 hp a0 a1 a2 a3 a4 a5 a6 a7 a8 a9 b0 b1 b2 b3 b4 b5 x0 x1 x2 x3 x4 x5 x6 x7 x8 x9 y0 y1 y2 y3 y4 y5 sp dp (.lst none P)] (.row 1) (.row none 5 R4)):=by
 have a1_:=addu_c _ _ _ _ h1
 have a2_:=addu_c _ _ _ _ h2
 have a3_:=addu_c _ _ _ _ h3
 have a4_:=addu_c _ _ _ _ h4
 obtain ⟨r1,e1⟩:∃ r,r=decide (61616≤sp∧sp < 61616+16):=⟨_,rfl⟩
 obtain ⟨r2,e2⟩:∃ r,r=decide (61616≤dp∧dp < 61616+16):=⟨_,rfl⟩
 have w1:=within2_c sp 61616 16 r1 (by omega) (by omega) (by omega) e1
 have w2:=within2_c dp 61616 16 r2 (by omega) (by omega) (by omega) e2
 have key:r1=false∨r1=true∧r2=false:=by
  by_cases h:61616≤sp∧sp < 61616+16
  ·exact .inr ⟨by rw [e1,decide_eq_true h],by rw [e2,decide_eq_false (by omega)]⟩
  ·exact .inl (by rw [e1,decide_eq_false h])
 have w3:=within2_c dp 61440 256 false (by omega) (by omega) (by omega) (by rw [decide_eq_false (by omega)])
 have w4:=within2_c sp 61440 256 false (by omega) (by omega) (by omega) (by rw [decide_eq_false (by omega)])
 clear hw
 clear e1 e2
 rcases key with rfl | ⟨rfl,rfl⟩
 all_goals
  refine Good.of Tryz.func74 rfl (by rfl) (by kernel_rfl) ?_
  cbv
  have hmk:True:=trivial
  (try (simp only [cwn];cbv));(repeat' (first
| ((first
| (refine q1w (fun z hz=>?_);(have e:S=z:=by omega);subst e)
| (refine q1w (fun z hz=>?_);(have e:sp=z:=by omega);subst e)
| (refine q1w (fun z hz=>?_);(have e:dp=z:=by omega);subst e)
| (refine q1w (fun z hz=>?_);(try simp [oln,Int.max_def,Int.min_def] at hz);(with_reducible refine litk hz ?_ ?_);(focus decide);subst hz)
| (refine q1w (fun z hz=>?_);(replace hz:=remP hz (by omega)))
| (refine q1w (fun z hz=>?_);(replace hz:=quoP hz (by omega)))
| (refine q1w (fun z hz=>?_);(replace hz:=modP hz (by omega)))
| (refine q1w (fun z hz=>?_);(try simp only [Int.reduceToNat,Int.reducePow] at hz))
| refine td ?_
| refine fd ?_
| refine rqa ?_
| refine vI ?_
| refine vA ?_
| refine vS ?_
| refine vR ?_
| refine genq (a1_) rfl rfl ?_
| refine genq (a2_) rfl rfl ?_
| refine genq (a3_) rfl rfl ?_
| refine genq (a4_) rfl rfl ?_
| refine callq (w1) rfl rfl ?_
| refine callq (w2) rfl rfl ?_
| refine callq (w3) rfl rfl ?_
| refine callq (w4) rfl rfl ?_
| refine callq (gs) rfl rfl ?_
| refine chpB ?_
| refine QCt ?_
| refine QCf ?_);cbv;(try (simp only [cwn];cbv)))
| (simp only [cwn];cbv)
| (refine QC.mk ?_ ?_ <;> intro hc <;> (try dsimp only at hc) <;> cbv;(try (simp only [cwn];cbv)))
| (refine br_mk2 ?_ ?_ <;> intro hb <;> (try subst hb) <;> cbv;(try (simp only [cwn];cbv)))))
  exact ⟨rfl,rfl,rfl⟩
end
section
open Go.RowKit
set_option maxHeartbeats 4000000
set_option maxRecDepth 100000
theorem takeu_c (B:List SV) (p q n v:Int) (hq:q=p+n) (hp:0≤p∧p≤5000) (hn:0≤n∧n≤8) (g:Good 84 (pu [.lst none B,.int .i64 p,.int .i64 n] (.tup [.int .u64 v,.bool true]))):Good 151 (gC [.int .i64 n,.ptr 901 0,.ptr 902 0,.ptr 903 0] [(901,30,.lst none (B),.lst none (B)),(902,3,.int .i64 p,.int .i64 q),(903,45,.int .i64 0,.int .i64 0)] (.int .u64 v) .no):=by
 refine Good.ofG Tryz.func151 rfl (by rfl) (by kernel_rfl) ?_
 cbv
 have hmk:True:=trivial
 (try (simp only [cwn];cbv));(repeat' (first
| ((first
| (refine q1w (fun z hz=>?_);(have e:q=z:=by omega);subst e)
| refine td ?_
| refine fd ?_
| (refine q1w (fun z hz=>?_);(simp [oln,Int.max_def,Int.min_def] at hz);subst hz)
| (refine q1w (fun z hz=>?_);(try simp only at hz))
| refine rqa ?_
| refine vI ?_
| refine vA ?_
| refine vS ?_
| refine vR ?_
| refine callq (g) rfl rfl ?_
| refine chpA ?_
| refine QCt ?_
| refine QCf ?_);cbv;(try (simp only [cwn];cbv)))
| (simp only [cwn];cbv)
| (refine QC.mk ?_ ?_ <;> intro hc <;> (try dsimp only at hc) <;> cbv;(try (simp only [cwn];cbv)))
| (refine br_mk2 ?_ ?_ <;> intro hb <;> (try subst hb) <;> cbv;(try (simp only [cwn];cbv)))))
 exact ⟨rfl,rfl,rfl⟩
theorem rudp3 (B:List SV) (sp dp S v1 v2:Int) (hsp:0≤sp∧sp≤65535) (hdp:0≤dp∧dp≤65535) (hS:0≤S∧S≤65535) (hv:v1=(sp - 61616) * 16+dp - 61616) (h1:61616≤sp∧sp < 61632) (h2:61616≤dp∧dp < 61632) (t1:Good 151 (gC [.int .i64 1,.ptr 901 0,.ptr 902 0,.ptr 903 0] [(901,30,.lst none (.int .u8 243::B),.lst none (.int .u8 243::B)),(902,3,.int .i64 1,.int .i64 2),(903,45,.int .i64 0,.int .i64 0)] (.int .u64 v1) .no)) (t2:Good 151 (gC [.int .i64 2,.ptr 901 0,.ptr 902 0,.ptr 903 0] [(901,30,.lst none (.int .u8 243::B),.lst none (.int .u8 243::B)),(902,3,.int .i64 2,.int .i64 4),(903,45,.int .i64 0,.int .i64 0)] (.int .u64 S) .no)) :
  Good 88 (pu [.lst none (.int .u8 243::B)] (.tup [.int .u16 sp,.int .u16 dp,.int .u16 S,.int .i64 4,.int .i64 0])):=by
 refine Good.of Tryz.func88 rfl (by rfl) (by kernel_rfl) ?_
 cbv
 have hmk:True:=trivial
 (try (simp only [cwn];cbv));(repeat' (first
| ((first
| (refine q1w (fun z hz=>?_);(have e:sp=z:=by omega);subst e)
| (refine q1w (fun z hz=>?_);(have e:dp=z:=by omega);subst e)
| (refine q1w (fun z hz=>?_);(have e:S=z:=by omega);subst e)
| (refine q1w (fun z hz=>?_);(try simp [oln,Int.max_def,Int.min_def] at hz);(with_reducible refine litk hz ?_ ?_);(focus decide);subst hz)
| (refine q1w (fun z hz=>?_);(replace hz:=remP hz (by omega)))
| (refine q1w (fun z hz=>?_);(replace hz:=quoP hz (by omega)))
| (refine q1w (fun z hz=>?_);(replace hz:=modP hz (by omega)))
| (refine q1w (fun z hz=>?_);(try simp only [Int.reduceToNat,Int.reducePow] at hz))
| refine td ?_
| refine fd ?_
| refine rqa ?_
| refine vI ?_
| refine vA ?_
| refine vS ?_
| refine vR ?_
| refine genq (t1) rfl rfl ?_
| refine genq (t2) rfl rfl ?_
| refine chpB ?_
| refine QCt ?_
| refine QCf ?_);cbv;(try (simp only [cwn];cbv)))
| (simp only [cwn];cbv)
| (refine QC.mk ?_ ?_ <;> intro hc <;> (try dsimp only at hc) <;> cbv;(try (simp only [cwn];cbv)))
| (refine br_mk2 ?_ ?_ <;> intro hb <;> (try subst hb) <;> cbv;(try (simp only [cwn];cbv)))))
 exact ⟨rfl,rfl,rfl⟩
theorem rudp1 (B:List SV) (sp dp S v1 v2:Int) (hsp:0≤sp∧sp≤65535) (hdp:0≤dp∧dp≤65535) (hS:0≤S∧S≤65535) (hv1:v1=sp) (hv2:v2=dp - 61440) (h2:61440≤dp∧dp < 61696) (t1:Good 151 (gC [.int .i64 2,.ptr 901 0,.ptr 902 0,.ptr 903 0] [(901,30,.lst none (.int .u8 241::B),.lst none (.int .u8 241::B)),(902,3,.int .i64 1,.int .i64 3),(903,45,.int .i64 0,.int .i64 0)] (.int .u64 v1) .no)) (t2:Good 151 (gC [.int .i64 1,.ptr 901 0,.ptr 902 0,.ptr 903 0] [(901,30,.lst none (.int .u8 241::B),.lst none (.int .u8 241::B)),(902,3,.int .i64 3,.int .i64 4),(903,45,.int .i64 0,.int .i64 0)] (.int .u64 v2) .no)) (t3:Good 151 (gC [.int .i64 2,.ptr 901 0,.ptr 902 0,.ptr 903 0] [(901,30,.lst none (.int .u8 241::B),.lst none (.int .u8 241::B)),(902,3,.int .i64 4,.int .i64 6),(903,45,.int .i64 0,.int .i64 0)] (.int .u64 S) .no)) :
  Good 88 (pu [.lst none (.int .u8 241::B)] (.tup [.int .u16 sp,.int .u16 dp,.int .u16 S,.int .i64 6,.int .i64 0])):=by
 refine Good.of Tryz.func88 rfl (by rfl) (by kernel_rfl) ?_
 cbv
 have hmk:True:=trivial
 (try (simp only [cwn];cbv));(repeat' (first
| ((first
| (refine q1w (fun z hz=>?_);(have e:sp=z:=by omega);subst e)
| (refine q1w (fun z hz=>?_);(have e:dp=z:=by omega);subst e)
| (refine q1w (fun z hz=>?_);(have e:S=z:=by omega);subst e)
| (refine q1w (fun z hz=>?_);(try simp [oln,Int.max_def,Int.min_def] at hz);(with_reducible refine litk hz ?_ ?_);(focus decide);subst hz)
| (refine q1w (fun z hz=>?_);(replace hz:=remP hz (by omega)))
| (refine q1w (fun z hz=>?_);(replace hz:=quoP hz (by omega)))
| (refine q1w (fun z hz=>?_);(replace hz:=modP hz (by omega)))
| (refine q1w (fun z hz=>?_);(try simp only [Int.reduceToNat,Int.reducePow] at hz))
| refine td ?_
| refine fd ?_
| refine rqa ?_
| refine vI ?_
| refine vA ?_
| refine vS ?_
| refine vR ?_
| refine genq (t1) rfl rfl ?_
| refine genq (t2) rfl rfl ?_
| refine genq (t3) rfl rfl ?_
| refine chpB ?_
| refine QCt ?_
| refine QCf ?_);cbv;(try (simp only [cwn];cbv)))
| (simp only [cwn];cbv)
| (refine QC.mk ?_ ?_ <;> intro hc <;> (try dsimp only at hc) <;> cbv;(try (simp only [cwn];cbv)))
| (refine br_mk2 ?_ ?_ <;> intro hb <;> (try subst hb) <;> cbv;(try (simp only [cwn];cbv)))))
 exact ⟨rfl,rfl,rfl⟩
theorem rudp2 (B:List SV) (sp dp S v1 v2:Int) (hsp:0≤sp∧sp≤65535) (hdp:0≤dp∧dp≤65535) (hS:0≤S∧S≤65535) (hv1:v1=sp - 61440) (hv2:v2=dp) (h2:61440≤sp∧sp < 61696) (t1:Good 151 (gC [.int .i64 1,.ptr 901 0,.ptr 902 0,.ptr 903 0] [(901,30,.lst none (.int .u8 242::B),.lst none (.int .u8 242::B)),(902,3,.int .i64 1,.int .i64 2),(903,45,.int .i64 0,.int .i64 0)] (.int .u64 v1) .no)) (t2:Good 151 (gC [.int .i64 2,.ptr 901 0,.ptr 902 0,.ptr 903 0] [(901,30,.lst none (.int .u8 242::B),.lst none (.int .u8 242::B)),(902,3,.int .i64 2,.int .i64 4),(903,45,.int .i64 0,.int .i64 0)] (.int .u64 v2) .no)) (t3:Good 151 (gC [.int .i64 2,.ptr 901 0,.ptr 902 0,.ptr 903 0] [(901,30,.lst none (.int .u8 242::B),.lst none (.int .u8 242::B)),(902,3,.int .i64 4,.int .i64 6),(903,45,.int .i64 0,.int .i64 0)] (.int .u64 S) .no)) :
  Good 88 (pu [.lst none (.int .u8 242::B)] (.tup [.int .u16 sp,.int .u16 dp,.int .u16 S,.int .i64 6,.int .i64 0])):=by
 refine Good.of Tryz.func88 rfl (by rfl) (by kernel_rfl) ?_
 cbv
 have hmk:True:=trivial
 (try (simp only [cwn];cbv));(repeat' (first
| ((first
| (refine q1w (fun z hz=>?_);(have e:sp=z:=by omega);subst e)
| (refine q1w (fun z hz=>?_);(have e:dp=z:=by omega);subst e)
| (refine q1w (fun z hz=>?_);(have e:S=z:=by omega);subst e)
| (refine q1w (fun z hz=>?_);(try simp [oln,Int.max_def,Int.min_def] at hz);(with_reducible refine litk hz ?_ ?_);(focus decide);subst hz)
| (refine q1w (fun z hz=>?_);(replace hz:=remP hz (by omega)))
| (refine q1w (fun z hz=>?_);(replace hz:=quoP hz (by omega)))
| (refine q1w (fun z hz=>?_);(replace hz:=modP hz (by omega)))
| (refine q1w (fun z hz=>?_);(try simp only [Int.reduceToNat,Int.reducePow] at hz))
| refine td ?_
| refine fd ?_
| refine rqa ?_
| refine vI ?_
| refine vA ?_
| refine vS ?_
| refine vR ?_
| refine genq (t1) rfl rfl ?_
| refine genq (t2) rfl rfl ?_
| refine genq (t3) rfl rfl ?_
| refine chpB ?_
| refine QCt ?_
| refine QCf ?_);cbv;(try (simp only [cwn];cbv)))
| (simp only [cwn];cbv)
| (refine QC.mk ?_ ?_ <;> intro hc <;> (try dsimp only at hc) <;> cbv;(try (simp only [cwn];cbv)))
| (refine br_mk2 ?_ ?_ <;> intro hb <;> (try subst hb) <;> cbv;(try (simp only [cwn];cbv)))))
 exact ⟨rfl,rfl,rfl⟩
theorem rudp0 (B:List SV) (sp dp S v1 v2:Int) (hsp:0≤sp∧sp≤65535) (hdp:0≤dp∧dp≤65535) (hS:0≤S∧S≤65535) (hv1:v1=sp) (hv2:v2=dp) (t1:Good 151 (gC [.int .i64 2,.ptr 901 0,.ptr 902 0,.ptr 903 0] [(901,30,.lst none (.int .u8 240::B),.lst none (.int .u8 240::B)),(902,3,.int .i64 1,.int .i64 3),(903,45,.int .i64 0,.int .i64 0)] (.int .u64 v1) .no)) (t2:Good 151 (gC [.int .i64 2,.ptr 901 0,.ptr 902 0,.ptr 903 0] [(901,30,.lst none (.int .u8 240::B),.lst none (.int .u8 240::B)),(902,3,.int .i64 3,.int .i64 5),(903,45,.int .i64 0,.int .i64 0)] (.int .u64 v2) .no)) (t3:Good 151 (gC [.int .i64 2,.ptr 901 0,.ptr 902 0,.ptr 903 0] [(901,30,.lst none (.int .u8 240::B),.lst none (.int .u8 240::B)),(902,3,.int .i64 5,.int .i64 7),(903,45,.int .i64 0,.int .i64 0)] (.int .u64 S) .no)) :
  Good 88 (pu [.lst none (.int .u8 240::B)] (.tup [.int .u16 sp,.int .u16 dp,.int .u16 S,.int .i64 7,.int .i64 0])):=by
 refine Good.of Tryz.func88 rfl (by rfl) (by kernel_rfl) ?_
 cbv
 have hmk:True:=trivial
 (try (simp only [cwn];cbv));(repeat' (first
| ((first
| (refine q1w (fun z hz=>?_);(have e:sp=z:=by omega);subst e)
| (refine q1w (fun z hz=>?_);(have e:dp=z:=by omega);subst e)
| (refine q1w (fun z hz=>?_);(have e:S=z:=by omega);subst e)
| (refine q1w (fun z hz=>?_);(try simp [oln,Int.max_def,Int.min_def] at hz);(with_reducible refine litk hz ?_ ?_);(focus decide);subst hz)
| (refine q1w (fun z hz=>?_);(replace hz:=remP hz (by omega)))
| (refine q1w (fun z hz=>?_);(replace hz:=quoP hz (by omega)))
| (refine q1w (fun z hz=>?_);(replace hz:=modP hz (by omega)))
| (refine q1w (fun z hz=>?_);(try simp only [Int.reduceToNat,Int.reducePow] at hz))
| refine td ?_
| refine fd ?_
| refine rqa ?_
| refine vI ?_
| refine vA ?_
| refine vS ?_
| refine vR ?_
| refine genq (t1) rfl rfl ?_
| refine genq (t2) rfl rfl ?_
| refine genq (t3) rfl rfl ?_
| refine chpB ?_
| refine QCt ?_
| refine QCf ?_);cbv;(try (simp only [cwn];cbv)))
| (simp only [cwn];cbv)
| (refine QC.mk ?_ ?_ <;> intro hc <;> (try dsimp only at hc) <;> cbv;(try (simp only [cwn];cbv)))
| (refine br_mk2 ?_ ?_ <;> intro hb <;> (try subst hb) <;> cbv;(try (simp only [cwn];cbv)))))
 exact ⟨rfl,rfl,rfl⟩
end
end Go.Proofs.YtgfpjhddojhfpaaGreat
