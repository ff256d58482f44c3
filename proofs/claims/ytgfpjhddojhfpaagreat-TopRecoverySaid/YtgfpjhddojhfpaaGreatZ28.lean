/- Texts put together: ED. -/
import Derived.Test.YtgfpjhddojhfpaaGreatZ03
import Derived.Test.YtgfpjhddojhfpaaGreatZ27
namespace Go.Proofs.YtgfpjhddojhfpaaGreat
set_option linter.unusedVariables false
set_option linter.unusedSimpArgs false
section
open Go.RowKit
set_option maxHeartbeats 4000000
set_option maxRecDepth 100000
abbrev dvS (e:Int):SV:=.agg [.int .i64 3,.int .u16 0,.int .u64 e]
abbrev fmS (c:Bool) (m:Int) (F:List SV):SV:=.agg [.bool c,.int .i64 0,.int .i64 m,.lst none F]
theorem uni_none (e:Int):Good 135 (pu [ipS 0 0 0 0 0 0 0 0 0 0 0 0 0 0 0 0,dvS e,.bool true,.lst (some 20) [],.int .i64 0] (fmS true 0 [])):=by
 refine Good.res (r:=.agg [.bool true,.int .i64 0,.int .i64 0,.nil]) ?_ (Wk.agg ⟨Wk.rfl' _,Wk.rfl' _,Wk.rfl' _,Wk.nil _,trivial⟩)
 refine Good.of Tryz.func135 rfl (by rfl) (by kernel_rfl) ?_
 cbv
 have hmk:True:=trivial
 exact wlkc
theorem uni_own (e k iid h a0 a1 a2 a3 a4 a5 a6 a7 c0 c1 c2 c3 c4 c5 c6 c7:Int) (src:Bool) (he:e=144115188075855873∧k=1∨e=144115188075855874∧k=2) (hi:0≤iid∧iid≤18446744073709551615) (hc8:[SV.int .u8 c0,.int .u8 c1,.int .u8 c2,.int .u8 c3,.int .u8 c4,.int .u8 c5,.int .u8 c6,.int .u8 c7]=u8l (bytesOf iid 8))
  (gs:Good 179 (pu [ipS a0 a1 a2 a3 a4 a5 a6 a7 c0 c1 c2 c3 c4 c5 c6 c7] (.tup [.int .u64 h,.int .u64 iid]))) (hL:a0=254∧a1=128∧a2=0∧a3=0∧a4=0∧a5=0∧a6=0∧a7=0) (hk:k=iid) :
  Good 135 (pu [ipS a0 a1 a2 a3 a4 a5 a6 a7 c0 c1 c2 c3 c4 c5 c6 c7,dvS e,.bool src,.lst (some 20) [],.int .i64 0] (fmS false 3 [])):=by
 have gw:=within_c iid a0 a1 a2 a3 a4 a5 a6 a7 c0 c1 c2 c3 c4 c5 c6 c7 hi hc8 true (by rw [decide_eq_true hL])
 have gl:=lloc_c
 have gz:=zctx_c a0 a1 a2 a3 a4 a5 a6 a7 c0 c1 c2 c3 c4 c5 c6 c7
 have gi:=iid_c e k he
 have g3:=choose_c 3 []
 have cs:∀ b,src=b→Good 135 (pu [ipS a0 a1 a2 a3 a4 a5 a6 a7 c0 c1 c2 c3 c4 c5 c6 c7,dvS e,.bool b,.lst (some 20) [],.int .i64 0] (fmS false 3 [])):=by
  intro b hb
  cases b
  ·clear hb
   refine Good.of Tryz.func135 rfl (by rfl) (by kernel_rfl) ?_
   cbv
   have hmk:True:=trivial
   exact wlkc
  ·refine Good.of Tryz.func135 rfl (by rfl) (by kernel_rfl) ?_
   cbv
   have hmk:True:=trivial
   (try (simp only [cwn];cbv));(repeat' (first
| ((first
| (refine QC.ff (by intro hx;simp only [Bool.and_eq_true,decide_eq_true_eq] at hx;omega) ?_)
| refine td ?_
| refine fd ?_
| (refine q1w (fun z hz=>?_);(simp [oln,Int.max_def,Int.min_def] at hz);subst hz)
| (refine q1w (fun z hz=>?_);(try simp only at hz))
| refine rqa ?_
| refine vI ?_
| refine vA ?_
| refine vS ?_
| refine vR ?_
| refine callq (gs) rfl rfl ?_
| refine callq (gw) rfl rfl ?_
| refine callq (gl) rfl rfl ?_
| refine callq (gz) rfl rfl ?_
| refine callq (gi) rfl rfl ?_
| refine callq (g3) rfl rfl ?_
| refine chpA ?_
| refine QCt ?_
| refine QCf ?_);cbv;(try (simp only [cwn];cbv)))
| (simp only [cwn];cbv)
| (refine QC.mk ?_ ?_ <;> intro hc <;> (try dsimp only at hc) <;> cbv;(try (simp only [cwn];cbv)))
| (refine br_mk2 ?_ ?_ <;> intro hb <;> (try subst hb) <;> cbv;(try (simp only [cwn];cbv)))))
   exact ⟨rfl,rfl,rfl⟩
 exact cs src rfl
theorem uni_short (e k iid h a0 a1 a2 a3 a4 a5 a6 a7 c0 c1 c2 c3 c4 c5 c6 c7:Int) (src:Bool) (he:e=144115188075855873∧k=1∨e=144115188075855874∧k=2) (hi:0≤iid∧iid≤18446744073709551615) (hc8:[SV.int .u8 c0,.int .u8 c1,.int .u8 c2,.int .u8 c3,.int .u8 c4,.int .u8 c5,.int .u8 c6,.int .u8 c7]=u8l (bytesOf iid 8))
  (gs:Good 179 (pu [ipS a0 a1 a2 a3 a4 a5 a6 a7 c0 c1 c2 c3 c4 c5 c6 c7] (.tup [.int .u64 h,.int .u64 iid]))) (hL:a0=254∧a1=128∧a2=0∧a3=0∧a4=0∧a5=0∧a6=0∧a7=0) (hk:k≠iid) (h16:iid / 65536=16776704) (F:List SV) (hF:F=u8l (bytesOf iid 2)) :
  Good 135 (pu [ipS a0 a1 a2 a3 a4 a5 a6 a7 c0 c1 c2 c3 c4 c5 c6 c7,dvS e,.bool src,.lst (some 20) [],.int .i64 0] (fmS false 2 F)):=by
 have gw:=within_c iid a0 a1 a2 a3 a4 a5 a6 a7 c0 c1 c2 c3 c4 c5 c6 c7 hi hc8 true (by rw [decide_eq_true hL])
 have gl:=lloc_c
 have gz:=zctx_c a0 a1 a2 a3 a4 a5 a6 a7 c0 c1 c2 c3 c4 c5 c6 c7
 have gi:=iid_c e k he
 have g3:=choose_c 2 F
 have g4:=short_y iid hi h16 F hF
 have cs:∀ b,src=b→Good 135 (pu [ipS a0 a1 a2 a3 a4 a5 a6 a7 c0 c1 c2 c3 c4 c5 c6 c7,dvS e,.bool b,.lst (some 20) [],.int .i64 0] (fmS false 2 F)):=by
  intro b hb
  cases b
  ·clear hb
   refine Good.of Tryz.func135 rfl (by rfl) (by kernel_rfl) ?_
   cbv
   have hmk:True:=trivial
   exact wlkc
  ·refine Good.of Tryz.func135 rfl (by rfl) (by kernel_rfl) ?_
   cbv
   have hmk:True:=trivial
   (try (simp only [cwn];cbv));(repeat' (first
| ((first
| (refine QC.ff (by intro hx;simp only [Bool.and_eq_true,decide_eq_true_eq] at hx;omega) ?_)
| refine td ?_
| refine fd ?_
| (refine q1w (fun z hz=>?_);(simp [oln,Int.max_def,Int.min_def] at hz);subst hz)
| (refine q1w (fun z hz=>?_);(try simp only at hz))
| refine rqa ?_
| refine vI ?_
| refine vA ?_
| refine vS ?_
| refine vR ?_
| refine callq (gs) rfl rfl ?_
| refine callq (gw) rfl rfl ?_
| refine callq (gl) rfl rfl ?_
| refine callq (gz) rfl rfl ?_
| refine callq (gi) rfl rfl ?_
| refine callq (g3) rfl rfl ?_
| refine callq (g4) rfl rfl ?_
| refine chpA ?_
| refine QCt ?_
| refine QCf ?_);cbv;(try (simp only [cwn];cbv)))
| (simp only [cwn];cbv)
| (refine QC.mk ?_ ?_ <;> intro hc <;> (try dsimp only at hc) <;> cbv;(try (simp only [cwn];cbv)))
| (refine br_mk2 ?_ ?_ <;> intro hb <;> (try subst hb) <;> cbv;(try (simp only [cwn];cbv)))))
   exact ⟨rfl,rfl,rfl⟩
 exact cs src rfl
theorem uni_iid (e k iid h a0 a1 a2 a3 a4 a5 a6 a7 c0 c1 c2 c3 c4 c5 c6 c7:Int) (src:Bool) (he:e=144115188075855873∧k=1∨e=144115188075855874∧k=2) (hi:0≤iid∧iid≤18446744073709551615) (hc8:[SV.int .u8 c0,.int .u8 c1,.int .u8 c2,.int .u8 c3,.int .u8 c4,.int .u8 c5,.int .u8 c6,.int .u8 c7]=u8l (bytesOf iid 8))
  (gs:Good 179 (pu [ipS a0 a1 a2 a3 a4 a5 a6 a7 c0 c1 c2 c3 c4 c5 c6 c7] (.tup [.int .u64 h,.int .u64 iid]))) (hL:a0=254∧a1=128∧a2=0∧a3=0∧a4=0∧a5=0∧a6=0∧a7=0) (hk:k≠iid) (h16:iid / 65536≠16776704) (F:List SV) (hF:F=u8l (bytesOf iid 8)) :
  Good 135 (pu [ipS a0 a1 a2 a3 a4 a5 a6 a7 c0 c1 c2 c3 c4 c5 c6 c7,dvS e,.bool src,.lst (some 20) [],.int .i64 0] (fmS false 1 F)):=by
 have gw:=within_c iid a0 a1 a2 a3 a4 a5 a6 a7 c0 c1 c2 c3 c4 c5 c6 c7 hi hc8 true (by rw [decide_eq_true hL])
 have gl:=lloc_c
 have gz:=zctx_c a0 a1 a2 a3 a4 a5 a6 a7 c0 c1 c2 c3 c4 c5 c6 c7
 have gi:=iid_c e k he
 have g3:=choose_c 1 F
 have g4:=short_n iid hi h16
 have g5:=append_c [] [] F iid 8 8 rfl rfl (by omega) ⟨hi.1,by omega⟩ (by simp) (by rw [List.nil_append];exact hF)
 have cs:∀ b,src=b→Good 135 (pu [ipS a0 a1 a2 a3 a4 a5 a6 a7 c0 c1 c2 c3 c4 c5 c6 c7,dvS e,.bool b,.lst (some 20) [],.int .i64 0] (fmS false 1 F)):=by
  intro b hb
  cases b
  ·clear hb
   refine Good.of Tryz.func135 rfl (by rfl) (by kernel_rfl) ?_
   cbv
   have hmk:True:=trivial
   exact wlkc
  ·refine Good.of Tryz.func135 rfl (by rfl) (by kernel_rfl) ?_
   cbv
   have hmk:True:=trivial
   (try (simp only [cwn];cbv));(repeat' (first
| ((first
| (refine QC.ff (by intro hx;simp only [Bool.and_eq_true,decide_eq_true_eq] at hx;omega) ?_)
| refine td ?_
| refine fd ?_
| (refine q1w (fun z hz=>?_);(simp [oln,Int.max_def,Int.min_def] at hz);subst hz)
| (refine q1w (fun z hz=>?_);(try simp only at hz))
| refine rqa ?_
| refine vI ?_
| refine vA ?_
| refine vS ?_
| refine vR ?_
| refine callq (gs) rfl rfl ?_
| refine callq (gw) rfl rfl ?_
| refine callq (gl) rfl rfl ?_
| refine callq (gz) rfl rfl ?_
| refine callq (gi) rfl rfl ?_
| refine callq (g3) rfl rfl ?_
| refine callq (g4) rfl rfl ?_
| refine callq (g5) rfl rfl ?_
| refine chpA ?_
| refine QCt ?_
| refine QCf ?_);cbv;(try (simp only [cwn];cbv)))
| (simp only [cwn];cbv)
| (refine QC.mk ?_ ?_ <;> intro hc <;> (try dsimp only at hc) <;> cbv;(try (simp only [cwn];cbv)))
| (refine br_mk2 ?_ ?_ <;> intro hb <;> (try subst hb) <;> cbv;(try (simp only [cwn];cbv)))))
   exact ⟨rfl,rfl,rfl⟩
 exact cs src rfl
theorem uni_whole (e k iid h a0 a1 a2 a3 a4 a5 a6 a7 c0 c1 c2 c3 c4 c5 c6 c7:Int) (src:Bool) (he:e=144115188075855873∧k=1∨e=144115188075855874∧k=2) (hi:0≤iid∧iid≤18446744073709551615) (hc8:[SV.int .u8 c0,.int .u8 c1,.int .u8 c2,.int .u8 c3,.int .u8 c4,.int .u8 c5,.int .u8 c6,.int .u8 c7]=u8l (bytesOf iid 8))
  (gs:Good 179 (pu [ipS a0 a1 a2 a3 a4 a5 a6 a7 c0 c1 c2 c3 c4 c5 c6 c7] (.tup [.int .u64 h,.int .u64 iid]))) (hh:0≤h∧h≤18446744073709551615) (hL:¬ (a0=254∧a1=128∧a2=0∧a3=0∧a4=0∧a5=0∧a6=0∧a7=0)) (hz:¬ (src=true∧a0=0∧a1=0∧a2=0∧a3=0∧a4=0∧a5=0∧a6=0∧a7=0∧c0=0∧c1=0∧c2=0∧c3=0∧c4=0∧c5=0∧c6=0∧c7=0)) (F R:List SV) (hF:F=u8l (bytesOf h 8)) (hR:R=u8l (bytesOf h 8++bytesOf iid 8)) :
  Good 135 (pu [ipS a0 a1 a2 a3 a4 a5 a6 a7 c0 c1 c2 c3 c4 c5 c6 c7,dvS e,.bool src,.lst (some 20) [],.int .i64 0] (fmS false 0 R)):=by
 have gw:=within_c iid a0 a1 a2 a3 a4 a5 a6 a7 c0 c1 c2 c3 c4 c5 c6 c7 hi hc8 false (by rw [decide_eq_false hL])
 have gl:=lloc_c
 have gz:=zctx_c a0 a1 a2 a3 a4 a5 a6 a7 c0 c1 c2 c3 c4 c5 c6 c7
 have gi:=iid_c e k he
 have g3:=high_c _ _ _ _ _ _ _ _ _ _ _ _ _ _ _ _ h iid gs
 have g4:=append_c [] [] F h 8 8 rfl rfl (by omega) ⟨hh.1,by omega⟩ (by simp) (by rw [List.nil_append];exact hF)
 have g5:=append_c (bytesOf h 8) F R iid 8 8 hF rfl (by omega) ⟨hi.1,by omega⟩ (by rw [bytesOf_length];omega) hR
 have cs:∀ b,src=b→Good 135 (pu [ipS a0 a1 a2 a3 a4 a5 a6 a7 c0 c1 c2 c3 c4 c5 c6 c7,dvS e,.bool b,.lst (some 20) [],.int .i64 0] (fmS false 0 R)):=by
  intro b hb
  cases b
  ·clear hb
   refine Good.of Tryz.func135 rfl (by rfl) (by kernel_rfl) ?_
   cbv
   have hmk:True:=trivial
   exact wlkc
  ·refine Good.of Tryz.func135 rfl (by rfl) (by kernel_rfl) ?_
   cbv
   have hmk:True:=trivial
   (try (simp only [cwn];cbv));(repeat' (first
| ((first
| (refine QC.ff (by intro hx;simp only [Bool.and_eq_true,decide_eq_true_eq] at hx;exact hz ⟨hb,by omega⟩) ?_)
| refine td ?_
| refine fd ?_
| (refine q1w (fun z hz=>?_);(simp [oln,Int.max_def,Int.min_def] at hz);subst hz)
| (refine q1w (fun z hz=>?_);(try simp only at hz))
| refine rqa ?_
| refine vI ?_
| refine vA ?_
| refine vS ?_
| refine vR ?_
| refine callq (gs) rfl rfl ?_
| refine callq (gw) rfl rfl ?_
| refine callq (gl) rfl rfl ?_
| refine callq (gz) rfl rfl ?_
| refine callq (gi) rfl rfl ?_
| refine callq (g3) rfl rfl ?_
| refine callq (g4) rfl rfl ?_
| refine callq (g5) rfl rfl ?_
| refine chpA ?_
| refine QCt ?_
| refine QCf ?_);cbv;(try (simp only [cwn];cbv)))
| (simp only [cwn];cbv)
| (refine QC.mk ?_ ?_ <;> intro hc <;> (try dsimp only at hc) <;> cbv;(try (simp only [cwn];cbv)))
| (refine br_mk2 ?_ ?_ <;> intro hb <;> (try subst hb) <;> cbv;(try (simp only [cwn];cbv)))))
   exact ⟨rfl,rfl,rfl⟩
 exact cs src rfl
end
end Go.Proofs.YtgfpjhddojhfpaaGreat
