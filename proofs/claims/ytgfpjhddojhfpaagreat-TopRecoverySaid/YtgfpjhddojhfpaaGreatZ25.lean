/- Texts put together: EA WL EB. -/
import Derived.Test.YtgfpjhddojhfpaaGreatZ03
import Derived.Test.YtgfpjhddojhfpaaGreatZ04
import Derived.Test.YtgfpjhddojhfpaaGreatZ07
import Derived.Test.YtgfpjhddojhfpaaGreatZ12
namespace Go.Proofs.YtgfpjhddojhfpaaGreat
set_option linter.unusedVariables false
set_option linter.unusedSimpArgs false
section
open Go.RowKit
set_option maxHeartbeats 4000000
theorem litk {P:Prop} {z:Int} {n:Nat} (h:z=@OfNat.ofNat Int n instOfNat) (_:n=n) (g:P):P:=g
theorem remP {z a b:Int} (h:z=a.tmod b∧(0≤a→z=a % b)) (ha:0≤a):z=a % b:=h.2 ha
theorem modP {z a:Int} (h:z=a % 18446744073709551616) (ha:0≤a∧a < 18446744073709551616):z=a:=by rw [h];exact Int.emod_eq_of_lt ha.1 ha.2
theorem quoP {z a b:Int} (h:(0≤a→z=a / b)∧(a < 0→z=-(-a / b))) (ha:0≤a):z=a / b:=h.1 ha
theorem iflag_c (b:Bool) (v r:Int) (hr:r=if b=true then v else 0):Good 138 (pu [.bool b,.int .i64 v] (.int .i64 r)):=by
 refine Good.of Tryz.func138 rfl (by rfl) (by kernel_rfl) ?_
 cbv
 (repeat' (first
| ((first
| (refine q1w (fun z hz=>?_);(try simp only at hz))
| refine rqa ?_
| refine chpA ?_
| refine QCt ?_
| refine QCf ?_);cbv)
| (refine QC.mk ?_ ?_ <;> intro hc <;> (try dsimp only at hc) <;> cbv)
| (refine br_mk2 ?_ ?_ <;> intro hb <;> (try subst hb) <;> cbv)))
 all_goals (refine ⟨?_,rfl,rfl⟩;rw [hr];rfl)
abbrev ipS (a0 a1 a2 a3 a4 a5 a6 a7 a8 a9 b0 b1 b2 b3 b4 b5:Int):SV:=.agg [.int .u8 a0,.int .u8 a1,.int .u8 a2,.int .u8 a3,.int .u8 a4,.int .u8 a5,.int .u8 a6,.int .u8 a7,.int .u8 a8,.int .u8 a9,.int .u8 b0,.int .u8 b1,.int .u8 b2,.int .u8 b3,.int .u8 b4,.int .u8 b5]
theorem ip_ext {a0 a1 a2 a3 a4 a5 a6 a7 a8 a9 b0 b1 b2 b3 b4 b5 a0' a1' a2' a3' a4' a5' a6' a7' a8' a9' b0' b1' b2' b3' b4' b5':Int} (ha0:a0=a0') (ha1:a1=a1') (ha2:a2=a2') (ha3:a3=a3') (ha4:a4=a4') (ha5:a5=a5') (ha6:a6=a6') (ha7:a7=a7') (ha8:a8=a8') (ha9:a9=a9') (hb0:b0=b0') (hb1:b1=b1') (hb2:b2=b2') (hb3:b3=b3') (hb4:b4=b4') (hb5:b5=b5'):ipS a0 a1 a2 a3 a4 a5 a6 a7 a8 a9 b0 b1 b2 b3 b4 b5=ipS a0' a1' a2' a3' a4' a5' a6' a7' a8' a9' b0' b1' b2' b3' b4' b5':=by subst_vars;rfl
theorem split_c (a0 a1 a2 a3 a4 a5 a6 a7 a8 a9 b0 b1 b2 b3 b4 b5 h l:Int) (hs hl:List UInt8) (h1:[SV.int .u8 a0,.int .u8 a1,.int .u8 a2,.int .u8 a3,.int .u8 a4,.int .u8 a5,.int .u8 a6,.int .u8 a7]=u8l hs) (h2:[SV.int .u8 a8,.int .u8 a9,.int .u8 b0,.int .u8 b1,.int .u8 b2,.int .u8 b3,.int .u8 b4,.int .u8 b5]=u8l hl) (hh:h=be hs) (hhl:l=be hl) :
  Good 179 (pu [ipS a0 a1 a2 a3 a4 a5 a6 a7 a8 a9 b0 b1 b2 b3 b4 b5] (.tup [.int .u64 h,.int .u64 l])):=by
 have l1:hs.length=8:=by have:=congrArg List.length h1;simpa [u8l] using this.symm
 have l2:hl.length=8:=by have:=congrArg List.length h2;simpa [u8l] using this.symm
 have c0:[SV.int .u8 a0,.int .u8 a1,.int .u8 a2,.int .u8 a3,.int .u8 a4,.int .u8 a5,.int .u8 a6,.int .u8 a7,.int .u8 a8,.int .u8 a9,.int .u8 b0,.int .u8 b1,.int .u8 b2,.int .u8 b3,.int .u8 b4,.int .u8 b5]=u8l (hs++hl):=by
  rw [← u8l_app,← h1,← h2];rfl
 have c1:=uint_c (hs++hl) _ 0 8 h 0 8 c0.symm.symm rfl rfl (by omega) (by omega) (by rw [List.length_append];omega) (by rw [List.length_append];omega) (by rw [hh,List.drop_zero,← l1,List.take_left])
 have c2:=uint_c (hs++hl) _ 8 8 l 8 8 c0.symm.symm rfl rfl (by omega) (by omega) (by rw [List.length_append];omega) (by rw [List.length_append];omega) (by rw [hhl,← l1,List.drop_left,l1,← l2,List.take_length])
 refine Good.of Tryz.func179 rfl (by rfl) (by kernel_rfl) ?_
 cbv
 have hmk:True:=trivial
 (repeat' (first
| ((first
| (refine q1w (fun z hz=>?_);(try simp only at hz))
| refine rqa ?_
| refine chpA ?_
| refine QCt ?_
| refine QCf ?_);cbv)
| (refine QC.mk ?_ ?_ <;> intro hc <;> (try dsimp only at hc) <;> cbv)
| (refine br_mk2 ?_ ?_ <;> intro hb <;> (try subst hb) <;> cbv)
| (refine callq (c1) rfl rfl ?_;cbv)
| (refine callq (c2) rfl rfl ?_;cbv)))
 exact ⟨rfl,rfl,rfl⟩
end
section
theorem wlkc {P:Prop} (h:P:=by
 (try (simp only [cwn];cbv));(repeat' (first
| ((first
| refine td ?_
| refine fd ?_
| (refine q1w (fun z hz=>?_);(simp [oln,Int.max_def,Int.min_def] at hz);subst hz)
| (refine q1w (fun z hz=>?_);(try simp only at hz))
| refine rqa ?_
| refine vI ?_
| refine vA ?_
| refine vS ?_
| refine vR ?_
| (refine calla ?_)
| refine chpA ?_
| refine QCt ?_
| refine QCf ?_);cbv;(try (simp only [cwn];cbv)))
| (simp only [cwn];cbv)
| (refine QC.mk ?_ ?_ <;> intro hc <;> (try dsimp only at hc) <;> cbv;(try (simp only [cwn];cbv)))
| (refine br_mk2 ?_ ?_ <;> intro hb <;> (try subst hb) <;> cbv;(try (simp only [cwn];cbv)))))
 all_goals exact ⟨rfl,rfl,rfl⟩):P:=h
theorem wlkcDL {P:Prop} (h:P:=by
 (try (simp only [cwn];cbv));(repeat' (first
| ((first
| (refine q1w (fun z hz=>?_);(try simp [oln,Int.max_def,Int.min_def] at hz);(with_reducible refine litk hz ?_ ?_);(focus decide);subst hz)
| (refine q1w (fun z hz=>?_);(replace hz:=remP hz (by omega)))
| (refine q1w (fun z hz=>?_);(replace hz:=quoP hz (by omega)))
| (refine q1w (fun z hz=>?_);(replace hz:=modP hz (by omega)))
| (refine q1w (fun z hz=>?_);(try simp only [Int.reduceToNat,Int.reducePow] at hz))
| refine td ?_
| refine fd ?_
| refine rqa ?_
| refine vI ?_
| refine vA ?_
| refine vS ?_
| refine vR ?_
| (refine calla ?_)
| refine chpA ?_
| refine QCt ?_
| refine QCf ?_);cbv;(try (simp only [cwn];cbv)))
| (simp only [cwn];cbv)
| (refine QC.mk ?_ ?_ <;> intro hc <;> (try dsimp only at hc) <;> cbv;(try (simp only [cwn];cbv)))
| (refine br_mk2 ?_ ?_ <;> intro hb <;> (try subst hb) <;> cbv;(try (simp only [cwn];cbv)))))
 all_goals exact ⟨rfl,rfl,rfl⟩):P:=h
theorem wlkcLMU {P:Prop} (h:P:=by
 (try (simp only [cwn];cbv));(repeat' (first
| ((first
| (refine q1w (fun z hz=>?_);(have e:=hz.trans (Int.emod_eq_of_lt (by assumption) (by assumption)));subst e)
| (refine q1w (fun z hz=>?_);(try simp [oln,Int.max_def,Int.min_def] at hz);(with_reducible refine litk hz ?_ ?_);(focus decide);subst hz)
| (refine q1w (fun z hz=>?_);(try simp only [Int.reduceToNat,Int.reducePow] at hz))
| refine td ?_
| refine fd ?_
| refine rqa ?_
| refine vI ?_
| refine vA ?_
| refine vS ?_
| refine vR ?_
| (refine calla ?_)
| refine chpA ?_
| refine QCt ?_
| refine QCf ?_
| refine unrollq 400 ?_);cbv;(try (simp only [cwn];cbv)))
| (simp only [cwn];cbv)
| (refine QC.mk ?_ ?_ <;> intro hc <;> (try dsimp only at hc) <;> cbv;(try (simp only [cwn];cbv)))
| (refine br_mk2 ?_ ?_ <;> intro hb <;> (try subst hb) <;> cbv;(try (simp only [cwn];cbv)))))
 all_goals exact ⟨rfl,rfl,rfl⟩):P:=h
theorem wlkcLU {P:Prop} (h:P:=by
 (try (simp only [cwn];cbv));(repeat' (first
| ((first
| (refine q1w (fun z hz=>?_);(try simp [oln,Int.max_def,Int.min_def] at hz);(with_reducible refine litk hz ?_ ?_);(focus decide);subst hz)
| (refine q1w (fun z hz=>?_);(try simp only [Int.reduceToNat,Int.reducePow] at hz))
| refine td ?_
| refine fd ?_
| refine rqa ?_
| refine vI ?_
| refine vA ?_
| refine vS ?_
| refine vR ?_
| (refine calla ?_)
| refine chpA ?_
| refine QCt ?_
| refine QCf ?_
| refine unrollq 400 ?_);cbv;(try (simp only [cwn];cbv)))
| (simp only [cwn];cbv)
| (refine QC.mk ?_ ?_ <;> intro hc <;> (try dsimp only at hc) <;> cbv;(try (simp only [cwn];cbv)))
| (refine br_mk2 ?_ ?_ <;> intro hb <;> (try subst hb) <;> cbv;(try (simp only [cwn];cbv)))))
 all_goals exact ⟨rfl,rfl,rfl⟩):P:=h
theorem wlkcLX {P:Prop} (h:P:=by
 (repeat' (first
| ((first
| (refine q1w (fun z hz=>?_);(try simp [oln,Int.max_def,Int.min_def] at hz);(with_reducible refine litk hz ?_ ?_);(focus decide);subst hz)
| (refine q1w (fun z hz=>?_);(try simp only [Int.reduceToNat,Int.reducePow] at hz))
| refine td ?_
| refine fd ?_
| refine rqa ?_
| refine vI ?_
| refine vA ?_
| refine vS ?_
| refine vR ?_
| (refine calla ?_)
| refine chpA ?_
| refine QCt ?_
| refine QCf ?_);cbv)
| (refine QC.mk ?_ ?_ <;> intro hc <;> (try dsimp only at hc) <;> cbv)
| (refine br_mk2 ?_ ?_ <;> intro hb <;> (try subst hb) <;> cbv)))
 all_goals exact ⟨rfl,rfl,rfl⟩):P:=h
theorem wlkcU {P:Prop} (h:P:=by
 (try (simp only [cwn];cbv));(repeat' (first
| ((first
| refine td ?_
| refine fd ?_
| (refine q1w (fun z hz=>?_);(simp [oln,Int.max_def,Int.min_def] at hz);subst hz)
| (refine q1w (fun z hz=>?_);(try simp only at hz))
| refine rqa ?_
| refine vI ?_
| refine vA ?_
| refine vS ?_
| refine vR ?_
| (refine calla ?_)
| refine chpA ?_
| refine QCt ?_
| refine QCf ?_
| refine unrollq 400 ?_);cbv;(try (simp only [cwn];cbv)))
| (simp only [cwn];cbv)
| (refine QC.mk ?_ ?_ <;> intro hc <;> (try dsimp only at hc) <;> cbv;(try (simp only [cwn];cbv)))
| (refine br_mk2 ?_ ?_ <;> intro hb <;> (try subst hb) <;> cbv;(try (simp only [cwn];cbv)))))
 all_goals exact ⟨rfl,rfl,rfl⟩):P:=h
end
section
open Go.RowKit
set_option maxHeartbeats 4000000
set_option maxRecDepth 100000
abbrev llP:SV:=.agg [.int .u8 254,.int .u8 128,.int .u8 0,.int .u8 0,.int .u8 0,.int .u8 0,.int .u8 0,.int .u8 0,.int .u8 0,.int .u8 0,.int .u8 0,.int .u8 0,.int .u8 0,.int .u8 0,.int .u8 0,.int .u8 0,.int .i64 64]
theorem join_c (iid c0 c1 c2 c3 c4 c5 c6 c7:Int) (hi:0≤iid∧iid≤18446744073709551615) (h:[SV.int .u8 c0,.int .u8 c1,.int .u8 c2,.int .u8 c3,.int .u8 c4,.int .u8 c5,.int .u8 c6,.int .u8 c7]=u8l (bytesOf iid 8)) (g:Good 208 (pu [llP] (.bool true))) :
  Good 181 (pu [llP,.int .u64 iid] (.tup [ipS 254 128 0 0 0 0 0 0 c0 c1 c2 c3 c4 c5 c6 c7,.bool true])):=by
 have g1:=append_c [] [] [SV.int .u8 c0,.int .u8 c1,.int .u8 c2,.int .u8 c3,.int .u8 c4,.int .u8 c5,.int .u8 c6,.int .u8 c7] iid 8 8 rfl rfl (by omega) ⟨hi.1,by omega⟩ (by simp) (by rw [List.nil_append];exact h)
 refine Good.of Tryz.func181 rfl (by rfl) (by kernel_rfl) ?_
 cbv
 have hmk:True:=trivial
 exact wlkc
end
end Go.Proofs.YtgfpjhddojhfpaaGreat
