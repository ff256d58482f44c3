/- Texts put together: EK. -/
import Derived.Test.YtgfpjhddojhfpaaGreatZ04
import Derived.Test.YtgfpjhddojhfpaaGreatZ07
import Derived.Test.YtgfpjhddojhfpaaGreatZ25
namespace Go.Proofs.YtgfpjhddojhfpaaGreat
set_option linter.unusedVariables false
set_option linter.unusedSimpArgs false
section
open Go.RowKit
set_option maxHeartbeats 4000000
set_option maxRecDepth 100000
theorem word_e {L:List SV} {a:Int} (h:Tp L a):∃ v b,(0≤v∧v≤18446744073709551615)∧Tp L b∧Good 128 (le 144 (.agg [.lst none L,.int .i64 a]) [] (.int .u64 v) (.agg [.lst none L,.int .i64 b])):=by
 obtain ⟨v,b1,p1,u1,t1,g1⟩:=next_e h 65536 (by omega)
 obtain ⟨n,b2,p2,u2,t2,g2⟩:=next_e t1 5 (by omega)
 have key:∀ w:Int,(n=0∧w=v∨n=1∧w=v * 281474976710656+v∨n=2∧w=9223372036854775808+v∨n=3∧w=18446744073709551615 - v % 4∨n=4∧w=v % 4)→Good 128 (le 144 (.agg [.lst none L,.int .i64 a]) [] (.int .u64 w) (.agg [.lst none L,.int .i64 b2])):=by
  intro w hw
  clear h t1 t2
  rcases hw with ⟨rfl,hw⟩ | ⟨rfl,hw⟩ | ⟨rfl,hw⟩ | ⟨rfl,hw⟩ | ⟨rfl,hw⟩
  all_goals
   refine Good.of Tryz.func128 rfl (by rfl) (by kernel_rfl) ?_
   cbv
   have hmk:True:=trivial
   (try (simp only [cwn];cbv));(repeat' (first
| ((first
| (refine q1w (fun z hz=>?_);(try simp [oln,Int.max_def,Int.min_def] at hz);(with_reducible refine litk hz ?_ ?_);(focus decide);subst hz)
| (refine q1w (fun z hz=>?_);(try simp only [Int.reduceToNat,Int.reducePow] at hz))
| refine td ?_
| refine fd ?_
| refine rqa ?_
| refine vI ?_
| refine vA ?_
| refine vS ?_
| refine vR ?_
| refine callq (g1) rfl rfl ?_
| refine callq (g2) rfl rfl ?_
| refine chpA ?_
| refine QCt ?_
| refine QCf ?_);cbv;(try (simp only [cwn];cbv)))
| (simp only [cwn];cbv)
| (refine QC.mk ?_ ?_ <;> intro hc <;> (try dsimp only at hc) <;> cbv;(try (simp only [cwn];cbv)))
| (refine br_mk2 ?_ ?_ <;> intro hb <;> (try subst hb) <;> cbv;(try (simp only [cwn];cbv)))))
  all_goals first
   | (have e:z=w:=by (first | omega | (simp only [cst] at *;omega) | (simp only [sm] at *;omega))
      subst e;exact ⟨rfl,rfl,rfl⟩)
   | (trace_state;done)
 rcases (show n=0∨n=1∨n=2∨n=3∨n=4 by omega) with e | e | e | e | e
 ·exact ⟨v,b2,by omega,t2,key v (by omega)⟩
 ·exact ⟨v * 281474976710656+v,b2,by omega,t2,key _ (by omega)⟩
 ·exact ⟨9223372036854775808+v,b2,by omega,t2,key _ (by omega)⟩
 ·exact ⟨18446744073709551615 - v % 4,b2,by omega,t2,key _ (by omega)⟩
 ·exact ⟨v % 4,b2,by omega,t2,key _ (by omega)⟩
theorem port_e {L:List SV} {a:Int} (h:Tp L a):∃ v b,(0≤v∧v≤65535)∧Tp L b∧Good 70 (le 144 (.agg [.lst none L,.int .i64 a]) [] (.int .u16 v) (.agg [.lst none L,.int .i64 b])):=by
 obtain ⟨v,b1,p1,u1,t1,g1⟩:=next_e h 65536 (by omega)
 obtain ⟨n,b2,p2,u2,t2,g2⟩:=next_e t1 3 (by omega)
 have key:∀ w:Int,(n=0∧w=61616+v % 16∨n=1∧w=61440+v % 256∨n=2∧w=v)→Good 70 (le 144 (.agg [.lst none L,.int .i64 a]) [] (.int .u16 w) (.agg [.lst none L,.int .i64 b2])):=by
  intro w hw
  clear h t1 t2
  rcases hw with ⟨rfl,hw⟩ | ⟨rfl,hw⟩ | ⟨rfl,hw⟩
  all_goals
   refine Good.of Tryz.func70 rfl (by rfl) (by kernel_rfl) ?_
   cbv
   have hmk:True:=trivial
   (try (simp only [cwn];cbv));(repeat' (first
| ((first
| (refine q1w (fun z hz=>?_);(try simp [oln,Int.max_def,Int.min_def] at hz);(with_reducible refine litk hz ?_ ?_);(focus decide);subst hz)
| (refine q1w (fun z hz=>?_);(try simp only [Int.reduceToNat,Int.reducePow] at hz))
| refine td ?_
| refine fd ?_
| refine rqa ?_
| refine vI ?_
| refine vA ?_
| refine vS ?_
| refine vR ?_
| refine callq (g1) rfl rfl ?_
| refine callq (g2) rfl rfl ?_
| refine chpA ?_
| refine QCt ?_
| refine QCf ?_);cbv;(try (simp only [cwn];cbv)))
| (simp only [cwn];cbv)
| (refine QC.mk ?_ ?_ <;> intro hc <;> (try dsimp only at hc) <;> cbv;(try (simp only [cwn];cbv)))
| (refine br_mk2 ?_ ?_ <;> intro hb <;> (try subst hb) <;> cbv;(try (simp only [cwn];cbv)))))
  all_goals first
   | (have e:z=w:=by (first | omega | (simp only [cst] at *;omega) | (simp only [sm] at *;omega))
      subst e;exact ⟨rfl,rfl,rfl⟩)
   | (trace_state;done)
 rcases (show n=0∨n=1∨n=2 by omega) with e | e | e
 ·exact ⟨61616+v % 16,b2,by omega,t2,key _ (by omega)⟩
 ·exact ⟨61440+v % 256,b2,by omega,t2,key _ (by omega)⟩
 ·exact ⟨v,b2,by omega,t2,key _ (by omega)⟩
structure By16 (a0 a1 a2 a3 a4 a5 a6 a7 a8 a9 b0 b1 b2 b3 b4 b5:Int):Prop where
 ha0:0≤a0∧a0≤255
 ha1:0≤a1∧a1≤255
 ha2:0≤a2∧a2≤255
 ha3:0≤a3∧a3≤255
 ha4:0≤a4∧a4≤255
 ha5:0≤a5∧a5≤255
 ha6:0≤a6∧a6≤255
 ha7:0≤a7∧a7≤255
 ha8:0≤a8∧a8≤255
 ha9:0≤a9∧a9≤255
 hb0:0≤b0∧b0≤255
 hb1:0≤b1∧b1≤255
 hb2:0≤b2∧b2≤255
 hb3:0≤b3∧b3≤255
 hb4:0≤b4∧b4≤255
 hb5:0≤b5∧b5≤255
theorem of_c (x y:Int) (hx:0≤x∧x≤18446744073709551615) (hy:0≤y∧y≤18446744073709551615):∃ a0 a1 a2 a3 a4 a5 a6 a7 a8 a9 b0 b1 b2 b3 b4 b5,By16 a0 a1 a2 a3 a4 a5 a6 a7 a8 a9 b0 b1 b2 b3 b4 b5∧Good 130 (pu [.int .u64 x,.int .u64 y] (ipS a0 a1 a2 a3 a4 a5 a6 a7 a8 a9 b0 b1 b2 b3 b4 b5)):=by
 obtain ⟨a0,ha0⟩:∃ z:Int,z=x / 72057594037927936 % 256:=⟨_,rfl⟩
 obtain ⟨a1,ha1⟩:∃ z:Int,z=x / 281474976710656 % 256:=⟨_,rfl⟩
 obtain ⟨a2,ha2⟩:∃ z:Int,z=x / 1099511627776 % 256:=⟨_,rfl⟩
 obtain ⟨a3,ha3⟩:∃ z:Int,z=x / 4294967296 % 256:=⟨_,rfl⟩
 obtain ⟨a4,ha4⟩:∃ z:Int,z=x / 16777216 % 256:=⟨_,rfl⟩
 obtain ⟨a5,ha5⟩:∃ z:Int,z=x / 65536 % 256:=⟨_,rfl⟩
 obtain ⟨a6,ha6⟩:∃ z:Int,z=x / 256 % 256:=⟨_,rfl⟩
 obtain ⟨a7,ha7⟩:∃ z:Int,z=x / 1 % 256:=⟨_,rfl⟩
 obtain ⟨a8,ha8⟩:∃ z:Int,z=y / 72057594037927936 % 256:=⟨_,rfl⟩
 obtain ⟨a9,ha9⟩:∃ z:Int,z=y / 281474976710656 % 256:=⟨_,rfl⟩
 obtain ⟨b0,hb0⟩:∃ z:Int,z=y / 1099511627776 % 256:=⟨_,rfl⟩
 obtain ⟨b1,hb1⟩:∃ z:Int,z=y / 4294967296 % 256:=⟨_,rfl⟩
 obtain ⟨b2,hb2⟩:∃ z:Int,z=y / 16777216 % 256:=⟨_,rfl⟩
 obtain ⟨b3,hb3⟩:∃ z:Int,z=y / 65536 % 256:=⟨_,rfl⟩
 obtain ⟨b4,hb4⟩:∃ z:Int,z=y / 256 % 256:=⟨_,rfl⟩
 obtain ⟨b5,hb5⟩:∃ z:Int,z=y / 1 % 256:=⟨_,rfl⟩
 refine ⟨a0,a1,a2,a3,a4,a5,a6,a7,a8,a9,b0,b1,b2,b3,b4,b5,⟨by omega,by omega,by omega,by omega,by omega,by omega,by omega,by omega,by omega,by omega,by omega,by omega,by omega,by omega,by omega,by omega⟩,?_⟩
 refine Good.of Tryz.func130 rfl (by rfl) (by kernel_rfl) ?_
 cbv
 have hmk:True:=trivial
 (try (simp only [cwn];cbv));(repeat' (first
| ((first
| (refine q1w (fun z hz=>?_);(try simp [oln,Int.max_def,Int.min_def] at hz);(with_reducible refine litk hz ?_ ?_);(focus decide);subst hz)
| (refine q1w (fun z hz=>?_);(try simp only [Int.reduceToNat,Int.reducePow] at hz))
| refine td ?_
| refine fd ?_
| refine rqa ?_
| refine vI ?_
| refine vA ?_
| refine vS ?_
| refine vR ?_
| refine chpA ?_
| refine QCt ?_
| refine QCf ?_
| refine unrollq 400 ?_);cbv;(try (simp only [cwn];cbv)))
| (simp only [cwn];cbv)
| (refine QC.mk ?_ ?_ <;> intro hc <;> (try dsimp only at hc) <;> cbv;(try (simp only [cwn];cbv)))
| (refine br_mk2 ?_ ?_ <;> intro hb <;> (try subst hb) <;> cbv;(try (simp only [cwn];cbv)))))
 refine ⟨ip_ext ?_ ?_ ?_ ?_ ?_ ?_ ?_ ?_ ?_ ?_ ?_ ?_ ?_ ?_ ?_ ?_,rfl,rfl⟩ <;> (subst_vars;rfl)
theorem riid_c (e k:Int) (he:e=144115188075855873∧k=1∨e=144115188075855874∧k=2) :
  Good 127 (pu [.agg [.int .i64 3,.int .u16 0,.int .u64 e]] (.tup [.int .u64 k,.bool true])):=by
 have g:=some_c 3 0 e true rfl
 rcases he with ⟨rfl,rfl⟩ | ⟨rfl,rfl⟩
 all_goals
  refine Good.of Tryz.func127 rfl (by rfl) (by kernel_rfl) ?_
  cbv
  exact wlkc
theorem rimc_c (a0 a1 a2 a3 a4 a5 a6 a7 a8 a9 b0 b1 b2 b3 b4 b5:Int) (r:Bool) (hr:r=decide (a0=255)):Good 69 (pu [ipS a0 a1 a2 a3 a4 a5 a6 a7 a8 a9 b0 b1 b2 b3 b4 b5] (.bool r)):=by
 refine Good.of Tryz.func69 rfl (by rfl) (by kernel_rfl) ?_
 cbv
 have hmk:True:=trivial
 (try (simp only [cwn];cbv));(repeat' (first
| ((first
| refine td ?_
| refine fd ?_
| (refine q1w (fun z hz=>?_);(simp [oln,Int.max_def,Int.min_def] at hz);subst hz)
| (refine q1w (fun z hz=>?_);(try simp only at hz))
| refine rqa ?_
| refine vI ?_
| refine vA ?_
| refine vS ?_
| refine vR ?_
| refine chpA ?_
| refine QCt ?_
| refine QCf ?_);cbv;(try (simp only [cwn];cbv)))
| (simp only [cwn];cbv)
| (refine QC.mk ?_ ?_ <;> intro hc <;> (try dsimp only at hc) <;> cbv;(try (simp only [cwn];cbv)))
| (refine br_mk2 ?_ ?_ <;> intro hb <;> (try subst hb) <;> cbv;(try (simp only [cwn];cbv)))))
 all_goals (refine ⟨?_,rfl,rfl⟩;rw [hr];try first | rw [decide_eq_true (by omega)] | rw [decide_eq_false (by omega)])
end
end Go.Proofs.YtgfpjhddojhfpaaGreat
