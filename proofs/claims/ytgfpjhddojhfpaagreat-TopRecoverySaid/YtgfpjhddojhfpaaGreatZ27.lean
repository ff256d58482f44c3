/- Texts put together: EC. -/
import Derived.Test.YtgfpjhddojhfpaaGreatZ25
namespace Go.Proofs.YtgfpjhddojhfpaaGreat
set_option linter.unusedVariables false
set_option linter.unusedSimpArgs false
section
open Go.RowKit
set_option maxHeartbeats 4000000
set_option maxRecDepth 100000
theorem high_c (a0 a1 a2 a3 a4 a5 a6 a7 a8 a9 b0 b1 b2 b3 b4 b5 h l:Int) (c:Good 179 (pu [ipS a0 a1 a2 a3 a4 a5 a6 a7 a8 a9 b0 b1 b2 b3 b4 b5] (.tup [.int .u64 h,.int .u64 l]))) :
  Good 184 (pu [ipS a0 a1 a2 a3 a4 a5 a6 a7 a8 a9 b0 b1 b2 b3 b4 b5] (.int .u64 h)):=by
 refine Good.of Tryz.func184 rfl (by rfl) (by kernel_rfl) ?_
 cbv
 exact wlkc
theorem lloc_c:Good 182 (pu [] llP):=by
 refine Good.of Tryz.func182 rfl (by rfl) (by kernel_rfl) ?_
 cbv
 exact wlkc
theorem iid_c (e k:Int) (he:e=144115188075855873∧k=1∨e=144115188075855874∧k=2) :
  Good 186 (pu [.agg [.int .i64 3,.int .u16 0,.int .u64 e]] (.tup [.int .u64 k,.bool true])):=by
 have g:=avalid_c 3 0 e true rfl
 rcases he with ⟨rfl,rfl⟩ | ⟨rfl,rfl⟩
 ·refine Good.of Tryz.func186 rfl (by rfl) (by kernel_rfl) ?_
  cbv
  exact wlkc
 ·refine Good.of Tryz.func186 rfl (by rfl) (by kernel_rfl) ?_
  cbv
  exact wlkc
theorem andn16 {a z:Int} (hz:z=((a.toNat ^^^ a.toNat &&& Int.toNat 65535:Nat):Int)) (ha:0≤a):z=a / 65536 * 65536:=by
 obtain ⟨x,rfl⟩:=Int.eq_ofNat_of_zero_le ha
 have h1:x &&& 65535=x % 2 ^ 16:=Nat.and_two_pow_sub_one_eq_mod x 16
 have h2:x ^^^ (x % 2 ^ 16)=(x >>> 16) <<< 16:=by
  apply Nat.eq_of_testBit_eq
  intro i
  rw [Nat.testBit_xor,Nat.testBit_mod_two_pow,Nat.testBit_shiftLeft,Nat.testBit_shiftRight]
  by_cases h:i < 16
  ·simp [h,Nat.not_le.mpr h]
  ·have e:16+(i - 16)=i:=by omega
   simp [h,Nat.le_of_not_lt h,e]
 have h3:(x >>> 16) <<< 16=x / 65536 * 65536:=by rw [Nat.shiftRight_eq_div_pow,Nat.shiftLeft_eq]
 rw [hz]
 show ((x ^^^ x &&& 65535:Nat):Int)=_
 rw [h1,h2,h3];simp
theorem short_y (iid:Int) (hi:0≤iid∧iid≤18446744073709551615) (h16:iid / 65536=16776704) (R:List SV) (h:R=u8l (bytesOf iid 2)) :
  Good 187 (pu [.int .u64 iid] (.tup [.lst none R,.bool true])):=by
 have g1:=append_c [] [] R iid 2 2 rfl rfl (by omega) ⟨hi.1,by omega⟩ (by simp) (by rw [List.nil_append];exact h)
 refine Good.of Tryz.func187 rfl (by rfl) (by kernel_rfl) ?_
 cbv
 have hmk:True:=trivial
 (try (simp only [cwn];cbv));(repeat' (first
| ((first
| (refine q1w (fun z hz=>?_);have hz:=andn16 hz hi.1)
| refine td ?_
| refine fd ?_
| (refine q1w (fun z hz=>?_);(simp [oln,Int.max_def,Int.min_def] at hz);subst hz)
| (refine q1w (fun z hz=>?_);(try simp only at hz))
| refine rqa ?_
| refine vI ?_
| refine vA ?_
| refine vS ?_
| refine vR ?_
| refine callq (g1) rfl rfl ?_
| refine chpA ?_
| refine QCt ?_
| refine QCf ?_);cbv;(try (simp only [cwn];cbv)))
| (simp only [cwn];cbv)
| (refine QC.mk ?_ ?_ <;> intro hc <;> (try dsimp only at hc) <;> cbv;(try (simp only [cwn];cbv)))
| (refine br_mk2 ?_ ?_ <;> intro hb <;> (try subst hb) <;> cbv;(try (simp only [cwn];cbv)))))
 exact ⟨rfl,rfl,rfl⟩
theorem short_n (iid:Int) (hi:0≤iid∧iid≤18446744073709551615) (h16:iid / 65536≠16776704) :
  Good 187 (pu [.int .u64 iid] (.tup [.nil,.bool false])):=by
 refine Good.of Tryz.func187 rfl (by rfl) (by kernel_rfl) ?_
 cbv
 have hmk:True:=trivial
 (try (simp only [cwn];cbv));(repeat' (first
| ((first
| (refine q1w (fun z hz=>?_);have hz:=andn16 hz hi.1)
| refine td ?_
| refine fd ?_
| (refine q1w (fun z hz=>?_);(simp [oln,Int.max_def,Int.min_def] at hz);subst hz)
| (refine q1w (fun z hz=>?_);(try simp only at hz))
| refine rqa ?_
| refine vI ?_
| refine vA ?_
| refine vS ?_
| refine vR ?_
| refine chpA ?_
| refine QCt ?_
| refine QCf ?_);cbv;(try (simp only [cwn];cbv)))
| (simp only [cwn];cbv)
| (refine QC.mk ?_ ?_ <;> intro hc <;> (try dsimp only at hc) <;> cbv;(try (simp only [cwn];cbv)))
| (refine br_mk2 ?_ ?_ <;> intro hb <;> (try subst hb) <;> cbv;(try (simp only [cwn];cbv)))))
 exact ⟨rfl,rfl,rfl⟩
theorem cvalid0:Good 178 (pu [.lst (some 20) []] (.bool true)):=by
 refine Good.of Tryz.func178 rfl (by rfl) (by kernel_rfl) ?_
 cbv
 exact wlkcU
theorem vtime0:Good 192 (pu [.int .i64 0] (.bool true)):=by
 refine Good.of Tryz.func192 rfl (by rfl) (by kernel_rfl) ?_
 cbv
 exact wlkcU
theorem mask0:Good 210 (pu [ipS 254 128 0 0 0 0 0 0 0 0 0 0 0 0 0 0,.int .i64 64] llP):=by
 refine Good.of Tryz.func210 rfl (by rfl) (by kernel_rfl) ?_
 cbv
 exact wlkcU
theorem vpre0:Good 208 (pu [llP] (.bool true)):=by
 refine Good.of Tryz.func208 rfl (by rfl) (by kernel_rfl) ?_
 cbv
 have a0:=mask0
 exact wlkcU
theorem zctx_c (a0 a1 a2 a3 a4 a5 a6 a7 a8 a9 b0 b1 b2 b3 b4 b5:Int) :
  Good 183 (pu [.lst (some 20) [],ipS a0 a1 a2 a3 a4 a5 a6 a7 a8 a9 b0 b1 b2 b3 b4 b5,.int .i64 0] (.tup [.agg [.int .i64 0,.int .u8 0,.int .u8 0,.int .u8 0,.int .u8 0,.int .u8 0,.int .u8 0,.int .u8 0,.int .u8 0,.int .u8 0,.int .u8 0,.int .u8 0,.int .u8 0,.int .u8 0,.int .u8 0,.int .u8 0,.int .u8 0,.int .i64 0,.bool false,.int .i64 0],.bool false])):=by
 refine Good.of Tryz.func183 rfl (by rfl) (by kernel_rfl) ?_
 cbv
 have hmk:True:=trivial
 have a0:=cvalid0
 have a1:=vtime0
 exact wlkcU
theorem choose_c (m:Int) (F:List SV):Good 185 (pu [.int .i64 m,.lst none F,.eptr none (.bool true) 0,.eptr (some 20) (.agg [.int .i64 0,.int .u8 0,.int .u8 0,.int .u8 0,.int .u8 0,.int .u8 0,.int .u8 0,.int .u8 0,.int .u8 0,.int .u8 0,.int .u8 0,.int .u8 0,.int .u8 0,.int .u8 0,.int .u8 0,.int .u8 0,.int .u8 0,.int .i64 0,.bool false,.int .i64 0]) 0] (.agg [.bool false,.int .i64 0,.int .i64 m,.lst none F])):=by
 refine Good.of Tryz.func185 rfl (by rfl) (by kernel_rfl) ?_
 cbv
 have hmk:True:=trivial
 exact wlkcU
theorem within_c (iid a0 a1 a2 a3 a4 a5 a6 a7 c0 c1 c2 c3 c4 c5 c6 c7:Int) (hi:0≤iid∧iid≤18446744073709551615) (h:[SV.int .u8 c0,.int .u8 c1,.int .u8 c2,.int .u8 c3,.int .u8 c4,.int .u8 c5,.int .u8 c6,.int .u8 c7]=u8l (bytesOf iid 8)) (r:Bool)
  (hr:r=decide (a0=254∧a1=128∧a2=0∧a3=0∧a4=0∧a5=0∧a6=0∧a7=0)) :
  Good 180 (pu [llP,.eptr none (.int .u64 iid) 0,.eptr (some 16) (ipS a0 a1 a2 a3 a4 a5 a6 a7 c0 c1 c2 c3 c4 c5 c6 c7) 0] (.bool r)):=by
 have g:=join_c iid c0 c1 c2 c3 c4 c5 c6 c7 hi h vpre0
 refine Good.of Tryz.func180 rfl (by rfl) (by kernel_rfl) ?_
 cbv
 have hmk:True:=trivial
 (try (simp only [cwn];cbv));(repeat' (first
| ((first
| refine td ?_
| refine fd ?_
| (refine q1w (fun z hz=>?_);(simp [oln,Int.max_def,Int.min_def] at hz);subst hz)
| (refine q1w (fun z hz=>?_);(try simp only at hz))
| refine rqa ?_
| refine vI ?_
| refine vA ?_
| refine vS ?_
| refine vR ?_
| refine callq (g) rfl rfl ?_
| refine chpA ?_
| refine QCt ?_
| refine QCf ?_);cbv;(try (simp only [cwn];cbv)))
| (simp only [cwn];cbv)
| (refine QC.mk ?_ ?_ <;> intro hc <;> (try dsimp only at hc) <;> cbv;(try (simp only [cwn];cbv)))
| (refine br_mk2 ?_ ?_ <;> intro hb <;> (try subst hb) <;> cbv;(try (simp only [cwn];cbv)))))
 ·have hk:a0=254∧a1=128∧a2=0∧a3=0∧a4=0∧a5=0∧a6=0∧a7=0:=by
   simp only [Bool.and_eq_true,decide_eq_true_eq] at hc;omega
  refine ⟨?_,rfl,rfl⟩;rw [hr,decide_eq_true hk]
 ·have hk:¬ (a0=254∧a1=128∧a2=0∧a3=0∧a4=0∧a5=0∧a6=0∧a7=0):=by
   intro k;apply hc;simp [k]
  refine ⟨?_,rfl,rfl⟩;rw [hr,decide_eq_false hk]
end
end Go.Proofs.YtgfpjhddojhfpaaGreat
