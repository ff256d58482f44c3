/- Texts put together: EM EN EO KT. -/
import Derived.Test.YtgfpjhddojhfpaaGreatZ19
import Derived.Test.YtgfpjhddojhfpaaGreatZ26
import Derived.Test.YtgfpjhddojhfpaaGreatZ29
namespace Go.Proofs.YtgfpjhddojhfpaaGreat
set_option linter.unusedVariables false
set_option linter.unusedSimpArgs false
section
open Go.RowKit
set_option maxHeartbeats 4000000
set_option maxRecDepth 100000
abbrev pkS (cl fl nx hp a0 a1 a2 a3 a4 a5 a6 a7 a8 a9 b0 b1 b2 b3 b4 b5 x0 x1 x2 x3 x4 x5 x6 x7 x8 x9 y0 y1 y2 y3 y4 y5 sp dp:Int) (P:SV):SV:=.agg [.int .u8 cl,.int .u32 fl,.int .u8 nx,.int .u8 hp,.int .u8 a0,.int .u8 a1,.int .u8 a2,.int .u8 a3,.int .u8 a4,.int .u8 a5,.int .u8 a6,.int .u8 a7,.int .u8 a8,.int .u8 a9,.int .u8 b0,.int .u8 b1,.int .u8 b2,.int .u8 b3,.int .u8 b4,.int .u8 b5,.int .u8 x0,.int .u8 x1,.int .u8 x2,.int .u8 x3,.int .u8 x4,.int .u8 x5,.int .u8 x6,.int .u8 x7,.int .u8 x8,.int .u8 x9,.int .u8 y0,.int .u8 y1,.int .u8 y2,.int .u8 y3,.int .u8 y4,.int .u8 y5,.int .u16 sp,.int .u16 dp,P]
theorem psize_c (cl fl nx hp a0 a1 a2 a3 a4 a5 a6 a7 a8 a9 b0 b1 b2 b3 b4 b5 x0 x1 x2 x3 x4 x5 x6 x7 x8 x9 y0 y1 y2 y3 y4 y5 sp dp:Int) (P:List SV) (r:Int) (hr:r=40+(P.length:Int)+(if nx=17 then 8 else 0)) (hl:P.length≤2000):Good 89 (pu [pkS cl fl nx hp a0 a1 a2 a3 a4 a5 a6 a7 a8 a9 b0 b1 b2 b3 b4 b5 x0 x1 x2 x3 x4 x5 x6 x7 x8 x9 y0 y1 y2 y3 y4 y5 sp dp (.lst none P)] (.int .i64 r)):=by
 by_cases hn:nx=17
 ·rw [if_pos hn] at hr
  refine Good.of Tryz.func89 rfl (by rfl) (by kernel_rfl) ?_
  cbv
  have hmk:True:=trivial
  (try (simp only [cwn];cbv));(repeat' (first
| ((first
| (refine q1w (fun z hz=>?_);(try simp [oln,Int.max_def,Int.min_def] at hz);(with_reducible refine litk hz ?_ ?_);(focus decide);subst hz)
| (refine q1w (fun z hz=>?_);(replace hz:=remP hz (by omega)))
| (refine q1w (fun z hz=>?_);(replace hz:=quoP hz (by omega)))
| (refine q1w (fun z hz=>?_);(replace hz:=modP hz (by omega)))
| (refine q1w (fun z hz=>?_);(try simp only [Int.reduceToNat,Int.reducePow] at hz))
| refine td ?_
| refine fd ?_
| refine rqa ?_
| refine vI ?_
| refine vA ?_
| refine vS ?_
| refine vR ?_
| refine chpA ?_
| refine QCt ?_
| refine QCf ?_);cbv;(try (simp only [cwn];cbv)))
| (simp only [cwn];cbv)
| (refine QC.mk ?_ ?_ <;> intro hc <;> (try dsimp only at hc) <;> cbv;(try (simp only [cwn];cbv)))
| (refine br_mk2 ?_ ?_ <;> intro hb <;> (try subst hb) <;> cbv;(try (simp only [cwn];cbv)))))
  have e:z=r:=by (first | omega | (simp only [cst] at *;omega) | (simp only [sm] at *;omega))
  subst e
  exact ⟨rfl,rfl,rfl⟩
 ·rw [if_neg hn] at hr
  refine Good.of Tryz.func89 rfl (by rfl) (by kernel_rfl) ?_
  cbv
  have hmk:True:=trivial
  (try (simp only [cwn];cbv));(repeat' (first
| ((first
| (refine q1w (fun z hz=>?_);(try simp [oln,Int.max_def,Int.min_def] at hz);(with_reducible refine litk hz ?_ ?_);(focus decide);subst hz)
| (refine q1w (fun z hz=>?_);(replace hz:=remP hz (by omega)))
| (refine q1w (fun z hz=>?_);(replace hz:=quoP hz (by omega)))
| (refine q1w (fun z hz=>?_);(replace hz:=modP hz (by omega)))
| (refine q1w (fun z hz=>?_);(try simp only [Int.reduceToNat,Int.reducePow] at hz))
| refine td ?_
| refine fd ?_
| refine rqa ?_
| refine vI ?_
| refine vA ?_
| refine vS ?_
| refine vR ?_
| refine chpA ?_
| refine QCt ?_
| refine QCf ?_);cbv;(try (simp only [cwn];cbv)))
| (simp only [cwn];cbv)
| (refine QC.mk ?_ ?_ <;> intro hc <;> (try dsimp only at hc) <;> cbv;(try (simp only [cwn];cbv)))
| (refine br_mk2 ?_ ?_ <;> intro hb <;> (try subst hb) <;> cbv;(try (simp only [cwn];cbv)))))
  have e:z=r:=by (first | omega | (simp only [cst] at *;omega) | (simp only [sm] at *;omega))
  subst e
  exact ⟨rfl,rfl,rfl⟩
structure PkOk (cl fl nx hp a0 sp dp:Int) (n:Nat):Prop where
 hcl:0≤cl∧cl≤255
 hfl:0≤fl∧fl≤1048575
 hnx:0≤nx∧nx≤255
 hhp:0≤hp∧hp≤255
 ha0:a0≠255
 hsp:0≤sp∧sp≤65535
 hdp:0≤dp∧dp≤65535
 hz:nx≠17→sp=0∧dp=0
 hn:n≤1240
 hm:nx=17→n≤1232
theorem pvalid_c (cl fl nx hp a0 a1 a2 a3 a4 a5 a6 a7 a8 a9 b0 b1 b2 b3 b4 b5 x0 x1 x2 x3 x4 x5 x6 x7 x8 x9 y0 y1 y2 y3 y4 y5 sp dp:Int) (P:List SV) (H:PkOk cl fl nx hp a0 sp dp P.length):Good 132 (pu [pkS cl fl nx hp a0 a1 a2 a3 a4 a5 a6 a7 a8 a9 b0 b1 b2 b3 b4 b5 x0 x1 x2 x3 x4 x5 x6 x7 x8 x9 y0 y1 y2 y3 y4 y5 sp dp (.lst none P)] (.bool true)):=by
 obtain ⟨hcl,hfl,hnx,hhp,ha0,hsp,hdp,hz,hn,hm⟩:=H
 have g1:=psize_c cl fl nx hp a0 a1 a2 a3 a4 a5 a6 a7 a8 a9 b0 b1 b2 b3 b4 b5 x0 x1 x2 x3 x4 x5 x6 x7 x8 x9 y0 y1 y2 y3 y4 y5 sp dp P _ rfl (by omega)
 have g2:=imc_c a0 a1 a2 a3 a4 a5 a6 a7 a8 a9 b0 b1 b2 b3 b4 b5 false (by rw [decide_eq_false ha0])
 obtain ⟨r,hr⟩:∃ r,r=40+(P.length:Int)+(if nx=17 then 8 else 0):=⟨_,rfl⟩
 rw [← hr] at g1
 by_cases hn:nx=17
 ·rw [if_pos hn] at hr
  replace hm:=hm hn
  clear hz
  refine Good.of Tryz.func132 rfl (by rfl) (by kernel_rfl) ?_
  cbv
  have hmk:True:=trivial
  exact wlkcDL
 ·rw [if_neg hn] at hr
  obtain ⟨rfl,rfl⟩:=hz hn
  clear hm
  refine Good.of Tryz.func132 rfl (by rfl) (by kernel_rfl) ?_
  cbv
  have hmk:True:=trivial
  exact wlkcDL
theorem numbers_c (X R1 R2 R3 R4:List SV) (v1 v2 v3 v4 n1 n2 n3 n4:Int) (g1:Good 85 (nu [.lst none X,.int .u64 v1,.int .i64 n1] (.row 1) (.row none 5 R1))) (g2:Good 85 (nu [.lst none R1,.int .u64 v2,.int .i64 n2] (.row 1) (.row none 5 R2))) (g3:Good 85 (nu [.lst none R2,.int .u64 v3,.int .i64 n3] (.row 1) (.row none 5 R3))) (g4:Good 85 (nu [.lst none R3,.int .u64 v4,.int .i64 n4] (.row 1) (.row none 5 R4))) :
  Good 195 (nu [.lst none X,.lst (some 2) [.agg [.int .u64 v1,.int .i64 n1],.agg [.int .u64 v2,.int .i64 n2],.agg [.int .u64 v3,.int .i64 n3],.agg [.int .u64 v4,.int .i64 n4]]] (.row 1) (.row none 5 R4)):=by
 refine Good.of Tryz.func195 rfl (by rfl) (by kernel_rfl) ?_
 cbv
 have hmk:True:=trivial
 exact wlkcLU
end
section
open Go.RowKit
set_option maxHeartbeats 4000000
set_option maxRecDepth 100000
theorem apL_app (l y:List SV):apL l y=l++y:=by cases l <;> simp [apL,oap]
theorem encoding_e (cl fl hp a0 a1 a2 a3 a4 a5 a6 a7 a8 a9 b0 b1 b2 b3 b4 b5 x0 x1 x2 x3 x4 x5 x6 x7 x8 x9 y0 y1 y2 y3 y4 y5 sp dp:Int) (pay Sb Db:List UInt8) (P:List SV) (hP:P=u8l pay) (H:PkOk cl fl 17 hp a0 sp dp P.length) (hS:[SV.int .u8 a0,.int .u8 a1,.int .u8 a2,.int .u8 a3,.int .u8 a4,.int .u8 a5,.int .u8 a6,.int .u8 a7,.int .u8 a8,.int .u8 a9,.int .u8 b0,.int .u8 b1,.int .u8 b2,.int .u8 b3,.int .u8 b4,.int .u8 b5]=u8l Sb) (hD:[SV.int .u8 x0,.int .u8 x1,.int .u8 x2,.int .u8 x3,.int .u8 x4,.int .u8 x5,.int .u8 x6,.int .u8 x7,.int .u8 x8,.int .u8 x9,.int .u8 y0,.int .u8 y1,.int .u8 y2,.int .u8 y3,.int .u8 y4,.int .u8 y5]=u8l Db) :
  ∃ E:List UInt8,E.length=48+pay.length∧Good 152 (nu [pkS cl fl 17 hp a0 a1 a2 a3 a4 a5 a6 a7 a8 a9 b0 b1 b2 b3 b4 b5 x0 x1 x2 x3 x4 x5 x6 x7 x8 x9 y0 y1 y2 y3 y4 y5 sp dp (.lst none P),.int .u16 0] (.row 1) (.row none 5 (u8l E))):=by
 obtain ⟨hcl,hfl,hnx,hhp,ha0,hsp,hdp,hz,hn,hm⟩:=H
 replace hm:=hm rfl
 clear hz hnx hn
 have hPl:P.length=pay.length:=by rw [hP,u8l_len]
 have s1:Sb.length=16:=by have:=congrArg List.length hS;simpa [u8l] using this.symm
 have d1:Db.length=16:=by have:=congrArg List.length hD;simpa [u8l] using this.symm
 have g0:=psize_c cl fl 17 hp a0 a1 a2 a3 a4 a5 a6 a7 a8 a9 b0 b1 b2 b3 b4 b5 x0 x1 x2 x3 x4 x5 x6 x7 x8 x9 y0 y1 y2 y3 y4 y5 sp dp P _ rfl (by omega)
 rw [if_pos rfl] at g0
 obtain ⟨n,hn⟩:∃ n:Int,(P.length:Int)=n:=⟨_,rfl⟩
 have hnb:0≤n∧n≤1232:=by omega
 rw [hn] at g0
 obtain ⟨sz,hsz⟩:∃ z:Int,z=40+n+8:=⟨_,rfl⟩
 rw [← hsz] at g0
 obtain ⟨w,hw⟩:∃ w:Int,w=1610612736+cl * 1048576+fl:=⟨_,rfl⟩
 obtain ⟨q,hq⟩:∃ w:Int,w=8+n:=⟨_,rfl⟩
 obtain ⟨B1,h1⟩:∃ B,B=[]++bytesOf w 4:=⟨_,rfl⟩
 obtain ⟨B2,h2⟩:∃ B,B=B1++bytesOf q 2:=⟨_,rfl⟩
 obtain ⟨B3,h3⟩:∃ B,B=B2++bytesOf 17 1:=⟨_,rfl⟩
 obtain ⟨B4,h4⟩:∃ B,B=B3++bytesOf hp 1:=⟨_,rfl⟩
 obtain ⟨B5,h5⟩:∃ B,B=B4++Sb++Db:=⟨_,rfl⟩
 obtain ⟨B6,h6⟩:∃ B,B=B5++bytesOf sp 2:=⟨_,rfl⟩
 obtain ⟨B7,h7⟩:∃ B,B=B6++bytesOf dp 2:=⟨_,rfl⟩
 obtain ⟨B8,h8⟩:∃ B,B=B7++bytesOf q 2:=⟨_,rfl⟩
 obtain ⟨B9,h9⟩:∃ B,B=B8++bytesOf 0 2:=⟨_,rfl⟩
 have l1:B1.length=4:=by rw [h1,List.nil_append,bytesOf_length]
 have l2:B2.length=6:=by rw [h2,List.length_append,bytesOf_length];omega
 have l3:B3.length=7:=by rw [h3,List.length_append,bytesOf_length];omega
 have l4:B4.length=8:=by rw [h4,List.length_append,bytesOf_length];omega
 have l5:B5.length=40:=by rw [h5,List.length_append,List.length_append];omega
 have l6:B6.length=42:=by rw [h6,List.length_append,bytesOf_length];omega
 have l7:B7.length=44:=by rw [h7,List.length_append,bytesOf_length];omega
 have l8:B8.length=46:=by rw [h8,List.length_append,bytesOf_length];omega
 have l9:B9.length=48:=by rw [h9,List.length_append,bytesOf_length];omega
 obtain ⟨R4,r4⟩:∃ R,R=u8l B4:=⟨_,rfl⟩
 obtain ⟨R9,r9⟩:∃ R,R=u8l B9:=⟨_,rfl⟩
 have n1:=numbers_c [] _ _ _ R4 w q 17 hp 4 2 1 1 (append_c [] [] _ w 4 4 rfl rfl (by omega) (by omega) (by simp) (congrArg u8l h1)) (append_c B1 _ _ q 2 2 rfl rfl (by omega) (by omega) (by omega) (congrArg u8l h2)) (append_c B2 _ _ 17 1 1 rfl rfl (by omega) (by omega) (by omega) (congrArg u8l h3)) (append_c B3 _ R4 hp 1 1 rfl rfl (by omega) (by omega) (by omega) (by rw [r4,h4]))
 obtain ⟨M5,hM5⟩:∃ M,M=u8l (B4++Sb):=⟨_,rfl⟩
 obtain ⟨M6,hX⟩:∃ M,M=u8l B5:=⟨_,rfl⟩
 have k1:apL R4 [SV.int .u8 a0,.int .u8 a1,.int .u8 a2,.int .u8 a3,.int .u8 a4,.int .u8 a5,.int .u8 a6,.int .u8 a7,.int .u8 a8,.int .u8 a9,.int .u8 b0,.int .u8 b1,.int .u8 b2,.int .u8 b3,.int .u8 b4,.int .u8 b5]=M5:=by rw [apL_app,hS,r4,u8l_app,hM5]
 have k2:apL M5 [SV.int .u8 x0,.int .u8 x1,.int .u8 x2,.int .u8 x3,.int .u8 x4,.int .u8 x5,.int .u8 x6,.int .u8 x7,.int .u8 x8,.int .u8 x9,.int .u8 y0,.int .u8 y1,.int .u8 y2,.int .u8 y3,.int .u8 y4,.int .u8 y5]=M6:=by rw [apL_app,hD,hM5,u8l_app,hX,h5]
 have n2:=numbers_c M6 _ _ _ R9 sp dp q 0 2 2 2 2 (append_c B5 _ _ sp 2 2 hX rfl (by omega) (by omega) (by omega) (congrArg u8l h6)) (append_c B6 _ _ dp 2 2 rfl rfl (by omega) (by omega) (by omega) (congrArg u8l h7)) (append_c B7 _ _ q 2 2 rfl rfl (by omega) (by omega) (by omega) (congrArg u8l h8)) (append_c B8 _ R9 0 2 2 rfl rfl (by omega) (by omega) (by omega) (by rw [r9,h9]))
 have hR4:R4.length=8:=by rw [r4,u8l_len,l4]
 have hR9:R9.length=48:=by rw [r9,u8l_len,l9]
 obtain ⟨M9,hM9⟩:∃ M,M=u8l (B9++pay):=⟨_,rfl⟩
 have k3:apL R9 P=M9:=by rw [apL_app,r9,hP,u8l_app,hM9]
 have hM5l:M5.length=24:=by rw [hM5,u8l_len,List.length_append];omega
 have hM6l:M6.length=40:=by rw [hX,u8l_len,l5]
 refine ⟨B9++pay,by rw [List.length_append];omega,?_⟩
 rw [← hM9]
 clear h1 h2 h3 h4 h5 h6 h7 h8 h9 l1 l2 l3 l4 l5 l6 l7 l8 l9 hS hD hX r4 r9 hM9 hM5 s1 d1 hP
 unfold apL at k1 k2 k3
 refine Good.of Tryz.func152 rfl (by rfl) (by kernel_rfl) ?_
 cbv
 have hmk:True:=trivial
 (try (simp only [cwn];cbv));(repeat' (first
| ((first
| (simp only [k1])
| (simp only [k2])
| (simp only [k3])
| (refine q1w (fun z hz=>?_);(have e:w=z:=by omega);subst e)
| (refine q1w (fun z hz=>?_);(have e:q=z:=by omega);subst e)
| (refine q1w (fun z hz=>?_);(have e:sp=z:=by omega);subst e)
| (refine q1w (fun z hz=>?_);(have e:dp=z:=by omega);subst e)
| (refine q1w (fun z hz=>?_);(have e:hp=z:=by omega);subst e)
| (refine q1w (fun z hz=>?_);(try simp [oln,Int.max_def,Int.min_def] at hz);(with_reducible refine litk hz ?_ ?_);(focus decide);subst hz)
| (refine q1w (fun z hz=>?_);(replace hz:=remP hz (by omega)))
| (refine q1w (fun z hz=>?_);(replace hz:=quoP hz (by omega)))
| (refine q1w (fun z hz=>?_);(replace hz:=modP hz (by omega)))
| (refine q1w (fun z hz=>?_);(try simp only [Int.reduceToNat,Int.reducePow] at hz))
| refine td ?_
| refine fd ?_
| refine rqa ?_
| refine vI ?_
| refine vA ?_
| refine vS ?_
| refine vR ?_
| refine callq (g0) rfl rfl ?_
| refine callq (n1) rfl rfl ?_
| refine callq (n2) rfl rfl ?_
| refine chpA ?_
| refine QCt ?_
| refine QCf ?_);cbv;(try (simp only [cwn];cbv)))
| (simp only [cwn];cbv)
| (refine QC.mk ?_ ?_ <;> intro hc <;> (try dsimp only at hc) <;> cbv;(try (simp only [cwn];cbv)))
| (refine br_mk2 ?_ ?_ <;> intro hb <;> (try subst hb) <;> cbv;(try (simp only [cwn];cbv)))))
 exact ⟨rfl,rfl,rfl⟩
end
section
open Go.RowKit
set_option maxHeartbeats 4000000
set_option maxRecDepth 100000
theorem udpsum_e (E:List UInt8) (R:List SV) (hR:R=u8l E) (hE:48≤E.length∧E.length≤1280):∃ r:Int,(0≤r∧r≤65535)∧Good 143 (pu [.lst none R] (.int .u16 r)):=by
 have hRl:R.length=E.length:=by rw [hR,u8l_len]
 obtain ⟨n,hn⟩:∃ n:Int,(E.length:Int)=n:=⟨_,rfl⟩
 have hRn:(R.length:Int)=n:=by omega
 have hnb:48≤n∧n≤1280:=by omega
 obtain ⟨q,hq⟩:∃ q:Int,q=n - 40:=⟨_,rfl⟩
 obtain ⟨Q,hQ⟩:∃ Q,Q=u8l (bytesOf q 4):=⟨_,rfl⟩
 have g1:=append_c [] [] Q q 4 4 rfl rfl (by omega) (by omega) (by simp) (by rw [List.nil_append];exact hQ)
 obtain ⟨s,hs,g2⟩:=inet_c [(E.drop 8).take 32,bytesOf q 4,[0,0,0,17],(E.drop 40).take 6,[0,0],E.drop 48] [.lst none (O.sg R (O.tn 8) (O.si 40 8)),.lst none Q,.lst none [.int .u8 0,.int .u8 0,.int .u8 0,.int .u8 17],.lst none (O.sg R (O.tn 40) (O.si 46 40)),.lst none [.int .u8 0,.int .u8 0],.lst none (O.dr 48 R)]
  (by simp only [List.map,odr,osg,otn,osi,hR,hQ,u8l_drop,u8l_take];rfl) (by simp) (by simp [bytesOf_length];omega)
 refine ⟨if s=0 then 65535 else s,by split <;> omega,?_⟩
 by_cases h0:s=0
 ·subst h0
  rw [if_pos rfl]
  clear hR hQ
  refine Good.of Tryz.func143 rfl (by rfl) (by kernel_rfl) ?_
  cbv
  have hmk:True:=trivial
  (repeat' (first
| ((first
| (refine q1w (fun z hz=>?_);(have e:n=z:=by (simp only [oln] at hz;omega));subst e)
| (refine q1w (fun z hz=>?_);(have e:q=z:=by omega);subst e)
| (refine q1w (fun z hz=>?_);(try simp [oln,Int.max_def,Int.min_def] at hz);(with_reducible refine litk hz ?_ ?_);(focus decide);subst hz)
| (refine q1w (fun z hz=>?_);(replace hz:=remP hz (by omega)))
| (refine q1w (fun z hz=>?_);(replace hz:=quoP hz (by omega)))
| (refine q1w (fun z hz=>?_);(replace hz:=modP hz (by omega)))
| (refine q1w (fun z hz=>?_);(try simp only [Int.reduceToNat,Int.reducePow] at hz))
| refine td ?_
| refine fd ?_
| refine rqa ?_
| refine vI ?_
| refine vA ?_
| refine vS ?_
| refine vR ?_
| refine callq (g1) rfl rfl ?_
| refine callq (g2) rfl rfl ?_
| refine chpA ?_
| refine QCt ?_
| refine QCf ?_);cbv)
| (refine QC.mk ?_ ?_ <;> intro hc <;> (try dsimp only at hc) <;> cbv)
| (refine br_mk2 ?_ ?_ <;> intro hb <;> (try subst hb) <;> cbv)))
  exact ⟨rfl,rfl,rfl⟩
 ·rw [if_neg h0]
  clear hR hQ
  refine Good.of Tryz.func143 rfl (by rfl) (by kernel_rfl) ?_
  cbv
  have hmk:True:=trivial
  (repeat' (first
| ((first
| (refine q1w (fun z hz=>?_);(have e:n=z:=by (simp only [oln] at hz;omega));subst e)
| (refine q1w (fun z hz=>?_);(have e:q=z:=by omega);subst e)
| (refine q1w (fun z hz=>?_);(try simp [oln,Int.max_def,Int.min_def] at hz);(with_reducible refine litk hz ?_ ?_);(focus decide);subst hz)
| (refine q1w (fun z hz=>?_);(replace hz:=remP hz (by omega)))
| (refine q1w (fun z hz=>?_);(replace hz:=quoP hz (by omega)))
| (refine q1w (fun z hz=>?_);(replace hz:=modP hz (by omega)))
| (refine q1w (fun z hz=>?_);(try simp only [Int.reduceToNat,Int.reducePow] at hz))
| refine td ?_
| refine fd ?_
| refine rqa ?_
| refine vI ?_
| refine vA ?_
| refine vS ?_
| refine vR ?_
| refine callq (g1) rfl rfl ?_
| refine callq (g2) rfl rfl ?_
| refine chpA ?_
| refine QCt ?_
| refine QCf ?_);cbv)
| (refine QC.mk ?_ ?_ <;> intro hc <;> (try dsimp only at hc) <;> cbv)
| (refine br_mk2 ?_ ?_ <;> intro hb <;> (try subst hb) <;> cbv)))
  exact ⟨rfl,rfl,rfl⟩
theorem psum_e (cl fl hp a0 a1 a2 a3 a4 a5 a6 a7 a8 a9 b0 b1 b2 b3 b4 b5 x0 x1 x2 x3 x4 x5 x6 x7 x8 x9 y0 y1 y2 y3 y4 y5 sp dp:Int) (pay Sb Db:List UInt8) (P:List SV) (hP:P=u8l pay) (H:PkOk cl fl 17 hp a0 sp dp P.length) (hS:[SV.int .u8 a0,.int .u8 a1,.int .u8 a2,.int .u8 a3,.int .u8 a4,.int .u8 a5,.int .u8 a6,.int .u8 a7,.int .u8 a8,.int .u8 a9,.int .u8 b0,.int .u8 b1,.int .u8 b2,.int .u8 b3,.int .u8 b4,.int .u8 b5]=u8l Sb) (hD:[SV.int .u8 x0,.int .u8 x1,.int .u8 x2,.int .u8 x3,.int .u8 x4,.int .u8 x5,.int .u8 x6,.int .u8 x7,.int .u8 x8,.int .u8 x9,.int .u8 y0,.int .u8 y1,.int .u8 y2,.int .u8 y3,.int .u8 y4,.int .u8 y5]=u8l Db) :
  ∃ r:Int,(0≤r∧r≤65535)∧Good 90 (pu [pkS cl fl 17 hp a0 a1 a2 a3 a4 a5 a6 a7 a8 a9 b0 b1 b2 b3 b4 b5 x0 x1 x2 x3 x4 x5 x6 x7 x8 x9 y0 y1 y2 y3 y4 y5 sp dp (.lst none P)] (.int .u16 r)):=by
 obtain ⟨E,hE,g1⟩:=encoding_e cl fl hp a0 a1 a2 a3 a4 a5 a6 a7 a8 a9 b0 b1 b2 b3 b4 b5 x0 x1 x2 x3 x4 x5 x6 x7 x8 x9 y0 y1 y2 y3 y4 y5 sp dp pay Sb Db P hP H hS hD
 have hm:=H.hm rfl
 have hPl:P.length=pay.length:=by rw [hP,u8l_len]
 obtain ⟨R,hR⟩:∃ R,R=u8l E:=⟨_,rfl⟩
 rw [← hR] at g1
 obtain ⟨r,hr,g2⟩:=udpsum_e E R hR (by omega)
 have g3:=pvalid_c cl fl 17 hp a0 a1 a2 a3 a4 a5 a6 a7 a8 a9 b0 b1 b2 b3 b4 b5 x0 x1 x2 x3 x4 x5 x6 x7 x8 x9 y0 y1 y2 y3 y4 y5 sp dp P H
 refine ⟨r,hr,?_⟩
 clear hR hS hD hP H
 refine Good.of Tryz.func90 rfl (by rfl) (by kernel_rfl) ?_
 cbv
 have hmk:True:=trivial
 exact wlkcDL
end
section
open Go.RowKit
set_option maxHeartbeats 4000000
set_option maxRecDepth 100000
theorem psame_c (cl fl nx hp a0 a1 a2 a3 a4 a5 a6 a7 a8 a9 b0 b1 b2 b3 b4 b5 x0 x1 x2 x3 x4 x5 x6 x7 x8 x9 y0 y1 y2 y3 y4 y5 sp dp:Int) (pay:List UInt8) (P:List SV) (hP:P=u8l pay) (hl:pay.length≤2000):Good 40 (pu [pkS cl fl nx hp a0 a1 a2 a3 a4 a5 a6 a7 a8 a9 b0 b1 b2 b3 b4 b5 x0 x1 x2 x3 x4 x5 x6 x7 x8 x9 y0 y1 y2 y3 y4 y5 sp dp (.lst none P),pkS cl fl nx hp a0 a1 a2 a3 a4 a5 a6 a7 a8 a9 b0 b1 b2 b3 b4 b5 x0 x1 x2 x3 x4 x5 x6 x7 x8 x9 y0 y1 y2 y3 y4 y5 sp dp (.lst none P)] (.bool true)):=by
 have g:=same_c pay pay P P true hP hP (by omega) (by omega) (by simp)
 refine Good.of Tryz.func40 rfl (by rfl) (by kernel_rfl) ?_
 cbv
 have hmk:True:=trivial
 (repeat' (first
| ((first
| (refine q1w (fun z hz=>?_);(try simp [oln,Int.max_def,Int.min_def] at hz);(with_reducible refine litk hz ?_ ?_);(focus decide);subst hz)
| (refine q1w (fun z hz=>?_);(try simp only [Int.reduceToNat,Int.reducePow] at hz))
| refine td ?_
| refine fd ?_
| refine rqa ?_
| refine vI ?_
| refine vA ?_
| refine vS ?_
| refine vR ?_
| refine callq (g) rfl rfl ?_
| refine chpA ?_
| refine QCt ?_
| refine QCf ?_);cbv)
| (refine QC.mk ?_ ?_ <;> intro hc <;> (try dsimp only at hc) <;> cbv)
| (refine br_mk2 ?_ ?_ <;> intro hb <;> (try subst hb) <;> cbv)))
 all_goals trace_state
 exact ⟨rfl,rfl,rfl⟩
end
end Go.Proofs.YtgfpjhddojhfpaaGreat
