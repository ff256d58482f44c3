/- Texts put together: EZc EZd. -/
import Derived.Test.YtgfpjhddojhfpaaGreatZ04
import Derived.Test.YtgfpjhddojhfpaaGreatZ28
import Derived.Test.YtgfpjhddojhfpaaGreatZ38
import Derived.Test.YtgfpjhddojhfpaaGreatZ39
namespace Go.Proofs.YtgfpjhddojhfpaaGreat
set_option linter.unusedVariables false
set_option linter.unusedSimpArgs false
section
open Go.RowKit
set_option maxHeartbeats 4000000
theorem next2_c (L:List SV) (l:List Int) (hL:L=ints .i64 l) (hl:∀ v∈l,-9223372036854775808≤v∧v≤9223372036854775807) (h400:l.length≤400) (a n r b:Int) (ha:0≤a∧a≤400) (hn:1≤n∧n≤2000000) (hr:r=nextT l a n) (hb:b=nextA l a) :
  Good 42 (le 144 (.agg [.lst none L,.int .i64 a]) [.int .i64 n] (.int .i64 r) (.agg [.lst none L,.int .i64 b])):=by
 refine Good.of Tryz.func42 rfl (by rfl) (by kernel_rfl) ?_
 cbv
 have hlen:L.length=l.length:=by rw [hL,ints_len]
 (repeat' (first
| ((first
| (refine q1w (fun z hz=>?_);(try simp only at hz))
| refine rqa ?_
| refine chpA ?_
| refine QCt ?_
| refine QCf ?_);cbv)
| (refine QC.mk ?_ ?_ <;> intro hc <;> (try dsimp only at hc) <;> cbv)
| (refine br_mk2 ?_ ?_ <;> intro hb <;> (try subst hb) <;> cbv)))
 ·have hz':z=l.length:=by rw [hz,oln,hlen]
  refine ⟨?_,rfl,?_⟩
  ·rw [hr,nextT,if_pos (by omega)]
  ·rw [hb,nextA,if_pos (by omega)]
 ·have hz':z=l.length:=by rw [hz,oln,hlen]
  have hlt:a.toNat < l.length:=by omega
  have hv:=hl _ (getD_mem hlt)
  have hr':r=l.getD a.toNat 0 % n:=by rw [hr,nextT,if_neg (by omega)]
  have hb':b=a+1:=by rw [hb,nextA,if_neg (by omega)]
  refine qv (a.toNat,.int .i64 (l.getD a.toNat 0)) ⟨?_,?_⟩ ?_
  ·show a=(a.toNat:Int);omega
  ·rw [hL];exact ints_at _ hlt
  generalize l.getD a.toNat 0=v at *
  have h1:=Int.tmod_lt_of_pos v (show 0 < n by omega)
  have h2:=Int.lt_tmod_of_pos v (show 0 < n by omega)
  have h3:v % n=if v.tmod n < 0 then v.tmod n+n else v.tmod n:=by
   have e:v % n=v.tmod n % n:=by
    conv=>lhs;rw [← Int.tmod_add_mul_tdiv v n]
    rw [Int.add_mul_emod_self_left]
   rw [e]
   split
   ·rw [← Int.add_emod_right]
    exact Int.emod_eq_of_lt (by omega) (by omega)
   ·exact Int.emod_eq_of_lt (by omega) (by omega)
  clear hz hr hb
  cbv
  (repeat' (first
| ((first
| (refine q1w (fun z hz=>?_);(try simp only at hz))
| refine rqa ?_
| refine chpA ?_
| refine QCt ?_
| refine QCf ?_);cbv)
| (refine QC.mk ?_ ?_ <;> intro hc <;> (try dsimp only at hc) <;> cbv)
| (refine br_mk2 ?_ ?_ <;> intro hb <;> (try subst hb) <;> cbv)))
  ·rename_i y hy _ _
   refine ⟨?_,rfl,?_⟩
   ·rw [hr',h3,if_pos (by omega),← hy.1,hz]
   ·subst_vars;rfl
  ·rename_i y hy
   refine ⟨?_,rfl,?_⟩
   ·rw [hr',h3,if_neg (by omega),← hy.1]
   ·subst_vars;rfl
theorem next2_e {L:List SV} {a:Int} (h:Tp L a) (n:Int) (hn:1≤n∧n≤2000000):∃ r b,0≤r∧r < n∧Tp L b∧Good 42 (le 144 (.agg [.lst none L,.int .i64 a]) [.int .i64 n] (.int .i64 r) (.agg [.lst none L,.int .i64 b])):=by
 obtain ⟨⟨l,h1,h2,h3⟩,h4⟩:=h
 refine ⟨_,_,?_,?_,⟨⟨l,h1,h2,h3⟩,?_⟩,next2_c L l h1 h2 h3 a n _ _ h4 hn rfl rfl⟩
 ·unfold nextT;split
  ·omega
  ·exact Int.emod_nonneg _ (by omega)
 ·unfold nextT;split
  ·omega
  ·exact Int.emod_lt_of_pos _ (by omega)
 ·unfold nextA;split <;> omega
end
section
open Go.RowKit
set_option maxHeartbeats 4000000
set_option maxRecDepth 100000
theorem group_e {L:List SV} {a:Int} (h:Tp L a):∃ a0 a1 a2 a3 a4 a5 a6 a7 a8 a9 b0 b1 b2 b3 b4 b5 b,By16 a0 a1 a2 a3 a4 a5 a6 a7 a8 a9 b0 b1 b2 b3 b4 b5∧Tp L b∧Good 129 (le 144 (.agg [.lst none L,.int .i64 a]) [] (ipS a0 a1 a2 a3 a4 a5 a6 a7 a8 a9 b0 b1 b2 b3 b4 b5) (.agg [.lst none L,.int .i64 b])):=by
 obtain ⟨y,c,t,g⟩:=bool_e h 2 (by omega)
 cases y
 ·exact grp_n h (by omega) (by omega) t rfl g
 ·obtain ⟨v,d,p,u,t2,g2⟩:=next_e t 256 (by omega)
  exact grp_y h p u t2 g g2
theorem ip_e {L:List SV} {a:Int} (h:Tp L a) (e k:Int) (he:e=144115188075855873∧k=1∨e=144115188075855874∧k=2):∃ a0 a1 a2 a3 a4 a5 a6 a7 a8 a9 b0 b1 b2 b3 b4 b5 b,By16 a0 a1 a2 a3 a4 a5 a6 a7 a8 a9 b0 b1 b2 b3 b4 b5∧Tp L b∧Good 67 (le 144 (.agg [.lst none L,.int .i64 a]) [dvS e] (ipS a0 a1 a2 a3 a4 a5 a6 a7 a8 a9 b0 b1 b2 b3 b4 b5) (.agg [.lst none L,.int .i64 b])):=by
 obtain ⟨n1,o1,p1,u1,t1,g1⟩:=next_e h 6 (by omega)
 obtain ⟨x,hxb,hx⟩:∃ x:Int,(0≤x∧x≤18446744073709551615)∧[SV.int .u64 2306139568115548160,.int .u64 2306139568115613696,.int .u64 18338657682652659712,.int .u64 18230571291595767808,.int .u64 0,.int .u64 2306139568115613697][n1.toNat]?=some (.int .u64 x):=by
  rcases (show n1=0∨n1=1∨n1=2∨n1=3∨n1=4∨n1=5 by omega) with r | r | r | r | r | r <;> subst r <;> exact ⟨_,by decide,rfl⟩
 have gi:=riid_c e k he
 have hk:0≤k∧k≤18446744073709551615:=by omega
 obtain ⟨n2,o2,p2,u2,t2,g2⟩:=next_e t1 6 (by omega)
 rcases (show n2=0∨n2=1∨n2=2∨n2=3∨n2=4∨n2=5 by omega) with r | r | r | r | r | r
 all_goals subst r
 ·obtain ⟨v,o3,p3,u3,t3,g3⟩:=next_e t2 65536 (by omega)
  obtain ⟨iid,hi⟩:∃ iid:Int,iid=1099478073344+v:=⟨_,rfl⟩
  obtain ⟨a0,a1,a2,a3,a4,a5,a6,a7,a8,a9,b0,b1,b2,b3,b4,b5,H,go⟩:=of_c x iid hxb (by omega)
  refine ⟨a0,a1,a2,a3,a4,a5,a6,a7,a8,a9,b0,b1,b2,b3,b4,b5,o3,H,t3,?_⟩
  clear H h t1 t2 t3 he
  refine Good.of Tryz.func67 rfl (by rfl) (by kernel_rfl) ?_
  cbv
  have hmk:True:=trivial
  (repeat' (first
| ((first
| (refine q1w (fun z hz=>?_);(have e:iid=z:=by omega);subst e)
| (refine q1w (fun z hz=>?_);(try simp [oln,Int.max_def,Int.min_def] at hz);(with_reducible refine litk hz ?_ ?_);(focus decide);subst hz)
| (refine q1w (fun z hz=>?_);(try simp only [Int.reduceToNat,Int.reducePow] at hz))
| refine td ?_
| refine fd ?_
| refine rqa ?_
| refine vI ?_
| refine vA ?_
| refine vS ?_
| refine vR ?_
| refine qv (n1.toNat) (by (first | omega | (simp only [cst] at *;omega) | (simp only [sm] at *;omega))) ?_
| refine qv _ (hx) ?_
| refine callq (g1) rfl rfl ?_
| refine callq (gi) rfl rfl ?_
| refine callq (g2) rfl rfl ?_
| refine callq (g3) rfl rfl ?_
| refine callq (go) rfl rfl ?_
| refine chpA ?_
| refine QCt ?_
| refine QCf ?_);cbv)
| (refine QC.mk ?_ ?_ <;> intro hc <;> (try dsimp only at hc) <;> cbv)
| (refine br_mk2 ?_ ?_ <;> intro hb <;> (try subst hb) <;> cbv)))
  exact ⟨rfl,rfl,rfl⟩
 ·obtain ⟨v,o3,hv,t3,g3⟩:=word_e t2
  obtain ⟨a0,a1,a2,a3,a4,a5,a6,a7,a8,a9,b0,b1,b2,b3,b4,b5,H,go⟩:=of_c x v hxb hv
  refine ⟨a0,a1,a2,a3,a4,a5,a6,a7,a8,a9,b0,b1,b2,b3,b4,b5,o3,H,t3,?_⟩
  clear H h t1 t2 t3 he
  refine Good.of Tryz.func67 rfl (by rfl) (by kernel_rfl) ?_
  cbv
  have hmk:True:=trivial
  (repeat' (first
| ((first
| (refine q1w (fun z hz=>?_);(try simp [oln,Int.max_def,Int.min_def] at hz);(with_reducible refine litk hz ?_ ?_);(focus decide);subst hz)
| (refine q1w (fun z hz=>?_);(try simp only [Int.reduceToNat,Int.reducePow] at hz))
| refine td ?_
| refine fd ?_
| refine rqa ?_
| refine vI ?_
| refine vA ?_
| refine vS ?_
| refine vR ?_
| refine qv (n1.toNat) (by (first | omega | (simp only [cst] at *;omega) | (simp only [sm] at *;omega))) ?_
| refine qv _ (hx) ?_
| refine callq (g1) rfl rfl ?_
| refine callq (gi) rfl rfl ?_
| refine callq (g2) rfl rfl ?_
| refine callq (g3) rfl rfl ?_
| refine callq (go) rfl rfl ?_
| refine chpA ?_
| refine QCt ?_
| refine QCf ?_);cbv)
| (refine QC.mk ?_ ?_ <;> intro hc <;> (try dsimp only at hc) <;> cbv)
| (refine br_mk2 ?_ ?_ <;> intro hb <;> (try subst hb) <;> cbv)))
  exact ⟨rfl,rfl,rfl⟩
 ·obtain ⟨a0,a1,a2,a3,a4,a5,a6,a7,a8,a9,b0,b1,b2,b3,b4,b5,o3,H,t3,g3⟩:=group_e t2
  refine ⟨a0,a1,a2,a3,a4,a5,a6,a7,a8,a9,b0,b1,b2,b3,b4,b5,o3,H,t3,?_⟩
  clear H h t1 t2 t3 he
  refine Good.of Tryz.func67 rfl (by rfl) (by kernel_rfl) ?_
  cbv
  have hmk:True:=trivial
  (repeat' (first
| ((first
| (refine q1w (fun z hz=>?_);(try simp [oln,Int.max_def,Int.min_def] at hz);(with_reducible refine litk hz ?_ ?_);(focus decide);subst hz)
| (refine q1w (fun z hz=>?_);(try simp only [Int.reduceToNat,Int.reducePow] at hz))
| refine td ?_
| refine fd ?_
| refine rqa ?_
| refine vI ?_
| refine vA ?_
| refine vS ?_
| refine vR ?_
| refine qv (n1.toNat) (by (first | omega | (simp only [cst] at *;omega) | (simp only [sm] at *;omega))) ?_
| refine qv _ (hx) ?_
| refine callq (g1) rfl rfl ?_
| refine callq (gi) rfl rfl ?_
| refine callq (g2) rfl rfl ?_
| refine callq (g3) rfl rfl ?_
| refine chpA ?_
| refine QCt ?_
| refine QCf ?_);cbv)
| (refine QC.mk ?_ ?_ <;> intro hc <;> (try dsimp only at hc) <;> cbv)
| (refine br_mk2 ?_ ?_ <;> intro hb <;> (try subst hb) <;> cbv)))
  exact ⟨rfl,rfl,rfl⟩
 ·obtain ⟨y,o3,t3,g3⟩:=bool_e t2 2 (by omega)
  cases y
  ·obtain ⟨a0,a1,a2,a3,a4,a5,a6,a7,a8,a9,b0,b1,b2,b3,b4,b5,H,go⟩:=of_c x k hxb hk
   refine ⟨a0,a1,a2,a3,a4,a5,a6,a7,a8,a9,b0,b1,b2,b3,b4,b5,o3,H,t3,?_⟩
   clear H h t1 t2 t3 he
   refine Good.of Tryz.func67 rfl (by rfl) (by kernel_rfl) ?_
   cbv
   have hmk:True:=trivial
   (repeat' (first
| ((first
| (refine q1w (fun z hz=>?_);(try simp [oln,Int.max_def,Int.min_def] at hz);(with_reducible refine litk hz ?_ ?_);(focus decide);subst hz)
| (refine q1w (fun z hz=>?_);(try simp only [Int.reduceToNat,Int.reducePow] at hz))
| refine td ?_
| refine fd ?_
| refine rqa ?_
| refine vI ?_
| refine vA ?_
| refine vS ?_
| refine vR ?_
| refine qv (n1.toNat) (by (first | omega | (simp only [cst] at *;omega) | (simp only [sm] at *;omega))) ?_
| refine qv _ (hx) ?_
| refine callq (g1) rfl rfl ?_
| refine callq (gi) rfl rfl ?_
| refine callq (g2) rfl rfl ?_
| refine callq (g3) rfl rfl ?_
| refine callq (go) rfl rfl ?_
| refine chpA ?_
| refine QCt ?_
| refine QCf ?_);cbv)
| (refine QC.mk ?_ ?_ <;> intro hc <;> (try dsimp only at hc) <;> cbv)
| (refine br_mk2 ?_ ?_ <;> intro hb <;> (try subst hb) <;> cbv)))
   exact ⟨rfl,rfl,rfl⟩
  ·refine ⟨0,0,0,0,0,0,0,0,0,0,0,0,0,0,0,0,o3,⟨by omega,by omega,by omega,by omega,by omega,by omega,by omega,by omega,by omega,by omega,by omega,by omega,by omega,by omega,by omega,by omega⟩,t3,?_⟩
   clear h t1 t2 t3 he
   refine Good.of Tryz.func67 rfl (by rfl) (by kernel_rfl) ?_
   cbv
   have hmk:True:=trivial
   (repeat' (first
| ((first
| (refine q1w (fun z hz=>?_);(try simp [oln,Int.max_def,Int.min_def] at hz);(with_reducible refine litk hz ?_ ?_);(focus decide);subst hz)
| (refine q1w (fun z hz=>?_);(try simp only [Int.reduceToNat,Int.reducePow] at hz))
| refine td ?_
| refine fd ?_
| refine rqa ?_
| refine vI ?_
| refine vA ?_
| refine vS ?_
| refine vR ?_
| refine qv (n1.toNat) (by (first | omega | (simp only [cst] at *;omega) | (simp only [sm] at *;omega))) ?_
| refine qv _ (hx) ?_
| refine callq (g1) rfl rfl ?_
| refine callq (gi) rfl rfl ?_
| refine callq (g2) rfl rfl ?_
| refine callq (g3) rfl rfl ?_
| refine chpA ?_
| refine QCt ?_
| refine QCf ?_);cbv)
| (refine QC.mk ?_ ?_ <;> intro hc <;> (try dsimp only at hc) <;> cbv)
| (refine br_mk2 ?_ ?_ <;> intro hb <;> (try subst hb) <;> cbv)))
   exact ⟨rfl,rfl,rfl⟩
 ·obtain ⟨a0,a1,a2,a3,a4,a5,a6,a7,a8,a9,b0,b1,b2,b3,b4,b5,H,go⟩:=of_c x k hxb hk
  refine ⟨a0,a1,a2,a3,a4,a5,a6,a7,a8,a9,b0,b1,b2,b3,b4,b5,o2,H,t2,?_⟩
  clear H h t1 t2 he
  refine Good.of Tryz.func67 rfl (by rfl) (by kernel_rfl) ?_
  cbv
  have hmk:True:=trivial
  (repeat' (first
| ((first
| (refine q1w (fun z hz=>?_);(try simp [oln,Int.max_def,Int.min_def] at hz);(with_reducible refine litk hz ?_ ?_);(focus decide);subst hz)
| (refine q1w (fun z hz=>?_);(try simp only [Int.reduceToNat,Int.reducePow] at hz))
| refine td ?_
| refine fd ?_
| refine rqa ?_
| refine vI ?_
| refine vA ?_
| refine vS ?_
| refine vR ?_
| refine qv (n1.toNat) (by (first | omega | (simp only [cst] at *;omega) | (simp only [sm] at *;omega))) ?_
| refine qv _ (hx) ?_
| refine callq (g1) rfl rfl ?_
| refine callq (gi) rfl rfl ?_
| refine callq (g2) rfl rfl ?_
| refine callq (go) rfl rfl ?_
| refine chpA ?_
| refine QCt ?_
| refine QCf ?_);cbv)
| (refine QC.mk ?_ ?_ <;> intro hc <;> (try dsimp only at hc) <;> cbv)
| (refine br_mk2 ?_ ?_ <;> intro hb <;> (try subst hb) <;> cbv)))
  exact ⟨rfl,rfl,rfl⟩
 ·obtain ⟨a0,a1,a2,a3,a4,a5,a6,a7,a8,a9,b0,b1,b2,b3,b4,b5,H,go⟩:=of_c x k hxb hk
  refine ⟨a0,a1,a2,a3,a4,a5,a6,a7,a8,a9,b0,b1,b2,b3,b4,b5,o2,H,t2,?_⟩
  clear H h t1 t2 he
  refine Good.of Tryz.func67 rfl (by rfl) (by kernel_rfl) ?_
  cbv
  have hmk:True:=trivial
  (repeat' (first
| ((first
| (refine q1w (fun z hz=>?_);(try simp [oln,Int.max_def,Int.min_def] at hz);(with_reducible refine litk hz ?_ ?_);(focus decide);subst hz)
| (refine q1w (fun z hz=>?_);(try simp only [Int.reduceToNat,Int.reducePow] at hz))
| refine td ?_
| refine fd ?_
| refine rqa ?_
| refine vI ?_
| refine vA ?_
| refine vS ?_
| refine vR ?_
| refine qv (n1.toNat) (by (first | omega | (simp only [cst] at *;omega) | (simp only [sm] at *;omega))) ?_
| refine qv _ (hx) ?_
| refine callq (g1) rfl rfl ?_
| refine callq (gi) rfl rfl ?_
| refine callq (g2) rfl rfl ?_
| refine callq (go) rfl rfl ?_
| refine chpA ?_
| refine QCt ?_
| refine QCf ?_);cbv)
| (refine QC.mk ?_ ?_ <;> intro hc <;> (try dsimp only at hc) <;> cbv)
| (refine br_mk2 ?_ ?_ <;> intro hb <;> (try subst hb) <;> cbv)))
  exact ⟨rfl,rfl,rfl⟩
end
end Go.Proofs.YtgfpjhddojhfpaaGreat
