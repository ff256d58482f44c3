/- Texts put together: OA OM OB TB Lf. -/
import Derived.Test.YtgfpjhddojhfpaaGreatZ03
namespace Go.Proofs.YtgfpjhddojhfpaaGreat
set_option linter.unusedVariables false
set_option linter.unusedSimpArgs false
section
set_option maxHeartbeats 1000000
theorem new_c (L R:List SV) (hR:R=L.take 400):Good 9 (nu [.lst none L] (.ptr 1 0) (.chunk 144 (.agg [.lst none R,.int .i64 0]))):=by
 refine Good.of Tryz.func9 rfl (by rfl) (by kernel_rfl) ?_
 cbv
 (repeat' (first
| ((first
| (refine q1w (fun z hz=>?_);(try simp only at hz))
| refine rqa ?_
| refine chpA ?_
| refine QCt ?_
| refine QCf ?_);cbv)
| (refine QC.mk ?_ ?_ <;> intro hc <;> (try dsimp only at hc) <;> cbv)
| (refine br_mk2 ?_ ?_ <;> intro hb <;> (try subst hb) <;> cbv)))
 ·refine ⟨rfl,?_,rfl⟩
  rw [hR]
  simp only [sm]
  rfl
 ·refine ⟨rfl,?_,rfl⟩
  rw [hR]
  simp only [sm] at hz
  rw [List.take_of_length_le (by omega)]
theorem mod_c (v n:Int) (hv:-9223372036854775808≤v∧v≤9223372036854775807) (hn:1≤n∧n≤1000000):Good 12 (pu [.int .i64 v,.int .i64 n] (.int .i64 (v % n))):=by
 have h1:=Int.tmod_lt_of_pos v (show 0 < n by omega)
 have h2:=Int.lt_tmod_of_pos v (show 0 < n by omega)
 have h3:v % n=if v.tmod n < 0 then v.tmod n+n else v.tmod n:=by
  have e:v % n=v.tmod n % n:=by
   conv=>lhs;rw [← Int.tmod_add_mul_tdiv v n]
   rw [Int.add_mul_emod_self_left]
  rw [e]
  split
  ·rw [← Int.add_emod_right]
   exact Int.emod_eq_of_lt (by omega) (by omega)
  ·exact Int.emod_eq_of_lt (by omega) (by omega)
 generalize hr:v % n=r at *
 refine Good.of Tryz.func12 rfl (by rfl) (by kernel_rfl) ?_
 cbv
 (repeat' (first
| ((first
| (refine q1w (fun z hz=>?_);(try simp only at hz))
| refine rqa ?_
| refine chpA ?_
| refine QCt ?_
| refine QCf ?_);cbv)
| (refine QC.mk ?_ ?_ <;> intro hc <;> (try dsimp only at hc) <;> cbv)
| (refine br_mk2 ?_ ?_ <;> intro hb <;> (try subst hb) <;> cbv)))
 all_goals refine ⟨?_,rfl,rfl⟩
 ·rw [h3,if_pos (by omega),hz];rename_i y hy;rw [hy.1]
 ·rw [h3,if_neg (by omega),hz.1]
def nextT (l:List Int) (a n:Int):Int:=if l.length≤a then 0 else (l.getD a.toNat 0) % n
def nextA (l:List Int) (a:Int):Int:=if l.length≤a then a else a+1
theorem next_c (L:List SV) (l:List Int) (hL:L=ints .i64 l) (hl:∀ v∈l,-9223372036854775808≤v∧v≤9223372036854775807) (h400:l.length≤400) (a n r b:Int) (ha:0≤a∧a≤400) (hn:1≤n∧n≤1000000) (hr:r=nextT l a n) (hb:b=nextA l a) :
  Good 42 (le 144 (.agg [.lst none L,.int .i64 a]) [.int .i64 n] (.int .i64 r) (.agg [.lst none L,.int .i64 b])):=by
 refine Good.of Tryz.func42 rfl (by rfl) (by kernel_rfl) ?_
 cbv
 have hlen:L.length=l.length:=by rw [hL,ints_len]
 (repeat' (first
| ((first
| (refine q1w (fun z hz=>?_);(try simp only at hz))
| refine rqa ?_
| refine chpA ?_
| refine QCt ?_
| refine QCf ?_);cbv)
| (refine QC.mk ?_ ?_ <;> intro hc <;> (try dsimp only at hc) <;> cbv)
| (refine br_mk2 ?_ ?_ <;> intro hb <;> (try subst hb) <;> cbv)))
 ·have hz':z=l.length:=by rw [hz,oln,hlen]
  refine ⟨?_,rfl,?_⟩
  ·rw [hr,nextT,if_pos (by omega)]
  ·rw [hb,nextA,if_pos (by omega)]
 ·have hz':z=l.length:=by rw [hz,oln,hlen]
  have hlt:a.toNat < l.length:=by omega
  have hv:=hl _ (getD_mem hlt)
  have hr':r=l.getD a.toNat 0 % n:=by rw [hr,nextT,if_neg (by omega)]
  have hb':b=a+1:=by rw [hb,nextA,if_neg (by omega)]
  refine qv (a.toNat,.int .i64 (l.getD a.toNat 0)) ⟨?_,?_⟩ ?_
  ·show a=(a.toNat:Int);omega
  ·rw [hL];exact ints_at _ hlt
  generalize l.getD a.toNat 0=v at *
  have h1:=Int.tmod_lt_of_pos v (show 0 < n by omega)
  have h2:=Int.lt_tmod_of_pos v (show 0 < n by omega)
  have h3:v % n=if v.tmod n < 0 then v.tmod n+n else v.tmod n:=by
   have e:v % n=v.tmod n % n:=by
    conv=>lhs;rw [← Int.tmod_add_mul_tdiv v n]
    rw [Int.add_mul_emod_self_left]
   rw [e]
   split
   ·rw [← Int.add_emod_right]
    exact Int.emod_eq_of_lt (by omega) (by omega)
   ·exact Int.emod_eq_of_lt (by omega) (by omega)
  clear hz hr hb
  cbv
  (repeat' (first
| ((first
| (refine q1w (fun z hz=>?_);(try simp only at hz))
| refine rqa ?_
| refine chpA ?_
| refine QCt ?_
| refine QCf ?_);cbv)
| (refine QC.mk ?_ ?_ <;> intro hc <;> (try dsimp only at hc) <;> cbv)
| (refine br_mk2 ?_ ?_ <;> intro hb <;> (try subst hb) <;> cbv)))
  ·rename_i y hy _ _
   refine ⟨?_,rfl,?_⟩
   ·rw [hr',h3,if_pos (by omega),← hy.1,hz]
   ·subst_vars;rfl
  ·rename_i y hy
   refine ⟨?_,rfl,?_⟩
   ·rw [hr',h3,if_neg (by omega),← hy.1]
   ·subst_vars;rfl
theorem bool_c (L:List SV) (l:List Int) (hL:L=ints .i64 l) (hl:∀ v∈l,-9223372036854775808≤v∧v≤9223372036854775807) (h400:l.length≤400) (a n b:Int) (r:Bool) (ha:0≤a∧a≤400) (hn:1≤n∧n≤1000000) (hr:r=decide (nextT l a n=n - 1)) (hb:b=nextA l a) :
  Good 68 (le 144 (.agg [.lst none L,.int .i64 a]) [.int .i64 n] (.bool r) (.agg [.lst none L,.int .i64 b])):=by
 have h1:=next_c L l hL hl h400 a n _ _ ha hn rfl hb
 generalize nextT l a n=x at *
 refine Good.of Tryz.func68 rfl (by rfl) (by kernel_rfl) ?_
 cbv
 (repeat' (first
| ((first
| (refine q1w (fun z hz=>?_);(try simp only at hz))
| refine rqa ?_
| refine chpA ?_
| refine QCt ?_
| refine QCf ?_);cbv)
| (refine QC.mk ?_ ?_ <;> intro hc <;> (try dsimp only at hc) <;> cbv)
| (refine br_mk2 ?_ ?_ <;> intro hb <;> (try subst hb) <;> cbv)))
 refine callq h1 rfl rfl ?_
 cbv
 (repeat' (first
| ((first
| (refine q1w (fun z hz=>?_);(try simp only at hz))
| refine rqa ?_
| refine chpA ?_
| refine QCt ?_
| refine QCf ?_);cbv)
| (refine QC.mk ?_ ?_ <;> intro hc <;> (try dsimp only at hc) <;> cbv)
| (refine br_mk2 ?_ ?_ <;> intro hb <;> (try subst hb) <;> cbv)))
 ·refine ⟨?_,rfl,rfl⟩
  rw [hr,decide_eq_true (by omega)]
 ·refine ⟨?_,rfl,rfl⟩
  rw [hr,decide_eq_false (by omega)]
def Tp (L:List SV) (a:Int):Prop:=(∃ l,L=ints .i64 l∧(∀ v∈l,-9223372036854775808≤v∧v≤9223372036854775807)∧l.length≤400)∧0≤a∧a≤400
theorem next_e {L:List SV} {a:Int} (h:Tp L a) (n:Int) (hn:1≤n∧n≤1000000):∃ r b,0≤r∧r < n∧Tp L b∧Good 42 (le 144 (.agg [.lst none L,.int .i64 a]) [.int .i64 n] (.int .i64 r) (.agg [.lst none L,.int .i64 b])):=by
 obtain ⟨⟨l,h1,h2,h3⟩,h4⟩:=h
 refine ⟨_,_,?_,?_,⟨⟨l,h1,h2,h3⟩,?_⟩,next_c L l h1 h2 h3 a n _ _ h4 hn rfl rfl⟩
 ·unfold nextT;split
  ·omega
  ·exact Int.emod_nonneg _ (by omega)
 ·unfold nextT;split
  ·omega
  ·exact Int.emod_lt_of_pos _ (by omega)
 ·unfold nextA;split <;> omega
theorem next_f {L:List SV} {a0:Int} (h0:Tp L a0):∃ (N:Int→Int→Int) (B:Int→Int),∀ a n,Tp L a→1≤n∧n≤1000000→0≤N a n∧N a n < n∧Tp L (B a) ∧
  Good 42 (le 144 (.agg [.lst none L,.int .i64 a]) [.int .i64 n] (.int .i64 (N a n)) (.agg [.lst none L,.int .i64 (B a)])):=by
 obtain ⟨⟨l,h1,h2,h3⟩,_⟩:=h0
 refine ⟨nextT l,nextA l,fun a n ha hn=>?_⟩
 obtain ⟨_,h4⟩:=ha
 refine ⟨?_,?_,⟨⟨l,h1,h2,h3⟩,?_⟩,next_c L l h1 h2 h3 a n _ _ h4 hn rfl rfl⟩
 ·unfold nextT;split
  ·omega
  ·exact Int.emod_nonneg _ (by omega)
 ·unfold nextT;split
  ·omega
  ·exact Int.emod_lt_of_pos _ (by omega)
 ·unfold nextA;split <;> omega
theorem bool_e {L:List SV} {a:Int} (h:Tp L a) (n:Int) (hn:1≤n∧n≤1000000):∃ r b,Tp L b∧Good 68 (le 144 (.agg [.lst none L,.int .i64 a]) [.int .i64 n] (.bool r) (.agg [.lst none L,.int .i64 b])):=by
 obtain ⟨⟨l,h1,h2,h3⟩,h4⟩:=h
 refine ⟨_,_,⟨⟨l,h1,h2,h3⟩,?_⟩,bool_c L l h1 h2 h3 a n _ _ h4 hn rfl rfl⟩
 unfold nextA;split <;> omega
theorem fillG (n:Nat) (f:Nat→Int) (a:SV) (ha:a=.int .u8 0):∃ G:Nat→List SV,G 0=O.rp (n:Int) a∧(∀ i,(G i).length=n)∧(∀ i,i < n→O.st (G i) i (.int .u8 (f i))=G (i+1))∧G n=ints .u8 ((List.range n).map f):=by
 subst ha
 refine ⟨fun i=>ints .u8 (((List.range n).map f).take i++List.replicate (n - i) 0),?_,?_,?_,?_⟩
 ·simp only [orp];simp [ints]
 ·intro i;simp [ints];omega
 ·intro i hi
  simp only [ost,ints_set]
  congr 1
  apply List.ext_getElem
  ·simp;omega
  ·intro k h1 h2
   simp only [List.getElem_set,List.getElem_append,List.length_take,List.length_map,List.length_range,List.getElem_take,List.getElem_map,List.getElem_range,List.getElem_replicate]
   split
   ·subst_vars;split
    ·rfl
    ·omega
   ·split <;> split <;> first | rfl | omega
 ·simp [List.take_of_length_le]
theorem fill_e {L:List SV} {a:Int} (h:Tp L a) (n:Int) (hn:0≤n∧n≤1000000):∃ R bs b,R=ints .u8 bs∧(bs.length:Int)=n∧(∀ v∈bs,0≤v∧v≤255)∧Tp L b ∧
  Good 71 (leN 144 (.agg [.lst none L,.int .i64 a]) [.int .i64 n] (.row 1) (.agg [.lst none L,.int .i64 b]) (.row none 5 R)):=by
 obtain ⟨x1,b1,p1,u1,t1,g1⟩:=next_e h 256 (by omega)
 obtain ⟨x2,b2,p2,u2,t2,g2⟩:=next_e t1 256 (by omega)
 obtain ⟨x3,b3,p3,u3,t3,g3⟩:=next_e t2 256 (by omega)
 obtain ⟨m,hm⟩:=Int.eq_ofNat_of_zero_le hn.1
 obtain ⟨F,hF⟩:∃ F:Nat→Int,∀ i,F i=([x1,x2,0,x3,7].getD (i % 5) 0+(i / 5:Nat)) % 256:=⟨_,fun i=>rfl⟩
 obtain ⟨G,G0,Gl,Gs,Gn⟩:=fillG m F (.int .u8 0) rfl
 have hFb:∀ i,0≤F i∧F i≤255:=fun i=>by rw [hF];omega
 refine ⟨_,(List.range m).map F,b3,rfl,by simp [hm],fun v hv=>by simp at hv;obtain ⟨i,_,rfl⟩:=hv;exact hFb i,t3,?_⟩
 rw [← hm] at G0
 rw [← Gn]
 generalize hR:G m=R
 refine Good.of Tryz.func71 rfl (by rfl) (by kernel_rfl) ?_
 cbv
 (repeat' (first
| ((first
| (refine q1w (fun z hz=>?_);(try simp only at hz))
| refine rqa ?_
| refine chpA ?_
| refine QCt ?_
| refine QCf ?_);cbv)
| (refine QC.mk ?_ ?_ <;> intro hc <;> (try dsimp only at hc) <;> cbv)
| (refine br_mk2 ?_ ?_ <;> intro hb <;> (try subst hb) <;> cbv)))
 (refine callq (g1) rfl rfl ?_;cbv;(repeat' (first
| ((first
| (refine q1w (fun z hz=>?_);(try simp only at hz))
| refine rqa ?_
| refine chpA ?_
| refine QCt ?_
| refine QCf ?_);cbv)
| (refine QC.mk ?_ ?_ <;> intro hc <;> (try dsimp only at hc) <;> cbv)
| (refine br_mk2 ?_ ?_ <;> intro hb <;> (try subst hb) <;> cbv))))
 (refine callq (g2) rfl rfl ?_;cbv;(repeat' (first
| ((first
| (refine q1w (fun z hz=>?_);(try simp only at hz))
| refine rqa ?_
| refine chpA ?_
| refine QCt ?_
| refine QCf ?_);cbv)
| (refine QC.mk ?_ ?_ <;> intro hc <;> (try dsimp only at hc) <;> cbv)
| (refine br_mk2 ?_ ?_ <;> intro hb <;> (try subst hb) <;> cbv))))
 (refine callq (g3) rfl rfl ?_;cbv;(repeat' (first
| ((first
| (refine q1w (fun z hz=>?_);(try simp only at hz))
| refine rqa ?_
| refine chpA ?_
| refine QCt ?_
| refine QCf ?_);cbv)
| (refine QC.mk ?_ ?_ <;> intro hc <;> (try dsimp only at hc) <;> cbv)
| (refine br_mk2 ?_ ?_ <;> intro hb <;> (try subst hb) <;> cbv))))
 refine loopQ (A:=Nat × Int) (fun p=>p.2=p.1∧p.1≤m) (fun p=>m - p.1) (fun p=>[(6,.row 6),(7,.int .i64 p.2)]) (fun p=>[(6,.row none 5 (G p.1))]) (0,0) ⟨rfl,Nat.zero_le _⟩ ?_ ?_
 ·cbv
  rw [G0]
  exact ⟨rfl,trivial⟩
 ·intro ⟨i,j⟩ h
  have hj:j=(i:Int):=h.1
  have hi:i≤m:=h.2
  clear h
  have hF':=hF i
  have hl:=Gl i
  cbv
  (repeat' (first
| ((first
| (refine q1w (fun z hz=>?_);(try simp only at hz))
| refine rqa ?_
| refine chpA ?_
| refine QCt ?_
| refine QCf ?_);cbv)
| (refine QC.mk ?_ ?_ <;> intro hc <;> (try dsimp only at hc) <;> cbv)
| (refine br_mk2 ?_ ?_ <;> intro hb <;> (try subst hb) <;> cbv)))
  ·have hjm:i < m:=by (first | omega | (simp only [cst] at *;omega) | (simp only [sm] at *;omega))
   rcases (show i % 5=0∨i % 5=1∨i % 5=2∨i % 5=3∨i % 5=4 by omega) with e | e | e | e | e
   all_goals rw [e] at hF'
   all_goals first
    | refine qv 0 (by (first | omega | (simp only [cst] at *;omega) | (simp only [sm] at *;omega))) ?_
    | refine qv 1 (by (first | omega | (simp only [cst] at *;omega) | (simp only [sm] at *;omega))) ?_
    | refine qv 2 (by (first | omega | (simp only [cst] at *;omega) | (simp only [sm] at *;omega))) ?_
    | refine qv 3 (by (first | omega | (simp only [cst] at *;omega) | (simp only [sm] at *;omega))) ?_
    | refine qv 4 (by (first | omega | (simp only [cst] at *;omega) | (simp only [sm] at *;omega))) ?_
   all_goals cbv
   all_goals (repeat' (first
| ((first
| (refine q1w (fun z hz=>?_);(try simp only at hz))
| refine rqa ?_
| refine chpA ?_
| refine QCt ?_
| refine QCf ?_);cbv)
| (refine QC.mk ?_ ?_ <;> intro hc <;> (try dsimp only at hc) <;> cbv)
| (refine br_mk2 ?_ ?_ <;> intro hb <;> (try subst hb) <;> cbv)))
   all_goals refine qv i (by (first | omega | (simp only [cst] at *;omega) | (simp only [sm] at *;omega))) ?_
   all_goals cbv
   all_goals (repeat' (first
| ((first
| (refine q1w (fun z hz=>?_);(try simp only at hz))
| refine rqa ?_
| refine chpA ?_
| refine QCt ?_
| refine QCf ?_);cbv)
| (refine QC.mk ?_ ?_ <;> intro hc <;> (try dsimp only at hc) <;> cbv)
| (refine br_mk2 ?_ ?_ <;> intro hb <;> (try subst hb) <;> cbv)))
   all_goals rename_i z hz
   all_goals refine ⟨(i+1,z),⟨by (first | omega | (simp only [cst] at *;omega) | (simp only [sm] at *;omega)),by omega⟩,by (first | omega | (simp only [cst] at *;omega) | (simp only [sm] at *;omega)),?_⟩
   all_goals cbv
   all_goals refine ⟨?_,trivial⟩
   all_goals show Blk.row none 5 (O.st (G i) i (.int .u8 _))=.row none 5 (G (i+1))
   all_goals rw [← Gs i hjm]
   all_goals congr 3
   all_goals rw [hF']
   all_goals simp only [List.getD_cons_zero,List.getD_cons_succ]
   all_goals (first | omega | (simp only [cst] at *;omega) | (simp only [sm] at *;omega))
  ·have e:i=m:=by (first | omega | (simp only [cst] at *;omega) | (simp only [sm] at *;omega))
   subst e
   exact ⟨rfl,by rw [← hR],rfl⟩
end
section
open Go.RowKit
def u8l (l:List UInt8):List SV:=l.map fun b=>SV.int .u8 b.toNat
theorem u8l_len (l:List UInt8):(u8l l).length=l.length:=by simp [u8l]
theorem u8l_at {l:List UInt8} (i:Nat) (h:i < l.length):(u8l l)[i]?=some (SV.int .u8 (l.getD i 0).toNat):=by simp [u8l,h]
theorem u8l_app (l m:List UInt8):u8l l++u8l m=u8l (l++m):=by simp [u8l]
theorem u8l_take (l:List UInt8) (n:Nat):(u8l l).take n=u8l (l.take n):=by simp [u8l]
theorem u8l_drop (l:List UInt8) (n:Nat):(u8l l).drop n=u8l (l.drop n):=by simp [u8l]
theorem u8l_set (l:List UInt8) (n:Nat) (v:UInt8):(u8l l).set n (.int .u8 v.toNat)=u8l (l.set n v):=by simp [u8l,List.map_set]
theorem u8l_rep (n:Nat):List.replicate n (SV.int .u8 0)=u8l (List.replicate n 0):=by simp [u8l]
theorem u8l_of (l:List Int) (h:∀ v∈l,0≤v∧v≤255):∃ bs:List UInt8,ints .u8 l=u8l bs∧bs.length=l.length:=by
 refine ⟨l.map fun v=>UInt8.ofNat v.toNat,?_,by simp⟩
 simp only [ints,u8l,List.map_map]
 apply List.map_congr_left
 intro v hv
 have:=h v hv
 simp only [Function.comp_def,UInt8.toNat_ofNat']
 congr 1
 omega
def digit (v:Int) (n i:Nat):UInt8:=UInt8.ofNat (v / 2 ^ (8 * (n - 1 - i)) % 256).toNat
def bytesOf (v:Int) (n:Nat):List UInt8:=(List.range n).map (digit v n)
theorem digit_val (v:Int) (n i:Nat):((digit v n i).toNat:Int)=v / 2 ^ (8 * (n - 1 - i)) % 256:=by
 have h0:=Int.emod_nonneg (v / 2 ^ (8 * (n - 1 - i))) (show (256:Int)≠0 by omega)
 have h1:=Int.emod_lt_of_pos (v / 2 ^ (8 * (n - 1 - i))) (show (0:Int) < 256 by omega)
 unfold digit
 generalize v / 2 ^ (8 * (n - 1 - i)) % 256=x at *
 simp only [UInt8.toNat_ofNat']
 omega
theorem bytesOf_length (v:Int) (n:Nat):(bytesOf v n).length=n:=by simp [bytesOf]
theorem bytesOf_get (v:Int) (n k:Nat) (h:k < n):(bytesOf v n)[k]?=some (digit v n k):=by simp [bytesOf,h]
def appRow (bs:List UInt8) (v:Int) (n k:Nat):List UInt8:=bs++((bytesOf v n).take k++List.replicate (n - k) 0)
theorem appRow_full (bs:List UInt8) (v:Int) (n:Nat):appRow bs v n n=bs++bytesOf v n:=by
 simp [appRow,List.take_of_length_le (Nat.le_of_eq (bytesOf_length v n))]
theorem appRow_set (bs:List UInt8) (v:Int) (n k:Nat) (h:k < n):(appRow bs v n k).set (bs.length+k) (digit v n k)=appRow bs v n (k+1):=by
 unfold appRow
 have hl:((bytesOf v n).take k).length=k:=by rw [List.length_take,bytesOf_length];omega
 have e:List.take (k+1) (bytesOf v n)=List.take k (bytesOf v n)++[digit v n k]:=by
  rw [List.take_add_one,bytesOf_get v n k h];rfl
 rw [List.set_append_right _ _ (by omega),List.set_append_right _ _ (by omega),hl,e]
 have:bs.length+k - bs.length - k=0:=by omega
 rw [this,show n - k=(n - (k+1))+1 by omega,List.replicate_succ,List.set_cons_zero,List.append_assoc,List.singleton_append]
def be (bs:List UInt8):Nat:=bs.foldl (fun a b=>a * 256+b.toNat) 0
theorem be_snoc (bs:List UInt8) (b:UInt8):be (bs++[b])=be bs * 256+b.toNat:=by simp [be]
theorem be_lt (bs:List UInt8):be bs < 256 ^ bs.length:=by
 have key:∀ (k:Nat) (l:List UInt8),l.length=k→be l < 256 ^ k:=by
  intro k
  induction k with
  | zero=>intro l hl;rw [List.eq_nil_of_length_eq_zero hl];simp [be]
  | succ k ih =>
   intro l hl
   have e:l=l.take k++[l[k]]:=by
    have:=List.take_add_one (l:=l) (i:=k)
    rw [List.getElem?_eq_getElem (by omega),List.take_of_length_le (by omega)] at this
    exact this
   rw [e,be_snoc,Nat.pow_succ]
   have h1:=ih (l.take k) (by simp;omega)
   have h2:=(l[k]).toNat_lt
   omega
 exact key _ _ rfl
theorem be_bytesOf (n:Nat):∀ u:Nat,be (bytesOf u n)=u % 256 ^ n:=by
 induction n with
 | zero=>intro u;simp [bytesOf,be,Nat.mod_one]
 | succ n ih =>
  intro u
  have e:bytesOf (u:Int) (n+1)=bytesOf ((u / 256:Nat):Int) n++[digit u (n+1) n]:=by
   unfold bytesOf
   rw [List.range_succ,List.map_append]
   congr 1
   refine List.map_congr_left fun i hi=>?_
   have hi':i < n:=by simpa using hi
   unfold digit
   have e2:n+1 - 1 - i=(n - 1 - i)+1:=by omega
   have e4:(u:Int) / 2 ^ (8 * (n - 1 - i+1))=((u / 256:Nat):Int) / 2 ^ (8 * (n - 1 - i)):=by
    have e5:(u:Int) / 2 ^ (8 * (n - 1 - i+1))=((u / 2 ^ (8 * (n - 1 - i+1)):Nat):Int):=by simp
    have e6:((u / 256:Nat):Int) / 2 ^ (8 * (n - 1 - i))=((u / 256 / 2 ^ (8 * (n - 1 - i)):Nat):Int):=by simp
    rw [e5,e6,Nat.div_div_eq_div_mul,Nat.mul_add,Nat.pow_add,Nat.mul_comm]
   rw [e2,e4]
  have e3:(digit (u:Int) (n+1) n).toNat=u % 256:=by
   have:=digit_val (u:Int) (n+1) n
   simp at this
   omega
  rw [e,be_snoc,ih,e3,Nat.pow_succ,Nat.mul_comm (256 ^ n) 256,Nat.mod_mul]
  omega
theorem or_byte (a b:Nat) (hb:b < 256):a * 256 ||| b=a * 256+b:=by
 have:=Nat.two_pow_add_eq_or_of_lt (i:=8) (b:=b) (by omega) a
 rw [show 2 ^ 8 * a=a * 256 from by omega] at this
 exact this.symm
theorem take_snoc_u8 (bs:List UInt8) (k:Nat) (h:k < bs.length):bs.take (k+1)=bs.take k++[bs[k]]:=by
 rw [List.take_add_one,List.getElem?_eq_getElem h];rfl
end
section
open Go.RowKit
set_option maxHeartbeats 2000000
theorem appG (bs:List UInt8) (v:Int) (n:Nat) (X:List SV) (hX:X=u8l bs):∃ G:Nat→List SV,G 0=u8l (bs++List.replicate n 0)∧(∀ i,(G i).length=bs.length+n)∧(∀ i,i < n→O.st (G i) (bs.length+i) (.int .u8 (v / 2 ^ (8 * (n - 1 - i)) % 256))=G (i+1))∧G n=u8l (bs++bytesOf v n):=by
 refine ⟨fun i=>u8l (appRow bs v n i),by simp [appRow],?_,?_,?_⟩
 ·intro i;simp [u8l,appRow,bytesOf_length];omega
 ·intro i hi
  rw [ost,← digit_val,u8l_set,appRow_set _ _ _ _ hi]
 ·simp only [appRow_full]
theorem append_c (bs:List UInt8) (X R:List SV) (v N:Int) (n:Nat) (hX:X=u8l bs) (hN:N=n) (hn:n≤8) (hv:0≤v∧v < 18446744073709551616) (hl:bs.length≤140737488352000) (hR:R=u8l (bs++bytesOf v n)) :
  Good 85 (nu [.lst none X,.int .u64 v,.int .i64 N] (.row 1) (.row none 5 R)):=by
 obtain ⟨G,G0,Gl,Gs,Gn⟩:=appG bs v n X hX
 have hl:X.length=bs.length:=by rw [hX,u8l_len]
 refine Good.of Tryz.func85 rfl (by rfl) (by kernel_rfl) ?_
 cbv
 (repeat' (first
| ((first
| (refine q1w (fun z hz=>?_);(try simp only at hz))
| refine rqa ?_
| refine chpA ?_
| refine QCt ?_
| refine QCf ?_);cbv)
| (refine QC.mk ?_ ?_ <;> intro hc <;> (try dsimp only at hc) <;> cbv)
| (refine br_mk2 ?_ ?_ <;> intro hb <;> (try subst hb) <;> cbv)))
 refine loopQ (A:=Nat × Int) (fun p=>p.2=p.1∧p.1≤n) (fun p=>n - p.1) (fun p=>[(7,.row 7),(24,.int .i64 p.2)]) (fun p=>[(7,.row none 5 (G p.1))]) (0,0) ⟨rfl,Nat.zero_le _⟩ ?_ ?_
 ·cbv
  refine ⟨?_,trivial⟩
  show _=Blk.row none 5 (G 0)
  rw [G0]
  simp only [pcp,prp,pln,u8l_len,List.length_replicate,u8l_rep,List.take_zero,List.nil_append]
  rename_i z1 h1 z2 h2
  have e:z2.toNat=bs.length+n:=by (first | omega | (simp only [cst] at *;omega) | (simp only [sm] at *;omega))
  rw [e,Nat.zero_add,hl,hX,Nat.min_eq_left (by omega),← u8l_app]
  simp only [u8l_drop,u8l_take,List.drop_replicate]
  rw [List.take_of_length_le (by omega),Nat.add_sub_cancel_left]
 ·intro ⟨i,j⟩ h
  have hj:j=(i:Int):=h.1
  have hi:i≤n:=h.2
  clear h
  have hgl:=Gl i
  cbv
  (repeat' (first
| ((first
| (refine q1w (fun z hz=>?_);(try simp only at hz))
| refine rqa ?_
| refine chpA ?_
| refine QCt ?_
| refine QCf ?_);cbv)
| (refine QC.mk ?_ ?_ <;> intro hc <;> (try dsimp only at hc) <;> cbv)
| (refine br_mk2 ?_ ?_ <;> intro hb <;> (try subst hb) <;> cbv)))
  ·have hjm:i < n:=by (first | omega | (simp only [cst] at *;omega) | (simp only [sm] at *;omega))
   have hs:=Gs i hjm
   generalize hq:bs.length+i=q at hs
   refine qv q (by (first | omega | (simp only [cst] at *;omega) | (simp only [sm] at *;omega))) ?_
   cbv
   (repeat' (first
| ((first
| (refine q1w (fun z hz=>?_);(try simp only at hz))
| refine rqa ?_
| refine chpA ?_
| refine QCt ?_
| refine QCf ?_);cbv)
| (refine QC.mk ?_ ?_ <;> intro hc <;> (try dsimp only at hc) <;> cbv)
| (refine br_mk2 ?_ ?_ <;> intro hb <;> (try subst hb) <;> cbv)))
   rename_i z6 h6 z5 h5 z4 h4 z3 h3 z2 h2 z1 h1 z0 h0 z hz
   refine ⟨(i+1,z),⟨by (first | omega | (simp only [cst] at *;omega) | (simp only [sm] at *;omega)),by omega⟩,by (first | omega | (simp only [cst] at *;omega) | (simp only [sm] at *;omega)),?_⟩
   cbv
   refine ⟨?_,trivial⟩
   show Blk.row none 5 (O.st (G i) q (.int .u8 _))=.row none 5 (G (i+1))
   rw [← hs]
   rename_i _ hz1
   rw [hz1,h0,show z1.toNat=8 * (n - 1 - i) by (first | omega | (simp only [cst] at *;omega) | (simp only [sm] at *;omega))]
  ·have e:i=n:=by (first | omega | (simp only [cst] at *;omega) | (simp only [sm] at *;omega))
   refine ⟨rfl,?_,rfl⟩
   show Blk.row none 5 (G i)=_
   rw [e,Gn,hR]
theorem beG (bs:List UInt8) (X:List SV) (hX:X=u8l bs) (a n:Nat) (h:a+n≤bs.length):∃ H Y:Nat→Int,H 0=0∧(∀ i,0≤H i∧(i < 8→H i < 72057594037927936))∧(∀ i,0≤Y i∧Y i < 256)∧H n=be ((bs.drop a).take n) ∧
  (∀ i,i < n→H i * 256+Y i=H (i+1))∧(∀ i,i < n→(O.sg X a n)[i]?=some (.int .u8 (Y i)))∧(O.sg X a n).length=n:=by
 refine ⟨fun i=>(be ((bs.drop a).take i):Int),fun i=>(bs.getD (a+i) 0).toNat,by simp [be],?_,?_,rfl,?_,?_,?_⟩
 ·intro i
  refine ⟨by dsimp only;omega,fun hi=>?_⟩
  have h1:=be_lt ((bs.drop a).take i)
  have h2:256 ^ ((bs.drop a).take i).length≤256 ^ 7:=Nat.pow_le_pow_right (by omega) (by simp;omega)
  dsimp only
  omega
 ·intro i;have:=(bs.getD (a+i) 0).toNat_lt;dsimp only;omega
 ·intro i hi
  dsimp only
  rw [take_snoc_u8 _ i (by simp;omega),be_snoc]
  simp [show a+i < bs.length by omega]
 ·intro i hi
  rw [osg,hX,u8l_drop,u8l_take,u8l_at _ (by simp;omega)]
  simp [show a+i < bs.length by omega,hi]
 ·rw [osg,hX];simp [u8l];omega
theorem or_i (x y a b z:Int) (hx:0≤x∧x < 72057594037927936) (hy:0≤y∧y < 256) (ha:a=x * 2 ^ Int.toNat 8 % 18446744073709551616) (hb:b=y % 18446744073709551616) (hz:z=((a.toNat ||| b.toNat:Nat):Int)):z=x * 256+y:=by
 have e1:(2:Int) ^ Int.toNat 8=256:=rfl
 rw [e1] at ha
 have e2:a.toNat=x.toNat * 256:=by omega
 have e3:b=y:=by omega
 rw [hz,e2,e3,or_byte _ _ (by omega)]
 omega
theorem uint_c (bs:List UInt8) (X:List SV) (A N r:Int) (a n:Nat) (hX:X=u8l bs) (hA:A=a) (hN:N=n) (h1:1≤n) (hn:n≤8) (hl:bs.length≤140737488352000) (hb:a+n≤bs.length) (hr:r=be ((bs.drop a).take n)) :
  Good 84 (pu [.lst none X,.int .i64 A,.int .i64 N] (.tup [.int .u64 r,.bool true])):=by
 have hl:X.length=bs.length:=by rw [hX,u8l_len]
 obtain ⟨H,Y,H0,Hb,HY,Hn,Hs,Hy,HL⟩:=beG bs X hX a n hb
 refine Good.of Tryz.func84 rfl (by rfl) (by kernel_rfl) ?_
 cbv
 (repeat' (first
| ((first
| (refine q1w (fun z hz=>?_);(try simp only at hz))
| refine rqa ?_
| refine chpA ?_
| refine QCt ?_
| refine QCf ?_);cbv)
| (refine QC.mk ?_ ?_ <;> intro hc <;> (try dsimp only at hc) <;> cbv)
| (refine br_mk2 ?_ ?_ <;> intro hb <;> (try subst hb) <;> cbv)))
 rename_i z2 h2 z1 h1' z0 h0
 have e1:(Classical.choice lo_ex).tn A=a:=by rw [ptn];(first | omega | (simp only [cst] at *;omega) | (simp only [sm] at *;omega))
 have e2:(Classical.choice lo_ex).si z0 A=n:=by rw [psi];(first | omega | (simp only [cst] at *;omega) | (simp only [sm] at *;omega))
 have hsg:(Classical.choice lo_ex).sg X ((Classical.choice lo_ex).tn A) ((Classical.choice lo_ex).si z0 A)=O.sg X a n:=by rw [e1,e2];rfl
 have hzn:z=n:=by
  rw [hz,hsg,oln,HL]
 rw [← hsg] at Hy
 refine loopQ (A:=Nat × Int × Int) (fun p=>p.2.1=p.1∧p.1≤n∧p.2.2=H p.1) (fun p=>n - p.1) (fun p=>[(8,.int .u64 p.2.2),(36,.int .i64 p.2.1)]) (fun p=>[]) (0,0,0) ⟨rfl,Nat.zero_le _,H0.symm⟩ ?_ ?_
 ·cbv
 ·intro ⟨i,j,x⟩ h
  have hj:j=(i:Int):=h.1
  have hi:i≤n:=h.2.1
  have hx:x=H i:=h.2.2
  clear h
  have hb1:=Hb i
  have hy1:=HY i
  cbv
  (repeat' (first
| ((first
| (refine q1w (fun z hz=>?_);(try simp only at hz))
| refine rqa ?_
| refine chpA ?_
| refine QCt ?_
| refine QCf ?_);cbv)
| (refine QC.mk ?_ ?_ <;> intro hc <;> (try dsimp only at hc) <;> cbv)
| (refine br_mk2 ?_ ?_ <;> intro hb <;> (try subst hb) <;> cbv)))
  ·have hjm:i < n:=by (first | omega | (simp only [cst] at *;omega) | (simp only [sm] at *;omega))
   have hs:=Hs i hjm
   have hb2:=hb1.2 (by omega)
   have hy2:=Hy i hjm
   generalize Y i=y at hy1 hs hy2
   refine qv (i,.int .u8 y) ⟨hj,hy2⟩ ?_
   cbv
   (repeat' (first
| ((first
| (refine q1w (fun z hz=>?_);(try simp only at hz))
| refine rqa ?_
| refine chpA ?_
| refine QCt ?_
| refine QCf ?_);cbv)
| (refine QC.mk ?_ ?_ <;> intro hc <;> (try dsimp only at hc) <;> cbv)
| (refine br_mk2 ?_ ?_ <;> intro hb <;> (try subst hb) <;> cbv)))
   rename_i z3 h3 z4 h4 z5 h5
   have e:=or_i x y z3 z4 z5 (by (first | omega | (simp only [cst] at *;omega) | (simp only [sm] at *;omega))) hy1 h3 h4 h5
   refine ⟨(i+1,z,z5),⟨by (first | omega | (simp only [cst] at *;omega) | (simp only [sm] at *;omega)),by omega,by (first | omega | (simp only [cst] at *;omega) | (simp only [sm] at *;omega))⟩,by (first | omega | (simp only [cst] at *;omega) | (simp only [sm] at *;omega)),?_⟩
   cbv
  ·have e:i=n:=by (first | omega | (simp only [cst] at *;omega) | (simp only [sm] at *;omega))
   refine ⟨?_,rfl,rfl⟩
   rw [hx,hr,e,Hn]
end
section
open Go.RowKit
set_option maxHeartbeats 8000000
def byF (N:Int→Int→Int) (B:Int→Int):Nat→Nat→Int→List Int→List Int × Int
 | 0,_,c,r=>(r,c)
 | k+1,i,c,r=>byF N B k (i+1) (B c) (r.set i (N c 256))
theorem byF_ok {L:List SV} {N:Int→Int→Int} {B:Int→Int} (hN:∀ a n,Tp L a→1≤n∧n≤1000000→0≤N a n∧N a n < n∧Tp L (B a)):∀ (k i:Nat) (c:Int) (r:List Int),Tp L c→(∀ v∈r,0≤v∧v≤255)→(byF N B k i c r).1.length=r.length∧(∀ v∈(byF N B k i c r).1,0≤v∧v≤255)∧Tp L (byF N B k i c r).2
 | 0,i,c,r,hc,hr=>⟨rfl,hr,hc⟩
 | k+1,i,c,r,hc,hr=>by
  obtain ⟨d1,d2,d3⟩:=hN c 256 hc (by omega)
  have:=byF_ok hN k (i+1) (B c) (r.set i (N c 256)) d3 (fun v hv=>by
   rcases List.mem_or_eq_of_mem_set hv with h | h
   ·exact hr v h
   ·omega)
  unfold byF
  rw [List.length_set] at this
  exact this
theorem bytes_e {L:List SV} {a:Int} (h:Tp L a) (m:Int) (hm:0≤m∧m≤1000):∃ (bs:List UInt8) (b:Int),(bs.length:Int)≤m∧Tp L b ∧
  Good 10 (leN 144 (.agg [.lst none L,.int .i64 a]) [.int .i64 m] (.row 1) (.agg [.lst none L,.int .i64 b]) (.row none 5 (u8l bs))):=by
 obtain ⟨r,b,p1,u1,t1,g1⟩:=next_e h (m+1) (by omega)
 obtain ⟨n,hn⟩:∃ n:Nat,r=(n:Int):=Int.eq_ofNat_of_zero_le p1
 obtain ⟨N,B,hNB⟩:=next_f h
 have hN:∀ a n,Tp L a→1≤n∧n≤1000000→0≤N a n∧N a n < n∧Tp L (B a):=fun a n ha hn=>by have:=hNB a n ha hn;exact ⟨this.1,this.2.1,this.2.2.1⟩
 have hok:=byF_ok hN n 0 b (List.replicate n 0) t1 (fun v hv=>by simp at hv;omega)
 generalize hfin:byF N B n 0 b (List.replicate n 0)=fin at hok
 obtain ⟨rf,d⟩:=fin
 obtain ⟨h1,h2,td⟩:=hok
 dsimp only at h1 h2 td
 rw [List.length_replicate] at h1
 obtain ⟨bs,hbs,hbl⟩:=u8l_of rf h2
 obtain ⟨U,hU⟩:∃ U:List Int→List SV,∀ r,U r=ints .u8 r:=⟨_,fun _=>rfl⟩
 have hU0:∀ z:Int,z=n→O.rp z (.int .u8 0)=U (List.replicate n 0):=fun z hz=>by rw [hU,orp,hz];simp [ints]
 have hUl:∀ r,(U r).length=r.length:=fun r=>by rw [hU];simp [ints]
 have hUs:∀ r i v,O.st (U r) i (.int .u8 v)=U (r.set i v):=fun r i v=>by rw [hU,hU,ost,ints_set]
 refine ⟨bs,d,by omega,td,?_⟩
 rw [← hbs,← hU]
 refine Good.of Tryz.func10 rfl (by rfl) (by kernel_rfl) ?_
 cbv
 (repeat' (first
| ((first
| (refine q1w (fun z hz=>?_);(try simp only at hz))
| refine rqa ?_
| refine chpA ?_
| refine QCt ?_
| refine QCf ?_);cbv)
| (refine QC.mk ?_ ?_ <;> intro hc <;> (try dsimp only at hc) <;> cbv)
| (refine br_mk2 ?_ ?_ <;> intro hb <;> (try subst hb) <;> cbv)))
 have ez:m+1=z:=by (first | omega | (simp only [cst] at *;omega) | (simp only [sm] at *;omega))
 rw [ez] at g1
 (refine callq (g1) rfl rfl ?_;cbv;(repeat' (first
| ((first
| (refine q1w (fun z hz=>?_);(try simp only at hz))
| refine rqa ?_
| refine chpA ?_
| refine QCt ?_
| refine QCf ?_);cbv)
| (refine QC.mk ?_ ?_ <;> intro hc <;> (try dsimp only at hc) <;> cbv)
| (refine br_mk2 ?_ ?_ <;> intro hb <;> (try subst hb) <;> cbv))))
 have hu0:=hU0 r hn
 refine loopQ (A:=Nat × Int × List Int × Int) (fun p=>p.2.1=p.1∧p.1≤n∧p.2.2.1.length=n∧Tp L p.2.2.2∧byF N B (n - p.1) p.1 p.2.2.2 p.2.2.1=(rf,d)) (fun p=>n - p.1) (fun p=>[(6,.int .i64 p.2.1),(5,.row 11)]) (fun p=>[(0,.chunk 144 (.agg [.lst none L,.int .i64 p.2.2.2])),(11,.row none 5 (U p.2.2.1))])
  (0,0,List.replicate n 0,b) ⟨rfl,Nat.zero_le _,by show (List.replicate n 0).length=n;simp,t1,hfin⟩ ?_ ?_
 ·cbv
  refine ⟨?_,trivial⟩
  show Blk.row none 5 (O.rp r (.int .u8 0))=.row none 5 (U (List.replicate n 0))
  rw [hu0]
 ·intro ⟨i,j,row,c⟩ hh
  have hj:j=(i:Int):=hh.1
  have hi:i≤n:=hh.2.1
  have hrl:row.length=n:=hh.2.2.1
  have tc0:Tp L c:=hh.2.2.2.1
  have hrr:byF N B (n - i) i c row=(rf,d):=hh.2.2.2.2
  clear hh
  have hmk:True:=trivial
  have hul:=hUl row
  have hus:=hUs row i
  cbv
  (repeat' (first
| ((first
| (refine q1w (fun z hz=>?_);(try simp only at hz))
| refine rqa ?_
| refine chpA ?_
| refine QCt ?_
| refine QCf ?_);cbv)
| (refine QC.mk ?_ ?_ <;> intro hc <;> (try dsimp only at hc) <;> cbv)
| (refine br_mk2 ?_ ?_ <;> intro hb <;> (try subst hb) <;> cbv)))
  ·have hlt:i < n:=by (first | omega | (simp only [cst] at *;omega) | (simp only [sm] at *;omega))
   obtain ⟨dd5,dd6,dd7,dd8⟩:=hNB c 256 tc0 (by omega)
   have hkey:byF N B (n - (i+1)) (i+1) (B c) (row.set i (N c 256))=(rf,d):=by
    have e:n - i=(n - (i+1))+1:=by omega
    rw [e,byF] at hrr
    exact hrr
   obtain ⟨x,hx⟩:∃ x,x=N c 256:=⟨_,rfl⟩
   obtain ⟨c2,hc2⟩:∃ y,y=B c:=⟨_,rfl⟩
   rw [← hx] at dd5 dd6 dd8 hkey
   rw [← hc2] at dd7 dd8 hkey
   have hv:=hus x
   (refine callq (dd8) rfl rfl ?_;cbv;(repeat' (first
| ((first
| (refine q1w (fun z hz=>?_);(try simp only at hz))
| refine rqa ?_
| refine chpA ?_
| refine QCt ?_
| refine QCf ?_);cbv)
| (refine QC.mk ?_ ?_ <;> intro hc <;> (try dsimp only at hc) <;> cbv)
| (refine br_mk2 ?_ ?_ <;> intro hb <;> (try subst hb) <;> cbv))))
   have ez:x=z:=by (first | omega | (simp only [cst] at *;omega) | (simp only [sm] at *;omega))
   subst ez
   (refine qv (i) (by (first | omega | (simp only [cst] at *;omega) | (simp only [sm] at *;omega))) ?_;cbv;(repeat' (first
| ((first
| (refine q1w (fun z hz=>?_);(try simp only at hz))
| refine rqa ?_
| refine chpA ?_
| refine QCt ?_
| refine QCf ?_);cbv)
| (refine QC.mk ?_ ?_ <;> intro hc <;> (try dsimp only at hc) <;> cbv)
| (refine br_mk2 ?_ ?_ <;> intro hb <;> (try subst hb) <;> cbv))))
   refine ⟨(i+1,z,row.set i x,c2),⟨by show z=((i+1:Nat):Int);(first | omega | (simp only [cst] at *;omega) | (simp only [sm] at *;omega)),by show i+1≤n;omega,by show (row.set i x).length=n;rw [List.length_set];exact hrl,dd7,hkey⟩,by show n - (i+1) < n - i;omega,?_⟩
   cbv
   refine ⟨?_,trivial⟩
   show Blk.row none 5 (O.st (U row) i (.int .u8 x))=.row none 5 (U (row.set i x))
   rw [hv]
  ·have e:i=n:=by (first | omega | (simp only [cst] at *;omega) | (simp only [sm] at *;omega))
   rw [e,Nat.sub_self,byF] at hrr
   injection hrr with hr1 hr2
   subst hr1;subst hr2
   exact ⟨rfl,rfl,rfl⟩
end
section
open Go.RowKit
variable {P:Program} {T:Nat→Option TI} {G:Nat→CT→Prop}
noncomputable def frzS (F:List Nat) (s:St):St:=⟨s.slots,appU (frzU (getM s.mem) F) s.mem⟩
theorem frzS_sub (F:List Nat) (s:St):Sub T s (frzS F s):=⟨fun N w0 X z a w ρ hr=>by
 have fz:=freeze_ids (T:=T) (sees_all s.mem) hr.m F
 exact ⟨ρ,⟨fz.m,hr.defers.turn fz.t,hr.size,fun t=>fz.t.den (fun _ h=>by cases h) (hr.slot t),anch_turn hr.m fz.m hr.anch (.inr rfl),hr.fix,hr.len,hr.nod⟩⟩⟩
theorem loopQF (F:List Nat) {c:Code} {s:St} {K:Ks} {A:Type} (I:A→Prop) (μ:A→Nat) (u:A→List (Nat × SV)) (v:A→List (Nat × Blk)) (i0:A) (h0:I i0)
  (hs:WeakSt (fitS (u i0) (v i0) (frzS F s)) (loopSt c (fitS (u i0) (v i0) (frzS F s)) (u i0) (v i0)))
  (hr:∀ i,I i→swp T G c (loopSt c (fitS (u i0) (v i0) (frzS F s)) (u i) (v i)) ⟨fun s'=>∃ j,I j∧μ j < μ i∧WeakSt (fitS (u j) (v j) (frzS F s')) (loopSt c (fitS (u i0) (v i0) (frzS F s)) (u j) (v j)),K.r,K.e⟩):LoopQ T (fun s K=>swp T G c s K) s K:=by
 exact ⟨.inr ⟨A,I,μ,fun i=>loopSt c (fitS (u i0) (v i0) (frzS F s)) (u i) (v i),fun i s s'=>WeakSt (fitS (u i) (v i) (frzS F s)) s',fun i s s' h=>((frzS_sub F s).trans (fitS_sub (u i) (v i) _)).trans (weak_sub h),⟨i0,h0,hs⟩,hr⟩⟩
end
end Go.Proofs.YtgfpjhddojhfpaaGreat
