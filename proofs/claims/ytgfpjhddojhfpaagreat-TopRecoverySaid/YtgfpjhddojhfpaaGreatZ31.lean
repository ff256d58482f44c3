/- Texts put together: EI. -/
import Derived.Test.YtgfpjhddojhfpaaGreatZ30
namespace Go.Proofs.YtgfpjhddojhfpaaGreat
set_option linter.unusedVariables false
set_option linter.unusedSimpArgs false
section
open Go.RowKit
set_option maxHeartbeats 4000000
set_option maxRecDepth 100000
theorem take_n (B:List SV) (n o p:Int):Good 191 (gC [.bool false,.int .i64 n,.int .u64 o,.ptr 903 0,.cel (.ptr 0 0)] [(903,45,.int .i64 0,.int .i64 0),(0,233,rdS B p,rdS B p)] (.int .u64 o) .no):=by
 refine Good.ofG Tryz.func191 rfl (by rfl) (by kernel_rfl) ?_
 cbv
 have hmk:True:=trivial
 exact wlkc
theorem take_y (B:List SV) (n o p q v:Int) (gn:Good 190 (le 233 (rdS B p) [.int .i64 n] (.tup [.int .u64 v,.int .i64 0]) (rdS B q))):Good 191 (gC [.bool true,.int .i64 n,.int .u64 o,.ptr 903 0,.cel (.ptr 0 0)] [(903,45,.int .i64 0,.int .i64 0),(0,233,rdS B p,rdS B q)] (.int .u64 v) .no):=by
 refine Good.ofG Tryz.func191 rfl (by rfl) (by kernel_rfl) ?_
 cbv
 have hmk:True:=trivial
 exact wlkc
structure FH (first f n h ho:Int) (w1 w2 w3 w4:Bool):Prop where
 a:first=96+8 * f+4 * n+h
 b:f=0∧w1=true∧w2=true∨f=1∧w1=false∧w2=true∨f=2∧w1=true∧w2=false∨f=3∧w1=false∧w2=false
 c:n=0∧w3=true∨n=1∧w3=false
 d:h=0∧w4=true∧ho=0∨h=1∧w4=false∧ho=1∨h=2∧w4=false∧ho=64∨h=3∧w4=false∧ho=255
abbrev pk0 (cl fl nx hp:Int):SV:=.agg [.int .u8 cl,.int .u32 fl,.int .u8 nx,.int .u8 hp,.int .u8 0,.int .u8 0,.int .u8 0,.int .u8 0,.int .u8 0,.int .u8 0,.int .u8 0,.int .u8 0,.int .u8 0,.int .u8 0,.int .u8 0,.int .u8 0,.int .u8 0,.int .u8 0,.int .u8 0,.int .u8 0,.int .u8 0,.int .u8 0,.int .u8 0,.int .u8 0,.int .u8 0,.int .u8 0,.int .u8 0,.int .u8 0,.int .u8 0,.int .u8 0,.int .u8 0,.int .u8 0,.int .u8 0,.int .u8 0,.int .u8 0,.int .u8 0,.int .u16 0,.int .u16 0,.nil]
theorem pk0_ext {a b c d a' b' c' d':Int} (h1:a=a') (h2:b=b') (h3:c=c') (h4:d=d'):pk0 a b c d=pk0 a' b' c' d':=by subst_vars;rfl
theorem dfields_c (first f n h ho:Int) (w1 w2 w3 w4:Bool) (H:FH first f n h ho w1 w2 w3 w4) (B:List SV) (p0 p1 p2 p3 p4 cl fl nx hp:Int)
  (g1:Good 191 (gC [.bool w1,.int .i64 1,.int .u64 0,.ptr 903 0,.cel (.ptr 0 0)] [(903,45,.int .i64 0,.int .i64 0),(0,233,rdS B p0,rdS B p1)] (.int .u64 cl) .no))
  (g2:Good 191 (gC [.bool w2,.int .i64 3,.int .u64 0,.ptr 903 0,.cel (.ptr 0 0)] [(903,45,.int .i64 0,.int .i64 0),(0,233,rdS B p1,rdS B p2)] (.int .u64 fl) .no))
  (g3:Good 191 (gC [.bool w3,.int .i64 1,.int .u64 17,.ptr 903 0,.cel (.ptr 0 0)] [(903,45,.int .i64 0,.int .i64 0),(0,233,rdS B p2,rdS B p3)] (.int .u64 nx) .no))
  (g4:Good 191 (gC [.bool w4,.int .i64 1,.int .u64 ho,.ptr 903 0,.cel (.ptr 0 0)] [(903,45,.int .i64 0,.int .i64 0),(0,233,rdS B p3,rdS B p4)] (.int .u64 hp) .no))
  (hc:0≤cl∧cl≤255) (hf:0≤fl∧fl≤1048575) (hn:0≤nx∧nx≤255) (hn2:n=0→nx≠17) (hh:0≤hp∧hp≤255) :
  Good 145 (le 233 (rdS B p0) [.int .i64 first] (.tup [pk0 cl fl nx hp,.int .i64 0]) (rdS B p4)):=by
 obtain ⟨ha,hb,hcc,hd⟩:=H
 rcases hb with ⟨rfl,rfl,rfl⟩ | ⟨rfl,rfl,rfl⟩ | ⟨rfl,rfl,rfl⟩ | ⟨rfl,rfl,rfl⟩ <;> rcases hcc with ⟨rfl,rfl⟩ | ⟨rfl,rfl⟩ <;> rcases hd with ⟨rfl,rfl,rfl⟩ | ⟨rfl,rfl,rfl⟩ | ⟨rfl,rfl,rfl⟩ | ⟨rfl,rfl,rfl⟩
 all_goals (simp at ha;subst ha)
 all_goals (first | (replace hn2:=hn2 rfl) | clear hn2)
 all_goals
  refine Good.of Tryz.func145 rfl (by rfl) (by kernel_rfl) ?_
  cbv
  have hmk:True:=trivial
  (try (simp only [cwn];cbv));(repeat' (first
| ((first
| (refine q1w (fun z hz=>?_);(try simp [oln,Int.max_def,Int.min_def] at hz);(with_reducible refine litk hz ?_ ?_);(focus decide);subst hz)
| (refine q1w (fun z hz=>?_);(try simp only [Int.reduceToNat,Int.reducePow] at hz))
| refine td ?_
| refine fd ?_
| refine rqa ?_
| refine vI ?_
| refine vA ?_
| refine vS ?_
| refine vR ?_
| refine genq (g1) rfl rfl ?_
| refine genq (g2) rfl rfl ?_
| refine genq (g3) rfl rfl ?_
| refine genq (g4) rfl rfl ?_
| refine chpB ?_
| refine QCt ?_
| refine QCf ?_);cbv;(try (simp only [cwn];cbv)))
| (simp only [cwn];cbv)
| (refine QC.mk ?_ ?_ <;> intro hc <;> (try dsimp only at hc) <;> cbv;(try (simp only [cwn];cbv)))
| (refine br_mk2 ?_ ?_ <;> intro hb <;> (try subst hb) <;> cbv;(try (simp only [cwn];cbv)))))
 all_goals (refine ⟨congrArg (fun s=>SV.tup [s,.int .i64 0]) (pk0_ext ?_ ?_ ?_ ?_),rfl,rfl⟩ <;> (first | omega | (simp only [cst] at *;omega) | (simp only [sm] at *;omega)))
end
end Go.Proofs.YtgfpjhddojhfpaaGreat
