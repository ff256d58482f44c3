/- Texts put together: JE. -/
import Derived.Test.YtgfpjhddojhfpaaGreatZ09
import Derived.Test.YtgfpjhddojhfpaaGreatZ10
import Derived.Test.YtgfpjhddojhfpaaGreatZ12
namespace Go.Proofs.YtgfpjhddojhfpaaGreat
set_option linter.unusedVariables false
set_option linter.unusedSimpArgs false
open Go.RowKit
set_option maxHeartbeats 4000000
set_option linter.unusedSimpArgs false
set_option linter.unusedVariables false
abbrev lawF (se : Bool) (ct ky : Int) (p m : List UInt8) : Fr := ⟨1, true, false, se, 0, 1, 3, 0, 144115188075855874, 3, 0, 144115188075855873, ct, ky, p, m⟩
theorem lawF_valid (p m : List UInt8) (hp : p.length ≤ 60) (hm : m.length = 4) (ct ky : Int) : (lawF true ct ky p m).valid = true := by
  show (if (1 : Int) = 2 then _ else if (1 : Int) = 1 ∨ (1 : Int) = 3 then dataV true true 3 0 144115188075855874 3 0 144115188075855873 ct ky m.length (frL 1 true 3 3 p.length m.length) else false) = true
  rw [if_neg (by omega), if_pos (by omega), dataV, decide_eq_true_eq]
  refine ⟨⟨by decide, by decide⟩, ⟨by decide, fun _ => by decide⟩, fun _ => hm, (fun h => by cases h), ?_⟩
  have e : abL 3 = 8 := by decide
  rw [frL, e, if_neg (by omega), if_pos rfl]
  omega
theorem lawF_valid0 (p : List UInt8) (hp : p.length ≤ 60) : (lawF false 0 0 p []).valid = true := by
  show (if (1 : Int) = 2 then _ else if (1 : Int) = 1 ∨ (1 : Int) = 3 then dataV true false 3 0 144115188075855874 3 0 144115188075855873 0 0 0 (frL 1 false 3 3 p.length 0) else false) = true
  rw [if_neg (by omega), if_pos (by omega), dataV, decide_eq_true_eq]
  refine ⟨⟨by decide, by decide⟩, ⟨by decide, fun _ => by decide⟩, (fun h => by cases h), (fun _ => ⟨rfl, rfl, rfl⟩), ?_⟩
  have e : abL 3 = 8 := by decide
  rw [frL, e, if_neg (by omega), if_neg (by simp)]
  omega
theorem lawF_ok (p m : List UInt8) (se : Bool) (ct ky : Int) (hc : 0 ≤ ct ∧ ct ≤ 4294967295) (hk : 0 ≤ ky ∧ ky ≤ 255) : (lawF se ct ky p m).Ok := ⟨by show (0 : Int) ≤ 0 ∧ (0 : Int) ≤ 255; omega, by show (0 : Int) ≤ 1 ∧ (1 : Int) ≤ 65535; omega, by show (0 : Int) ≤ 0 ∧ (0 : Int) ≤ 65535; omega, by show u6 144115188075855874; unfold u6; omega, by show (0 : Int) ≤ 0 ∧ (0 : Int) ≤ 65535; omega, by show u6 144115188075855873; unfold u6; omega, hc, hk⟩
theorem sealed_c (p : List UInt8) (P : List SV) (hP : P = u8l p) (hp : p.length ≤ 60) (T : List UInt8) (hT : T = tagP (lawF true 1 1 p []).hdr 4) (E : List SV) (hE : E = u8l (lawF true 1 1 p T).enc) :
    Good 8 (pu [gS 1 0 [], .int .i64 0, .int .i64 1, .lst none [.lst none P]] (.tup [gS 2 0 [], .lst none [.lst none E], .bool true])) := by
  have hTl : T.length = 4 := by rw [hT, tagP_len]
  obtain ⟨TS, hTS⟩ : ∃ y, y = u8l T := ⟨_, rfl⟩
  have hv := lawF_valid p T hp hTl 1 1
  have c1 := (seal_c 1 true false 0 1 3 0 144115188075855874 3 0 144115188075855873 1 0 P p hP (by omega) 2 (by omega) (by omega) (by omega) (lawF_valid0 p hp) (lawF_ok p [] true 1 1 (by omega) (by omega)) (lawF_valid p [0, 0, 0, 0] hp rfl 1 1)
    (by have h := Fr.hdr_len (Fr.fits (lawF_valid p T hp hTl 1 1)); have e : (lawF true 1 1 p []).hdr = (lawF true 1 1 p T).hdr := rfl; rw [e]; omega) T hT hv hTl TS hTS).arg
    (a' := [gS 1 0 [], .agg [.int .i64 1, .bool true, .bool false, .bool false, .int .u8 0, .int .u16 1, .int .i64 3, .int .u16 0, .int .u64 144115188075855874, .int .i64 3, .int .u16 0, .int .u64 144115188075855873, .int .u32 0, .int .u8 0, .lst none P, .nil], .int .u8 1])
    ⟨Wk.rfl' _, Wk.agg ⟨Wk.rfl' _, Wk.rfl' _, Wk.rfl' _, Wk.rfl' _, Wk.rfl' _, Wk.rfl' _, Wk.rfl' _, Wk.rfl' _, Wk.rfl' _, Wk.rfl' _, Wk.rfl' _, Wk.rfl' _, Wk.rfl' _, Wk.rfl' _, Wk.rfl' _, Wk.nil none, trivial⟩, Wk.rfl' _, trivial⟩
  have c2 := encode_yes 1 true false true 0 1 3 0 144115188075855874 3 0 144115188075855873 1 1 P TS p T hP hTS (lawF_ok p T true 1 1 (by omega) (by omega)) hv (by omega) (by omega) E hE
  clear hv hT hE hTS
  refine Good.of Tryz.func8 rfl (by rfl) (by kernel_rfl) ?_
  cbv
  repeat' (first
| ((first
| refine callq w13_0 rfl rfl ?_
| refine callq w13_1 rfl rfl ?_
| refine callq c1 rfl rfl ?_
| refine callq c2 rfl rfl ?_
| refine QC.tt (by decide) ?_
| refine QC.ff (by decide) ?_
| (refine q1w (fun z hz => ?_); (simp [oln, Int.max_def, Int.min_def] at hz); subst hz)
| refine rqw ?_
| refine qvIdx _ (by rfl) (by decide) ?_
| refine qvSome _ (by rfl) ?_
| refine chpA ?_
| refine unrollq 3 ?_); cbv; (try (simp only [cwn]; cbv)))
| (simp only [cwn]; cbv))
  exact ⟨rfl, rfl, rfl⟩
end Go.Proofs.YtgfpjhddojhfpaaGreat
