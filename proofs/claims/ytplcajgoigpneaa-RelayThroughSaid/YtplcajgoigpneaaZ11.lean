/- Texts put together: LC. -/
import Derived.Test.YtplcajgoigpneaaZ10
namespace Go.Proofs.Ytplcajgoigpneaa
set_option linter.unusedVariables false
set_option linter.unusedSimpArgs false
open Go.RowKit
set_option maxHeartbeats 4000000
theorem del_plain (L Z : List SV) (at' n : Nat) (hL : L.length = n) (ha : at' < n) (j1 : Int) (hj1 : j1 = at' + 1) :
    (O.cp (O.cp L at' (n - (at' + 1)) (O.sg L (O.ad 0 j1) (O.sb (O.ln L) j1))) (n - 1) (n - (n - 1)) Z).take (L.take at' ++ L.drop (at' + 1)).length = L.take at' ++ L.drop (at' + 1) := by
  have e1 : O.ad 0 j1 = at' + 1 := by rw [oad]; omega
  have e2 : O.sb (O.ln L) j1 = n - (at' + 1) := by rw [osb, oln, hL]; omega
  rw [e1, e2, ocp, osg]
  have e3 : (L.drop (at' + 1)).take (n - (at' + 1)) = L.drop (at' + 1) := List.take_of_length_le (by simp; omega)
  rw [e3, ocp]
  have e4 : (L.drop (at' + 1)).take (n - (at' + 1)) = L.drop (at' + 1) := e3
  rw [e4]
  have hl : (L.take at' ++ L.drop (at' + 1)).length = n - 1 := by simp; omega
  rw [hl]
  have hX : ((L.take at' ++ L.drop (at' + 1) ++ L.drop (at' + min (L.drop (at' + 1)).length (n - (at' + 1)))).take (n - 1)) = L.take at' ++ L.drop (at' + 1) := by
    rw [← hl]; exact List.take_left
  rw [hX, List.append_assoc, ← hl]
  exact List.take_left
theorem delete_l (L K : List SV) (at' : Nat) (n : Nat) (hL : L.length = n) (hn : n ≤ 1000000) (ha : at' < n) (hK : K = L.take at' ++ L.drop (at' + 1)) : Good 37 (lrC (some 11) 43 L [.int .i64 at', .int .i64 (at' + 1)] K) := by
  refine Good.ofL Try.func37 rfl (by rfl) (by kernel_rfl) ?_
  obtain ⟨j, hj⟩ : ∃ j : Int, j = at' := ⟨_, rfl⟩
  obtain ⟨j1, hj1⟩ : ∃ j1 : Int, j1 = at' + 1 := ⟨_, rfl⟩
  obtain ⟨p, hp⟩ : ∃ p, p = n - 1 := ⟨_, rfl⟩
  obtain ⟨d, hd⟩ : ∃ d, d = n - p := ⟨_, rfl⟩
  obtain ⟨m, hm⟩ : ∃ m, m = n - (at' + 1) := ⟨_, rfl⟩
  rw [← hj1, ← hj]
  cbv
  (repeat' (first
| (refine q1w (fun z hz => ?_); (try simp only at hz); cbv)
| (refine rqw ?_; cbv)
| (refine rq (show kfitQ _ _ from by simp [kfitQ, IntKind.min, IntKind.max, IntKind.signed, IntKind.bits]; omega) ?_; cbv)
| (refine QC.tw ?_; cbv)
| (refine QC.tt ?_ ?_; (focus (simp only [decide_true, Bool.and_true, Bool.and_self] <;> fail)); cbv)
| (refine QC.ff ?_ ?_; (focus (simp only [decide_true, Bool.and_true, Bool.and_self, decide_false, Bool.false_and, reduceCtorEq, not_false_eq_true] <;> fail)); cbv)
| (refine QC.fw ?_; cbv)
| (refine QC.mk (fun hc => ?_) (fun hc => ?_) <;> (try dsimp only at hc) <;> cbv)
| (refine br_mk2 (fun hb => ?_) (fun hb => ?_) <;> (try subst hb) <;> cbv)))
  refine chpB ?_
  cbv
  refine qv (p, at', m) ⟨by (first | omega | (simp only [cst] at *; omega) | (simp only [sm] at *; omega)), trivial, by (first | omega | (simp only [cst] at *; omega) | (simp only [sm] at *; omega)), by (first | omega | (simp only [cst] at *; omega) | (simp only [sm] at *; omega)), by (first | omega | (simp only [cst] at *; omega) | (simp only [sm] at *; omega))⟩ ?_
  cbv
  (repeat' (first
| (refine q1w (fun z hz => ?_); (try simp only at hz); cbv)
| (refine rqw ?_; cbv)
| (refine rq (show kfitQ _ _ from by simp [kfitQ, IntKind.min, IntKind.max, IntKind.signed, IntKind.bits]; omega) ?_; cbv)
| (refine QC.tw ?_; cbv)
| (refine QC.tt ?_ ?_; (focus (simp only [decide_true, Bool.and_true, Bool.and_self] <;> fail)); cbv)
| (refine QC.ff ?_ ?_; (focus (simp only [decide_true, Bool.and_true, Bool.and_self, decide_false, Bool.false_and, reduceCtorEq, not_false_eq_true] <;> fail)); cbv)
| (refine QC.fw ?_; cbv)
| (refine QC.mk (fun hc => ?_) (fun hc => ?_) <;> (try dsimp only at hc) <;> cbv)
| (refine br_mk2 (fun hb => ?_) (fun hb => ?_) <;> (try subst hb) <;> cbv)))
  refine chpB ?_
  cbv
  refine qv (p, d, none) ⟨p, n, by (first | omega | (simp only [cst] at *; omega) | (simp only [sm] at *; omega)), by (first | omega | (simp only [cst] at *; omega) | (simp only [sm] at *; omega)), by omega, by (first | omega | (simp only [cst] at *; omega) | (simp only [sm] at *; omega)), trivial, by rw [hd]; simp [capLess]⟩ ?_
  cbv
  (repeat' (first
| (refine q1w (fun z hz => ?_); (try simp only at hz); cbv)
| (refine rqw ?_; cbv)
| (refine rq (show kfitQ _ _ from by simp [kfitQ, IntKind.min, IntKind.max, IntKind.signed, IntKind.bits]; omega) ?_; cbv)
| (refine QC.tw ?_; cbv)
| (refine QC.tt ?_ ?_; (focus (simp only [decide_true, Bool.and_true, Bool.and_self] <;> fail)); cbv)
| (refine QC.ff ?_ ?_; (focus (simp only [decide_true, Bool.and_true, Bool.and_self, decide_false, Bool.false_and, reduceCtorEq, not_false_eq_true] <;> fail)); cbv)
| (refine QC.fw ?_; cbv)
| (refine QC.mk (fun hc => ?_) (fun hc => ?_) <;> (try dsimp only at hc) <;> cbv)
| (refine br_mk2 (fun hb => ?_) (fun hb => ?_) <;> (try subst hb) <;> cbv)))
  subst hp; subst hd; subst hm
  refine ⟨by rw [hK]; simp; omega, ?_⟩
  rw [hK]
  exact del_plain L _ at' n hL ha j1 hj1
theorem delete_v (L K : List SV) (i : Nat) (n : Nat) (i0 i1 : Int) (h0 : i0 = i) (h1 : i1 = i + 1) (hL : L.length = n) (hn : n ≤ 1000000) (ha : i < n) (hK : K = L.take i ++ L.drop (i + 1)) : Good 37 (lrC (some 11) 43 L [.int .i64 i0, .int .i64 i1] K) := by
  subst h0; subst h1
  exact delete_l L K i n hL hn ha hK
end Go.Proofs.Ytplcajgoigpneaa
