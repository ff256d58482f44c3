/- Texts put together: LI. -/
import Derived.Test.YtplcajgoigpneaaZ13
namespace Go.Proofs.Ytplcajgoigpneaa
set_option linter.unusedVariables false
set_option linter.unusedSimpArgs false
open Go.RowKit
set_option maxHeartbeats 8000000
def ForV (l : List Sw) (a b c n o : Int) (len : Nat) (d e f : Int) : Prop := VS l ∧ someA a b c = true ∧ validF n o len = true ∧ (o = 0 → someA d e f = true)
set_option maxRecDepth 4000 in
theorem fwd_no (l : List Sw) (L : List SV) (hL : L = swL l) (hl : l.length ≤ 3600000000000) (hf : ∀ x ∈ l, x.fits) (a b c n t o : Int) (X : List SV) (len : Nat) (hX : X.length = len) (hlen : len ≤ 140737488355328) (hn : -9223372036854775808 ≤ n ∧ n ≤ 9223372036854775807) (ho : -9223372036854775808 ≤ o ∧ o ≤ 9223372036854775807) (d e f u now er : Int)
    (h : (¬ ForV l a b c n o len d e f ∧ er = 1) ∨ (ForV l a b c n o len d e f ∧ timeT now = false ∧ er = 2)) :
    Good 18 (pu [.lst (some 11) L, .agg [.int .i64 a, .int .u16 b, .int .u64 c], .agg [.int .i64 n, .int .u16 t, .int .i64 o, .lst none X], .agg [.int .i64 d, .int .u16 e, .int .u64 f], .int .u16 u, .int .i64 now] (.tup [.lst (some 11) [], .agg [.int .i64 0, .int .u16 0, .int .i64 0, .nil], .agg [.int .i64 0, .int .u16 0, .int .u64 0], .int .i64 er])) := by
  obtain ⟨b1, hb1⟩ : ∃ r, r = true ↔ VS l := ⟨@decide (VS l) (Classical.propDecidable _), by simp⟩
  obtain ⟨b2, hb2⟩ : ∃ r, r = someA a b c := ⟨_, rfl⟩
  obtain ⟨b3, hb3⟩ : ∃ r, r = validF n o len := ⟨_, rfl⟩
  obtain ⟨b4, hb4⟩ : ∃ r, r = someA d e f := ⟨_, rfl⟩
  have g1 := svalid_c l L hL hl hf b1 hb1
  have g2 := place_c a b c b2 hb2
  have g3 := valid_c X n t o len b3 hX hlen hn ho hb3
  have g4 := place_c d e f b4 hb4
  unfold ForV at h
  have W : Wrap ((b1 = false → er = 1) ∧ (b2 = false → er = 1) ∧ (b3 = false → er = 1) ∧ (o = 0 → b4 = false → er = 1) ∧ (b1 = true → b2 = true → b3 = true → (o = 0 → b4 = true) → er = 2 ∧ VS l ∧ timeT now = false)) := by
    have key : (VS l ∧ someA a b c = true ∧ validF n o len = true ∧ (o = 0 → someA d e f = true) → er = 2 ∧ VS l ∧ timeT now = false) ∧ (¬ (VS l ∧ someA a b c = true ∧ validF n o len = true ∧ (o = 0 → someA d e f = true)) → er = 1) := by
      rcases h with ⟨h1, h2⟩ | ⟨h1, h2, h3⟩
      · exact ⟨fun h => absurd h h1, fun _ => h2⟩
      · exact ⟨fun h => ⟨h3, h1.1, h2⟩, fun h => absurd h1 h⟩
    refine ⟨fun h1 => key.2 fun hh => ?_, fun h1 => key.2 fun hh => ?_, fun h1 => key.2 fun hh => ?_, fun h0 h1 => key.2 fun hh => ?_, fun h1 h2 h3 h4 => key.1 ⟨hb1.1 h1, hb2.symm.trans h2, hb3.symm.trans h3, fun h0 => hb4.symm.trans (h4 h0)⟩⟩
    · rw [hb1.2 hh.1] at h1; cases h1
    · rw [hb2, hh.2.1] at h1; cases h1
    · rw [hb3, hh.2.2.1] at h1; cases h1
    · rw [hb4, hh.2.2.2 h0] at h1; cases h1
  have g5 : VS l → timeT now = false → Good 27 (pu [.lst (some 11) L, .int .i64 now] (.tup [.lst (some 11) [], .int .i64 2])) := fun h1 h2 => expire_no l L hL hl hf now 2 (.inr ⟨h1, h2, rfl⟩)
  clear hb1 hb2 hb3 hb4 h
  refine Good.of Try.func18 rfl (by rfl) (by kernel_rfl) ?_
  cbv
  (repeat' (first
| (refine q1w (fun z hz => ?_); (try simp only at hz); cbv)
| (refine rqw ?_; cbv)
| (refine rq (show kfitQ _ _ from by simp [kfitQ, IntKind.min, IntKind.max, IntKind.signed, IntKind.bits]; omega) ?_; cbv)
| (refine chpA ?_; cbv)
| (refine QC.tw ?_; cbv)
| (refine QC.tt ?_ ?_; (focus (simp only [decide_true, Bool.and_true, Bool.and_self] <;> fail)); cbv)
| (refine QC.ff ?_ ?_; (focus (simp only [decide_true, Bool.and_true, Bool.and_self, decide_false, Bool.false_and, reduceCtorEq, not_false_eq_true] <;> fail)); cbv)
| (refine QC.fw ?_; cbv)
| (refine QC.mk (fun hc => ?_) (fun hc => ?_) <;> (try dsimp only at hc) <;> cbv)
| (refine br_mk2 (fun hb => ?_) (fun hb => ?_) <;> (try subst hb) <;> cbv)))
  (refine callq (g1) rfl rfl ?_; cbv; (repeat' (first
| (refine q1w (fun z hz => ?_); (try simp only at hz); cbv)
| (refine rqw ?_; cbv)
| (refine rq (show kfitQ _ _ from by simp [kfitQ, IntKind.min, IntKind.max, IntKind.signed, IntKind.bits]; omega) ?_; cbv)
| (refine chpA ?_; cbv)
| (refine QC.tw ?_; cbv)
| (refine QC.tt ?_ ?_; (focus (simp only [decide_true, Bool.and_true, Bool.and_self] <;> fail)); cbv)
| (refine QC.ff ?_ ?_; (focus (simp only [decide_true, Bool.and_true, Bool.and_self, decide_false, Bool.false_and, reduceCtorEq, not_false_eq_true] <;> fail)); cbv)
| (refine QC.fw ?_; cbv)
| (refine QC.mk (fun hc => ?_) (fun hc => ?_) <;> (try dsimp only at hc) <;> cbv)
| (refine br_mk2 (fun hb => ?_) (fun hb => ?_) <;> (try subst hb) <;> cbv))))
  · (refine callq (g2) rfl rfl ?_; cbv; (repeat' (first
| (refine q1w (fun z hz => ?_); (try simp only at hz); cbv)
| (refine rqw ?_; cbv)
| (refine rq (show kfitQ _ _ from by simp [kfitQ, IntKind.min, IntKind.max, IntKind.signed, IntKind.bits]; omega) ?_; cbv)
| (refine chpA ?_; cbv)
| (refine QC.tw ?_; cbv)
| (refine QC.tt ?_ ?_; (focus (simp only [decide_true, Bool.and_true, Bool.and_self] <;> fail)); cbv)
| (refine QC.ff ?_ ?_; (focus (simp only [decide_true, Bool.and_true, Bool.and_self, decide_false, Bool.false_and, reduceCtorEq, not_false_eq_true] <;> fail)); cbv)
| (refine QC.fw ?_; cbv)
| (refine QC.mk (fun hc => ?_) (fun hc => ?_) <;> (try dsimp only at hc) <;> cbv)
| (refine br_mk2 (fun hb => ?_) (fun hb => ?_) <;> (try subst hb) <;> cbv))))
    · (refine callq (g3) rfl rfl ?_; cbv; (repeat' (first
| (refine q1w (fun z hz => ?_); (try simp only at hz); cbv)
| (refine rqw ?_; cbv)
| (refine rq (show kfitQ _ _ from by simp [kfitQ, IntKind.min, IntKind.max, IntKind.signed, IntKind.bits]; omega) ?_; cbv)
| (refine chpA ?_; cbv)
| (refine QC.tw ?_; cbv)
| (refine QC.tt ?_ ?_; (focus (simp only [decide_true, Bool.and_true, Bool.and_self] <;> fail)); cbv)
| (refine QC.ff ?_ ?_; (focus (simp only [decide_true, Bool.and_true, Bool.and_self, decide_false, Bool.false_and, reduceCtorEq, not_false_eq_true] <;> fail)); cbv)
| (refine QC.fw ?_; cbv)
| (refine QC.mk (fun hc => ?_) (fun hc => ?_) <;> (try dsimp only at hc) <;> cbv)
| (refine br_mk2 (fun hb => ?_) (fun hb => ?_) <;> (try subst hb) <;> cbv))))
      · (refine callq (g4) rfl rfl ?_; cbv; (repeat' (first
| (refine q1w (fun z hz => ?_); (try simp only at hz); cbv)
| (refine rqw ?_; cbv)
| (refine rq (show kfitQ _ _ from by simp [kfitQ, IntKind.min, IntKind.max, IntKind.signed, IntKind.bits]; omega) ?_; cbv)
| (refine chpA ?_; cbv)
| (refine QC.tw ?_; cbv)
| (refine QC.tt ?_ ?_; (focus (simp only [decide_true, Bool.and_true, Bool.and_self] <;> fail)); cbv)
| (refine QC.ff ?_ ?_; (focus (simp only [decide_true, Bool.and_true, Bool.and_self, decide_false, Bool.false_and, reduceCtorEq, not_false_eq_true] <;> fail)); cbv)
| (refine QC.fw ?_; cbv)
| (refine QC.mk (fun hc => ?_) (fun hc => ?_) <;> (try dsimp only at hc) <;> cbv)
| (refine br_mk2 (fun hb => ?_) (fun hb => ?_) <;> (try subst hb) <;> cbv))))
        · have h123 := W.h.2.2.2.2 rfl rfl rfl (fun _ => rfl)
          have g6 := g5 h123.2.1 h123.2.2
          (refine callq (g6) rfl rfl ?_; cbv; (repeat' (first
| (refine q1w (fun z hz => ?_); (try simp only at hz); cbv)
| (refine rqw ?_; cbv)
| (refine rq (show kfitQ _ _ from by simp [kfitQ, IntKind.min, IntKind.max, IntKind.signed, IntKind.bits]; omega) ?_; cbv)
| (refine chpA ?_; cbv)
| (refine QC.tw ?_; cbv)
| (refine QC.tt ?_ ?_; (focus (simp only [decide_true, Bool.and_true, Bool.and_self] <;> fail)); cbv)
| (refine QC.ff ?_ ?_; (focus (simp only [decide_true, Bool.and_true, Bool.and_self, decide_false, Bool.false_and, reduceCtorEq, not_false_eq_true] <;> fail)); cbv)
| (refine QC.fw ?_; cbv)
| (refine QC.mk (fun hc => ?_) (fun hc => ?_) <;> (try dsimp only at hc) <;> cbv)
| (refine br_mk2 (fun hb => ?_) (fun hb => ?_) <;> (try subst hb) <;> cbv))))
          refine ⟨?_, rfl, rfl⟩
          rw [h123.1]
        · skip
          refine ⟨?_, rfl, rfl⟩
          rw [show er = 1 by first | exact W.h.1 rfl | exact W.h.2.1 rfl | exact W.h.2.2.1 rfl | exact W.h.2.2.2.1 (by omega) rfl]
      · have h123 := W.h.2.2.2.2 rfl rfl rfl (fun h0 => absurd h0 hc)
        have g6 := g5 h123.2.1 h123.2.2
        (refine callq (g6) rfl rfl ?_; cbv; (repeat' (first
| (refine q1w (fun z hz => ?_); (try simp only at hz); cbv)
| (refine rqw ?_; cbv)
| (refine rq (show kfitQ _ _ from by simp [kfitQ, IntKind.min, IntKind.max, IntKind.signed, IntKind.bits]; omega) ?_; cbv)
| (refine chpA ?_; cbv)
| (refine QC.tw ?_; cbv)
| (refine QC.tt ?_ ?_; (focus (simp only [decide_true, Bool.and_true, Bool.and_self] <;> fail)); cbv)
| (refine QC.ff ?_ ?_; (focus (simp only [decide_true, Bool.and_true, Bool.and_self, decide_false, Bool.false_and, reduceCtorEq, not_false_eq_true] <;> fail)); cbv)
| (refine QC.fw ?_; cbv)
| (refine QC.mk (fun hc => ?_) (fun hc => ?_) <;> (try dsimp only at hc) <;> cbv)
| (refine br_mk2 (fun hb => ?_) (fun hb => ?_) <;> (try subst hb) <;> cbv))))
        refine ⟨?_, rfl, rfl⟩
        rw [h123.1]
      · skip
        refine ⟨?_, rfl, rfl⟩
        rw [show er = 1 by first | exact W.h.1 rfl | exact W.h.2.1 rfl | exact W.h.2.2.1 rfl | exact W.h.2.2.2.1 (by omega) rfl]
    · skip
      refine ⟨?_, rfl, rfl⟩
      rw [show er = 1 by first | exact W.h.1 rfl | exact W.h.2.1 rfl | exact W.h.2.2.1 rfl | exact W.h.2.2.2.1 (by omega) rfl]
  · skip
    refine ⟨?_, rfl, rfl⟩
    rw [show er = 1 by first | exact W.h.1 rfl | exact W.h.2.1 rfl | exact W.h.2.2.1 rfl | exact W.h.2.2.2.1 (by omega) rfl]
end Go.Proofs.Ytplcajgoigpneaa
