/- Texts put together: PE. -/
import Derived.Test.YtplcajgoigpneaaZ30
namespace Go.Proofs.Ytplcajgoigpneaa
set_option linter.unusedVariables false
set_option linter.unusedSimpArgs false
open Go.RowKit
set_option maxHeartbeats 8000000
theorem with_c {bs : List UInt8} {g : Nat → Fr} {K : Nat} {n t : Int} {A : Nat → Int} (h : FSeq bs g K n t A) (k : Nat) (hk : 1 ≤ k ∧ k < K) (P P' X : List SV) (hP : P = frL ((List.range k).map g)) (hP' : P' = frL ((List.range (k + 1)).map g)) (hX : X = u8l (g k).b) (a b c d e f u : Int) (F : List SV) (u2 : Int) :
    Good 49 (pu [bufV a b c d e f t n P u, .agg [.int .i64 n, .int .u16 t, .int .i64 (A k), .lst none X], bufV a b c d e f t n F u2] (bufV a b c d e f t n P' u)) := by
  have hPl : P.length = k := by rw [hP]; simp [frL]
  have hK := h.Kle K (Nat.le_refl _)
  have hK2 := h.aK
  have hnb := h.nb
  have hfk := h.fits (i := k) hk.2
  have hxl := h.len k hk.2
  have hXl : X.length = (g k).b.length := by rw [hX, u8l_len]
  have hR : P' = P ++ [.agg [.int .i64 n, .int .u16 t, .int .i64 (A k), .lst none X]] := by
    rw [hP', hP, List.range_succ, List.map_append, frL, List.map_append]
    congr 1
    simp only [List.map_cons, List.map_nil, Fr.v]
    rw [h.hn k hk.2, h.ht k hk.2, h.a k hk.2, hX]
  have hle : ∀ i, i < k → A (i + 1) ≤ A k := fun i hi => h.le (by omega) (by omega)
  have gi := insert_c ((List.range k).map g) P hP (by simp; omega) n t (A k) X (fun x hx => by
    obtain ⟨i, hi, rfl⟩ := List.mem_map.1 hx
    have hi := List.mem_range.1 hi
    rw [h.a i (by omega)]
    exact h.le (by omega) (by omega)) P' hR
  have hE : ∀ i, i < k → ∃ (ai : Int) (Y : List SV), P[i]? = some (.agg [.int .i64 n, .int .u16 t, .int .i64 ai, .lst none Y]) ∧
      Good 21 (pu [.agg [.int .i64 n, .int .u16 t, .int .i64 ai, .lst none Y], .agg [.int .i64 n, .int .u16 t, .int .i64 (A k), .lst none X]] (.bool false)) ∧
      Good 56 (pu [.agg [.int .i64 n, .int .u16 t, .int .i64 ai, .lst none Y], .agg [.int .i64 n, .int .u16 t, .int .i64 (A k), .lst none X]] (.bool false)) := fun i hi => by
    obtain ⟨Y, hY, hYl, _, hy⟩ := h.at' (by omega : k ≤ K) hP i hi
    have h1 := hle i hi
    have h2 := h.lt i (by omega)
    have hA1 := h.rg (k := i) (by omega)
    have hA2 := h.rg (k := k) (by omega)
    have hfi := h.fits (i := i) (by omega)
    refine ⟨A i, Y, hy, ?_, ?_⟩
    · exact rsame_c (g i).b (g k).b Y X n t (A i) n t (A k) false (same_c (g i).b (g k).b Y X _ hY hX (by omega) (by omega) rfl) (by symm; apply decide_eq_false; omega)
    · have hYl2 : Y.length = (g i).b.length := by rw [hY, u8l_len]
      exact overlap_c n t (A i) n t (A k) Y X false (by omega) (by omega) (by omega) (by symm; apply decide_eq_false; omega)
  have WE := Wrap.mk hE
  clear hE hle h hP hX hP' hR hfk
  generalize A k = ak at *
  refine Good.of Try.func49 rfl (by rfl) (by kernel_rfl) ?_
  cbv
  (repeat' (first
| (refine q1w (fun z hz => ?_); (try simp only at hz); cbv)
| (refine rqw ?_; cbv)
| (refine rq (show kfitQ _ _ from by simp [kfitQ, IntKind.min, IntKind.max, IntKind.signed, IntKind.bits]; omega) ?_; cbv)
| (refine chpA ?_; cbv)
| (refine QC.tw ?_; cbv)
| (refine QC.tt ?_ ?_; (focus (simp only [decide_true, Bool.and_true, Bool.and_self] <;> fail)); cbv)
| (refine QC.ff ?_ ?_; (focus (simp only [decide_true, Bool.and_true, Bool.and_self, decide_false, Bool.false_and, reduceCtorEq, not_false_eq_true] <;> fail)); cbv)
| (refine QC.fw ?_; cbv)
| (refine QC.mk (fun hc => ?_) (fun hc => ?_) <;> (try dsimp only at hc) <;> cbv)
| (refine br_mk2 (fun hb => ?_) (fun hb => ?_) <;> (try subst hb) <;> cbv)))
  refine loopQ (A := Nat × Int) (fun p => p.2 = p.1 ∧ p.1 ≤ k) (fun p => k - p.1) (fun p => [(8, .int .i64 p.2), (7, .bool false)]) (fun p => []) (0, 0) ⟨rfl, Nat.zero_le _⟩ ?_ ?_
  · cbv
    repeat' (first | exact rfl | exact trivial | apply And.intro)
  · intro ⟨i, j⟩ hh
    have hj : j = (i : Int) := hh.1
    have hi : i ≤ k := hh.2
    clear hh
    have hmk : True := trivial
    cbv
    (repeat' (first
| (refine q1w (fun z hz => ?_); (try simp only at hz); cbv)
| (refine rqw ?_; cbv)
| (refine rq (show kfitQ _ _ from by simp [kfitQ, IntKind.min, IntKind.max, IntKind.signed, IntKind.bits]; omega) ?_; cbv)
| (refine chpA ?_; cbv)
| (refine QC.tw ?_; cbv)
| (refine QC.tt ?_ ?_; (focus (simp only [decide_true, Bool.and_true, Bool.and_self] <;> fail)); cbv)
| (refine QC.ff ?_ ?_; (focus (simp only [decide_true, Bool.and_true, Bool.and_self, decide_false, Bool.false_and, reduceCtorEq, not_false_eq_true] <;> fail)); cbv)
| (refine QC.fw ?_; cbv)
| (refine QC.mk (fun hc => ?_) (fun hc => ?_) <;> (try dsimp only at hc) <;> cbv)
| (refine br_mk2 (fun hb => ?_) (fun hb => ?_) <;> (try subst hb) <;> cbv)))
    · have hlt : i < k := by (first | omega | (simp only [cst] at *; omega) | (simp only [sm] at *; omega))
      obtain ⟨ai, Y, hy, g1, g2⟩ := WE.h i hlt
      (refine qv (i, _) ⟨hj, hy⟩ ?_; cbv; (repeat' (first
| (refine q1w (fun z hz => ?_); (try simp only at hz); cbv)
| (refine rqw ?_; cbv)
| (refine rq (show kfitQ _ _ from by simp [kfitQ, IntKind.min, IntKind.max, IntKind.signed, IntKind.bits]; omega) ?_; cbv)
| (refine chpA ?_; cbv)
| (refine QC.tw ?_; cbv)
| (refine QC.tt ?_ ?_; (focus (simp only [decide_true, Bool.and_true, Bool.and_self] <;> fail)); cbv)
| (refine QC.ff ?_ ?_; (focus (simp only [decide_true, Bool.and_true, Bool.and_self, decide_false, Bool.false_and, reduceCtorEq, not_false_eq_true] <;> fail)); cbv)
| (refine QC.fw ?_; cbv)
| (refine QC.mk (fun hc => ?_) (fun hc => ?_) <;> (try dsimp only at hc) <;> cbv)
| (refine br_mk2 (fun hb => ?_) (fun hb => ?_) <;> (try subst hb) <;> cbv))))
      (refine callq (g1) rfl rfl ?_; cbv; (repeat' (first
| (refine q1w (fun z hz => ?_); (try simp only at hz); cbv)
| (refine rqw ?_; cbv)
| (refine rq (show kfitQ _ _ from by simp [kfitQ, IntKind.min, IntKind.max, IntKind.signed, IntKind.bits]; omega) ?_; cbv)
| (refine chpA ?_; cbv)
| (refine QC.tw ?_; cbv)
| (refine QC.tt ?_ ?_; (focus (simp only [decide_true, Bool.and_true, Bool.and_self] <;> fail)); cbv)
| (refine QC.ff ?_ ?_; (focus (simp only [decide_true, Bool.and_true, Bool.and_self, decide_false, Bool.false_and, reduceCtorEq, not_false_eq_true] <;> fail)); cbv)
| (refine QC.fw ?_; cbv)
| (refine QC.mk (fun hc => ?_) (fun hc => ?_) <;> (try dsimp only at hc) <;> cbv)
| (refine br_mk2 (fun hb => ?_) (fun hb => ?_) <;> (try subst hb) <;> cbv))))
      (refine qv (i, _) ⟨hj, hy⟩ ?_; cbv; (repeat' (first
| (refine q1w (fun z hz => ?_); (try simp only at hz); cbv)
| (refine rqw ?_; cbv)
| (refine rq (show kfitQ _ _ from by simp [kfitQ, IntKind.min, IntKind.max, IntKind.signed, IntKind.bits]; omega) ?_; cbv)
| (refine chpA ?_; cbv)
| (refine QC.tw ?_; cbv)
| (refine QC.tt ?_ ?_; (focus (simp only [decide_true, Bool.and_true, Bool.and_self] <;> fail)); cbv)
| (refine QC.ff ?_ ?_; (focus (simp only [decide_true, Bool.and_true, Bool.and_self, decide_false, Bool.false_and, reduceCtorEq, not_false_eq_true] <;> fail)); cbv)
| (refine QC.fw ?_; cbv)
| (refine QC.mk (fun hc => ?_) (fun hc => ?_) <;> (try dsimp only at hc) <;> cbv)
| (refine br_mk2 (fun hb => ?_) (fun hb => ?_) <;> (try subst hb) <;> cbv))))
      (refine callq (g2) rfl rfl ?_; cbv; (repeat' (first
| (refine q1w (fun z hz => ?_); (try simp only at hz); cbv)
| (refine rqw ?_; cbv)
| (refine rq (show kfitQ _ _ from by simp [kfitQ, IntKind.min, IntKind.max, IntKind.signed, IntKind.bits]; omega) ?_; cbv)
| (refine chpA ?_; cbv)
| (refine QC.tw ?_; cbv)
| (refine QC.tt ?_ ?_; (focus (simp only [decide_true, Bool.and_true, Bool.and_self] <;> fail)); cbv)
| (refine QC.ff ?_ ?_; (focus (simp only [decide_true, Bool.and_true, Bool.and_self, decide_false, Bool.false_and, reduceCtorEq, not_false_eq_true] <;> fail)); cbv)
| (refine QC.fw ?_; cbv)
| (refine QC.mk (fun hc => ?_) (fun hc => ?_) <;> (try dsimp only at hc) <;> cbv)
| (refine br_mk2 (fun hb => ?_) (fun hb => ?_) <;> (try subst hb) <;> cbv))))
      refine ⟨(i + 1, z), ⟨by show z = ((i + 1 : Nat) : Int); (first | omega | (simp only [cst] at *; omega) | (simp only [sm] at *; omega)), by show i + 1 ≤ k; omega⟩, by show k - (i + 1) < k - i; omega, ?_⟩
      cbv
      repeat' (first | exact rfl | exact trivial | apply And.intro)
    · (refine callq (gi) rfl rfl ?_; cbv; (repeat' (first
| (refine q1w (fun z hz => ?_); (try simp only at hz); cbv)
| (refine rqw ?_; cbv)
| (refine rq (show kfitQ _ _ from by simp [kfitQ, IntKind.min, IntKind.max, IntKind.signed, IntKind.bits]; omega) ?_; cbv)
| (refine chpA ?_; cbv)
| (refine QC.tw ?_; cbv)
| (refine QC.tt ?_ ?_; (focus (simp only [decide_true, Bool.and_true, Bool.and_self] <;> fail)); cbv)
| (refine QC.ff ?_ ?_; (focus (simp only [decide_true, Bool.and_true, Bool.and_self, decide_false, Bool.false_and, reduceCtorEq, not_false_eq_true] <;> fail)); cbv)
| (refine QC.fw ?_; cbv)
| (refine QC.mk (fun hc => ?_) (fun hc => ?_) <;> (try dsimp only at hc) <;> cbv)
| (refine br_mk2 (fun hb => ?_) (fun hb => ?_) <;> (try subst hb) <;> cbv))))
      exact ⟨rfl, rfl, rfl⟩
end Go.Proofs.Ytplcajgoigpneaa
