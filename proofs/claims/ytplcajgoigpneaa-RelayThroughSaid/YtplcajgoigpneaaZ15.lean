/- Texts put together: LJ. -/
import Derived.Test.YtplcajgoigpneaaZ14
namespace Go.Proofs.Ytplcajgoigpneaa
set_option linter.unusedVariables false
set_option linter.unusedSimpArgs false
open Go.RowKit
set_option maxHeartbeats 8000000
theorem later_c (now d r : Int) (h : 0 ≤ now ∧ now ≤ 1099511627776) (hd : 0 ≤ d ∧ d ≤ 1000000) (hr : r = min (now + d) 1099511627776) : Good 44 (pu [.int .i64 now, .int .i64 d] (.int .i64 r)) := by
  refine Good.of Try.func44 rfl (by rfl) (by kernel_rfl) ?_
  cbv
  (repeat' (first
| (refine q1w (fun z hz => ?_); (try simp only at hz); cbv)
| (refine rqw ?_; cbv)
| (refine rq (show kfitQ _ _ from by simp [kfitQ, IntKind.min, IntKind.max, IntKind.signed, IntKind.bits]; omega) ?_; cbv)
| (refine chpA ?_; cbv)
| (refine QC.tw ?_; cbv)
| (refine QC.tt ?_ ?_; (focus (simp only [decide_true, Bool.and_true, Bool.and_self] <;> fail)); cbv)
| (refine QC.ff ?_ ?_; (focus (simp only [decide_true, Bool.and_true, Bool.and_self, decide_false, Bool.false_and, reduceCtorEq, not_false_eq_true] <;> fail)); cbv)
| (refine QC.fw ?_; cbv)
| (refine QC.mk (fun hc => ?_) (fun hc => ?_) <;> (try dsimp only at hc) <;> cbv)
| (refine br_mk2 (fun hb => ?_) (fun hb => ?_) <;> (try subst hb) <;> cbv)))
  refine ⟨?_, rfl, rfl⟩
  rw [hr]
  simp only [SV.int.injEq, true_and]
  omega
theorem find_c (l : List Sw) (L : List SV) (hL : L = swL l) (hl : l.length ≤ 3600000000000) (a2 b2 c2 t2 r : Int) (hr : r = idxI (hitI a2 b2 c2 t2) l) :
    Good 42 (pu [.lst (some 11) L, .agg [.int .i64 a2, .int .u16 b2, .int .u64 c2], .int .u16 t2] (.int .i64 r)) := by
  have hLl : L.length = l.length := by rw [hL, swL_len]
  have hE := fun i hi => swL_at hL i hi
  have W := Wrap.mk (idxI_rule hr)
  clear hr
  refine Good.of Try.func42 rfl (by rfl) (by kernel_rfl) ?_
  cbv
  (repeat' (first
| (refine q1w (fun z hz => ?_); (try simp only at hz); cbv)
| (refine rqw ?_; cbv)
| (refine rq (show kfitQ _ _ from by simp [kfitQ, IntKind.min, IntKind.max, IntKind.signed, IntKind.bits]; omega) ?_; cbv)
| (refine chpA ?_; cbv)
| (refine QC.tw ?_; cbv)
| (refine QC.tt ?_ ?_; (focus (simp only [decide_true, Bool.and_true, Bool.and_self] <;> fail)); cbv)
| (refine QC.ff ?_ ?_; (focus (simp only [decide_true, Bool.and_true, Bool.and_self, decide_false, Bool.false_and, reduceCtorEq, not_false_eq_true] <;> fail)); cbv)
| (refine QC.fw ?_; cbv)
| (refine QC.mk (fun hc => ?_) (fun hc => ?_) <;> (try dsimp only at hc) <;> cbv)
| (refine br_mk2 (fun hb => ?_) (fun hb => ?_) <;> (try subst hb) <;> cbv)))
  refine loopQ (A := Nat × Int) (fun p2 => p2.2 = p2.1 ∧ p2.1 ≤ l.length ∧ ∀ (k : Nat) (y : Sw), l[k]? = some y → k < p2.1 → hitI a2 b2 c2 t2 y = false) (fun p => l.length - p.1) (fun p => [(7, .int .i64 p.2)]) (fun p => []) (0, 0) ⟨rfl, Nat.zero_le _, fun k y _ h => absurd h (Nat.not_lt_zero k)⟩ ?_ ?_
  · cbv
  · intro ⟨i, j⟩ hh
    have hj : j = (i : Int) := hh.1
    have hi : i ≤ l.length := hh.2.1
    have hk := hh.2.2
    dsimp only at hk
    clear hh
    have hmk : True := trivial
    cbv
    (repeat' (first
| (refine q1w (fun z hz => ?_); (try simp only at hz); cbv)
| (refine rqw ?_; cbv)
| (refine rq (show kfitQ _ _ from by simp [kfitQ, IntKind.min, IntKind.max, IntKind.signed, IntKind.bits]; omega) ?_; cbv)
| (refine chpA ?_; cbv)
| (refine QC.tw ?_; cbv)
| (refine QC.tt ?_ ?_; (focus (simp only [decide_true, Bool.and_true, Bool.and_self] <;> fail)); cbv)
| (refine QC.ff ?_ ?_; (focus (simp only [decide_true, Bool.and_true, Bool.and_self, decide_false, Bool.false_and, reduceCtorEq, not_false_eq_true] <;> fail)); cbv)
| (refine QC.fw ?_; cbv)
| (refine QC.mk (fun hc => ?_) (fun hc => ?_) <;> (try dsimp only at hc) <;> cbv)
| (refine br_mk2 (fun hb => ?_) (fun hb => ?_) <;> (try subst hb) <;> cbv)))
    · have hlt : i < l.length := by (first | omega | (simp only [cst] at *; omega) | (simp only [sm] at *; omega))
      obtain ⟨a, b, c, t, d, e, f, u, sz, y, w, hx, hLi⟩ := hE i hlt
      (repeat' (first
| (refine q1w (fun z hz => ?_); (try simp only at hz); cbv)
| (refine rqw ?_; cbv)
| (refine rq (show kfitQ _ _ from by simp [kfitQ, IntKind.min, IntKind.max, IntKind.signed, IntKind.bits]; omega) ?_; cbv)
| (refine chpA ?_; cbv)
| (refine QC.tw ?_; cbv)
| (refine QC.tt ?_ ?_; (focus (simp only [decide_true, Bool.and_true, Bool.and_self] <;> fail)); cbv)
| (refine QC.ff ?_ ?_; (focus (simp only [decide_true, Bool.and_true, Bool.and_self, decide_false, Bool.false_and, reduceCtorEq, not_false_eq_true] <;> fail)); cbv)
| (refine QC.fw ?_; cbv)
| (refine QC.mk (fun hc => ?_) (fun hc => ?_) <;> (try dsimp only at hc) <;> cbv)
| (refine br_mk2 (fun hb => ?_) (fun hb => ?_) <;> (try subst hb) <;> cbv)
| (refine qv (i, _) ⟨hj, hLi⟩ ?_; cbv)))
      all_goals first
      | (focus
         refine ⟨(i + 1, z), ⟨by show z = ((i + 1 : Nat) : Int); (first | omega | (simp only [cst] at *; omega) | (simp only [sm] at *; omega)), by show i + 1 ≤ l.length; omega, fun k y hy hki => ?_⟩, by show l.length - (i + 1) < l.length - i; omega, ?_⟩
         · by_cases e1 : k = i
           · subst e1
             rw [hx] at hy
             injection hy with hy
             rw [← hy]
             simp only [Bool.and_eq_true, decide_eq_true_eq, and_true] at *
             exact decide_eq_false (by simp only; omega)
           · have hki : k < i + 1 := hki
             exact hk k y hy (by omega)
         · cbv
         )
      | (refine ⟨?_, rfl, rfl⟩
         simp only [Bool.and_eq_true, decide_eq_true_eq, and_true] at *
         rw [W.h.1 i _ hx hk (decide_eq_true (by simp only; omega)), hj])
    · refine ⟨?_, rfl, rfl⟩
      rw [W.h.2 fun k y hy => hk k y hy (by have := (List.getElem?_eq_some_iff.1 hy).1; (first | omega | (simp only [cst] at *; omega) | (simp only [sm] at *; omega)))]
theorem drop_c (L : List SV) (n i : Nat) (i0 : Int) (hi : i0 = i) (hL : L.length = n) (hn : n ≤ 1000000) (hil : i < n) (R : List SV) (hR : R = delN L i) :
    Good 43 (nu [.lst (some 11) L, .int .i64 i0] (.row 1) (.row (some 11) 43 R)) := by
  refine Good.of Try.func43 rfl (by rfl) (by kernel_rfl) ?_
  cbv
  (repeat' (first
| (refine q1w (fun z hz => ?_); (try simp only at hz); cbv)
| (refine rqw ?_; cbv)
| (refine rq (show kfitQ _ _ from by simp [kfitQ, IntKind.min, IntKind.max, IntKind.signed, IntKind.bits]; omega) ?_; cbv)
| (refine chpA ?_; cbv)
| (refine QC.tw ?_; cbv)
| (refine QC.tt ?_ ?_; (focus (simp only [decide_true, Bool.and_true, Bool.and_self] <;> fail)); cbv)
| (refine QC.ff ?_ ?_; (focus (simp only [decide_true, Bool.and_true, Bool.and_self, decide_false, Bool.false_and, reduceCtorEq, not_false_eq_true] <;> fail)); cbv)
| (refine QC.fw ?_; cbv)
| (refine QC.mk (fun hc => ?_) (fun hc => ?_) <;> (try dsimp only at hc) <;> cbv)
| (refine br_mk2 (fun hb => ?_) (fun hb => ?_) <;> (try subst hb) <;> cbv)))
  refine ⟨rfl, ?_, rfl⟩
  show Blk.row (some 11) 43 (apL (O.tk i0 L) (O.dr z L)) = _
  rw [apL_eq, otk, odr, hR, show i0.toNat = i by (first | omega | (simp only [cst] at *; omega) | (simp only [sm] at *; omega)), show z.toNat = i + 1 by (first | omega | (simp only [cst] at *; omega) | (simp only [sm] at *; omega))]
  rfl
end Go.Proofs.Ytplcajgoigpneaa
