/- Texts put together: LF. -/
import Derived.Test.YtplcajgoigpneaaZ09
namespace Go.Proofs.Ytplcajgoigpneaa
set_option linter.unusedVariables false
set_option linter.unusedSimpArgs false
open Go.RowKit
set_option maxHeartbeats 4000000
theorem fwd1_c (a2 b2 c2 t2 a b c t d e f u z y w : Int) (r : Bool) (hr : r = hitI a2 b2 c2 t2 ⟨a, b, c, t, d, e, f, u, z, y, w⟩) :
    Good 36 (pu [.agg [.int .i64 a, .int .u16 b, .int .u64 c, .int .u16 t, .int .i64 d, .int .u16 e, .int .u64 f, .int .u16 u, .int .i64 z, .int .i64 y, .int .i64 w], .eptr (some 4) (.agg [.int .i64 a2, .int .u16 b2, .int .u64 c2, .int .u16 t2]) 0] (.bool r)) := by
  unfold hitI at hr
  refine Good.of Try.func36 rfl (by rfl) (by kernel_rfl) ?_
  cbv
  (repeat' (first
| (refine q1w (fun z hz => ?_); (try simp only at hz); cbv)
| (refine rqw ?_; cbv)
| (refine rq (show kfitQ _ _ from by simp [kfitQ, IntKind.min, IntKind.max, IntKind.signed, IntKind.bits]; omega) ?_; cbv)
| (refine chpA ?_; cbv)
| (refine QC.tw ?_; cbv)
| (refine QC.tt ?_ ?_; (focus (simp only [decide_true, Bool.and_true, Bool.and_self] <;> fail)); cbv)
| (refine QC.ff ?_ ?_; (focus (simp only [decide_true, Bool.and_true, Bool.and_self, decide_false, Bool.false_and, reduceCtorEq, not_false_eq_true] <;> fail)); cbv)
| (refine QC.fw ?_; cbv)
| (refine QC.mk (fun hc => ?_) (fun hc => ?_) <;> (try dsimp only at hc) <;> cbv)
| (refine br_mk2 (fun hb => ?_) (fun hb => ?_) <;> (try subst hb) <;> cbv)))
  all_goals refine ⟨?_, rfl, rfl⟩
  all_goals (try simp only [Bool.and_eq_true, decide_eq_true_eq, and_true] at hc)
  all_goals rw [hr]
  all_goals first | (rw [decide_eq_true (by dsimp only; omega)]) | (rw [decide_eq_false (by dsimp only; omega)])
theorem fwd2_c (d2 e2 f2 u2 a b c t d e f u z y w : Int) (r : Bool) (hr : r = hitO d2 e2 f2 u2 ⟨a, b, c, t, d, e, f, u, z, y, w⟩) :
    Good 39 (pu [.agg [.int .i64 a, .int .u16 b, .int .u64 c, .int .u16 t, .int .i64 d, .int .u16 e, .int .u64 f, .int .u16 u, .int .i64 z, .int .i64 y, .int .i64 w], .eptr (some 4) (.agg [.int .i64 d2, .int .u16 e2, .int .u64 f2, .int .u16 u2]) 0] (.bool r)) := by
  unfold hitO at hr
  refine Good.of Try.func39 rfl (by rfl) (by kernel_rfl) ?_
  cbv
  (repeat' (first
| (refine q1w (fun z hz => ?_); (try simp only at hz); cbv)
| (refine rqw ?_; cbv)
| (refine rq (show kfitQ _ _ from by simp [kfitQ, IntKind.min, IntKind.max, IntKind.signed, IntKind.bits]; omega) ?_; cbv)
| (refine chpA ?_; cbv)
| (refine QC.tw ?_; cbv)
| (refine QC.tt ?_ ?_; (focus (simp only [decide_true, Bool.and_true, Bool.and_self] <;> fail)); cbv)
| (refine QC.ff ?_ ?_; (focus (simp only [decide_true, Bool.and_true, Bool.and_self, decide_false, Bool.false_and, reduceCtorEq, not_false_eq_true] <;> fail)); cbv)
| (refine QC.fw ?_; cbv)
| (refine QC.mk (fun hc => ?_) (fun hc => ?_) <;> (try dsimp only at hc) <;> cbv)
| (refine br_mk2 (fun hb => ?_) (fun hb => ?_) <;> (try subst hb) <;> cbv)))
  all_goals refine ⟨?_, rfl, rfl⟩
  all_goals (try simp only [Bool.and_eq_true, decide_eq_true_eq, and_true] at hc)
  all_goals rw [hr]
  all_goals first | (rw [decide_eq_true (by dsimp only; omega)]) | (rw [decide_eq_false (by dsimp only; omega)])
def idxI (p : Sw → Bool) (l : List Sw) : Int := match l.findIdx? p with | some i => i | none => -1
theorem idxI_spec (p : Sw → Bool) (l : List Sw) (r : Int) (hr : r = idxI p l) : (r = -1 ∧ ∀ x ∈ l, p x = false) ∨ ∃ i : Nat, r = i ∧ i < l.length ∧ (∀ (k : Nat) (x : Sw), l[k]? = some x → k < i → p x = false) ∧ ∀ x, l[i]? = some x → p x = true := by
  subst hr
  unfold idxI
  cases hc : l.findIdx? p with
  | none => exact .inl ⟨rfl, fun x hx => List.findIdx?_eq_none_iff.1 hc x hx⟩
  | some i =>
    obtain ⟨h1, h2, h3⟩ := List.findIdx?_eq_some_iff_getElem.1 hc
    refine .inr ⟨i, rfl, h1, fun k x hx hk => ?_, fun x hx => ?_⟩
    · have := h3 k hk
      obtain ⟨hk', e⟩ := List.getElem?_eq_some_iff.1 hx
      rw [e] at this
      simpa using this
    · rw [List.getElem?_eq_getElem h1] at hx
      injection hx with hx
      rw [← hx]; exact h2
theorem idxI_rule {p : Sw → Bool} {l : List Sw} {r : Int} (hr : r = idxI p l) : (∀ (i : Nat) (x : Sw), l[i]? = some x → (∀ (k : Nat) (y : Sw), l[k]? = some y → k < i → p y = false) → p x = true → r = i) ∧ ((∀ (k : Nat) (y : Sw), l[k]? = some y → p y = false) → r = -1) := by
  have hr := idxI_spec p l r hr
  refine ⟨fun i x hx hk ht => ?_, fun hk => ?_⟩
  · rcases hr with ⟨_, h⟩ | ⟨i', h1, h2, h3, h4⟩
    · rw [h x (List.mem_of_getElem? hx)] at ht; cases ht
    · rcases Nat.lt_trichotomy i i' with g | g | g
      · rw [h3 i x hx g] at ht; cases ht
      · rw [h1, g]
      · have := h4 l[i'] (List.getElem?_eq_getElem h2)
        rw [hk i' _ (List.getElem?_eq_getElem h2) g] at this; cases this
  · rcases hr with ⟨h, _⟩ | ⟨i', h1, h2, h3, h4⟩
    · exact h
    · have := h4 l[i'] (List.getElem?_eq_getElem h2)
      rw [hk i' _ (List.getElem?_eq_getElem h2)] at this; cases this
theorem sindex_c (l : List Sw) (L : List SV) (hL : L = swL l) (hl : l.length ≤ 3600000000000) (g : Nat) (a2 b2 c2 t2 r : Int) (p : Sw → Bool) (hp : ∀ (a b c t d e f u z y w : Int), Good g (pu [.agg [.int .i64 a, .int .u16 b, .int .u64 c, .int .u16 t, .int .i64 d, .int .u16 e, .int .u64 f, .int .u16 u, .int .i64 z, .int .i64 y, .int .i64 w], .eptr (some 4) (.agg [.int .i64 a2, .int .u16 b2, .int .u64 c2, .int .u16 t2]) 0] (.bool (p ⟨a, b, c, t, d, e, f, u, z, y, w⟩)))) (hr : r = idxI p l) :
    Good 35 (pu [.lst (some 11) L, .clo g [.eptr (some 4) (.agg [.int .i64 a2, .int .u16 b2, .int .u64 c2, .int .u16 t2]) 0]] (.int .i64 r)) := by
  have hLl : L.length = l.length := by rw [hL, swL_len]
  have hE := fun i hi => swL_at hL i hi
  have W := Wrap.mk (idxI_rule hr)
  clear hr
  refine Good.of Try.func35 rfl (by rfl) (by kernel_rfl) ?_
  cbv
  (repeat' (first
| (refine q1w (fun z hz => ?_); (try simp only at hz); cbv)
| (refine rqw ?_; cbv)
| (refine rq (show kfitQ _ _ from by simp [kfitQ, IntKind.min, IntKind.max, IntKind.signed, IntKind.bits]; omega) ?_; cbv)
| (refine chpA ?_; cbv)
| (refine QC.tw ?_; cbv)
| (refine QC.tt ?_ ?_; (focus (simp only [decide_true, Bool.and_true, Bool.and_self] <;> fail)); cbv)
| (refine QC.ff ?_ ?_; (focus (simp only [decide_true, Bool.and_true, Bool.and_self, decide_false, Bool.false_and, reduceCtorEq, not_false_eq_true] <;> fail)); cbv)
| (refine QC.fw ?_; cbv)
| (refine QC.mk (fun hc => ?_) (fun hc => ?_) <;> (try dsimp only at hc) <;> cbv)
| (refine br_mk2 (fun hb => ?_) (fun hb => ?_) <;> (try subst hb) <;> cbv)))
  refine loopQ (A := Nat × Int) (fun p2 => p2.2 = p2.1 ∧ p2.1 ≤ l.length ∧ ∀ (k : Nat) (y : Sw), l[k]? = some y → k < p2.1 → p y = false) (fun p => l.length - p.1) (fun p => [(8, .int .i64 p.2)]) (fun p => []) (0, 0) ⟨rfl, Nat.zero_le _, fun k y _ h => absurd h (Nat.not_lt_zero k)⟩ ?_ ?_
  · cbv
  · intro ⟨i, j⟩ hh
    have hj : j = (i : Int) := hh.1
    have hi : i ≤ l.length := hh.2.1
    have hk := hh.2.2
    dsimp only at hk
    clear hh
    have hmk : True := trivial
    cbv
    (repeat' (first
| (refine q1w (fun z hz => ?_); (try simp only at hz); cbv)
| (refine rqw ?_; cbv)
| (refine rq (show kfitQ _ _ from by simp [kfitQ, IntKind.min, IntKind.max, IntKind.signed, IntKind.bits]; omega) ?_; cbv)
| (refine chpA ?_; cbv)
| (refine QC.tw ?_; cbv)
| (refine QC.tt ?_ ?_; (focus (simp only [decide_true, Bool.and_true, Bool.and_self] <;> fail)); cbv)
| (refine QC.ff ?_ ?_; (focus (simp only [decide_true, Bool.and_true, Bool.and_self, decide_false, Bool.false_and, reduceCtorEq, not_false_eq_true] <;> fail)); cbv)
| (refine QC.fw ?_; cbv)
| (refine QC.mk (fun hc => ?_) (fun hc => ?_) <;> (try dsimp only at hc) <;> cbv)
| (refine br_mk2 (fun hb => ?_) (fun hb => ?_) <;> (try subst hb) <;> cbv)))
    · have hlt : i < l.length := by (first | omega | (simp only [cst] at *; omega) | (simp only [sm] at *; omega))
      obtain ⟨a, b, c, t, d, e, f, u, sz, y, w, hx, hLi⟩ := hE i hlt
      obtain ⟨bb, hb⟩ : ∃ bb, bb = p ⟨a, b, c, t, d, e, f, u, sz, y, w⟩ := ⟨_, rfl⟩
      have g1 := hp a b c t d e f u sz y w
      rw [← hb] at g1
      (refine qv (i, _) ⟨hj, hLi⟩ ?_; cbv; (repeat' (first
| (refine q1w (fun z hz => ?_); (try simp only at hz); cbv)
| (refine rqw ?_; cbv)
| (refine rq (show kfitQ _ _ from by simp [kfitQ, IntKind.min, IntKind.max, IntKind.signed, IntKind.bits]; omega) ?_; cbv)
| (refine chpA ?_; cbv)
| (refine QC.tw ?_; cbv)
| (refine QC.tt ?_ ?_; (focus (simp only [decide_true, Bool.and_true, Bool.and_self] <;> fail)); cbv)
| (refine QC.ff ?_ ?_; (focus (simp only [decide_true, Bool.and_true, Bool.and_self, decide_false, Bool.false_and, reduceCtorEq, not_false_eq_true] <;> fail)); cbv)
| (refine QC.fw ?_; cbv)
| (refine QC.mk (fun hc => ?_) (fun hc => ?_) <;> (try dsimp only at hc) <;> cbv)
| (refine br_mk2 (fun hb => ?_) (fun hb => ?_) <;> (try subst hb) <;> cbv))))
      (refine callq (g1) rfl rfl ?_; cbv; (repeat' (first
| (refine q1w (fun z hz => ?_); (try simp only at hz); cbv)
| (refine rqw ?_; cbv)
| (refine rq (show kfitQ _ _ from by simp [kfitQ, IntKind.min, IntKind.max, IntKind.signed, IntKind.bits]; omega) ?_; cbv)
| (refine chpA ?_; cbv)
| (refine QC.tw ?_; cbv)
| (refine QC.tt ?_ ?_; (focus (simp only [decide_true, Bool.and_true, Bool.and_self] <;> fail)); cbv)
| (refine QC.ff ?_ ?_; (focus (simp only [decide_true, Bool.and_true, Bool.and_self, decide_false, Bool.false_and, reduceCtorEq, not_false_eq_true] <;> fail)); cbv)
| (refine QC.fw ?_; cbv)
| (refine QC.mk (fun hc => ?_) (fun hc => ?_) <;> (try dsimp only at hc) <;> cbv)
| (refine br_mk2 (fun hb => ?_) (fun hb => ?_) <;> (try subst hb) <;> cbv))))
      · refine ⟨?_, rfl, rfl⟩
        rw [W.h.1 i _ hx hk hb.symm, hj]
      · refine ⟨(i + 1, z), ⟨by show z = ((i + 1 : Nat) : Int); (first | omega | (simp only [cst] at *; omega) | (simp only [sm] at *; omega)), by show i + 1 ≤ l.length; omega, fun k y hy hki => ?_⟩, by show l.length - (i + 1) < l.length - i; omega, ?_⟩
        · by_cases e1 : k = i
          · subst e1
            rw [hx] at hy
            injection hy with hy
            rw [← hy]; exact hb.symm
          · have hki : k < i + 1 := hki
            exact hk k y hy (by omega)
        · cbv
    · refine ⟨?_, rfl, rfl⟩
      rw [W.h.2 fun k y hy => hk k y hy (by have := (List.getElem?_eq_some_iff.1 hy).1; (first | omega | (simp only [cst] at *; omega) | (simp only [sm] at *; omega)))]
theorem scontains_c (l : List Sw) (L : List SV) (hL : L = swL l) (hl : l.length ≤ 3600000000000) (g : Nat) (a2 b2 c2 t2 : Int) (p : Sw → Bool) (hp : ∀ (a b c t d e f u z y w : Int), Good g (pu [.agg [.int .i64 a, .int .u16 b, .int .u64 c, .int .u16 t, .int .i64 d, .int .u16 e, .int .u64 f, .int .u16 u, .int .i64 z, .int .i64 y, .int .i64 w], .eptr (some 4) (.agg [.int .i64 a2, .int .u16 b2, .int .u64 c2, .int .u16 t2]) 0] (.bool (p ⟨a, b, c, t, d, e, f, u, z, y, w⟩)))) (b : Bool) (hb : b = l.any p) :
    Good 38 (pu [.lst (some 11) L, .clo g [.eptr (some 4) (.agg [.int .i64 a2, .int .u16 b2, .int .u64 c2, .int .u16 t2]) 0]] (.bool b)) := by
  obtain ⟨r, hr⟩ : ∃ r, r = idxI p l := ⟨_, rfl⟩
  have h1 := sindex_c l L hL hl g a2 b2 c2 t2 r p hp hr
  have h2 : (b = true → 0 ≤ r) ∧ (b = false → r < 0) := by
    rcases idxI_spec p l r hr with ⟨e, h⟩ | ⟨i, e, h1, h2, h3⟩
    · refine ⟨fun hb' => ?_, fun _ => by omega⟩
      rw [hb] at hb'
      obtain ⟨x, hx, hh⟩ := List.any_eq_true.1 hb'
      rw [h x hx] at hh; cases hh
    · refine ⟨fun _ => by omega, fun hb' => ?_⟩
      rw [hb] at hb'
      have := List.any_eq_false.1 hb' l[i] (List.getElem_mem h1)
      exact absurd (h3 _ (List.getElem?_eq_getElem h1)) this
  clear hb hr
  refine Good.of Try.func38 rfl (by rfl) (by kernel_rfl) ?_
  cbv
  (repeat' (first
| (refine q1w (fun z hz => ?_); (try simp only at hz); cbv)
| (refine rqw ?_; cbv)
| (refine rq (show kfitQ _ _ from by simp [kfitQ, IntKind.min, IntKind.max, IntKind.signed, IntKind.bits]; omega) ?_; cbv)
| (refine chpA ?_; cbv)
| (refine QC.tw ?_; cbv)
| (refine QC.tt ?_ ?_; (focus (simp only [decide_true, Bool.and_true, Bool.and_self] <;> fail)); cbv)
| (refine QC.ff ?_ ?_; (focus (simp only [decide_true, Bool.and_true, Bool.and_self, decide_false, Bool.false_and, reduceCtorEq, not_false_eq_true] <;> fail)); cbv)
| (refine QC.fw ?_; cbv)
| (refine QC.mk (fun hc => ?_) (fun hc => ?_) <;> (try dsimp only at hc) <;> cbv)
| (refine br_mk2 (fun hb => ?_) (fun hb => ?_) <;> (try subst hb) <;> cbv)))
  (refine callq (h1) rfl rfl ?_; cbv; (repeat' (first
| (refine q1w (fun z hz => ?_); (try simp only at hz); cbv)
| (refine rqw ?_; cbv)
| (refine rq (show kfitQ _ _ from by simp [kfitQ, IntKind.min, IntKind.max, IntKind.signed, IntKind.bits]; omega) ?_; cbv)
| (refine chpA ?_; cbv)
| (refine QC.tw ?_; cbv)
| (refine QC.tt ?_ ?_; (focus (simp only [decide_true, Bool.and_true, Bool.and_self] <;> fail)); cbv)
| (refine QC.ff ?_ ?_; (focus (simp only [decide_true, Bool.and_true, Bool.and_self, decide_false, Bool.false_and, reduceCtorEq, not_false_eq_true] <;> fail)); cbv)
| (refine QC.fw ?_; cbv)
| (refine QC.mk (fun hc => ?_) (fun hc => ?_) <;> (try dsimp only at hc) <;> cbv)
| (refine br_mk2 (fun hb => ?_) (fun hb => ?_) <;> (try subst hb) <;> cbv))))
  · refine ⟨?_, rfl, rfl⟩
    cases b
    · have := h2.2 rfl; exfalso; omega
    · rfl
  · refine ⟨?_, rfl, rfl⟩
    cases b
    · rfl
    · have := h2.1 rfl; exfalso; omega
end Go.Proofs.Ytplcajgoigpneaa
