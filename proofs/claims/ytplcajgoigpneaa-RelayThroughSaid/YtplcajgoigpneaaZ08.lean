/- Texts put together: LD. -/
import Derived.Test.YtplcajgoigpneaaZ07
namespace Go.Proofs.Ytplcajgoigpneaa
set_option linter.unusedVariables false
set_option linter.unusedSimpArgs false
open Go.RowKit
set_option maxHeartbeats 8000000
theorem any_take {l : List Sw} {i : Nat} {p : Sw → Bool} {r : Bool} (hr : r = (l.take i).any p) : (∀ (k : Nat) (y : Sw), l[k]? = some y → k < i → p y = true → r = true) ∧ ((∀ (k : Nat) (y : Sw), l[k]? = some y → k < i → p y = false) → r = false) :=
  ⟨fun k y hy hki hh => by
    rw [hr]; exact List.any_eq_true.2 ⟨y, List.mem_of_getElem? (i := k) (by rw [List.getElem?_take, if_pos hki]; exact hy), hh⟩, fun hh => by
    rw [hr]; exact List.any_eq_false.2 fun y hy => by
      obtain ⟨k, hk1, hk2⟩ := List.mem_iff_getElem.1 hy
      rw [List.length_take] at hk1
      have := hh k y (by rw [← hk2, List.getElem_take]; exact List.getElem?_eq_getElem (by omega)) (by omega)
      rw [this]; simp⟩
theorem srvalid_c (l : List Sw) (L : List SV) (hL : L = swL l) (hl : l.length ≤ 3600000000000) (b : Bool) (hb : b = true ↔ VS l) : Good 32 (pu [.lst (some 11) L] (.bool b)) := by
  have hLl : L.length = l.length := by rw [hL, swL_len]
  have hE := fun i hi => swL_at hL i hi
  have hlong : 8 < l.length → b = false := fun h => by
    cases b with
    | false => rfl
    | true => have := (hb.1 rfl).1; omega
  have hbad : ∀ (i : Nat) (x : Sw), l[i]? = some x → ok1 l i x = false → b = false := fun i x hx h => by
    cases b with
    | false => rfl
    | true => have := (hb.1 rfl).2 i x hx; rw [h] at this; cases this
  have hgood : l.length ≤ 8 → (∀ (i : Nat) (x : Sw), l[i]? = some x → ok1 l i x = true) → b = true := fun h1 h2 => hb.2 ⟨h1, h2⟩
  have W : Wrap ((8 < l.length → b = false) ∧ (∀ (i : Nat) (x : Sw), l[i]? = some x → ok1 l i x = false → b = false) ∧ (l.length ≤ 8 → (∀ (i : Nat) (x : Sw), l[i]? = some x → ok1 l i x = true) → b = true)) := ⟨hlong, hbad, hgood⟩
  clear hlong hbad hgood hb
  refine Good.of Try.func32 rfl (by rfl) (by kernel_rfl) ?_
  cbv
  (repeat' (first
| (refine q1w (fun z hz => ?_); (try simp only at hz); cbv)
| (refine rqw ?_; cbv)
| (refine rq (show kfitQ _ _ from by simp [kfitQ, IntKind.min, IntKind.max, IntKind.signed, IntKind.bits]; omega) ?_; cbv)
| (refine chpA ?_; cbv)
| (refine QC.tw ?_; cbv)
| (refine QC.tt ?_ ?_; (focus (simp only [decide_true, Bool.and_true, Bool.and_self] <;> fail)); cbv)
| (refine QC.ff ?_ ?_; (focus (simp only [decide_true, Bool.and_true, Bool.and_self, decide_false, Bool.false_and, reduceCtorEq, not_false_eq_true] <;> fail)); cbv)
| (refine QC.fw ?_; cbv)
| (refine QC.mk (fun hc => ?_) (fun hc => ?_) <;> (try dsimp only at hc) <;> cbv)
| (refine br_mk2 (fun hb => ?_) (fun hb => ?_) <;> (try subst hb) <;> cbv)))
  · refine ⟨?_, rfl, rfl⟩
    rw [W.h.1 (by (first | omega | (simp only [cst] at *; omega) | (simp only [sm] at *; omega)))]
  refine loopQ (A := Nat × Int) (fun p => p.2 = p.1 ∧ p.1 ≤ l.length ∧ ∀ (k : Nat) (y : Sw), l[k]? = some y → k < p.1 → ok1 l k y = true) (fun p => l.length - p.1) (fun p => [(3, .int .i64 p.2)]) (fun p => [(4, .no)]) (0, 0) ⟨rfl, Nat.zero_le _, fun k y _ h => absurd h (Nat.not_lt_zero k)⟩ ?_ ?_
  · cbv
  · intro ⟨i, j⟩ hh
    have hj : j = (i : Int) := hh.1
    have hi : i ≤ l.length := hh.2.1
    have hk := hh.2.2
    dsimp only at hk
    clear hh
    have hmk : True := trivial
    cbv
    (repeat' (first
| (refine q1w (fun z hz => ?_); (try simp only at hz); cbv)
| (refine rqw ?_; cbv)
| (refine rq (show kfitQ _ _ from by simp [kfitQ, IntKind.min, IntKind.max, IntKind.signed, IntKind.bits]; omega) ?_; cbv)
| (refine chpA ?_; cbv)
| (refine QC.tw ?_; cbv)
| (refine QC.tt ?_ ?_; (focus (simp only [decide_true, Bool.and_true, Bool.and_self] <;> fail)); cbv)
| (refine QC.ff ?_ ?_; (focus (simp only [decide_true, Bool.and_true, Bool.and_self, decide_false, Bool.false_and, reduceCtorEq, not_false_eq_true] <;> fail)); cbv)
| (refine QC.fw ?_; cbv)
| (refine QC.mk (fun hc => ?_) (fun hc => ?_) <;> (try dsimp only at hc) <;> cbv)
| (refine br_mk2 (fun hb => ?_) (fun hb => ?_) <;> (try subst hb) <;> cbv)))
    · have hlt : i < l.length := by (first | omega | (simp only [cst] at *; omega) | (simp only [sm] at *; omega))
      obtain ⟨a, b, c, t, d, e, f, u, sz, y, w, hx, hLi⟩ := hE i hlt
      obtain ⟨b1, hb1⟩ : ∃ r, r = someA a b c := ⟨_, rfl⟩
      obtain ⟨b2, hb2⟩ : ∃ r, r = someA d e f := ⟨_, rfl⟩
      obtain ⟨b3, hb3⟩ : ∃ r, r = timeT w := ⟨_, rfl⟩
      have g1 := some_c a b c b1 hb1
      have g2 := some_c d e f b2 hb2
      have g3 := rtime_c w b3 hb3
      have hok : ok1 l i ⟨a, b, c, t, d, e, f, u, sz, y, w⟩ = (b1 && b2 && sizeT sz y && b3 && !((l.take i).any (hitI a b c t)) && !((l.take i).any (hitO d e f u))) := by rw [hb1, hb2, hb3]; rfl
      obtain ⟨m1, hm1⟩ : ∃ r, r = (l.take i).any (hitI a b c t) := ⟨_, rfl⟩
      obtain ⟨m2, hm2⟩ : ∃ r, r = (l.take i).any (hitO d e f u) := ⟨_, rfl⟩
      obtain ⟨s1, hs⟩ : ∃ r, r = sizeT sz y := ⟨_, rfl⟩
      have W1 := Wrap.mk (any_take hm1)
      have W2 := Wrap.mk (any_take hm2)
      rw [← hm1, ← hm2, ← hs] at hok
      clear hm1 hm2 hb1 hb2 hb3
      unfold sizeT at hs
      (refine qv (i, _) ⟨hj, hLi⟩ ?_; cbv; (repeat' (first
| (refine q1w (fun z hz => ?_); (try simp only at hz); cbv)
| (refine rqw ?_; cbv)
| (refine rq (show kfitQ _ _ from by simp [kfitQ, IntKind.min, IntKind.max, IntKind.signed, IntKind.bits]; omega) ?_; cbv)
| (refine chpA ?_; cbv)
| (refine QC.tw ?_; cbv)
| (refine QC.tt ?_ ?_; (focus (simp only [decide_true, Bool.and_true, Bool.and_self] <;> fail)); cbv)
| (refine QC.ff ?_ ?_; (focus (simp only [decide_true, Bool.and_true, Bool.and_self, decide_false, Bool.false_and, reduceCtorEq, not_false_eq_true] <;> fail)); cbv)
| (refine QC.fw ?_; cbv)
| (refine QC.mk (fun hc => ?_) (fun hc => ?_) <;> (try dsimp only at hc) <;> cbv)
| (refine br_mk2 (fun hb => ?_) (fun hb => ?_) <;> (try subst hb) <;> cbv))))
      (refine callq (g1) rfl rfl ?_; cbv; (repeat' (first
| (refine q1w (fun z hz => ?_); (try simp only at hz); cbv)
| (refine rqw ?_; cbv)
| (refine rq (show kfitQ _ _ from by simp [kfitQ, IntKind.min, IntKind.max, IntKind.signed, IntKind.bits]; omega) ?_; cbv)
| (refine chpA ?_; cbv)
| (refine QC.tw ?_; cbv)
| (refine QC.tt ?_ ?_; (focus (simp only [decide_true, Bool.and_true, Bool.and_self] <;> fail)); cbv)
| (refine QC.ff ?_ ?_; (focus (simp only [decide_true, Bool.and_true, Bool.and_self, decide_false, Bool.false_and, reduceCtorEq, not_false_eq_true] <;> fail)); cbv)
| (refine QC.fw ?_; cbv)
| (refine QC.mk (fun hc => ?_) (fun hc => ?_) <;> (try dsimp only at hc) <;> cbv)
| (refine br_mk2 (fun hb => ?_) (fun hb => ?_) <;> (try subst hb) <;> cbv))))
      · (refine callq (g2) rfl rfl ?_; cbv; (repeat' (first
| (refine q1w (fun z hz => ?_); (try simp only at hz); cbv)
| (refine rqw ?_; cbv)
| (refine rq (show kfitQ _ _ from by simp [kfitQ, IntKind.min, IntKind.max, IntKind.signed, IntKind.bits]; omega) ?_; cbv)
| (refine chpA ?_; cbv)
| (refine QC.tw ?_; cbv)
| (refine QC.tt ?_ ?_; (focus (simp only [decide_true, Bool.and_true, Bool.and_self] <;> fail)); cbv)
| (refine QC.ff ?_ ?_; (focus (simp only [decide_true, Bool.and_true, Bool.and_self, decide_false, Bool.false_and, reduceCtorEq, not_false_eq_true] <;> fail)); cbv)
| (refine QC.fw ?_; cbv)
| (refine QC.mk (fun hc => ?_) (fun hc => ?_) <;> (try dsimp only at hc) <;> cbv)
| (refine br_mk2 (fun hb => ?_) (fun hb => ?_) <;> (try subst hb) <;> cbv))))
        iterate 4 (focus
          refine ⟨?_, rfl, rfl⟩
          rw [W.h.2.1 i _ hx (by
            rw [hok]
            first
            | (have e : s1 = false := by
                 rw [hs]
                 exact decide_eq_false (by omega)
               simp [e]; done)
            | simp)]
          )
        (refine callq (g3) rfl rfl ?_; cbv; (repeat' (first
| (refine q1w (fun z hz => ?_); (try simp only at hz); cbv)
| (refine rqw ?_; cbv)
| (refine rq (show kfitQ _ _ from by simp [kfitQ, IntKind.min, IntKind.max, IntKind.signed, IntKind.bits]; omega) ?_; cbv)
| (refine chpA ?_; cbv)
| (refine QC.tw ?_; cbv)
| (refine QC.tt ?_ ?_; (focus (simp only [decide_true, Bool.and_true, Bool.and_self] <;> fail)); cbv)
| (refine QC.ff ?_ ?_; (focus (simp only [decide_true, Bool.and_true, Bool.and_self, decide_false, Bool.false_and, reduceCtorEq, not_false_eq_true] <;> fail)); cbv)
| (refine QC.fw ?_; cbv)
| (refine QC.mk (fun hc => ?_) (fun hc => ?_) <;> (try dsimp only at hc) <;> cbv)
| (refine br_mk2 (fun hb => ?_) (fun hb => ?_) <;> (try subst hb) <;> cbv))))
        · refine loopQ (A := Nat × Int) (fun p => p.2 = p.1 ∧ p.1 ≤ i ∧ ∀ (k : Nat) (y : Sw), l[k]? = some y → k < p.1 → hitI a b c t y = false ∧ hitO d e f u y = false) (fun p => i - p.1) (fun p => [(5, .int .i64 p.2)]) (fun p => []) (0, 0) ⟨rfl, Nat.zero_le _, fun k y _ h => absurd h (Nat.not_lt_zero k)⟩ ?_ ?_
          · cbv
          · intro ⟨i3, j3⟩ hh
            have hj3 : j3 = (i3 : Int) := hh.1
            have hi3 : i3 ≤ i := hh.2.1
            have hk3 := hh.2.2
            dsimp only at hk3
            clear hh
            have hmk : True := trivial
            cbv
            (repeat' (first
| (refine q1w (fun z hz => ?_); (try simp only at hz); cbv)
| (refine rqw ?_; cbv)
| (refine rq (show kfitQ _ _ from by simp [kfitQ, IntKind.min, IntKind.max, IntKind.signed, IntKind.bits]; omega) ?_; cbv)
| (refine chpA ?_; cbv)
| (refine QC.tw ?_; cbv)
| (refine QC.tt ?_ ?_; (focus (simp only [decide_true, Bool.and_true, Bool.and_self] <;> fail)); cbv)
| (refine QC.ff ?_ ?_; (focus (simp only [decide_true, Bool.and_true, Bool.and_self, decide_false, Bool.false_and, reduceCtorEq, not_false_eq_true] <;> fail)); cbv)
| (refine QC.fw ?_; cbv)
| (refine QC.mk (fun hc => ?_) (fun hc => ?_) <;> (try dsimp only at hc) <;> cbv)
| (refine br_mk2 (fun hb => ?_) (fun hb => ?_) <;> (try subst hb) <;> cbv)))
            · have hlt3 : i3 < i := by (first | omega | (simp only [cst] at *; omega) | (simp only [sm] at *; omega))
              obtain ⟨a3, b3', c3, t3, d3, e3, f3, u3, z3, y3, w3, hx3, hL3⟩ := hE i3 (by omega)
              (repeat' (first
| (refine q1w (fun z hz => ?_); (try simp only at hz); cbv)
| (refine rqw ?_; cbv)
| (refine rq (show kfitQ _ _ from by simp [kfitQ, IntKind.min, IntKind.max, IntKind.signed, IntKind.bits]; omega) ?_; cbv)
| (refine chpA ?_; cbv)
| (refine QC.tw ?_; cbv)
| (refine QC.tt ?_ ?_; (focus (simp only [decide_true, Bool.and_true, Bool.and_self] <;> fail)); cbv)
| (refine QC.ff ?_ ?_; (focus (simp only [decide_true, Bool.and_true, Bool.and_self, decide_false, Bool.false_and, reduceCtorEq, not_false_eq_true] <;> fail)); cbv)
| (refine QC.fw ?_; cbv)
| (refine QC.mk (fun hc => ?_) (fun hc => ?_) <;> (try dsimp only at hc) <;> cbv)
| (refine br_mk2 (fun hb => ?_) (fun hb => ?_) <;> (try subst hb) <;> cbv)
| (refine qv (i3, _) ⟨hj3, hL3⟩ ?_; cbv)))
              all_goals first
              | (focus
                 refine ⟨(i3 + 1, z), ⟨by show z = ((i3 + 1 : Nat) : Int); (first | omega | (simp only [cst] at *; omega) | (simp only [sm] at *; omega)), by show i3 + 1 ≤ i; omega, fun k y hy hki => ?_⟩, by show i - (i3 + 1) < i - i3; omega, ?_⟩
                 · by_cases e1 : k = i3
                   · subst e1
                     rw [hx3] at hy
                     injection hy with hy
                     rw [← hy]
                     simp only [Bool.and_eq_true, decide_eq_true_eq, and_true] at *
                     exact ⟨decide_eq_false (by simp only; omega), decide_eq_false (by simp only; omega)⟩
                   · have hki : k < i3 + 1 := hki
                     exact hk3 k y hy (by omega)
                 · cbv
                 )
              | (focus
                 refine ⟨?_, rfl, rfl⟩
                 simp only [Bool.and_eq_true, decide_eq_true_eq, and_true] at *
                 rw [W.h.2.1 i _ hx (by
                   rw [hok]
                   first
                   | (have e : m1 = true := W1.h.1 i3 _ hx3 hlt3 (decide_eq_true (by simp only; omega))
                      simp [e]; done)
                   | (have e : m2 = true := W2.h.1 i3 _ hx3 hlt3 (decide_eq_true (by simp only; omega))
                      simp [e]; done))]
                 )
            · have hi3' : i3 = i := by (first | omega | (simp only [cst] at *; omega) | (simp only [sm] at *; omega))
              subst hi3'
              have e1 : m1 = false := W1.h.2 fun k y hy hki => (hk3 k y hy hki).1
              have e2 : m2 = false := W2.h.2 fun k y hy hki => (hk3 k y hy hki).2
              have e3 : s1 = true := by
                rw [hs]
                exact decide_eq_true (by omega)
              refine ⟨(i3 + 1, z), ⟨by show z = ((i3 + 1 : Nat) : Int); (first | omega | (simp only [cst] at *; omega) | (simp only [sm] at *; omega)), by show i3 + 1 ≤ l.length; omega, fun k y hy hki => ?_⟩, by show l.length - (i3 + 1) < l.length - i3; omega, ?_⟩
              · by_cases e4 : k = i3
                · subst e4
                  rw [hx] at hy
                  injection hy with hy
                  rw [← hy, hok, e1, e2, e3]
                  rfl
                · have hki : k < i3 + 1 := hki
                  exact hk k y hy (by omega)
              · cbv
        · skip
          refine ⟨?_, rfl, rfl⟩
          rw [W.h.2.1 i _ hx (by
            rw [hok]
            first
            | (have e : s1 = false := by
                 rw [hs]
                 exact decide_eq_false (by omega)
               simp [e]; done)
            | simp)]
        · skip
          refine ⟨?_, rfl, rfl⟩
          rw [W.h.2.1 i _ hx (by
            rw [hok]
            first
            | (have e : s1 = false := by
                 rw [hs]
                 exact decide_eq_false (by omega)
               simp [e]; done)
            | simp)]
      · skip
        refine ⟨?_, rfl, rfl⟩
        rw [W.h.2.1 i _ hx (by
          rw [hok]
          first
          | (have e : s1 = false := by
               rw [hs]
               exact decide_eq_false (by omega)
             simp [e]; done)
          | simp)]
    · refine ⟨?_, rfl, rfl⟩
      rw [W.h.2.2 (by (first | omega | (simp only [cst] at *; omega) | (simp only [sm] at *; omega))) fun k y hy => hk k y hy (by have := (List.getElem?_eq_some_iff.1 hy).1; (first | omega | (simp only [cst] at *; omega) | (simp only [sm] at *; omega)))]
end Go.Proofs.Ytplcajgoigpneaa
