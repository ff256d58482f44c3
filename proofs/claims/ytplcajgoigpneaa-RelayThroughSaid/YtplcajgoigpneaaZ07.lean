/- Texts put together: LB. -/
import Derived.Test.YtplcajgoigpneaaZ06
namespace Go.Proofs.Ytplcajgoigpneaa
set_option linter.unusedVariables false
set_option linter.unusedSimpArgs false
open Go.RowKit
set_option maxHeartbeats 4000000
theorem svalid_c (l : List Sw) (L : List SV) (hL : L = swL l) (hl : l.length ≤ 3600000000000) (hf : ∀ x ∈ l, x.fits) (b : Bool) (hb : b = true ↔ VS l) : Good 28 (pu [.lst (some 11) L] (.bool b)) := by
  have hLl : L.length = l.length := by rw [hL, swL_len]
  have hE := fun i hi => swL_at hL i hi
  have hF : ∀ (i : Nat) (x : Sw), l[i]? = some x → x.fits := fun i x h => hf x (List.mem_of_getElem? h)
  obtain ⟨I, O', I0, O0, Is, Im, Om⟩ := keysG l
  have hlong : 8 < l.length → b = false := fun h => by
    cases b with
    | false => rfl
    | true => have := (hb.1 rfl).1; omega
  have hbad : ∀ (i : Nat) (x : Sw), l[i]? = some x → ok1 l i x = false → b = false := fun i x hx h => by
    cases b with
    | false => rfl
    | true => have := (hb.1 rfl).2 i x hx; rw [h] at this; cases this
  have hgood : l.length ≤ 8 → (∀ (i : Nat) (x : Sw), l[i]? = some x → ok1 l i x = true) → b = true := fun h1 h2 => hb.2 ⟨h1, h2⟩
  have W : Wrap ((8 < l.length → b = false) ∧ (∀ (i : Nat) (x : Sw), l[i]? = some x → ok1 l i x = false → b = false) ∧ (l.length ≤ 8 → (∀ (i : Nat) (x : Sw), l[i]? = some x → ok1 l i x = true) → b = true)) := ⟨hlong, hbad, hgood⟩
  clear hlong hbad hgood hb
  refine Good.of Try.func28 rfl (by rfl) (by kernel_rfl) ?_
  cbv
  (repeat' (first
| (refine q1w (fun z hz => ?_); (try simp only at hz); cbv)
| (refine rqw ?_; cbv)
| (refine rq (show kfitQ _ _ from by simp [kfitQ, IntKind.min, IntKind.max, IntKind.signed, IntKind.bits]; omega) ?_; cbv)
| (refine chpA ?_; cbv)
| (refine QC.tw ?_; cbv)
| (refine QC.tt ?_ ?_; (focus (simp only [decide_true, Bool.and_true, Bool.and_self] <;> fail)); cbv)
| (refine QC.ff ?_ ?_; (focus (simp only [decide_true, Bool.and_true, Bool.and_self, decide_false, Bool.false_and, reduceCtorEq, not_false_eq_true] <;> fail)); cbv)
| (refine QC.fw ?_; cbv)
| (refine QC.mk (fun hc => ?_) (fun hc => ?_) <;> (try dsimp only at hc) <;> cbv)
| (refine br_mk2 (fun hb => ?_) (fun hb => ?_) <;> (try subst hb) <;> cbv)))
  · refine ⟨?_, rfl, rfl⟩
    rw [W.h.1 (by (first | omega | (simp only [cst] at *; omega) | (simp only [sm] at *; omega)))]
  refine loopQ (A := Nat × Int) (fun p => p.2 = p.1 ∧ p.1 ≤ l.length ∧ ∀ (k : Nat) (y : Sw), l[k]? = some y → k < p.1 → ok1 l k y = true) (fun p => l.length - p.1) (fun p => [(16, .int .i64 p.2)]) (fun p => [(12, .gen 1 96 (I p.1)), (13, .gen 1 96 (O' p.1)), (6, .no), (7, .no), (8, .no)]) (0, 0) ⟨rfl, Nat.zero_le _, fun k y _ h => absurd h (Nat.not_lt_zero k)⟩ ?_ ?_
  · cbv
    rw [I0, O0]
    exact ⟨rfl, rfl, trivial⟩
  · intro ⟨i, j⟩ hh
    have hj : j = (i : Int) := hh.1
    have hi : i ≤ l.length := hh.2.1
    have hk := hh.2.2
    dsimp only at hk
    clear hh
    have hmk : True := trivial
    cbv
    (repeat' (first
| (refine q1w (fun z hz => ?_); (try simp only at hz); cbv)
| (refine rqw ?_; cbv)
| (refine rq (show kfitQ _ _ from by simp [kfitQ, IntKind.min, IntKind.max, IntKind.signed, IntKind.bits]; omega) ?_; cbv)
| (refine chpA ?_; cbv)
| (refine QC.tw ?_; cbv)
| (refine QC.tt ?_ ?_; (focus (simp only [decide_true, Bool.and_true, Bool.and_self] <;> fail)); cbv)
| (refine QC.ff ?_ ?_; (focus (simp only [decide_true, Bool.and_true, Bool.and_self, decide_false, Bool.false_and, reduceCtorEq, not_false_eq_true] <;> fail)); cbv)
| (refine QC.fw ?_; cbv)
| (refine QC.mk (fun hc => ?_) (fun hc => ?_) <;> (try dsimp only at hc) <;> cbv)
| (refine br_mk2 (fun hb => ?_) (fun hb => ?_) <;> (try subst hb) <;> cbv)))
    · have hlt : i < l.length := by (first | omega | (simp only [cst] at *; omega) | (simp only [sm] at *; omega))
      obtain ⟨a, b, c, t, d, e, f, u, z, y, w, hx, hLi⟩ := hE i hlt
      obtain ⟨f1, f2, f3, f4, f5, f6, f7, f8, f9, f10, f11⟩ := hF i _ hx
      dsimp only at f1 f2 f3 f4 f5 f6 f7 f8 f9 f10 f11
      obtain ⟨b1, hb1⟩ : ∃ r, r = someA a b c := ⟨_, rfl⟩
      obtain ⟨b2, hb2⟩ : ∃ r, r = someA d e f := ⟨_, rfl⟩
      obtain ⟨b3, hb3⟩ : ∃ r, r = timeT w := ⟨_, rfl⟩
      have g1 := place_c a b c b1 hb1
      have g2 := place_c d e f b2 hb2
      have g3 := vtime_c w b3 hb3
      have hok : ok1 l i ⟨a, b, c, t, d, e, f, u, z, y, w⟩ = (b1 && b2 && sizeT z y && b3 && !((l.take i).any (hitI a b c t)) && !((l.take i).any (hitO d e f u))) := by rw [hb1, hb2, hb3]; rfl
      obtain ⟨m1, hm1⟩ : ∃ r, r = (l.take i).any (hitI a b c t) := ⟨_, rfl⟩
      obtain ⟨m2, hm2⟩ : ∃ r, r = (l.take i).any (hitO d e f u) := ⟨_, rfl⟩
      obtain ⟨s1, hs⟩ : ∃ r, r = sizeT z y := ⟨_, rfl⟩
      have hIm := Im i a b c t
      have hOm := Om i d e f u
      rw [← hm1] at hIm
      rw [← hm2] at hOm
      rw [← hm1, ← hm2, ← hs] at hok
      obtain ⟨his, hos⟩ := Is i _ _ _ _ _ _ _ _ _ _ _ hx
      unfold sizeT at hs
      (refine qv (i, _) ⟨hj, hLi⟩ ?_; cbv; (repeat' (first
| (refine q1w (fun z hz => ?_); (try simp only at hz); cbv)
| (refine rqw ?_; cbv)
| (refine rq (show kfitQ _ _ from by simp [kfitQ, IntKind.min, IntKind.max, IntKind.signed, IntKind.bits]; omega) ?_; cbv)
| (refine chpA ?_; cbv)
| (refine QC.tw ?_; cbv)
| (refine QC.tt ?_ ?_; (focus (simp only [decide_true, Bool.and_true, Bool.and_self] <;> fail)); cbv)
| (refine QC.ff ?_ ?_; (focus (simp only [decide_true, Bool.and_true, Bool.and_self, decide_false, Bool.false_and, reduceCtorEq, not_false_eq_true] <;> fail)); cbv)
| (refine QC.fw ?_; cbv)
| (refine QC.mk (fun hc => ?_) (fun hc => ?_) <;> (try dsimp only at hc) <;> cbv)
| (refine br_mk2 (fun hb => ?_) (fun hb => ?_) <;> (try subst hb) <;> cbv))))
      (refine callq (g1) rfl rfl ?_; cbv; (repeat' (first
| (refine q1w (fun z hz => ?_); (try simp only at hz); cbv)
| (refine rqw ?_; cbv)
| (refine rq (show kfitQ _ _ from by simp [kfitQ, IntKind.min, IntKind.max, IntKind.signed, IntKind.bits]; omega) ?_; cbv)
| (refine chpA ?_; cbv)
| (refine QC.tw ?_; cbv)
| (refine QC.tt ?_ ?_; (focus (simp only [decide_true, Bool.and_true, Bool.and_self] <;> fail)); cbv)
| (refine QC.ff ?_ ?_; (focus (simp only [decide_true, Bool.and_true, Bool.and_self, decide_false, Bool.false_and, reduceCtorEq, not_false_eq_true] <;> fail)); cbv)
| (refine QC.fw ?_; cbv)
| (refine QC.mk (fun hc => ?_) (fun hc => ?_) <;> (try dsimp only at hc) <;> cbv)
| (refine br_mk2 (fun hb => ?_) (fun hb => ?_) <;> (try subst hb) <;> cbv))))
      · (refine callq (g2) rfl rfl ?_; cbv; (repeat' (first
| (refine q1w (fun z hz => ?_); (try simp only at hz); cbv)
| (refine rqw ?_; cbv)
| (refine rq (show kfitQ _ _ from by simp [kfitQ, IntKind.min, IntKind.max, IntKind.signed, IntKind.bits]; omega) ?_; cbv)
| (refine chpA ?_; cbv)
| (refine QC.tw ?_; cbv)
| (refine QC.tt ?_ ?_; (focus (simp only [decide_true, Bool.and_true, Bool.and_self] <;> fail)); cbv)
| (refine QC.ff ?_ ?_; (focus (simp only [decide_true, Bool.and_true, Bool.and_self, decide_false, Bool.false_and, reduceCtorEq, not_false_eq_true] <;> fail)); cbv)
| (refine QC.fw ?_; cbv)
| (refine QC.mk (fun hc => ?_) (fun hc => ?_) <;> (try dsimp only at hc) <;> cbv)
| (refine br_mk2 (fun hb => ?_) (fun hb => ?_) <;> (try subst hb) <;> cbv))))
        iterate 6 (focus
          refine ⟨?_, rfl, rfl⟩
          rw [W.h.2.1 i _ hx (by
            rw [hok]
            simp only [hIm, hOm] at *
            first
            | (have e : m1 = true := by assumption
               simp [e]; done)
            | (have e : m2 = true := by assumption
               simp [e]; done)
            | (have e : s1 = false := by
                 rw [hs]
                 exact decide_eq_false (by omega)
               simp [e]; done)
            | simp)]
          )
        (refine callq (g3) rfl rfl ?_; cbv; (repeat' (first
| (refine q1w (fun z hz => ?_); (try simp only at hz); cbv)
| (refine rqw ?_; cbv)
| (refine rq (show kfitQ _ _ from by simp [kfitQ, IntKind.min, IntKind.max, IntKind.signed, IntKind.bits]; omega) ?_; cbv)
| (refine chpA ?_; cbv)
| (refine QC.tw ?_; cbv)
| (refine QC.tt ?_ ?_; (focus (simp only [decide_true, Bool.and_true, Bool.and_self] <;> fail)); cbv)
| (refine QC.ff ?_ ?_; (focus (simp only [decide_true, Bool.and_true, Bool.and_self, decide_false, Bool.false_and, reduceCtorEq, not_false_eq_true] <;> fail)); cbv)
| (refine QC.fw ?_; cbv)
| (refine QC.mk (fun hc => ?_) (fun hc => ?_) <;> (try dsimp only at hc) <;> cbv)
| (refine br_mk2 (fun hb => ?_) (fun hb => ?_) <;> (try subst hb) <;> cbv))))
        · refine ⟨(i + 1, z), ⟨by show z = ((i + 1 : Nat) : Int); (first | omega | (simp only [cst] at *; omega) | (simp only [sm] at *; omega)), by show i + 1 ≤ l.length; omega, fun k y hy hki => ?_⟩, by show l.length - (i + 1) < l.length - i; omega, ?_⟩
          · by_cases e1 : k = i
            · subst e1
              rw [hx] at hy
              injection hy with hy
              rw [← hy, hok]
              simp only [hIm, hOm, Bool.not_eq_true] at *
              have e1 : m1 = false := by assumption
              have e2 : m2 = false := by assumption
              have e3 : s1 = true := by
                rw [hs]
                exact decide_eq_true (by omega)
              rw [e1, e2, e3]
              rfl
            · have hki : k < i + 1 := hki
              exact hk k y hy (by omega)
          · cbv
            exact ⟨congrArg (Blk.gen 1 96) his, congrArg (Blk.gen 1 96) hos, trivial⟩
        · skip
          refine ⟨?_, rfl, rfl⟩
          rw [W.h.2.1 i _ hx (by
            rw [hok]
            simp only [hIm, hOm] at *
            first
            | (have e : m1 = true := by assumption
               simp [e]; done)
            | (have e : m2 = true := by assumption
               simp [e]; done)
            | (have e : s1 = false := by
                 rw [hs]
                 exact decide_eq_false (by omega)
               simp [e]; done)
            | simp)]
        · skip
          refine ⟨?_, rfl, rfl⟩
          rw [W.h.2.1 i _ hx (by
            rw [hok]
            simp only [hIm, hOm] at *
            first
            | (have e : m1 = true := by assumption
               simp [e]; done)
            | (have e : m2 = true := by assumption
               simp [e]; done)
            | (have e : s1 = false := by
                 rw [hs]
                 exact decide_eq_false (by omega)
               simp [e]; done)
            | simp)]
      · skip
        refine ⟨?_, rfl, rfl⟩
        rw [W.h.2.1 i _ hx (by
          rw [hok]
          simp only [hIm, hOm] at *
          first
          | (have e : m1 = true := by assumption
             simp [e]; done)
          | (have e : m2 = true := by assumption
             simp [e]; done)
          | (have e : s1 = false := by
               rw [hs]
               exact decide_eq_false (by omega)
             simp [e]; done)
          | simp)]
    · refine ⟨?_, rfl, rfl⟩
      rw [W.h.2.2 (by (first | omega | (simp only [cst] at *; omega) | (simp only [sm] at *; omega))) fun k y hy => hk k y hy (by have := (List.getElem?_eq_some_iff.1 hy).1; (first | omega | (simp only [cst] at *; omega) | (simp only [sm] at *; omega)))]
end Go.Proofs.Ytplcajgoigpneaa
