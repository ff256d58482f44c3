/- Media: what is valid; contract of medium.Valid. -/
import Derived.Test.YtligbjbkecmecaaDoorMA
namespace Go.Proofs.YtligbjbkecmecaaDoor
set_option linter.unusedVariables false
set_option linter.unusedSimpArgs false
open Go.RowKit
set_option maxHeartbeats 8000000
structure Wrap (p : Prop) : Prop where
  h : p
/-- A valid medium. -/
structure VM (M : List (List Int)) : Prop where
  p : 1 ≤ M.length
  q : M.length ≤ 12
  r : ∀ i r, M[i]? = some r → RowOk M.length i r
theorem Med.vm {M : List (List Int)} (h : Med M) : VM M := ⟨h.p, Nat.le_trans h.q (by omega), h.r⟩
theorem medV_at {M : List (List Int)} {W : List SV} (hW : W = medV M) (i : Nat) (hi : i < M.length) : ∃ r R, M[i]? = some r ∧ R = ints .i64 r ∧ W[i]? = some (.lst none R) :=
  ⟨M[i], _, List.getElem?_eq_getElem hi, rfl, by rw [hW]; simp [medV, rowV, hi]⟩
theorem row_at {r : List Int} {R : List SV} (hR : R = ints .i64 r) (i : Nat) (hi : i < r.length) : R[i]? = some (.int .i64 (r.getD i 0)) := by rw [hR]; exact ints_at i hi
theorem rowOk_mk {n a : Nat} {r : List Int} (h1 : r.length = n) (h2 : r.getD a 0 = 0) (h3 : ∀ k, k < r.length → 0 ≤ r.getD k 0 ∧ r.getD k 0 ≤ 256) : RowOk n a r := ⟨h1, h2, fun v hv => by
  obtain ⟨k, hk, rfl⟩ := List.mem_iff_getElem.1 hv
  have := h3 k hk
  rw [List.getD_eq_getElem?_getD, List.getElem?_eq_getElem hk] at this
  exact this⟩
theorem rowOk_v {n a : Nat} {r : List Int} (h : RowOk n a r) (k : Nat) : 0 ≤ r.getD k 0 ∧ r.getD k 0 ≤ 256 := by
  rw [List.getD_eq_getElem?_getD]
  cases hk : r[k]? with
  | none => simp
  | some v => exact h.v v (List.mem_of_getElem? hk)
theorem mvalid_c (M : List (List Int)) (W : List SV) (hW : W = medV M) (hl : M.length ≤ 6000000000000) (hlr : ∀ r ∈ M, r.length ≤ 18000000000000) (b : Bool) (hb : b = true ↔ VM M) : Good 7 (pu [.lst none W] (.bool b)) := by
  have hWl : W.length = M.length := by rw [hW, matV_len]
  have hE := fun i hi => medV_at hW i hi
  have hshort : M.length < 1 → b = false := fun h => by
    cases b with
    | false => rfl
    | true => have := (hb.1 rfl).p; omega
  have hlong : 12 < M.length → b = false := fun h => by
    cases b with
    | false => rfl
    | true => have := (hb.1 rfl).q; omega
  have hbad : ∀ (i : Nat) (r : List Int), M[i]? = some r → ¬ RowOk M.length i r → b = false := fun i r hr h => by
    cases b with
    | false => rfl
    | true => exact absurd ((hb.1 rfl).r i r hr) h
  have hgood : 1 ≤ M.length → M.length ≤ 12 → (∀ (i : Nat) (r : List Int), M[i]? = some r → RowOk M.length i r) → b = true := fun h1 h2 h3 => hb.2 ⟨h1, h2, h3⟩
  have Wr : Wrap ((M.length < 1 → b = false) ∧ (12 < M.length → b = false) ∧ (∀ (i : Nat) (r : List Int), M[i]? = some r → ¬ RowOk M.length i r → b = false) ∧ (1 ≤ M.length → M.length ≤ 12 → (∀ (i : Nat) (r : List Int), M[i]? = some r → RowOk M.length i r) → b = true)) := ⟨hshort, hlong, hbad, hgood⟩
  clear hshort hlong hbad hgood hb
  refine Good.of Tryd.func7 rfl (by rfl) (by kernel_rfl) ?_
  cbv
  (repeat' (first
| (refine q1w (fun z hz => ?_); (try simp only at hz); cbv)
| (refine rqw ?_; cbv)
| (refine rqk ?_; cbv)
| (refine chpA ?_; cbv)
| (refine QC.tw ?_; cbv)
| (refine QC.t3 ?_; cbv)
| (refine QC.f3 ?_; cbv)
| (refine QC.fw ?_; cbv)
| (refine QC.mk (fun hc => ?_) (fun hc => ?_) <;> (try dsimp only at hc) <;> cbv)
| (refine br_mk2 (fun hb => ?_) (fun hb => ?_) <;> (try subst hb) <;> cbv)))
  · refine ⟨?_, rfl, rfl⟩
    rw [Wr.h.1 (by (first | omega | (simp only [cst] at *; omega) | (simp only [sm] at *; omega)))]
  · refine ⟨?_, rfl, rfl⟩
    rw [Wr.h.2.1 (by (first | omega | (simp only [cst] at *; omega) | (simp only [sm] at *; omega)))]
  refine loopQ (A := Nat × Int) (fun p => p.2 = p.1 ∧ p.1 ≤ M.length ∧ ∀ (k : Nat) (r : List Int), M[k]? = some r → k < p.1 → RowOk M.length k r) (fun p => M.length - p.1) (fun p => [(17, .int .i64 p.2)]) (fun p => []) (0, 0) ⟨rfl, Nat.zero_le _, fun k y _ h => absurd h (Nat.not_lt_zero k)⟩ ?_ ?_
  · cbv
  · intro ⟨i, j⟩ hh
    have hj : j = (i : Int) := hh.1
    have hi : i ≤ M.length := hh.2.1
    have hk := hh.2.2
    dsimp only at hk
    clear hh
    have hmk : True := trivial
    cbv
    (repeat' (first
| (refine q1w (fun z hz => ?_); (try simp only at hz); cbv)
| (refine rqw ?_; cbv)
| (refine rqk ?_; cbv)
| (refine chpA ?_; cbv)
| (refine QC.tw ?_; cbv)
| (refine QC.t3 ?_; cbv)
| (refine QC.f3 ?_; cbv)
| (refine QC.fw ?_; cbv)
| (refine QC.mk (fun hc => ?_) (fun hc => ?_) <;> (try dsimp only at hc) <;> cbv)
| (refine br_mk2 (fun hb => ?_) (fun hb => ?_) <;> (try subst hb) <;> cbv)))
    · have hlt : i < M.length := by (first | omega | (simp only [cst] at *; omega) | (simp only [sm] at *; omega))
      obtain ⟨r, R, hr, hR, hLi⟩ := hE i hlt
      have hRl : R.length = r.length := by rw [hR, ints_len]
      have hrl := hlr r (List.mem_of_getElem? hr)
      (refine qv (i, _) ⟨hj, hLi⟩ ?_; cbv; (repeat' (first
| (refine q1w (fun z hz => ?_); (try simp only at hz); cbv)
| (refine rqw ?_; cbv)
| (refine rqk ?_; cbv)
| (refine chpA ?_; cbv)
| (refine QC.tw ?_; cbv)
| (refine QC.t3 ?_; cbv)
| (refine QC.f3 ?_; cbv)
| (refine QC.fw ?_; cbv)
| (refine QC.mk (fun hc => ?_) (fun hc => ?_) <;> (try dsimp only at hc) <;> cbv)
| (refine br_mk2 (fun hb => ?_) (fun hb => ?_) <;> (try subst hb) <;> cbv))))
      · refine ⟨?_, rfl, rfl⟩
        have hne : r.length ≠ M.length := by (first | omega | (simp only [cst] at *; omega) | (simp only [sm] at *; omega))
        rw [Wr.h.2.2.1 i r hr (fun h => hne h.l)]
      · have hrM : r.length = M.length := by (first | omega | (simp only [cst] at *; omega) | (simp only [sm] at *; omega))
        have hri := row_at hR i (by omega)
        have hM12 : M.length ≤ 12 := by (first | omega | (simp only [cst] at *; omega) | (simp only [sm] at *; omega))
        obtain ⟨v0, hv0⟩ : ∃ v, v = r.getD i 0 := ⟨_, rfl⟩
        rw [← hv0] at hri
        (refine qv (i, _) ⟨hj, hri⟩ ?_; cbv; (repeat' (first
| (refine q1w (fun z hz => ?_); (try simp only at hz); cbv)
| (refine rqw ?_; cbv)
| (refine rqk ?_; cbv)
| (refine chpA ?_; cbv)
| (refine QC.tw ?_; cbv)
| (refine QC.t3 ?_; cbv)
| (refine QC.f3 ?_; cbv)
| (refine QC.fw ?_; cbv)
| (refine QC.mk (fun hc => ?_) (fun hc => ?_) <;> (try dsimp only at hc) <;> cbv)
| (refine br_mk2 (fun hb => ?_) (fun hb => ?_) <;> (try subst hb) <;> cbv))))
        · refine ⟨?_, rfl, rfl⟩
          have hne : v0 ≠ 0 := by (first | omega | (simp only [cst] at *; omega) | (simp only [sm] at *; omega))
          rw [Wr.h.2.2.1 i r hr (fun h => hne (hv0.trans h.z))]
        · have hz0 : r.getD i 0 = 0 := by rw [← hv0]; (first | omega | (simp only [cst] at *; omega) | (simp only [sm] at *; omega))
          refine loopQ (A := Nat × Int) (fun p => p.2 = p.1 ∧ p.1 ≤ r.length ∧ ∀ (k : Nat), k < p.1 → 0 ≤ r.getD k 0 ∧ r.getD k 0 ≤ 256) (fun p => r.length - p.1) (fun p => [(36, .int .i64 p.2)]) (fun p => []) (0, 0) ⟨rfl, Nat.zero_le _, fun k h => absurd h (Nat.not_lt_zero k)⟩ ?_ ?_
          · cbv
          · intro ⟨k, jj⟩ hh
            have hjk : jj = (k : Int) := hh.1
            have hkr : k ≤ r.length := hh.2.1
            have hkk := hh.2.2
            dsimp only at hkk
            clear hh
            have hmk : True := trivial
            cbv
            (repeat' (first
| (refine q1w (fun z hz => ?_); (try simp only at hz); cbv)
| (refine rqw ?_; cbv)
| (refine rqk ?_; cbv)
| (refine chpA ?_; cbv)
| (refine QC.tw ?_; cbv)
| (refine QC.t3 ?_; cbv)
| (refine QC.f3 ?_; cbv)
| (refine QC.fw ?_; cbv)
| (refine QC.mk (fun hc => ?_) (fun hc => ?_) <;> (try dsimp only at hc) <;> cbv)
| (refine br_mk2 (fun hb => ?_) (fun hb => ?_) <;> (try subst hb) <;> cbv)))
            · have hlk : k < r.length := by (first | omega | (simp only [cst] at *; omega) | (simp only [sm] at *; omega))
              have hrk := row_at hR k hlk
              obtain ⟨v, hv⟩ : ∃ v, v = r.getD k 0 := ⟨_, rfl⟩
              rw [← hv] at hrk
              (refine qv (k, _) ⟨hjk, hrk⟩ ?_; cbv; (repeat' (first
| (refine q1w (fun z hz => ?_); (try simp only at hz); cbv)
| (refine rqw ?_; cbv)
| (refine rqk ?_; cbv)
| (refine chpA ?_; cbv)
| (refine QC.tw ?_; cbv)
| (refine QC.t3 ?_; cbv)
| (refine QC.f3 ?_; cbv)
| (refine QC.fw ?_; cbv)
| (refine QC.mk (fun hc => ?_) (fun hc => ?_) <;> (try dsimp only at hc) <;> cbv)
| (refine br_mk2 (fun hb => ?_) (fun hb => ?_) <;> (try subst hb) <;> cbv))))
              · refine ⟨?_, rfl, rfl⟩
                rw [Wr.h.2.2.1 i r hr (fun h => by have := rowOk_v h k; omega)]
              · refine ⟨?_, rfl, rfl⟩
                rw [Wr.h.2.2.1 i r hr (fun h => by have := rowOk_v h k; omega)]
              · refine ⟨(k + 1, z), ⟨by show z = ((k + 1 : Nat) : Int); (first | omega | (simp only [cst] at *; omega) | (simp only [sm] at *; omega)), by show k + 1 ≤ r.length; omega, fun q hq => ?_⟩, by show r.length - (k + 1) < r.length - k; omega, ?_⟩
                · by_cases hqk : q = k
                  · rw [hqk, ← hv]; omega
                  · exact hkk q (by have : q < k + 1 := hq; omega)
                cbv
            · have hkl : k = r.length := by (first | omega | (simp only [cst] at *; omega) | (simp only [sm] at *; omega))
              have hro : RowOk M.length i r := rowOk_mk hrM hz0 (fun q hq => hkk q (by omega))
              refine ⟨(i + 1, z), ⟨by show z = ((i + 1 : Nat) : Int); (first | omega | (simp only [cst] at *; omega) | (simp only [sm] at *; omega)), by show i + 1 ≤ M.length; omega, fun q rr hq hqi => ?_⟩, by show M.length - (i + 1) < M.length - i; omega, ?_⟩
              · by_cases hqk : q = i
                · rw [hqk, hr] at hq; injection hq with hq; rw [hqk, ← hq]; exact hro
                · exact hk q rr hq (by have : q < i + 1 := hqi; omega)
              cbv
    · refine ⟨?_, rfl, rfl⟩
      have e : i = M.length := by (first | omega | (simp only [cst] at *; omega) | (simp only [sm] at *; omega))
      rw [Wr.h.2.2.2 (by (first | omega | (simp only [cst] at *; omega) | (simp only [sm] at *; omega))) (by (first | omega | (simp only [cst] at *; omega) | (simp only [sm] at *; omega))) (fun k r hr => hk k r hr (by have := (List.getElem?_eq_some_iff.1 hr).1; omega))]
end Go.Proofs.YtligbjbkecmecaaDoor
