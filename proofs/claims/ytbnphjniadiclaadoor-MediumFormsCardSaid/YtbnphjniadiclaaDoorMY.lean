/- multihopref11.Links. -/
import Derived.Test.YtbnphjniadiclaaDoorMT
namespace Go.Proofs.YtbnphjniadiclaaDoor
set_option linter.unusedVariables false
set_option linter.unusedSimpArgs false
open Go.RowKit
set_option maxHeartbeats 16000000
theorem rlinks_no (M : List (List Int)) (W : List SV) (hW : W = matV M) (hl : M.length ≤ 6000000000000) (hlr : ∀ r ∈ M, r.length ≤ 18000000000000) (h : ¬ VM M) : Good 26 (pu [.lst none W] (.lst (some 2) [])) := by
  have g1 := rvalid_c M W hW hl hlr false ⟨fun e => (by cases e), fun e => absurd e h⟩
  refine Good.of Tryd.func26 rfl (by rfl) (by kernel_rfl) ?_
  cbv
  (repeat' (first
    | (refine q1 (by first | exact trivial | omega | (dsimp only; omega) | exact pow62 _ (by omega) | exact mul9 (by omega) (by omega) | (simp only [sm] at *; omega)) (fun z hz => ?_); (try simp only at hz); cbv)
    | (refine rq (by first | exact trivial | omega | (dsimp only; omega) | (simp only [sm] at *; omega)) ?_; cbv)
    | (refine QC.tt (by first | omega | (dsimp only; omega) | exact rfl | (simp only [sm] at *; omega)) ?_; cbv)
    | (refine QC.tt ?_ ?_; (focus (simp only [decide_true, Bool.and_true, Bool.and_self] <;> fail)); cbv)
    | (refine QC.ff ?_ ?_; (focus (simp only [decide_true, Bool.and_true, Bool.and_self, decide_false, Bool.false_and, reduceCtorEq, not_false_eq_true] <;> fail)); cbv)
    | (refine QC.ff (by first | omega | (dsimp only; omega) | (simp only [sm] at *; omega)) ?_; cbv)
    | (refine QC.mk (fun hc => ?_) (fun hc => ?_) <;> (try dsimp only at hc) <;> cbv)
    | (refine br_mk2 (fun hb => ?_) (fun hb => ?_) <;> (try subst hb) <;> cbv)))
  refine loopQ (A := Unit) (fun _ => True) (fun _ => 0) (fun _ => [(3, .row 3), (4, .any)]) (fun _ => [(3, .row (some 2) 48 [])]) () trivial ?_ ?_
  · cbv
    try trace_state
  · intro ⟨⟩ hh
    clear hh
    cbv
    (repeat' (first
    | (refine q1 (by first | exact trivial | omega | (dsimp only; omega) | exact pow62 _ (by omega) | exact mul9 (by omega) (by omega) | (simp only [sm] at *; omega)) (fun z hz => ?_); (try simp only at hz); cbv)
    | (refine rq (by first | exact trivial | omega | (dsimp only; omega) | (simp only [sm] at *; omega)) ?_; cbv)
    | (refine QC.tt (by first | omega | (dsimp only; omega) | exact rfl | (simp only [sm] at *; omega)) ?_; cbv)
    | (refine QC.tt ?_ ?_; (focus (simp only [decide_true, Bool.and_true, Bool.and_self] <;> fail)); cbv)
    | (refine QC.ff ?_ ?_; (focus (simp only [decide_true, Bool.and_true, Bool.and_self, decide_false, Bool.false_and, reduceCtorEq, not_false_eq_true] <;> fail)); cbv)
    | (refine QC.ff (by first | omega | (dsimp only; omega) | (simp only [sm] at *; omega)) ?_; cbv)
    | (refine QC.mk (fun hc => ?_) (fun hc => ?_) <;> (try dsimp only at hc) <;> cbv)
    | (refine br_mk2 (fun hb => ?_) (fun hb => ?_) <;> (try subst hb) <;> cbv)))
    (refine callq (g1) rfl rfl ?_; cbv; (repeat' (first
    | (refine q1 (by first | exact trivial | omega | (dsimp only; omega) | exact pow62 _ (by omega) | exact mul9 (by omega) (by omega) | (simp only [sm] at *; omega)) (fun z hz => ?_); (try simp only at hz); cbv)
    | (refine rq (by first | exact trivial | omega | (dsimp only; omega) | (simp only [sm] at *; omega)) ?_; cbv)
    | (refine QC.tt (by first | omega | (dsimp only; omega) | exact rfl | (simp only [sm] at *; omega)) ?_; cbv)
    | (refine QC.tt ?_ ?_; (focus (simp only [decide_true, Bool.and_true, Bool.and_self] <;> fail)); cbv)
    | (refine QC.ff ?_ ?_; (focus (simp only [decide_true, Bool.and_true, Bool.and_self, decide_false, Bool.false_and, reduceCtorEq, not_false_eq_true] <;> fail)); cbv)
    | (refine QC.ff (by first | omega | (dsimp only; omega) | (simp only [sm] at *; omega)) ?_; cbv)
    | (refine QC.mk (fun hc => ?_) (fun hc => ?_) <;> (try dsimp only at hc) <;> cbv)
    | (refine br_mk2 (fun hb => ?_) (fun hb => ?_) <;> (try subst hb) <;> cbv))))
    exact ⟨rfl, rfl, rfl⟩
theorem rlinks_c (M : List (List Int)) (W : List SV) (hW : W = matV M) (hv : VM M) (R : List SV) (hR : R = prs (LP M M.length (M.length + 1))) : Good 26 (pu [.lst none W] (.lst (some 2) R)) := by
  have hq12 := hv.q
  have g1 := rvalid_c M W hW (by omega) (fun r hr => by obtain ⟨k, hk, rfl⟩ := List.mem_iff_getElem.1 hr; have := (hv.r k _ (List.getElem?_eq_getElem hk)).l; omega) true ⟨fun _ => hv, fun _ => rfl⟩
  have hWl : W.length = M.length := by rw [hW, matV_len]
  have hF := fun i hi => matV_at hW i hi
  obtain ⟨UP, hUP⟩ : ∃ U : List (Nat × Nat) → List SV, ∀ l, U l = prs l := ⟨_, fun _ => rfl⟩
  have hP0 : [] = UP [] := by rw [hUP]; rfl
  have hPl : ∀ l, (UP l).length = l.length := fun l => by rw [hUP, prs_len]
  have hPs : ∀ l (x y : Nat) (xi yi : Int), xi = x → yi = y → apL (UP l) [.agg [.int .i64 xi, .int .i64 yi]] = UP (l ++ [(x, y)]) := fun l x y xi yi h1 h2 => by rw [apL_eq, hUP, hUP, h1, h2]; simp [prs]
  have hlkr : ∀ (f : Nat) (r : List Int) (k : Nat), M[f]? = some r → lk M f k = r.getD k 0 := fun f r k hr => by unfold lk; rw [Int.toNat_natCast, hr]; rfl
  have hbd : ∀ a b, a ≤ 12 → b ≤ 14 → (LP M a b).length ≤ 1000 := fun a b ha hb => by
    have h1 := LP_len M a b
    have h2 : a * M.length ≤ 12 * 12 := Nat.mul_le_mul ha hq12
    omega
  obtain ⟨G, hG⟩ : ∃ G : Nat → Nat → List (Nat × Nat), ∀ a b, G a b = LP M a b := ⟨_, fun _ _ => rfl⟩
  have hGbd : ∀ a b, a ≤ 12 → b ≤ 14 → (G a b).length ≤ 1000 := fun a b ha hb => by rw [hG]; exact hbd a b ha hb
  have hG0 : [] = UP (G 0 1) := by rw [hG, LP_zero]; exact hP0
  have hGn : ∀ a, G a M.length = G (a + 1) (a + 2) := fun a => by rw [hG, hG]; exact LP_next M a
  have hGy : ∀ a b, a < b → adj M a b → G a (b + 1) = G a b ++ [(a, b)] := fun a b h g => by rw [hG, hG]; exact LP_yes h g
  have hGno : ∀ a b, ¬ adj M a b → G a (b + 1) = G a b := fun a b g => by rw [hG, hG]; exact LP_no g
  rw [← hUP, ← hG] at hR
  clear hG hbd
  refine Good.of Tryd.func26 rfl (by rfl) (by kernel_rfl) ?_
  cbv
  (repeat' (first
    | (refine q1 (by first | exact trivial | omega | (dsimp only; omega) | exact pow62 _ (by omega) | exact mul9 (by omega) (by omega) | (simp only [sm] at *; omega)) (fun z hz => ?_); (try simp only at hz); cbv)
    | (refine rq (by first | exact trivial | omega | (dsimp only; omega) | (simp only [sm] at *; omega)) ?_; cbv)
    | (refine QC.tt (by first | omega | (dsimp only; omega) | exact rfl | (simp only [sm] at *; omega)) ?_; cbv)
    | (refine QC.tt ?_ ?_; (focus (simp only [decide_true, Bool.and_true, Bool.and_self] <;> fail)); cbv)
    | (refine QC.ff ?_ ?_; (focus (simp only [decide_true, Bool.and_true, Bool.and_self, decide_false, Bool.false_and, reduceCtorEq, not_false_eq_true] <;> fail)); cbv)
    | (refine QC.ff (by first | omega | (dsimp only; omega) | (simp only [sm] at *; omega)) ?_; cbv)
    | (refine QC.mk (fun hc => ?_) (fun hc => ?_) <;> (try dsimp only at hc) <;> cbv)
    | (refine br_mk2 (fun hb => ?_) (fun hb => ?_) <;> (try subst hb) <;> cbv)))
  refine loopQ (A := Nat × Int) (fun p => p.2 = p.1 ∧ p.1 ≤ M.length) (fun p => M.length - p.1) (fun p => [(4, .int .i64 p.2), (3, .row 3)]) (fun p => [(3, .row (some 2) 48 (UP (G p.1 (p.1 + 1))))]) (0, 0) ⟨rfl, Nat.zero_le _⟩ ?_ ?_
  · cbv
    refine ⟨?_, trivial⟩
    show Blk.row (some 2) 48 [] = .row (some 2) 48 (UP (G 0 1))
    rw [← hG0]
  · intro ⟨a, ja⟩ hh
    have hja : ja = (a : Int) := hh.1
    have ha : a ≤ M.length := hh.2
    clear hh
    have hmk : True := trivial
    have hGl := hPl (G a (a + 1))
    cbv
    (repeat' (first
    | (refine q1 (by first | exact trivial | omega | (dsimp only; omega) | exact pow62 _ (by omega) | exact mul9 (by omega) (by omega) | (simp only [sm] at *; omega)) (fun z hz => ?_); (try simp only at hz); cbv)
    | (refine rq (by first | exact trivial | omega | (dsimp only; omega) | (simp only [sm] at *; omega)) ?_; cbv)
    | (refine QC.tt (by first | omega | (dsimp only; omega) | exact rfl | (simp only [sm] at *; omega)) ?_; cbv)
    | (refine QC.tt ?_ ?_; (focus (simp only [decide_true, Bool.and_true, Bool.and_self] <;> fail)); cbv)
    | (refine QC.ff ?_ ?_; (focus (simp only [decide_true, Bool.and_true, Bool.and_self, decide_false, Bool.false_and, reduceCtorEq, not_false_eq_true] <;> fail)); cbv)
    | (refine QC.ff (by first | omega | (dsimp only; omega) | (simp only [sm] at *; omega)) ?_; cbv)
    | (refine QC.mk (fun hc => ?_) (fun hc => ?_) <;> (try dsimp only at hc) <;> cbv)
    | (refine br_mk2 (fun hb => ?_) (fun hb => ?_) <;> (try subst hb) <;> cbv)))
    (refine callq (g1) rfl rfl ?_; cbv; (repeat' (first
    | (refine q1 (by first | exact trivial | omega | (dsimp only; omega) | exact pow62 _ (by omega) | exact mul9 (by omega) (by omega) | (simp only [sm] at *; omega)) (fun z hz => ?_); (try simp only at hz); cbv)
    | (refine rq (by first | exact trivial | omega | (dsimp only; omega) | (simp only [sm] at *; omega)) ?_; cbv)
    | (refine QC.tt (by first | omega | (dsimp only; omega) | exact rfl | (simp only [sm] at *; omega)) ?_; cbv)
    | (refine QC.tt ?_ ?_; (focus (simp only [decide_true, Bool.and_true, Bool.and_self] <;> fail)); cbv)
    | (refine QC.ff ?_ ?_; (focus (simp only [decide_true, Bool.and_true, Bool.and_self, decide_false, Bool.false_and, reduceCtorEq, not_false_eq_true] <;> fail)); cbv)
    | (refine QC.ff (by first | omega | (dsimp only; omega) | (simp only [sm] at *; omega)) ?_; cbv)
    | (refine QC.mk (fun hc => ?_) (fun hc => ?_) <;> (try dsimp only at hc) <;> cbv)
    | (refine br_mk2 (fun hb => ?_) (fun hb => ?_) <;> (try subst hb) <;> cbv))))
    · have haM : a < M.length := by (first | omega | (simp only [cst] at *; omega) | (simp only [sm] at *; omega))
      obtain ⟨rx, Rx, hrx, hRx, hLx⟩ := hF a haM
      have hrxl := (hv.r _ _ hrx).l
      have hnx := hGn a
      refine loopQ (A := Nat × Int) (fun p => p.2 = p.1 ∧ a < p.1 ∧ p.1 ≤ M.length) (fun p => M.length - p.1) (fun p => [(5, .int .i64 p.2), (3, .row 3)]) (fun p => [(3, .row (some 2) 48 (UP (G a p.1)))]) (a + 1, z) ⟨by show z = ((a + 1 : Nat) : Int); (first | omega | (simp only [cst] at *; omega) | (simp only [sm] at *; omega)), by show a < a + 1; omega, by show a + 1 ≤ M.length; omega⟩ ?_ ?_
      · cbv
        exact ⟨rfl, trivial⟩
      · intro ⟨b, jb⟩ hh
        have hjb : jb = (b : Int) := hh.1
        have hab : a < b := hh.2.1
        have hb : b ≤ M.length := hh.2.2
        clear hh
        have hmk : True := trivial
        have hGl := hPl (G a b)
        have hgb := hGbd a b (by omega) (by omega)
        cbv
        (repeat' (first
    | (refine q1 (by first | exact trivial | omega | (dsimp only; omega) | exact pow62 _ (by omega) | exact mul9 (by omega) (by omega) | (simp only [sm] at *; omega)) (fun z hz => ?_); (try simp only at hz); cbv)
    | (refine rq (by first | exact trivial | omega | (dsimp only; omega) | (simp only [sm] at *; omega)) ?_; cbv)
    | (refine QC.tt (by first | omega | (dsimp only; omega) | exact rfl | (simp only [sm] at *; omega)) ?_; cbv)
    | (refine QC.tt ?_ ?_; (focus (simp only [decide_true, Bool.and_true, Bool.and_self] <;> fail)); cbv)
    | (refine QC.ff ?_ ?_; (focus (simp only [decide_true, Bool.and_true, Bool.and_self, decide_false, Bool.false_and, reduceCtorEq, not_false_eq_true] <;> fail)); cbv)
    | (refine QC.ff (by first | omega | (dsimp only; omega) | (simp only [sm] at *; omega)) ?_; cbv)
    | (refine QC.mk (fun hc => ?_) (fun hc => ?_) <;> (try dsimp only at hc) <;> cbv)
    | (refine br_mk2 (fun hb => ?_) (fun hb => ?_) <;> (try subst hb) <;> cbv)))
        · have hbM : b < M.length := by (first | omega | (simp only [cst] at *; omega) | (simp only [sm] at *; omega))
          obtain ⟨ry, Ry, hry, hRy, hLy⟩ := hF b hbM
          have hryl := (hv.r _ _ hry).l
          have e1 := hlkr a rx b hrx
          have e2 := hlkr b ry a hry
          obtain ⟨v1, hv1, hri1⟩ : ∃ v, v = rx.getD b 0 ∧ Rx[b]? = some (.int .i64 v) := ⟨_, rfl, row_at hRx b (by omega)⟩
          obtain ⟨v2, hv2, hri2⟩ : ∃ v, v = ry.getD a 0 ∧ Ry[a]? = some (.int .i64 v) := ⟨_, rfl, row_at hRy a (by omega)⟩
          rw [← hv1] at e1
          rw [← hv2] at e2
          (refine qv (a, _) ⟨hja, hLx⟩ ?_; cbv; (repeat' (first
    | (refine q1 (by first | exact trivial | omega | (dsimp only; omega) | exact pow62 _ (by omega) | exact mul9 (by omega) (by omega) | (simp only [sm] at *; omega)) (fun z hz => ?_); (try simp only at hz); cbv)
    | (refine rq (by first | exact trivial | omega | (dsimp only; omega) | (simp only [sm] at *; omega)) ?_; cbv)
    | (refine QC.tt (by first | omega | (dsimp only; omega) | exact rfl | (simp only [sm] at *; omega)) ?_; cbv)
    | (refine QC.tt ?_ ?_; (focus (simp only [decide_true, Bool.and_true, Bool.and_self] <;> fail)); cbv)
    | (refine QC.ff ?_ ?_; (focus (simp only [decide_true, Bool.and_true, Bool.and_self, decide_false, Bool.false_and, reduceCtorEq, not_false_eq_true] <;> fail)); cbv)
    | (refine QC.ff (by first | omega | (dsimp only; omega) | (simp only [sm] at *; omega)) ?_; cbv)
    | (refine QC.mk (fun hc => ?_) (fun hc => ?_) <;> (try dsimp only at hc) <;> cbv)
    | (refine br_mk2 (fun hb => ?_) (fun hb => ?_) <;> (try subst hb) <;> cbv))))
          (refine qv (b, _) ⟨hjb, hri1⟩ ?_; cbv; (repeat' (first
    | (refine q1 (by first | exact trivial | omega | (dsimp only; omega) | exact pow62 _ (by omega) | exact mul9 (by omega) (by omega) | (simp only [sm] at *; omega)) (fun z hz => ?_); (try simp only at hz); cbv)
    | (refine rq (by first | exact trivial | omega | (dsimp only; omega) | (simp only [sm] at *; omega)) ?_; cbv)
    | (refine QC.tt (by first | omega | (dsimp only; omega) | exact rfl | (simp only [sm] at *; omega)) ?_; cbv)
    | (refine QC.tt ?_ ?_; (focus (simp only [decide_true, Bool.and_true, Bool.and_self] <;> fail)); cbv)
    | (refine QC.ff ?_ ?_; (focus (simp only [decide_true, Bool.and_true, Bool.and_self, decide_false, Bool.false_and, reduceCtorEq, not_false_eq_true] <;> fail)); cbv)
    | (refine QC.ff (by first | omega | (dsimp only; omega) | (simp only [sm] at *; omega)) ?_; cbv)
    | (refine QC.mk (fun hc => ?_) (fun hc => ?_) <;> (try dsimp only at hc) <;> cbv)
    | (refine br_mk2 (fun hb => ?_) (fun hb => ?_) <;> (try subst hb) <;> cbv))))
          · (refine qv (b, _) ⟨hjb, hLy⟩ ?_; cbv; (repeat' (first
    | (refine q1 (by first | exact trivial | omega | (dsimp only; omega) | exact pow62 _ (by omega) | exact mul9 (by omega) (by omega) | (simp only [sm] at *; omega)) (fun z hz => ?_); (try simp only at hz); cbv)
    | (refine rq (by first | exact trivial | omega | (dsimp only; omega) | (simp only [sm] at *; omega)) ?_; cbv)
    | (refine QC.tt (by first | omega | (dsimp only; omega) | exact rfl | (simp only [sm] at *; omega)) ?_; cbv)
    | (refine QC.tt ?_ ?_; (focus (simp only [decide_true, Bool.and_true, Bool.and_self] <;> fail)); cbv)
    | (refine QC.ff ?_ ?_; (focus (simp only [decide_true, Bool.and_true, Bool.and_self, decide_false, Bool.false_and, reduceCtorEq, not_false_eq_true] <;> fail)); cbv)
    | (refine QC.ff (by first | omega | (dsimp only; omega) | (simp only [sm] at *; omega)) ?_; cbv)
    | (refine QC.mk (fun hc => ?_) (fun hc => ?_) <;> (try dsimp only at hc) <;> cbv)
    | (refine br_mk2 (fun hb => ?_) (fun hb => ?_) <;> (try subst hb) <;> cbv))))
            (refine qv (a, _) ⟨hja, hri2⟩ ?_; cbv; (repeat' (first
    | (refine q1 (by first | exact trivial | omega | (dsimp only; omega) | exact pow62 _ (by omega) | exact mul9 (by omega) (by omega) | (simp only [sm] at *; omega)) (fun z hz => ?_); (try simp only at hz); cbv)
    | (refine rq (by first | exact trivial | omega | (dsimp only; omega) | (simp only [sm] at *; omega)) ?_; cbv)
    | (refine QC.tt (by first | omega | (dsimp only; omega) | exact rfl | (simp only [sm] at *; omega)) ?_; cbv)
    | (refine QC.tt ?_ ?_; (focus (simp only [decide_true, Bool.and_true, Bool.and_self] <;> fail)); cbv)
    | (refine QC.ff ?_ ?_; (focus (simp only [decide_true, Bool.and_true, Bool.and_self, decide_false, Bool.false_and, reduceCtorEq, not_false_eq_true] <;> fail)); cbv)
    | (refine QC.ff (by first | omega | (dsimp only; omega) | (simp only [sm] at *; omega)) ?_; cbv)
    | (refine QC.mk (fun hc => ?_) (fun hc => ?_) <;> (try dsimp only at hc) <;> cbv)
    | (refine br_mk2 (fun hb => ?_) (fun hb => ?_) <;> (try subst hb) <;> cbv))))
            · have had : adj M a b := ⟨by rw [e1]; (first | omega | (simp only [cst] at *; omega) | (simp only [sm] at *; omega)), by rw [e2]; (first | omega | (simp only [cst] at *; omega) | (simp only [sm] at *; omega))⟩
              have hy := hGy a b hab had
              have hps := hPs (G a b) a b ja jb hja hjb
              refine ⟨(b + 1, z), ⟨by show z = ((b + 1 : Nat) : Int); (first | omega | (simp only [cst] at *; omega) | (simp only [sm] at *; omega)), by show a < b + 1; omega, by show b + 1 ≤ M.length; omega⟩, by show M.length - (b + 1) < M.length - b; omega, ?_⟩
              cbv
              refine ⟨?_, trivial⟩
              show Blk.row (some 2) 48 (apL (UP (G a b)) [.agg [.int .i64 ja, .int .i64 jb]]) = .row (some 2) 48 (UP (G a (b + 1)))
              rw [hps, hy]
            · have hy := hGno a b (fun h => by have := h.2; rw [e2] at this; (first | omega | (simp only [cst] at *; omega) | (simp only [sm] at *; omega)))
              refine ⟨(b + 1, z), ⟨by show z = ((b + 1 : Nat) : Int); (first | omega | (simp only [cst] at *; omega) | (simp only [sm] at *; omega)), by show a < b + 1; omega, by show b + 1 ≤ M.length; omega⟩, by show M.length - (b + 1) < M.length - b; omega, ?_⟩
              cbv
              refine ⟨?_, trivial⟩
              show Blk.row (some 2) 48 (UP (G a b)) = .row (some 2) 48 (UP (G a (b + 1)))
              rw [hy]
          · have hy := hGno a b (fun h => by have := h.1; rw [e1] at this; (first | omega | (simp only [cst] at *; omega) | (simp only [sm] at *; omega)))
            refine ⟨(b + 1, z), ⟨by show z = ((b + 1 : Nat) : Int); (first | omega | (simp only [cst] at *; omega) | (simp only [sm] at *; omega)), by show a < b + 1; omega, by show b + 1 ≤ M.length; omega⟩, by show M.length - (b + 1) < M.length - b; omega, ?_⟩
            cbv
            refine ⟨?_, trivial⟩
            show Blk.row (some 2) 48 (UP (G a b)) = .row (some 2) 48 (UP (G a (b + 1)))
            rw [hy]
        · have e : b = M.length := by (first | omega | (simp only [cst] at *; omega) | (simp only [sm] at *; omega))
          subst e
          refine ⟨(a + 1, z), ⟨by show z = ((a + 1 : Nat) : Int); (first | omega | (simp only [cst] at *; omega) | (simp only [sm] at *; omega)), by show a + 1 ≤ M.length; omega⟩, by show M.length - (a + 1) < M.length - a; omega, ?_⟩
          cbv
          refine ⟨?_, trivial⟩
          show Blk.row (some 2) 48 (UP (G a M.length)) = .row (some 2) 48 (UP (G (a + 1) (a + 2)))
          rw [hnx]
    · have e : a = M.length := by (first | omega | (simp only [cst] at *; omega) | (simp only [sm] at *; omega))
      subst e
      exact ⟨by rw [hR], rfl, rfl⟩
end Go.Proofs.YtbnphjniadiclaaDoor
