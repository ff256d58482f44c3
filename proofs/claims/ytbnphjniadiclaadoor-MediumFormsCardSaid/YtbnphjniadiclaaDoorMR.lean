/- Contract of medium.Links; multihoplaw11.ints. -/
import Derived.Test.YtbnphjniadiclaaDoorMQ
namespace Go.Proofs.YtbnphjniadiclaaDoor
set_option linter.unusedVariables false
set_option linter.unusedSimpArgs false
open Go.RowKit
set_option maxHeartbeats 16000000
def rowP (M : List (List Int)) (a b : Nat) : List (Nat × Nat) := ((List.range b).filter fun k => decide (a < k ∧ 0 < lk M a k ∧ 0 < lk M k a)).map fun k => (a, k)
def LP (M : List (List Int)) (a b : Nat) : List (Nat × Nat) := (List.range a).flatMap (fun k => rowP M k M.length) ++ rowP M a b
theorem rowP_low {M : List (List Int)} {a b : Nat} (h : b ≤ a + 1) : rowP M a b = [] := by
  unfold rowP
  rw [List.map_eq_nil_iff, List.filter_eq_nil_iff]
  intro k hk
  have := List.mem_range.1 hk
  simp
  omega
theorem LP_next (M : List (List Int)) (a : Nat) : LP M a M.length = LP M (a + 1) (a + 2) := by
  unfold LP
  rw [rowP_low (a := a + 1) (by omega), List.range_succ, List.flatMap_append]
  simp
theorem LP_yes {M : List (List Int)} {a b : Nat} (h : a < b) (g : adj M a b) : LP M a (b + 1) = LP M a b ++ [(a, b)] := by
  unfold LP rowP
  rw [List.range_succ, List.filter_append, List.map_append]
  simp [h, g.1, g.2]
theorem LP_no {M : List (List Int)} {a b : Nat} (g : ¬ adj M a b) : LP M a (b + 1) = LP M a b := by
  unfold LP rowP
  rw [List.range_succ, List.filter_append, List.map_append]
  have : ¬ (0 < lk M a b ∧ 0 < lk M b a) := g
  simp [this]
theorem LP_zero (M : List (List Int)) : LP M 0 1 = [] := by
  unfold LP
  rw [rowP_low (by omega)]
  rfl
theorem mem_LP {M : List (List Int)} {x : Nat × Nat} {a : Nat} (ha : a ≤ M.length) (h : x ∈ LP M a (a + 1)) : x.1 < x.2 ∧ x.2 < M.length ∧ adj M x.1 x.2 := by
  unfold LP at h
  rw [rowP_low (by omega), List.append_nil, List.mem_flatMap] at h
  obtain ⟨k, hk, h⟩ := h
  unfold rowP at h
  rw [List.mem_map] at h
  obtain ⟨j, hj, rfl⟩ := h
  rw [List.mem_filter, List.mem_range, decide_eq_true_eq] at hj
  exact ⟨hj.2.1, hj.1, hj.2.2⟩
theorem rowP_len (M : List (List Int)) (a b : Nat) : (rowP M a b).length ≤ b := by
  unfold rowP
  rw [List.length_map]
  exact Nat.le_trans (List.length_filter_le _ _) (by simp)
theorem LP_len (M : List (List Int)) (a b : Nat) : (LP M a b).length ≤ a * M.length + b := by
  unfold LP
  rw [List.length_append]
  have h1 := rowP_len M a b
  have h2 : ∀ l : List Nat, (l.flatMap fun k => rowP M k M.length).length ≤ l.length * M.length := fun l => by
    induction l with
    | nil => simp
    | cons k l ih =>
      rw [List.flatMap_cons, List.length_append, List.length_cons, Nat.succ_mul]
      have := rowP_len M k M.length
      omega
  have := h2 (List.range a)
  rw [List.length_range] at this
  omega
def prs (l : List (Nat × Nat)) : List SV := l.map fun p => .agg [.int .i64 (p.1 : Int), .int .i64 (p.2 : Int)]
theorem prs_len (l : List (Nat × Nat)) : (prs l).length = l.length := by simp [prs]
theorem ints_c (A B : List Nat) (XA XB : List SV) (hA : XA = nats A) (hB : XB = nats B) (hal : A.length ≤ 1000000) (hbl : B.length ≤ 1000000) (b : Bool) (hb : b = decide (A = B)) : Good 17 (pu [.lst none XA, .lst none XB] (.bool b)) := by
  have hAl : XA.length = A.length := by rw [hA, nats_len]
  have hBl : XB.length = B.length := by rw [hB, nats_len]
  have hEA : ∀ i (h : i < A.length), XA[i]? = some (.int .i64 (A[i] : Int)) := fun i h => by rw [hA]; exact nats_at (List.getElem?_eq_getElem h)
  have hEB : ∀ i (h : i < B.length), XB[i]? = some (.int .i64 (B[i] : Int)) := fun i h => by rw [hB]; exact nats_at (List.getElem?_eq_getElem h)
  have Wr : Wrap ((A.length ≠ B.length → b = false) ∧ (∀ i (h1 : i < A.length) (h2 : i < B.length), A[i] ≠ B[i] → b = false) ∧ (A.length = B.length → (∀ i (h1 : i < A.length) (h2 : i < B.length), A[i] = B[i]) → b = true)) := by
    refine ⟨fun h => ?_, fun i h1 h2 h => ?_, fun h g => ?_⟩
    · rw [hb]; exact decide_eq_false (fun e => h (by rw [e]))
    · rw [hb]; exact decide_eq_false (fun e => h (by subst e; rfl))
    · rw [hb]; exact decide_eq_true (List.ext_getElem h g)
  clear hb hA hB
  refine Good.of Tryd.func17 rfl (by rfl) (by kernel_rfl) ?_
  cbv
  (repeat' (first
    | (refine q1 (by first | exact trivial | omega | (dsimp only; omega) | exact pow62 _ (by omega) | exact mul9 (by omega) (by omega) | (simp only [sm] at *; omega)) (fun z hz => ?_); (try simp only at hz); cbv)
    | (refine rq (by first | exact trivial | omega | (dsimp only; omega) | (simp only [sm] at *; omega)) ?_; cbv)
    | (refine QC.tt (by first | omega | (dsimp only; omega) | exact rfl | (simp only [sm] at *; omega)) ?_; cbv)
    | (refine QC.tt ?_ ?_; (focus (simp only [decide_true, Bool.and_true, Bool.and_self] <;> fail)); cbv)
    | (refine QC.ff ?_ ?_; (focus (simp only [decide_true, Bool.and_true, Bool.and_self, decide_false, Bool.false_and, reduceCtorEq, not_false_eq_true] <;> fail)); cbv)
    | (refine QC.ff (by first | omega | (dsimp only; omega) | (simp only [sm] at *; omega)) ?_; cbv)
    | (refine QC.mk (fun hc => ?_) (fun hc => ?_) <;> (try dsimp only at hc) <;> cbv)
    | (refine br_mk2 (fun hb => ?_) (fun hb => ?_) <;> (try subst hb) <;> cbv)))
  · refine ⟨?_, rfl, rfl⟩
    rw [Wr.h.1 (by (first | omega | (simp only [cst] at *; omega) | (simp only [sm] at *; omega)))]
  · have hl : A.length = B.length := by (first | omega | (simp only [cst] at *; omega) | (simp only [sm] at *; omega))
    refine loopQ (A := Nat × Int) (fun p => p.2 = p.1 ∧ p.1 ≤ A.length ∧ ∀ i (h1 : i < A.length) (h2 : i < B.length), i < p.1 → A[i] = B[i]) (fun p => A.length - p.1) (fun p => [(5, .int .i64 p.2)]) (fun p => []) (0, 0) ⟨rfl, Nat.zero_le _, fun k _ _ h => absurd h (Nat.not_lt_zero k)⟩ ?_ ?_
    · cbv
      try trace_state
    · intro ⟨i, j⟩ hh
      have hj : j = (i : Int) := hh.1
      have hi : i ≤ A.length := hh.2.1
      have hk := hh.2.2
      dsimp only at hk
      clear hh
      have hmk : True := trivial
      cbv
      (repeat' (first
    | (refine q1 (by first | exact trivial | omega | (dsimp only; omega) | exact pow62 _ (by omega) | exact mul9 (by omega) (by omega) | (simp only [sm] at *; omega)) (fun z hz => ?_); (try simp only at hz); cbv)
    | (refine rq (by first | exact trivial | omega | (dsimp only; omega) | (simp only [sm] at *; omega)) ?_; cbv)
    | (refine QC.tt (by first | omega | (dsimp only; omega) | exact rfl | (simp only [sm] at *; omega)) ?_; cbv)
    | (refine QC.tt ?_ ?_; (focus (simp only [decide_true, Bool.and_true, Bool.and_self] <;> fail)); cbv)
    | (refine QC.ff ?_ ?_; (focus (simp only [decide_true, Bool.and_true, Bool.and_self, decide_false, Bool.false_and, reduceCtorEq, not_false_eq_true] <;> fail)); cbv)
    | (refine QC.ff (by first | omega | (dsimp only; omega) | (simp only [sm] at *; omega)) ?_; cbv)
    | (refine QC.mk (fun hc => ?_) (fun hc => ?_) <;> (try dsimp only at hc) <;> cbv)
    | (refine br_mk2 (fun hb => ?_) (fun hb => ?_) <;> (try subst hb) <;> cbv)))
      · have hlt : i < A.length := by (first | omega | (simp only [cst] at *; omega) | (simp only [sm] at *; omega))
        obtain ⟨x, hx, h1⟩ : ∃ x : Int, x = A[i] ∧ XA[i]? = some (.int .i64 x) := ⟨_, rfl, hEA i hlt⟩
        obtain ⟨y, hy, h2⟩ : ∃ y : Int, y = (B[i]'(by omega) : Nat) ∧ XB[i]? = some (.int .i64 y) := ⟨_, rfl, hEB i (by omega)⟩
        (refine qv (i, _) ⟨hj, h1⟩ ?_; cbv; (repeat' (first
    | (refine q1 (by first | exact trivial | omega | (dsimp only; omega) | exact pow62 _ (by omega) | exact mul9 (by omega) (by omega) | (simp only [sm] at *; omega)) (fun z hz => ?_); (try simp only at hz); cbv)
    | (refine rq (by first | exact trivial | omega | (dsimp only; omega) | (simp only [sm] at *; omega)) ?_; cbv)
    | (refine QC.tt (by first | omega | (dsimp only; omega) | exact rfl | (simp only [sm] at *; omega)) ?_; cbv)
    | (refine QC.tt ?_ ?_; (focus (simp only [decide_true, Bool.and_true, Bool.and_self] <;> fail)); cbv)
    | (refine QC.ff ?_ ?_; (focus (simp only [decide_true, Bool.and_true, Bool.and_self, decide_false, Bool.false_and, reduceCtorEq, not_false_eq_true] <;> fail)); cbv)
    | (refine QC.ff (by first | omega | (dsimp only; omega) | (simp only [sm] at *; omega)) ?_; cbv)
    | (refine QC.mk (fun hc => ?_) (fun hc => ?_) <;> (try dsimp only at hc) <;> cbv)
    | (refine br_mk2 (fun hb => ?_) (fun hb => ?_) <;> (try subst hb) <;> cbv))))
        (refine qv (i, _) ⟨hj, h2⟩ ?_; cbv; (repeat' (first
    | (refine q1 (by first | exact trivial | omega | (dsimp only; omega) | exact pow62 _ (by omega) | exact mul9 (by omega) (by omega) | (simp only [sm] at *; omega)) (fun z hz => ?_); (try simp only at hz); cbv)
    | (refine rq (by first | exact trivial | omega | (dsimp only; omega) | (simp only [sm] at *; omega)) ?_; cbv)
    | (refine QC.tt (by first | omega | (dsimp only; omega) | exact rfl | (simp only [sm] at *; omega)) ?_; cbv)
    | (refine QC.tt ?_ ?_; (focus (simp only [decide_true, Bool.and_true, Bool.and_self] <;> fail)); cbv)
    | (refine QC.ff ?_ ?_; (focus (simp only [decide_true, Bool.and_true, Bool.and_self, decide_false, Bool.false_and, reduceCtorEq, not_false_eq_true] <;> fail)); cbv)
    | (refine QC.ff (by first | omega | (dsimp only; omega) | (simp only [sm] at *; omega)) ?_; cbv)
    | (refine QC.mk (fun hc => ?_) (fun hc => ?_) <;> (try dsimp only at hc) <;> cbv)
    | (refine br_mk2 (fun hb => ?_) (fun hb => ?_) <;> (try subst hb) <;> cbv))))
        · refine ⟨?_, rfl, rfl⟩
          rw [Wr.h.2.1 i hlt (by omega) (by (first | omega | (simp only [cst] at *; omega) | (simp only [sm] at *; omega)))]
        · have he : A[i] = B[i]'(by omega) := by (first | omega | (simp only [cst] at *; omega) | (simp only [sm] at *; omega))
          refine ⟨(i + 1, z), ⟨by show z = ((i + 1 : Nat) : Int); (first | omega | (simp only [cst] at *; omega) | (simp only [sm] at *; omega)), by show i + 1 ≤ A.length; omega, fun q h1 h2 hq => ?_⟩, by show A.length - (i + 1) < A.length - i; omega, ?_⟩
          · by_cases hqi : q = i
            · subst hqi; exact he
            · exact hk q h1 h2 (by have : q < i + 1 := hq; omega)
          cbv
          try trace_state
      · refine ⟨?_, rfl, rfl⟩
        have e : i = A.length := by (first | omega | (simp only [cst] at *; omega) | (simp only [sm] at *; omega))
        rw [Wr.h.2.2 hl (fun q h1 h2 => hk q h1 h2 (by omega))]
theorem links_c (M : List (List Int)) (W : List SV) (hW : W = matV M) (hv : VM M) (R : List SV) (hR : R = prs (LP M M.length (M.length + 1))) : Good 18 (pu [.lst none W] (.lst (some 2) R)) := by
  have hq12 := hv.q
  have g1 := valid_c M W hW (by omega) (fun r hr => by obtain ⟨k, hk, rfl⟩ := List.mem_iff_getElem.1 hr; have := (hv.r k _ (List.getElem?_eq_getElem hk)).l; omega) true ⟨fun _ => hv, fun _ => rfl⟩
  have hWl : W.length = M.length := by rw [hW, matV_len]
  have hF := fun i hi => matV_at hW i hi
  obtain ⟨UP, hUP⟩ : ∃ U : List (Nat × Nat) → List SV, ∀ l, U l = prs l := ⟨_, fun _ => rfl⟩
  have hP0 : [] = UP [] := by rw [hUP]; rfl
  have hPl : ∀ l, (UP l).length = l.length := fun l => by rw [hUP, prs_len]
  have hPs : ∀ l (x y : Nat) (xi yi : Int), xi = x → yi = y → apL (UP l) [.agg [.int .i64 xi, .int .i64 yi]] = UP (l ++ [(x, y)]) := fun l x y xi yi h1 h2 => by rw [apL_eq, hUP, hUP, h1, h2]; simp [prs]
  have hlkr : ∀ (f : Nat) (r : List Int) (k : Nat), M[f]? = some r → lk M f k = r.getD k 0 := fun f r k hr => by unfold lk; rw [Int.toNat_natCast, hr]; rfl
  have hbd : ∀ a b, a ≤ 12 → b ≤ 14 → (LP M a b).length ≤ 1000 := fun a b ha hb => by
    have h1 := LP_len M a b
    have h2 : a * M.length ≤ 12 * 12 := Nat.mul_le_mul ha hq12
    omega
  obtain ⟨G, hG⟩ : ∃ G : Nat → Nat → List (Nat × Nat), ∀ a b, G a b = LP M a b := ⟨_, fun _ _ => rfl⟩
  have hGbd : ∀ a b, a ≤ 12 → b ≤ 14 → (G a b).length ≤ 1000 := fun a b ha hb => by rw [hG]; exact hbd a b ha hb
  have hG0 : [] = UP (G 0 1) := by rw [hG, LP_zero]; exact hP0
  have hGn : ∀ a, G a M.length = G (a + 1) (a + 2) := fun a => by rw [hG, hG]; exact LP_next M a
  have hGy : ∀ a b, a < b → adj M a b → G a (b + 1) = G a b ++ [(a, b)] := fun a b h g => by rw [hG, hG]; exact LP_yes h g
  have hGno : ∀ a b, ¬ adj M a b → G a (b + 1) = G a b := fun a b g => by rw [hG, hG]; exact LP_no g
  rw [← hUP, ← hG] at hR
  clear hG hbd
  refine Good.of Tryd.func18 rfl (by rfl) (by kernel_rfl) ?_
  cbv
  (repeat' (first
    | (refine q1 (by first | exact trivial | omega | (dsimp only; omega) | exact pow62 _ (by omega) | exact mul9 (by omega) (by omega) | (simp only [sm] at *; omega)) (fun z hz => ?_); (try simp only at hz); cbv)
    | (refine rq (by first | exact trivial | omega | (dsimp only; omega) | (simp only [sm] at *; omega)) ?_; cbv)
    | (refine QC.tt (by first | omega | (dsimp only; omega) | exact rfl | (simp only [sm] at *; omega)) ?_; cbv)
    | (refine QC.tt ?_ ?_; (focus (simp only [decide_true, Bool.and_true, Bool.and_self] <;> fail)); cbv)
    | (refine QC.ff ?_ ?_; (focus (simp only [decide_true, Bool.and_true, Bool.and_self, decide_false, Bool.false_and, reduceCtorEq, not_false_eq_true] <;> fail)); cbv)
    | (refine QC.ff (by first | omega | (dsimp only; omega) | (simp only [sm] at *; omega)) ?_; cbv)
    | (refine QC.mk (fun hc => ?_) (fun hc => ?_) <;> (try dsimp only at hc) <;> cbv)
    | (refine br_mk2 (fun hb => ?_) (fun hb => ?_) <;> (try subst hb) <;> cbv)))
  (refine callq (g1) rfl rfl ?_; cbv; (repeat' (first
    | (refine q1 (by first | exact trivial | omega | (dsimp only; omega) | exact pow62 _ (by omega) | exact mul9 (by omega) (by omega) | (simp only [sm] at *; omega)) (fun z hz => ?_); (try simp only at hz); cbv)
    | (refine rq (by first | exact trivial | omega | (dsimp only; omega) | (simp only [sm] at *; omega)) ?_; cbv)
    | (refine QC.tt (by first | omega | (dsimp only; omega) | exact rfl | (simp only [sm] at *; omega)) ?_; cbv)
    | (refine QC.tt ?_ ?_; (focus (simp only [decide_true, Bool.and_true, Bool.and_self] <;> fail)); cbv)
    | (refine QC.ff ?_ ?_; (focus (simp only [decide_true, Bool.and_true, Bool.and_self, decide_false, Bool.false_and, reduceCtorEq, not_false_eq_true] <;> fail)); cbv)
    | (refine QC.ff (by first | omega | (dsimp only; omega) | (simp only [sm] at *; omega)) ?_; cbv)
    | (refine QC.mk (fun hc => ?_) (fun hc => ?_) <;> (try dsimp only at hc) <;> cbv)
    | (refine br_mk2 (fun hb => ?_) (fun hb => ?_) <;> (try subst hb) <;> cbv))))
  refine loopQ (A := Nat × Int) (fun p => p.2 = p.1 ∧ p.1 ≤ M.length) (fun p => M.length - p.1) (fun p => [(11, .int .i64 p.2), (3, .row 3)]) (fun p => [(3, .row (some 2) 48 (UP (G p.1 (p.1 + 1))))]) (0, 0) ⟨rfl, Nat.zero_le _⟩ ?_ ?_
  · cbv
    refine ⟨?_, trivial⟩
    show Blk.row (some 2) 48 [] = .row (some 2) 48 (UP (G 0 1))
    rw [← hG0]
  · intro ⟨a, ja⟩ hh
    have hja : ja = (a : Int) := hh.1
    have ha : a ≤ M.length := hh.2
    clear hh
    have hmk : True := trivial
    have hGl := hPl (G a (a + 1))
    cbv
    (repeat' (first
    | (refine q1 (by first | exact trivial | omega | (dsimp only; omega) | exact pow62 _ (by omega) | exact mul9 (by omega) (by omega) | (simp only [sm] at *; omega)) (fun z hz => ?_); (try simp only at hz); cbv)
    | (refine rq (by first | exact trivial | omega | (dsimp only; omega) | (simp only [sm] at *; omega)) ?_; cbv)
    | (refine QC.tt (by first | omega | (dsimp only; omega) | exact rfl | (simp only [sm] at *; omega)) ?_; cbv)
    | (refine QC.tt ?_ ?_; (focus (simp only [decide_true, Bool.and_true, Bool.and_self] <;> fail)); cbv)
    | (refine QC.ff ?_ ?_; (focus (simp only [decide_true, Bool.and_true, Bool.and_self, decide_false, Bool.false_and, reduceCtorEq, not_false_eq_true] <;> fail)); cbv)
    | (refine QC.ff (by first | omega | (dsimp only; omega) | (simp only [sm] at *; omega)) ?_; cbv)
    | (refine QC.mk (fun hc => ?_) (fun hc => ?_) <;> (try dsimp only at hc) <;> cbv)
    | (refine br_mk2 (fun hb => ?_) (fun hb => ?_) <;> (try subst hb) <;> cbv)))
    · have haM : a < M.length := by (first | omega | (simp only [cst] at *; omega) | (simp only [sm] at *; omega))
      obtain ⟨rx, Rx, hrx, hRx, hLx⟩ := hF a haM
      have hrxl := (hv.r _ _ hrx).l
      have hnx := hGn a
      refine loopQ (A := Nat × Int) (fun p => p.2 = p.1 ∧ a < p.1 ∧ p.1 ≤ M.length) (fun p => M.length - p.1) (fun p => [(5, .int .i64 p.2), (3, .row 3)]) (fun p => [(3, .row (some 2) 48 (UP (G a p.1)))]) (a + 1, z) ⟨by show z = ((a + 1 : Nat) : Int); (first | omega | (simp only [cst] at *; omega) | (simp only [sm] at *; omega)), by show a < a + 1; omega, by show a + 1 ≤ M.length; omega⟩ ?_ ?_
      · cbv
        exact ⟨rfl, trivial⟩
      · intro ⟨b, jb⟩ hh
        have hjb : jb = (b : Int) := hh.1
        have hab : a < b := hh.2.1
        have hb : b ≤ M.length := hh.2.2
        clear hh
        have hmk : True := trivial
        have hGl := hPl (G a b)
        have hgb := hGbd a b (by omega) (by omega)
        cbv
        (repeat' (first
    | (refine q1 (by first | exact trivial | omega | (dsimp only; omega) | exact pow62 _ (by omega) | exact mul9 (by omega) (by omega) | (simp only [sm] at *; omega)) (fun z hz => ?_); (try simp only at hz); cbv)
    | (refine rq (by first | exact trivial | omega | (dsimp only; omega) | (simp only [sm] at *; omega)) ?_; cbv)
    | (refine QC.tt (by first | omega | (dsimp only; omega) | exact rfl | (simp only [sm] at *; omega)) ?_; cbv)
    | (refine QC.tt ?_ ?_; (focus (simp only [decide_true, Bool.and_true, Bool.and_self] <;> fail)); cbv)
    | (refine QC.ff ?_ ?_; (focus (simp only [decide_true, Bool.and_true, Bool.and_self, decide_false, Bool.false_and, reduceCtorEq, not_false_eq_true] <;> fail)); cbv)
    | (refine QC.ff (by first | omega | (dsimp only; omega) | (simp only [sm] at *; omega)) ?_; cbv)
    | (refine QC.mk (fun hc => ?_) (fun hc => ?_) <;> (try dsimp only at hc) <;> cbv)
    | (refine br_mk2 (fun hb => ?_) (fun hb => ?_) <;> (try subst hb) <;> cbv)))
        · have hbM : b < M.length := by (first | omega | (simp only [cst] at *; omega) | (simp only [sm] at *; omega))
          obtain ⟨ry, Ry, hry, hRy, hLy⟩ := hF b hbM
          have hryl := (hv.r _ _ hry).l
          have e1 := hlkr a rx b hrx
          have e2 := hlkr b ry a hry
          obtain ⟨v1, hv1, hri1⟩ : ∃ v, v = rx.getD b 0 ∧ Rx[b]? = some (.int .i64 v) := ⟨_, rfl, row_at hRx b (by omega)⟩
          obtain ⟨v2, hv2, hri2⟩ : ∃ v, v = ry.getD a 0 ∧ Ry[a]? = some (.int .i64 v) := ⟨_, rfl, row_at hRy a (by omega)⟩
          rw [← hv1] at e1
          rw [← hv2] at e2
          (refine qv (a, _) ⟨hja, hLx⟩ ?_; cbv; (repeat' (first
    | (refine q1 (by first | exact trivial | omega | (dsimp only; omega) | exact pow62 _ (by omega) | exact mul9 (by omega) (by omega) | (simp only [sm] at *; omega)) (fun z hz => ?_); (try simp only at hz); cbv)
    | (refine rq (by first | exact trivial | omega | (dsimp only; omega) | (simp only [sm] at *; omega)) ?_; cbv)
    | (refine QC.tt (by first | omega | (dsimp only; omega) | exact rfl | (simp only [sm] at *; omega)) ?_; cbv)
    | (refine QC.tt ?_ ?_; (focus (simp only [decide_true, Bool.and_true, Bool.and_self] <;> fail)); cbv)
    | (refine QC.ff ?_ ?_; (focus (simp only [decide_true, Bool.and_true, Bool.and_self, decide_false, Bool.false_and, reduceCtorEq, not_false_eq_true] <;> fail)); cbv)
    | (refine QC.ff (by first | omega | (dsimp only; omega) | (simp only [sm] at *; omega)) ?_; cbv)
    | (refine QC.mk (fun hc => ?_) (fun hc => ?_) <;> (try dsimp only at hc) <;> cbv)
    | (refine br_mk2 (fun hb => ?_) (fun hb => ?_) <;> (try subst hb) <;> cbv))))
          (refine qv (b, _) ⟨hjb, hri1⟩ ?_; cbv; (repeat' (first
    | (refine q1 (by first | exact trivial | omega | (dsimp only; omega) | exact pow62 _ (by omega) | exact mul9 (by omega) (by omega) | (simp only [sm] at *; omega)) (fun z hz => ?_); (try simp only at hz); cbv)
    | (refine rq (by first | exact trivial | omega | (dsimp only; omega) | (simp only [sm] at *; omega)) ?_; cbv)
    | (refine QC.tt (by first | omega | (dsimp only; omega) | exact rfl | (simp only [sm] at *; omega)) ?_; cbv)
    | (refine QC.tt ?_ ?_; (focus (simp only [decide_true, Bool.and_true, Bool.and_self] <;> fail)); cbv)
    | (refine QC.ff ?_ ?_; (focus (simp only [decide_true, Bool.and_true, Bool.and_self, decide_false, Bool.false_and, reduceCtorEq, not_false_eq_true] <;> fail)); cbv)
    | (refine QC.ff (by first | omega | (dsimp only; omega) | (simp only [sm] at *; omega)) ?_; cbv)
    | (refine QC.mk (fun hc => ?_) (fun hc => ?_) <;> (try dsimp only at hc) <;> cbv)
    | (refine br_mk2 (fun hb => ?_) (fun hb => ?_) <;> (try subst hb) <;> cbv))))
          · (refine qv (b, _) ⟨hjb, hLy⟩ ?_; cbv; (repeat' (first
    | (refine q1 (by first | exact trivial | omega | (dsimp only; omega) | exact pow62 _ (by omega) | exact mul9 (by omega) (by omega) | (simp only [sm] at *; omega)) (fun z hz => ?_); (try simp only at hz); cbv)
    | (refine rq (by first | exact trivial | omega | (dsimp only; omega) | (simp only [sm] at *; omega)) ?_; cbv)
    | (refine QC.tt (by first | omega | (dsimp only; omega) | exact rfl | (simp only [sm] at *; omega)) ?_; cbv)
    | (refine QC.tt ?_ ?_; (focus (simp only [decide_true, Bool.and_true, Bool.and_self] <;> fail)); cbv)
    | (refine QC.ff ?_ ?_; (focus (simp only [decide_true, Bool.and_true, Bool.and_self, decide_false, Bool.false_and, reduceCtorEq, not_false_eq_true] <;> fail)); cbv)
    | (refine QC.ff (by first | omega | (dsimp only; omega) | (simp only [sm] at *; omega)) ?_; cbv)
    | (refine QC.mk (fun hc => ?_) (fun hc => ?_) <;> (try dsimp only at hc) <;> cbv)
    | (refine br_mk2 (fun hb => ?_) (fun hb => ?_) <;> (try subst hb) <;> cbv))))
            (refine qv (a, _) ⟨hja, hri2⟩ ?_; cbv; (repeat' (first
    | (refine q1 (by first | exact trivial | omega | (dsimp only; omega) | exact pow62 _ (by omega) | exact mul9 (by omega) (by omega) | (simp only [sm] at *; omega)) (fun z hz => ?_); (try simp only at hz); cbv)
    | (refine rq (by first | exact trivial | omega | (dsimp only; omega) | (simp only [sm] at *; omega)) ?_; cbv)
    | (refine QC.tt (by first | omega | (dsimp only; omega) | exact rfl | (simp only [sm] at *; omega)) ?_; cbv)
    | (refine QC.tt ?_ ?_; (focus (simp only [decide_true, Bool.and_true, Bool.and_self] <;> fail)); cbv)
    | (refine QC.ff ?_ ?_; (focus (simp only [decide_true, Bool.and_true, Bool.and_self, decide_false, Bool.false_and, reduceCtorEq, not_false_eq_true] <;> fail)); cbv)
    | (refine QC.ff (by first | omega | (dsimp only; omega) | (simp only [sm] at *; omega)) ?_; cbv)
    | (refine QC.mk (fun hc => ?_) (fun hc => ?_) <;> (try dsimp only at hc) <;> cbv)
    | (refine br_mk2 (fun hb => ?_) (fun hb => ?_) <;> (try subst hb) <;> cbv))))
            · have had : adj M a b := ⟨by rw [e1]; (first | omega | (simp only [cst] at *; omega) | (simp only [sm] at *; omega)), by rw [e2]; (first | omega | (simp only [cst] at *; omega) | (simp only [sm] at *; omega))⟩
              have hy := hGy a b hab had
              have hps := hPs (G a b) a b ja jb hja hjb
              refine ⟨(b + 1, z), ⟨by show z = ((b + 1 : Nat) : Int); (first | omega | (simp only [cst] at *; omega) | (simp only [sm] at *; omega)), by show a < b + 1; omega, by show b + 1 ≤ M.length; omega⟩, by show M.length - (b + 1) < M.length - b; omega, ?_⟩
              cbv
              refine ⟨?_, trivial⟩
              show Blk.row (some 2) 48 (apL (UP (G a b)) [.agg [.int .i64 ja, .int .i64 jb]]) = .row (some 2) 48 (UP (G a (b + 1)))
              rw [hps, hy]
            · have hy := hGno a b (fun h => by have := h.2; rw [e2] at this; (first | omega | (simp only [cst] at *; omega) | (simp only [sm] at *; omega)))
              refine ⟨(b + 1, z), ⟨by show z = ((b + 1 : Nat) : Int); (first | omega | (simp only [cst] at *; omega) | (simp only [sm] at *; omega)), by show a < b + 1; omega, by show b + 1 ≤ M.length; omega⟩, by show M.length - (b + 1) < M.length - b; omega, ?_⟩
              cbv
              refine ⟨?_, trivial⟩
              show Blk.row (some 2) 48 (UP (G a b)) = .row (some 2) 48 (UP (G a (b + 1)))
              rw [hy]
          · have hy := hGno a b (fun h => by have := h.1; rw [e1] at this; (first | omega | (simp only [cst] at *; omega) | (simp only [sm] at *; omega)))
            refine ⟨(b + 1, z), ⟨by show z = ((b + 1 : Nat) : Int); (first | omega | (simp only [cst] at *; omega) | (simp only [sm] at *; omega)), by show a < b + 1; omega, by show b + 1 ≤ M.length; omega⟩, by show M.length - (b + 1) < M.length - b; omega, ?_⟩
            cbv
            refine ⟨?_, trivial⟩
            show Blk.row (some 2) 48 (UP (G a b)) = .row (some 2) 48 (UP (G a (b + 1)))
            rw [hy]
        · have e : b = M.length := by (first | omega | (simp only [cst] at *; omega) | (simp only [sm] at *; omega))
          subst e
          refine ⟨(a + 1, z), ⟨by show z = ((a + 1 : Nat) : Int); (first | omega | (simp only [cst] at *; omega) | (simp only [sm] at *; omega)), by show a + 1 ≤ M.length; omega⟩, by show M.length - (a + 1) < M.length - a; omega, ?_⟩
          cbv
          refine ⟨?_, trivial⟩
          show Blk.row (some 2) 48 (UP (G a M.length)) = .row (some 2) 48 (UP (G (a + 1) (a + 2)))
          rw [hnx]
    · have e : a = M.length := by (first | omega | (simp only [cst] at *; omega) | (simp only [sm] at *; omega))
      subst e
      exact ⟨by rw [hR], rfl, rfl⟩
end Go.Proofs.YtbnphjniadiclaaDoor
