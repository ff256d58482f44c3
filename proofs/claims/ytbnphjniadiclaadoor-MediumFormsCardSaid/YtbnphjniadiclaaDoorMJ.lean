/- Contract of medium.Busy; the walk of the law Collides. -/
import Derived.Test.YtbnphjniadiclaaDoorMG
import Derived.Test.YtbnphjniadiclaaDoorMH
namespace Go.Proofs.YtbnphjniadiclaaDoor
set_option linter.unusedVariables false
set_option linter.unusedSimpArgs false
open Go.RowKit
set_option maxHeartbeats 16000000
/-- Somebody is heard at a node. -/
def busyB (M : List (List Int)) (tx : List Txn) (n : Nat) : Bool := tx.any fun t => decide (0 < lk M t.f n)
theorem busy_c (M : List (List Int)) (W : List SV) (hW : W = matV M) (hv : VM M) (tx : List Txn) (K : List SV) (hK : K = txL tx) (ht : VT M.length tx) (hlk : tx.length ≤ 6000000000000) (n : Nat) (hn : n < M.length) (ni : Int) (hni : ni = n) (b : Bool) (hb : b = busyB M tx n) :
    Good 15 (pu [.lst none W, .lst (some 2) K, .int .i64 ni] (.bool b)) := by
  have hq12 := hv.q
  have g1 := vslot_c M W hW (by omega) (fun r hr => by obtain ⟨k, hk, rfl⟩ := List.mem_iff_getElem.1 hr; have := (hv.r k _ (List.getElem?_eq_getElem hk)).l; omega) tx K hK hlk (fun t h => by obtain ⟨k, hk, rfl⟩ := List.mem_iff_getElem.1 h; have := (ht k _ (List.getElem?_eq_getElem hk)).c; omega) true ⟨fun _ => ⟨hv, ht⟩, fun _ => rfl⟩
  have hWl : W.length = M.length := by rw [hW, matV_len]
  have hKl : K.length = tx.length := by rw [hK, txL_len]
  have hE := fun i hi => tx_at hK i hi
  have hF := fun i hi => matV_at hW i hi
  have Wr : Wrap ((∀ (i : Nat) (t : Txn), tx[i]? = some t → 0 < lk M t.f n → b = true) ∧ ((∀ (i : Nat) (t : Txn), tx[i]? = some t → ¬ 0 < lk M t.f n) → b = false)) := by
    refine ⟨fun i t hi h => ?_, fun h => ?_⟩
    · rw [hb]; exact List.any_eq_true.2 ⟨t, List.mem_of_getElem? hi, decide_eq_true h⟩
    · rw [hb, busyB, List.any_eq_false]
      intro t ht
      obtain ⟨k, hk, rfl⟩ := List.mem_iff_getElem.1 ht
      simpa using h k _ (List.getElem?_eq_getElem hk)
  clear hb
  refine Good.of Tryd.func15 rfl (by rfl) (by kernel_rfl) ?_
  cbv
  (repeat' (first
    | (refine q1 (by first | exact trivial | omega | (dsimp only; omega) | exact pow62 _ (by omega) | exact mul9 (by omega) (by omega) | (simp only [sm] at *; omega)) (fun z hz => ?_); (try simp only at hz); cbv)
    | (refine rq (by first | exact trivial | omega | (dsimp only; omega) | (simp only [sm] at *; omega)) ?_; cbv)
    | (refine QC.tt (by first | omega | (dsimp only; omega) | exact rfl | (simp only [sm] at *; omega)) ?_; cbv)
    | (refine QC.tt ?_ ?_; (focus (simp only [decide_true, Bool.and_true, Bool.and_self] <;> fail)); cbv)
    | (refine QC.ff ?_ ?_; (focus (simp only [decide_true, Bool.and_true, Bool.and_self, decide_false, Bool.false_and, reduceCtorEq, not_false_eq_true] <;> fail)); cbv)
    | (refine QC.ff (by first | omega | (dsimp only; omega) | (simp only [sm] at *; omega)) ?_; cbv)
    | (refine QC.mk (fun hc => ?_) (fun hc => ?_) <;> (try dsimp only at hc) <;> cbv)
    | (refine br_mk2 (fun hb => ?_) (fun hb => ?_) <;> (try subst hb) <;> cbv)))
  (refine callq (g1) rfl rfl ?_; cbv; (repeat' (first
    | (refine q1 (by first | exact trivial | omega | (dsimp only; omega) | exact pow62 _ (by omega) | exact mul9 (by omega) (by omega) | (simp only [sm] at *; omega)) (fun z hz => ?_); (try simp only at hz); cbv)
    | (refine rq (by first | exact trivial | omega | (dsimp only; omega) | (simp only [sm] at *; omega)) ?_; cbv)
    | (refine QC.tt (by first | omega | (dsimp only; omega) | exact rfl | (simp only [sm] at *; omega)) ?_; cbv)
    | (refine QC.tt ?_ ?_; (focus (simp only [decide_true, Bool.and_true, Bool.and_self] <;> fail)); cbv)
    | (refine QC.ff ?_ ?_; (focus (simp only [decide_true, Bool.and_true, Bool.and_self, decide_false, Bool.false_and, reduceCtorEq, not_false_eq_true] <;> fail)); cbv)
    | (refine QC.ff (by first | omega | (dsimp only; omega) | (simp only [sm] at *; omega)) ?_; cbv)
    | (refine QC.mk (fun hc => ?_) (fun hc => ?_) <;> (try dsimp only at hc) <;> cbv)
    | (refine br_mk2 (fun hb => ?_) (fun hb => ?_) <;> (try subst hb) <;> cbv))))
  refine loopQ (A := Nat × Int) (fun p => p.2 = p.1 ∧ p.1 ≤ tx.length ∧ ∀ (k : Nat) (t : Txn), tx[k]? = some t → k < p.1 → ¬ 0 < lk M t.f n) (fun p => tx.length - p.1) (fun p => [(25, .int .i64 p.2)]) (fun p => []) (0, 0) ⟨rfl, Nat.zero_le _, fun k y _ h => absurd h (Nat.not_lt_zero k)⟩ ?_ ?_
  · cbv
    try trace_state
  · intro ⟨i, j⟩ hh
    have hj : j = (i : Int) := hh.1
    have hi : i ≤ tx.length := hh.2.1
    have hk := hh.2.2
    dsimp only at hk
    clear hh
    have hmk : True := trivial
    cbv
    (repeat' (first
    | (refine q1 (by first | exact trivial | omega | (dsimp only; omega) | exact pow62 _ (by omega) | exact mul9 (by omega) (by omega) | (simp only [sm] at *; omega)) (fun z hz => ?_); (try simp only at hz); cbv)
    | (refine rq (by first | exact trivial | omega | (dsimp only; omega) | (simp only [sm] at *; omega)) ?_; cbv)
    | (refine QC.tt (by first | omega | (dsimp only; omega) | exact rfl | (simp only [sm] at *; omega)) ?_; cbv)
    | (refine QC.tt ?_ ?_; (focus (simp only [decide_true, Bool.and_true, Bool.and_self] <;> fail)); cbv)
    | (refine QC.ff ?_ ?_; (focus (simp only [decide_true, Bool.and_true, Bool.and_self, decide_false, Bool.false_and, reduceCtorEq, not_false_eq_true] <;> fail)); cbv)
    | (refine QC.ff (by first | omega | (dsimp only; omega) | (simp only [sm] at *; omega)) ?_; cbv)
    | (refine QC.mk (fun hc => ?_) (fun hc => ?_) <;> (try dsimp only at hc) <;> cbv)
    | (refine br_mk2 (fun hb => ?_) (fun hb => ?_) <;> (try subst hb) <;> cbv)))
    · have hlt : i < tx.length := by (first | omega | (simp only [cst] at *; omega) | (simp only [sm] at *; omega))
      obtain ⟨f, bs, B, htx, hB, hLi⟩ := hE i hlt
      have htk := ht i _ htx
      have hf0 := ht.lo i _ htx
      have hfn := htk.b
      dsimp only at hf0 hfn
      obtain ⟨r, Rr, hr, hRr, hLr⟩ := hF f.toNat (by omega)
      have hrl := (hv.r _ _ hr).l
      have hri := row_at hRr n (by omega)
      have hlk : lk M f n = r.getD n 0 := by unfold lk; rw [hr]; rfl
      obtain ⟨v, hv0⟩ : ∃ v, v = r.getD n 0 := ⟨_, rfl⟩
      rw [← hv0] at hri hlk
      (refine qv (i, _) ⟨hj, hLi⟩ ?_; cbv; (repeat' (first
    | (refine q1 (by first | exact trivial | omega | (dsimp only; omega) | exact pow62 _ (by omega) | exact mul9 (by omega) (by omega) | (simp only [sm] at *; omega)) (fun z hz => ?_); (try simp only at hz); cbv)
    | (refine rq (by first | exact trivial | omega | (dsimp only; omega) | (simp only [sm] at *; omega)) ?_; cbv)
    | (refine QC.tt (by first | omega | (dsimp only; omega) | exact rfl | (simp only [sm] at *; omega)) ?_; cbv)
    | (refine QC.tt ?_ ?_; (focus (simp only [decide_true, Bool.and_true, Bool.and_self] <;> fail)); cbv)
    | (refine QC.ff ?_ ?_; (focus (simp only [decide_true, Bool.and_true, Bool.and_self, decide_false, Bool.false_and, reduceCtorEq, not_false_eq_true] <;> fail)); cbv)
    | (refine QC.ff (by first | omega | (dsimp only; omega) | (simp only [sm] at *; omega)) ?_; cbv)
    | (refine QC.mk (fun hc => ?_) (fun hc => ?_) <;> (try dsimp only at hc) <;> cbv)
    | (refine br_mk2 (fun hb => ?_) (fun hb => ?_) <;> (try subst hb) <;> cbv))))
      (refine qv (f.toNat, _) ⟨(by (first | omega | (simp only [cst] at *; omega) | (simp only [sm] at *; omega))), hLr⟩ ?_; cbv; (repeat' (first
    | (refine q1 (by first | exact trivial | omega | (dsimp only; omega) | exact pow62 _ (by omega) | exact mul9 (by omega) (by omega) | (simp only [sm] at *; omega)) (fun z hz => ?_); (try simp only at hz); cbv)
    | (refine rq (by first | exact trivial | omega | (dsimp only; omega) | (simp only [sm] at *; omega)) ?_; cbv)
    | (refine QC.tt (by first | omega | (dsimp only; omega) | exact rfl | (simp only [sm] at *; omega)) ?_; cbv)
    | (refine QC.tt ?_ ?_; (focus (simp only [decide_true, Bool.and_true, Bool.and_self] <;> fail)); cbv)
    | (refine QC.ff ?_ ?_; (focus (simp only [decide_true, Bool.and_true, Bool.and_self, decide_false, Bool.false_and, reduceCtorEq, not_false_eq_true] <;> fail)); cbv)
    | (refine QC.ff (by first | omega | (dsimp only; omega) | (simp only [sm] at *; omega)) ?_; cbv)
    | (refine QC.mk (fun hc => ?_) (fun hc => ?_) <;> (try dsimp only at hc) <;> cbv)
    | (refine br_mk2 (fun hb => ?_) (fun hb => ?_) <;> (try subst hb) <;> cbv))))
      (refine qv (n, _) ⟨hni, hri⟩ ?_; cbv; (repeat' (first
    | (refine q1 (by first | exact trivial | omega | (dsimp only; omega) | exact pow62 _ (by omega) | exact mul9 (by omega) (by omega) | (simp only [sm] at *; omega)) (fun z hz => ?_); (try simp only at hz); cbv)
    | (refine rq (by first | exact trivial | omega | (dsimp only; omega) | (simp only [sm] at *; omega)) ?_; cbv)
    | (refine QC.tt (by first | omega | (dsimp only; omega) | exact rfl | (simp only [sm] at *; omega)) ?_; cbv)
    | (refine QC.tt ?_ ?_; (focus (simp only [decide_true, Bool.and_true, Bool.and_self] <;> fail)); cbv)
    | (refine QC.ff ?_ ?_; (focus (simp only [decide_true, Bool.and_true, Bool.and_self, decide_false, Bool.false_and, reduceCtorEq, not_false_eq_true] <;> fail)); cbv)
    | (refine QC.ff (by first | omega | (dsimp only; omega) | (simp only [sm] at *; omega)) ?_; cbv)
    | (refine QC.mk (fun hc => ?_) (fun hc => ?_) <;> (try dsimp only at hc) <;> cbv)
    | (refine br_mk2 (fun hb => ?_) (fun hb => ?_) <;> (try subst hb) <;> cbv))))
      · refine ⟨?_, rfl, rfl⟩
        rw [Wr.h.1 i _ htx (by rw [hlk]; (first | omega | (simp only [cst] at *; omega) | (simp only [sm] at *; omega)))]
      · have hvn : ¬ 0 < v := by (first | omega | (simp only [cst] at *; omega) | (simp only [sm] at *; omega))
        refine ⟨(i + 1, z), ⟨by show z = ((i + 1 : Nat) : Int); (first | omega | (simp only [cst] at *; omega) | (simp only [sm] at *; omega)), by show i + 1 ≤ tx.length; omega, fun q t hq hqi => ?_⟩, by show tx.length - (i + 1) < tx.length - i; omega, ?_⟩
        · by_cases hqk : q = i
          · rw [hqk, htx] at hq; injection hq with hq; rw [← hq]; dsimp only; rw [hlk]; exact hvn
          · exact hk q t hq (by have : q < i + 1 := hqi; omega)
        cbv
        try trace_state
    · refine ⟨?_, rfl, rfl⟩
      have e : i = tx.length := by (first | omega | (simp only [cst] at *; omega) | (simp only [sm] at *; omega))
      rw [Wr.h.2 (fun q t hq => hk q t hq (by have := (List.getElem?_eq_some_iff.1 hq).1; omega))]
end Go.Proofs.YtbnphjniadiclaaDoor
