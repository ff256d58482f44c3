/- multihopref11.Busy. -/
import Derived.Test.YtbnphjniadiclaaDoorMV
import Derived.Test.YtbnphjniadiclaaDoorMJ
namespace Go.Proofs.YtbnphjniadiclaaDoor
set_option linter.unusedVariables false
set_option linter.unusedSimpArgs false
open Go.RowKit
set_option maxHeartbeats 8000000
theorem VT.at {n : Nat} {tx : List Txn} (h : VT n tx) : ∀ (i : Nat) (t : Txn), tx[i]? = some t → (i : Int) ≤ t.f
  | 0, t, ht => h.lo 0 t ht
  | i + 1, t, ht => by
    have hlt := (List.getElem?_eq_some_iff.1 ht).1
    have h1 : tx[i]? = some tx[i] := List.getElem?_eq_getElem (by omega)
    have := (h (i + 1) t ht).a
    rw [prevF_succ h1] at this
    have := VT.at h i _ h1
    omega
theorem VT.len {n : Nat} {tx : List Txn} (h : VT n tx) : tx.length ≤ n := by
  by_cases h0 : tx.length = 0
  · omega
  · have h1 : tx[tx.length - 1]? = some (tx[tx.length - 1]'(by omega)) := List.getElem?_eq_getElem (by omega)
    have h2 := VT.at h _ _ h1
    have h3 := (h _ _ h1).b
    omega
theorem hxs_hdlen {M : List (List Int)} {tx : List Txn} {n : Nat} : ∀ i, i ≤ tx.length → (hxs M tx n i).length = (hd M (tx.take i) n).length
  | 0, _ => by simp [hxs, hd]
  | i + 1, h => by
    have h1 := hxs_hdlen (M := M) (tx := tx) (n := n) i (by omega)
    have ht : tx[i]? = some tx[i] := List.getElem?_eq_getElem (by omega)
    by_cases g : lk M tx[i].f n = 0
    · rw [hxs_no ht g, hd_take ht, if_neg (by simp [g])]
      exact h1
    · rw [hxs_yes ht g, hd_take ht, if_pos g, List.length_append, List.length_append, h1]
      rfl
theorem busy_hxs {M : List (List Int)} (hv : VM M) {tx : List Txn} (ht : VT M.length tx) {n : Nat} : busyB M tx n = decide (0 < (hxs M tx n tx.length).length) := by
  rw [hxs_hdlen _ (Nat.le_refl _), List.take_length, Bool.eq_iff_iff, decide_eq_true_eq, busyB, List.any_eq_true]
  have hpos : ∀ t ∈ tx, 0 ≤ lk M t.f n := fun t hm => by
    obtain ⟨k, hk, rfl⟩ := List.mem_iff_getElem.1 hm
    have h1 := List.getElem?_eq_getElem hk
    have a0 := ht.lo k _ h1
    have a1 := (ht k _ h1).b
    unfold lk
    have hlt : tx[k].f.toNat < M.length := by omega
    rw [List.getElem?_eq_getElem hlt]
    exact (rowOk_v (hv.r _ _ (List.getElem?_eq_getElem hlt)) n).1
  rw [List.length_pos_iff_exists_mem]
  unfold hd
  constructor
  · rintro ⟨t, h1, h2⟩
    have h3 := of_decide_eq_true h2
    exact ⟨t, List.mem_filter.2 ⟨h1, decide_eq_true (by omega)⟩⟩
  · rintro ⟨t, h1⟩
    obtain ⟨h2, h3⟩ := List.mem_filter.1 h1
    have h4 := of_decide_eq_true h3
    have h5 := hpos t h2
    exact ⟨t, h2, decide_eq_true (by omega)⟩
theorem rbusy_c (M : List (List Int)) (W : List SV) (hW : W = matV M) (hv : VM M) (tx : List Txn) (K : List SV) (hK : K = txL tx) (ht : VT M.length tx) (n : Nat) (hn : n < M.length) (ni : Int) (hni : ni = n) (b : Bool) (hb : b = busyB M tx n) :
    Good 29 (pu [.lst none W, .lst (some 2) K, .int .i64 ni] (.bool b)) := by
  have hq12 := hv.q
  have htl := ht.len
  have g1 := rvslot_c M W hW (by omega) (fun r hr => by obtain ⟨k, hk, rfl⟩ := List.mem_iff_getElem.1 hr; have := (hv.r k _ (List.getElem?_eq_getElem hk)).l; omega) tx K hK (by omega) (fun t h => by obtain ⟨k, hk, rfl⟩ := List.mem_iff_getElem.1 h; have := (ht k _ (List.getElem?_eq_getElem hk)).c; omega) true ⟨fun _ => ⟨hv, ht⟩, fun _ => rfl⟩
  obtain ⟨X, hX⟩ : ∃ X, X = nats (hxs M tx n tx.length) := ⟨_, rfl⟩
  have g2 := heard_c M W hW hv tx K hK ht (by omega) n hn ni hni X hX (selfB tx n) rfl
  generalize selfB tx n = sb at g2
  have hWl : W.length = M.length := by rw [hW, matV_len]
  have hXl : X.length = (hxs M tx n tx.length).length := by rw [hX, nats_len]
  have hbb : b = decide (0 < X.length) := by rw [hb, busy_hxs hv ht, hXl]
  clear hb hX hXl
  refine Good.of Tryd.func29 rfl (by rfl) (by kernel_rfl) ?_
  cbv
  (repeat' (first
    | (refine q1 (by first | exact trivial | omega | (dsimp only; omega) | exact pow62 _ (by omega) | exact mul9 (by omega) (by omega) | (simp only [sm] at *; omega)) (fun z hz => ?_); (try simp only at hz); cbv)
    | (refine rq (by first | exact trivial | omega | (dsimp only; omega) | (simp only [sm] at *; omega)) ?_; cbv)
    | (refine QC.tt (by first | omega | (dsimp only; omega) | exact rfl | (simp only [sm] at *; omega)) ?_; cbv)
    | (refine QC.tt ?_ ?_; (focus (simp only [decide_true, Bool.and_true, Bool.and_self] <;> fail)); cbv)
    | (refine QC.ff ?_ ?_; (focus (simp only [decide_true, Bool.and_true, Bool.and_self, decide_false, Bool.false_and, reduceCtorEq, not_false_eq_true] <;> fail)); cbv)
    | (refine QC.ff (by first | omega | (dsimp only; omega) | (simp only [sm] at *; omega)) ?_; cbv)
    | (refine QC.mk (fun hc => ?_) (fun hc => ?_) <;> (try dsimp only at hc) <;> cbv)
    | (refine br_mk2 (fun hb => ?_) (fun hb => ?_) <;> (try subst hb) <;> cbv)))
  (refine callq (g1) rfl rfl ?_; cbv; (repeat' (first
    | (refine q1 (by first | exact trivial | omega | (dsimp only; omega) | exact pow62 _ (by omega) | exact mul9 (by omega) (by omega) | (simp only [sm] at *; omega)) (fun z hz => ?_); (try simp only at hz); cbv)
    | (refine rq (by first | exact trivial | omega | (dsimp only; omega) | (simp only [sm] at *; omega)) ?_; cbv)
    | (refine QC.tt (by first | omega | (dsimp only; omega) | exact rfl | (simp only [sm] at *; omega)) ?_; cbv)
    | (refine QC.tt ?_ ?_; (focus (simp only [decide_true, Bool.and_true, Bool.and_self] <;> fail)); cbv)
    | (refine QC.ff ?_ ?_; (focus (simp only [decide_true, Bool.and_true, Bool.and_self, decide_false, Bool.false_and, reduceCtorEq, not_false_eq_true] <;> fail)); cbv)
    | (refine QC.ff (by first | omega | (dsimp only; omega) | (simp only [sm] at *; omega)) ?_; cbv)
    | (refine QC.mk (fun hc => ?_) (fun hc => ?_) <;> (try dsimp only at hc) <;> cbv)
    | (refine br_mk2 (fun hb => ?_) (fun hb => ?_) <;> (try subst hb) <;> cbv))))
  (refine callq (g2) rfl rfl ?_; cbv; (repeat' (first
    | (refine q1 (by first | exact trivial | omega | (dsimp only; omega) | exact pow62 _ (by omega) | exact mul9 (by omega) (by omega) | (simp only [sm] at *; omega)) (fun z hz => ?_); (try simp only at hz); cbv)
    | (refine rq (by first | exact trivial | omega | (dsimp only; omega) | (simp only [sm] at *; omega)) ?_; cbv)
    | (refine QC.tt (by first | omega | (dsimp only; omega) | exact rfl | (simp only [sm] at *; omega)) ?_; cbv)
    | (refine QC.tt ?_ ?_; (focus (simp only [decide_true, Bool.and_true, Bool.and_self] <;> fail)); cbv)
    | (refine QC.ff ?_ ?_; (focus (simp only [decide_true, Bool.and_true, Bool.and_self, decide_false, Bool.false_and, reduceCtorEq, not_false_eq_true] <;> fail)); cbv)
    | (refine QC.ff (by first | omega | (dsimp only; omega) | (simp only [sm] at *; omega)) ?_; cbv)
    | (refine QC.mk (fun hc => ?_) (fun hc => ?_) <;> (try dsimp only at hc) <;> cbv)
    | (refine br_mk2 (fun hb => ?_) (fun hb => ?_) <;> (try subst hb) <;> cbv))))
  · exact ⟨by rw [hbb, decide_eq_true (show 0 < X.length by (first | omega | (simp only [cst] at *; omega) | (simp only [sm] at *; omega)))], rfl, rfl⟩
  · exact ⟨by rw [hbb, decide_eq_false (show ¬ 0 < X.length by (first | omega | (simp only [cst] at *; omega) | (simp only [sm] at *; omega)))], rfl, rfl⟩
theorem rbusy_no (M : List (List Int)) (W : List SV) (hW : W = matV M) (hl : M.length ≤ 6000000000000) (hlr : ∀ r ∈ M, r.length ≤ 18000000000000) (tx : List Txn) (K : List SV) (hK : K = txL tx) (hlk : tx.length ≤ 6000000000000) (hlb : ∀ t ∈ tx, t.b.length ≤ 140737488351232) (vv : Bool) (hvv : vv = true ↔ VM M ∧ VT M.length tx) (n : Int) (h : vv = false ∨ n < 0 ∨ M.length ≤ n) :
    Good 29 (pu [.lst none W, .lst (some 2) K, .int .i64 n] (.bool false)) := by
  have g1 := rvslot_c M W hW hl hlr tx K hK hlk hlb vv hvv
  have hWl : W.length = M.length := by rw [hW, matV_len]
  refine Good.of Tryd.func29 rfl (by rfl) (by kernel_rfl) ?_
  cbv
  (repeat' (first
    | (refine q1 (by first | exact trivial | omega | (dsimp only; omega) | exact pow62 _ (by omega) | exact mul9 (by omega) (by omega) | (simp only [sm] at *; omega)) (fun z hz => ?_); (try simp only at hz); cbv)
    | (refine rq (by first | exact trivial | omega | (dsimp only; omega) | (simp only [sm] at *; omega)) ?_; cbv)
    | (refine QC.tt (by first | omega | (dsimp only; omega) | exact rfl | (simp only [sm] at *; omega)) ?_; cbv)
    | (refine QC.tt ?_ ?_; (focus (simp only [decide_true, Bool.and_true, Bool.and_self] <;> fail)); cbv)
    | (refine QC.ff ?_ ?_; (focus (simp only [decide_true, Bool.and_true, Bool.and_self, decide_false, Bool.false_and, reduceCtorEq, not_false_eq_true] <;> fail)); cbv)
    | (refine QC.ff (by first | omega | (dsimp only; omega) | (simp only [sm] at *; omega)) ?_; cbv)
    | (refine QC.mk (fun hc => ?_) (fun hc => ?_) <;> (try dsimp only at hc) <;> cbv)
    | (refine br_mk2 (fun hb => ?_) (fun hb => ?_) <;> (try subst hb) <;> cbv)))
  (refine callq (g1) rfl rfl ?_; cbv; (repeat' (first
    | (refine q1 (by first | exact trivial | omega | (dsimp only; omega) | exact pow62 _ (by omega) | exact mul9 (by omega) (by omega) | (simp only [sm] at *; omega)) (fun z hz => ?_); (try simp only at hz); cbv)
    | (refine rq (by first | exact trivial | omega | (dsimp only; omega) | (simp only [sm] at *; omega)) ?_; cbv)
    | (refine QC.tt (by first | omega | (dsimp only; omega) | exact rfl | (simp only [sm] at *; omega)) ?_; cbv)
    | (refine QC.tt ?_ ?_; (focus (simp only [decide_true, Bool.and_true, Bool.and_self] <;> fail)); cbv)
    | (refine QC.ff ?_ ?_; (focus (simp only [decide_true, Bool.and_true, Bool.and_self, decide_false, Bool.false_and, reduceCtorEq, not_false_eq_true] <;> fail)); cbv)
    | (refine QC.ff (by first | omega | (dsimp only; omega) | (simp only [sm] at *; omega)) ?_; cbv)
    | (refine QC.mk (fun hc => ?_) (fun hc => ?_) <;> (try dsimp only at hc) <;> cbv)
    | (refine br_mk2 (fun hb => ?_) (fun hb => ?_) <;> (try subst hb) <;> cbv))))
  · exact ⟨rfl, rfl, rfl⟩
  · exact ⟨rfl, rfl, rfl⟩
  · exfalso
    have : n < 0 ∨ (M.length : Int) ≤ n := h.resolve_left (fun e => by cases e)
    (first | omega | (simp only [cst] at *; omega) | (simp only [sm] at *; omega))
  · exact ⟨rfl, rfl, rfl⟩
theorem rdeliver_no (M : List (List Int)) (W : List SV) (hW : W = matV M) (hl : M.length ≤ 6000000000000) (hlr : ∀ r ∈ M, r.length ≤ 18000000000000) (tx : List Txn) (K : List SV) (hK : K = txL tx) (hlk : tx.length ≤ 6000000000000) (hlb : ∀ t ∈ tx, t.b.length ≤ 140737488351232) (h : ¬ (VM M ∧ VT M.length tx)) (D : List SV) :
    Good 25 (pu [.lst none W, .lst (some 2) K, .lst none D] (.tup [.lst (some 3) [], .int .i64 1])) := by
  have g1 := rvslot_c M W hW hl hlr tx K hK hlk hlb false ⟨fun e => (by cases e), fun e => absurd e h⟩
  refine Good.of Tryd.func25 rfl (by rfl) (by kernel_rfl) ?_
  cbv
  (repeat' (first
    | (refine q1 (by first | exact trivial | omega | (dsimp only; omega) | exact pow62 _ (by omega) | exact mul9 (by omega) (by omega) | (simp only [sm] at *; omega)) (fun z hz => ?_); (try simp only at hz); cbv)
    | (refine rq (by first | exact trivial | omega | (dsimp only; omega) | (simp only [sm] at *; omega)) ?_; cbv)
    | (refine QC.tt (by first | omega | (dsimp only; omega) | exact rfl | (simp only [sm] at *; omega)) ?_; cbv)
    | (refine QC.tt ?_ ?_; (focus (simp only [decide_true, Bool.and_true, Bool.and_self] <;> fail)); cbv)
    | (refine QC.ff ?_ ?_; (focus (simp only [decide_true, Bool.and_true, Bool.and_self, decide_false, Bool.false_and, reduceCtorEq, not_false_eq_true] <;> fail)); cbv)
    | (refine QC.ff (by first | omega | (dsimp only; omega) | (simp only [sm] at *; omega)) ?_; cbv)
    | (refine QC.mk (fun hc => ?_) (fun hc => ?_) <;> (try dsimp only at hc) <;> cbv)
    | (refine br_mk2 (fun hb => ?_) (fun hb => ?_) <;> (try subst hb) <;> cbv)))
  (refine callq (g1) rfl rfl ?_; cbv; (repeat' (first
    | (refine q1 (by first | exact trivial | omega | (dsimp only; omega) | exact pow62 _ (by omega) | exact mul9 (by omega) (by omega) | (simp only [sm] at *; omega)) (fun z hz => ?_); (try simp only at hz); cbv)
    | (refine rq (by first | exact trivial | omega | (dsimp only; omega) | (simp only [sm] at *; omega)) ?_; cbv)
    | (refine QC.tt (by first | omega | (dsimp only; omega) | exact rfl | (simp only [sm] at *; omega)) ?_; cbv)
    | (refine QC.tt ?_ ?_; (focus (simp only [decide_true, Bool.and_true, Bool.and_self] <;> fail)); cbv)
    | (refine QC.ff ?_ ?_; (focus (simp only [decide_true, Bool.and_true, Bool.and_self, decide_false, Bool.false_and, reduceCtorEq, not_false_eq_true] <;> fail)); cbv)
    | (refine QC.ff (by first | omega | (dsimp only; omega) | (simp only [sm] at *; omega)) ?_; cbv)
    | (refine QC.mk (fun hc => ?_) (fun hc => ?_) <;> (try dsimp only at hc) <;> cbv)
    | (refine br_mk2 (fun hb => ?_) (fun hb => ?_) <;> (try subst hb) <;> cbv))))
  exact ⟨rfl, rfl, rfl⟩
end Go.Proofs.YtbnphjniadiclaaDoor
