/- multihopref11.heard, Busy. -/
import Derived.Test.YtbnphjniadiclaaDoorMU
namespace Go.Proofs.YtbnphjniadiclaaDoor
set_option linter.unusedVariables false
set_option linter.unusedSimpArgs false
open Go.RowKit
set_option maxHeartbeats 8000000
/-- The numbers of the transmissions that a node hears, among the first i. -/
def hxs (M : List (List Int)) (tx : List Txn) (n : Nat) : Nat → List Nat
  | 0 => []
  | i + 1 => match tx[i]? with
    | some t => if lk M t.f n ≠ 0 then hxs M tx n i ++ [i] else hxs M tx n i
    | none => hxs M tx n i
theorem hxs_yes {M : List (List Int)} {tx : List Txn} {n i : Nat} {t : Txn} (h : tx[i]? = some t) (g : lk M t.f n ≠ 0) : hxs M tx n (i + 1) = hxs M tx n i ++ [i] := by
  rw [hxs, h]
  simp only [if_pos g]
theorem hxs_no {M : List (List Int)} {tx : List Txn} {n i : Nat} {t : Txn} (h : tx[i]? = some t) (g : lk M t.f n = 0) : hxs M tx n (i + 1) = hxs M tx n i := by
  rw [hxs, h]
  simp [g]
theorem hxs_len (M : List (List Int)) (tx : List Txn) (n : Nat) : ∀ i, (hxs M tx n i).length ≤ i
  | 0 => by simp [hxs]
  | i + 1 => by
    have := hxs_len M tx n i
    rw [hxs]
    split
    · split
      · simp; omega
      · omega
    · omega
/-- They are those that hd names. -/
theorem hxs_hd {M : List (List Int)} {tx : List Txn} {n : Nat} : ∀ i, i ≤ tx.length → (hxs M tx n i).filterMap (fun k => tx[k]?) = hd M (tx.take i) n ∧ ∀ k ∈ hxs M tx n i, k < tx.length
  | 0, _ => by simp [hxs, hd]
  | i + 1, h => by
    obtain ⟨h1, h2⟩ := hxs_hd (M := M) (tx := tx) (n := n) i (by omega)
    have ht : tx[i]? = some tx[i] := List.getElem?_eq_getElem (by omega)
    by_cases g : lk M tx[i].f n = 0
    · rw [hxs_no ht g, hd_take ht, if_neg (by simp [g])]
      exact ⟨h1, h2⟩
    · rw [hxs_yes ht g, hd_take ht, if_pos g, List.filterMap_append, h1]
      refine ⟨by simp [ht], fun k hk => ?_⟩
      rcases List.mem_append.1 hk with hk | hk
      · exact h2 k hk
      · simp at hk; omega
theorem selfB_take {tx : List Txn} {n i : Nat} {t : Txn} (h : tx[i]? = some t) : selfB (tx.take (i + 1)) n = (selfB (tx.take i) n || decide (t.f = (n : Int))) := by
  unfold selfB
  rw [List.take_add_one, h, List.any_append]
  simp
theorem heard_c (M : List (List Int)) (W : List SV) (hW : W = matV M) (hv : VM M) (tx : List Txn) (K : List SV) (hK : K = txL tx) (ht : VT M.length tx) (htl : tx.length ≤ 1000) (n : Nat) (hn : n < M.length) (ni : Int) (hni : ni = n) (X : List SV) (hX : X = nats (hxs M tx n tx.length)) (s : Bool) (hs : s = selfB tx n) :
    Good 32 (pu [.lst none W, .lst (some 2) K, .int .i64 ni] (.tup [.lst none X, .bool s])) := by
  have hWl : W.length = M.length := by rw [hW, matV_len]
  have hKl : K.length = tx.length := by rw [hK, txL_len]
  have hE := fun i hi => tx_at hK i hi
  have hF := fun i hi => matV_at hW i hi
  obtain ⟨G, hG⟩ : ∃ G : Nat → List SV, ∀ i, G i = nats (hxs M tx n i) := ⟨_, fun _ => rfl⟩
  have hGl : ∀ i, (G i).length ≤ i := fun i => by rw [hG, nats_len]; exact hxs_len M tx n i
  have hG0 : [] = G 0 := by rw [hG]; rfl
  have hGy : ∀ (i : Nat) (t : Txn) (j : Int), j = i → tx[i]? = some t → lk M t.f n ≠ 0 → apL (G i) [.int .i64 j] = G (i + 1) := fun i t j hj h g => by rw [apL_eq, hG, hG, hxs_yes h g, hj, ← nats_app]; rfl
  have hGn : ∀ (i : Nat) (t : Txn), tx[i]? = some t → lk M t.f n = 0 → G i = G (i + 1) := fun i t h g => by rw [hG, hG, hxs_no h g]
  obtain ⟨S, hS⟩ : ∃ S : Nat → Bool, ∀ i, S i = selfB (tx.take i) n := ⟨_, fun _ => rfl⟩
  have hS0 : false = S 0 := by rw [hS]; rfl
  have hSn : ∀ (i : Nat) (t : Txn), tx[i]? = some t → S (i + 1) = (S i || decide (t.f = (n : Int))) := fun i t h => by rw [hS, hS]; exact selfB_take h
  have hSe : s = S tx.length := by rw [hS, List.take_length]; exact hs
  rw [← hG] at hX
  clear hG hS hs
  refine Good.of Tryd.func32 rfl (by rfl) (by kernel_rfl) ?_
  cbv
  (repeat' (first
    | (refine q1 (by first | exact trivial | omega | (dsimp only; omega) | exact pow62 _ (by omega) | exact mul9 (by omega) (by omega) | (simp only [sm] at *; omega)) (fun z hz => ?_); (try simp only at hz); cbv)
    | (refine rq (by first | exact trivial | omega | (dsimp only; omega) | (simp only [sm] at *; omega)) ?_; cbv)
    | (refine QC.tt (by first | omega | (dsimp only; omega) | exact rfl | (simp only [sm] at *; omega)) ?_; cbv)
    | (refine QC.tt ?_ ?_; (focus (simp only [decide_true, Bool.and_true, Bool.and_self] <;> fail)); cbv)
    | (refine QC.ff ?_ ?_; (focus (simp only [decide_true, Bool.and_true, Bool.and_self, decide_false, Bool.false_and, reduceCtorEq, not_false_eq_true] <;> fail)); cbv)
    | (refine QC.ff (by first | omega | (dsimp only; omega) | (simp only [sm] at *; omega)) ?_; cbv)
    | (refine QC.mk (fun hc => ?_) (fun hc => ?_) <;> (try dsimp only at hc) <;> cbv)
    | (refine br_mk2 (fun hb => ?_) (fun hb => ?_) <;> (try subst hb) <;> cbv)))
  refine loopQ (A := Nat × Int × Bool) (fun p => p.2.1 = p.1 ∧ p.1 ≤ tx.length ∧ p.2.2 = S p.1) (fun p => tx.length - p.1) (fun p => [(10, .int .i64 p.2.1), (9, .bool p.2.2), (8, .row 8)]) (fun p => [(8, .row none 3 (G p.1))]) (0, 0, false) ⟨rfl, Nat.zero_le _, hS0⟩ ?_ ?_
  · cbv
    refine ⟨?_, trivial⟩
    show Blk.row none 3 [] = .row none 3 (G 0)
    rw [← hG0]
  · intro ⟨i, j, b⟩ hh
    have hj : j = (i : Int) := hh.1
    have hi : i ≤ tx.length := hh.2.1
    have hb : b = S i := hh.2.2
    clear hh
    have hgl := hGl i
    have hmk : True := trivial
    cbv
    (repeat' (first
    | (refine q1 (by first | exact trivial | omega | (dsimp only; omega) | exact pow62 _ (by omega) | exact mul9 (by omega) (by omega) | (simp only [sm] at *; omega)) (fun z hz => ?_); (try simp only at hz); cbv)
    | (refine rq (by first | exact trivial | omega | (dsimp only; omega) | (simp only [sm] at *; omega)) ?_; cbv)
    | (refine QC.tt (by first | omega | (dsimp only; omega) | exact rfl | (simp only [sm] at *; omega)) ?_; cbv)
    | (refine QC.tt ?_ ?_; (focus (simp only [decide_true, Bool.and_true, Bool.and_self] <;> fail)); cbv)
    | (refine QC.ff ?_ ?_; (focus (simp only [decide_true, Bool.and_true, Bool.and_self, decide_false, Bool.false_and, reduceCtorEq, not_false_eq_true] <;> fail)); cbv)
    | (refine QC.ff (by first | omega | (dsimp only; omega) | (simp only [sm] at *; omega)) ?_; cbv)
    | (refine QC.mk (fun hc => ?_) (fun hc => ?_) <;> (try dsimp only at hc) <;> cbv)
    | (refine br_mk2 (fun hb => ?_) (fun hb => ?_) <;> (try subst hb) <;> cbv)))
    · skip
      have hlt : i < tx.length := by (first | omega | (simp only [cst] at *; omega) | (simp only [sm] at *; omega))
      obtain ⟨f, bs, B, htx, hB, hLi⟩ := hE i hlt
      have htk := ht i _ htx
      have hf0 := ht.lo i _ htx
      have hfn := htk.b
      dsimp only at hf0 hfn
      obtain ⟨r, Rr, hr, hRr, hLr⟩ := hF f.toNat (by omega)
      have hrl := (hv.r _ _ hr).l
      have hri := row_at hRr n (by omega)
      have hge := (rowOk_v (hv.r _ _ hr) n).1
      have hlk : lk M f n = r.getD n 0 := by unfold lk; rw [hr]; rfl
      obtain ⟨v, hv0⟩ : ∃ v, v = r.getD n 0 := ⟨_, rfl⟩
      rw [← hv0] at hri hlk hge
      have hsn := hSn i _ htx
      dsimp only at hsn
      have hgy := hGy i _ j hj htx
      have hgn := hGn i _ htx
      dsimp only at hgy hgn
      have hb2 : true = S (i + 1) := by rw [hsn, ← hb, Bool.true_or]
      skip
      (refine qv (i, _) ⟨hj, hLi⟩ ?_; cbv; (repeat' (first
    | (refine q1 (by first | exact trivial | omega | (dsimp only; omega) | exact pow62 _ (by omega) | exact mul9 (by omega) (by omega) | (simp only [sm] at *; omega)) (fun z hz => ?_); (try simp only at hz); cbv)
    | (refine rq (by first | exact trivial | omega | (dsimp only; omega) | (simp only [sm] at *; omega)) ?_; cbv)
    | (refine QC.tt (by first | omega | (dsimp only; omega) | exact rfl | (simp only [sm] at *; omega)) ?_; cbv)
    | (refine QC.tt ?_ ?_; (focus (simp only [decide_true, Bool.and_true, Bool.and_self] <;> fail)); cbv)
    | (refine QC.ff ?_ ?_; (focus (simp only [decide_true, Bool.and_true, Bool.and_self, decide_false, Bool.false_and, reduceCtorEq, not_false_eq_true] <;> fail)); cbv)
    | (refine QC.ff (by first | omega | (dsimp only; omega) | (simp only [sm] at *; omega)) ?_; cbv)
    | (refine QC.mk (fun hc => ?_) (fun hc => ?_) <;> (try dsimp only at hc) <;> cbv)
    | (refine br_mk2 (fun hb => ?_) (fun hb => ?_) <;> (try subst hb) <;> cbv))))
      (refine qv (f.toNat, _) ⟨(by (first | omega | (simp only [cst] at *; omega) | (simp only [sm] at *; omega))), hLr⟩ ?_; cbv; (repeat' (first
    | (refine q1 (by first | exact trivial | omega | (dsimp only; omega) | exact pow62 _ (by omega) | exact mul9 (by omega) (by omega) | (simp only [sm] at *; omega)) (fun z hz => ?_); (try simp only at hz); cbv)
    | (refine rq (by first | exact trivial | omega | (dsimp only; omega) | (simp only [sm] at *; omega)) ?_; cbv)
    | (refine QC.tt (by first | omega | (dsimp only; omega) | exact rfl | (simp only [sm] at *; omega)) ?_; cbv)
    | (refine QC.tt ?_ ?_; (focus (simp only [decide_true, Bool.and_true, Bool.and_self] <;> fail)); cbv)
    | (refine QC.ff ?_ ?_; (focus (simp only [decide_true, Bool.and_true, Bool.and_self, decide_false, Bool.false_and, reduceCtorEq, not_false_eq_true] <;> fail)); cbv)
    | (refine QC.ff (by first | omega | (dsimp only; omega) | (simp only [sm] at *; omega)) ?_; cbv)
    | (refine QC.mk (fun hc => ?_) (fun hc => ?_) <;> (try dsimp only at hc) <;> cbv)
    | (refine br_mk2 (fun hb => ?_) (fun hb => ?_) <;> (try subst hb) <;> cbv))))
      (refine qv (n, _) ⟨hni, hri⟩ ?_; cbv; (repeat' (first
    | (refine q1 (by first | exact trivial | omega | (dsimp only; omega) | exact pow62 _ (by omega) | exact mul9 (by omega) (by omega) | (simp only [sm] at *; omega)) (fun z hz => ?_); (try simp only at hz); cbv)
    | (refine rq (by first | exact trivial | omega | (dsimp only; omega) | (simp only [sm] at *; omega)) ?_; cbv)
    | (refine QC.tt (by first | omega | (dsimp only; omega) | exact rfl | (simp only [sm] at *; omega)) ?_; cbv)
    | (refine QC.tt ?_ ?_; (focus (simp only [decide_true, Bool.and_true, Bool.and_self] <;> fail)); cbv)
    | (refine QC.ff ?_ ?_; (focus (simp only [decide_true, Bool.and_true, Bool.and_self, decide_false, Bool.false_and, reduceCtorEq, not_false_eq_true] <;> fail)); cbv)
    | (refine QC.ff (by first | omega | (dsimp only; omega) | (simp only [sm] at *; omega)) ?_; cbv)
    | (refine QC.mk (fun hc => ?_) (fun hc => ?_) <;> (try dsimp only at hc) <;> cbv)
    | (refine br_mk2 (fun hb => ?_) (fun hb => ?_) <;> (try subst hb) <;> cbv))))
      · have hne : lk M f n ≠ 0 := by rw [hlk]; (first | omega | (simp only [cst] at *; omega) | (simp only [sm] at *; omega))
        have hy := hgy hne
        refine ⟨(i + 1, z, _), ⟨by show z = ((i + 1 : Nat) : Int); (first | omega | (simp only [cst] at *; omega) | (simp only [sm] at *; omega)), by show i + 1 ≤ tx.length; omega, hb2⟩, by show tx.length - (i + 1) < tx.length - i; omega, ?_⟩
        cbv
        refine ⟨?_, trivial⟩
        show Blk.row none 3 (apL (G i) [.int .i64 j]) = .row none 3 (G (i + 1))
        rw [hy]
      · have hne : lk M f n = 0 := by rw [hlk]; (first | omega | (simp only [cst] at *; omega) | (simp only [sm] at *; omega))
        have hy := hgn hne
        refine ⟨(i + 1, z, _), ⟨by show z = ((i + 1 : Nat) : Int); (first | omega | (simp only [cst] at *; omega) | (simp only [sm] at *; omega)), by show i + 1 ≤ tx.length; omega, hb2⟩, by show tx.length - (i + 1) < tx.length - i; omega, ?_⟩
        cbv
        refine ⟨?_, trivial⟩
        show Blk.row none 3 (G i) = .row none 3 (G (i + 1))
        rw [hy]
    · skip
      have hlt : i < tx.length := by (first | omega | (simp only [cst] at *; omega) | (simp only [sm] at *; omega))
      obtain ⟨f, bs, B, htx, hB, hLi⟩ := hE i hlt
      have htk := ht i _ htx
      have hf0 := ht.lo i _ htx
      have hfn := htk.b
      dsimp only at hf0 hfn
      obtain ⟨r, Rr, hr, hRr, hLr⟩ := hF f.toNat (by omega)
      have hrl := (hv.r _ _ hr).l
      have hri := row_at hRr n (by omega)
      have hge := (rowOk_v (hv.r _ _ hr) n).1
      have hlk : lk M f n = r.getD n 0 := by unfold lk; rw [hr]; rfl
      obtain ⟨v, hv0⟩ : ∃ v, v = r.getD n 0 := ⟨_, rfl⟩
      rw [← hv0] at hri hlk hge
      have hsn := hSn i _ htx
      dsimp only at hsn
      have hgy := hGy i _ j hj htx
      have hgn := hGn i _ htx
      dsimp only at hgy hgn
      (refine qv (i, _) ⟨hj, hLi⟩ ?_; cbv; (repeat' (first
    | (refine q1 (by first | exact trivial | omega | (dsimp only; omega) | exact pow62 _ (by omega) | exact mul9 (by omega) (by omega) | (simp only [sm] at *; omega)) (fun z hz => ?_); (try simp only at hz); cbv)
    | (refine rq (by first | exact trivial | omega | (dsimp only; omega) | (simp only [sm] at *; omega)) ?_; cbv)
    | (refine QC.tt (by first | omega | (dsimp only; omega) | exact rfl | (simp only [sm] at *; omega)) ?_; cbv)
    | (refine QC.tt ?_ ?_; (focus (simp only [decide_true, Bool.and_true, Bool.and_self] <;> fail)); cbv)
    | (refine QC.ff ?_ ?_; (focus (simp only [decide_true, Bool.and_true, Bool.and_self, decide_false, Bool.false_and, reduceCtorEq, not_false_eq_true] <;> fail)); cbv)
    | (refine QC.ff (by first | omega | (dsimp only; omega) | (simp only [sm] at *; omega)) ?_; cbv)
    | (refine QC.mk (fun hc => ?_) (fun hc => ?_) <;> (try dsimp only at hc) <;> cbv)
    | (refine br_mk2 (fun hb => ?_) (fun hb => ?_) <;> (try subst hb) <;> cbv))))
      · have hb2 : true = S (i + 1) := by rw [hsn, decide_eq_true (show f = (n : Int) by (first | omega | (simp only [cst] at *; omega) | (simp only [sm] at *; omega))), Bool.or_true]
        skip
        (refine qv (i, _) ⟨hj, hLi⟩ ?_; cbv; (repeat' (first
    | (refine q1 (by first | exact trivial | omega | (dsimp only; omega) | exact pow62 _ (by omega) | exact mul9 (by omega) (by omega) | (simp only [sm] at *; omega)) (fun z hz => ?_); (try simp only at hz); cbv)
    | (refine rq (by first | exact trivial | omega | (dsimp only; omega) | (simp only [sm] at *; omega)) ?_; cbv)
    | (refine QC.tt (by first | omega | (dsimp only; omega) | exact rfl | (simp only [sm] at *; omega)) ?_; cbv)
    | (refine QC.tt ?_ ?_; (focus (simp only [decide_true, Bool.and_true, Bool.and_self] <;> fail)); cbv)
    | (refine QC.ff ?_ ?_; (focus (simp only [decide_true, Bool.and_true, Bool.and_self, decide_false, Bool.false_and, reduceCtorEq, not_false_eq_true] <;> fail)); cbv)
    | (refine QC.ff (by first | omega | (dsimp only; omega) | (simp only [sm] at *; omega)) ?_; cbv)
    | (refine QC.mk (fun hc => ?_) (fun hc => ?_) <;> (try dsimp only at hc) <;> cbv)
    | (refine br_mk2 (fun hb => ?_) (fun hb => ?_) <;> (try subst hb) <;> cbv))))
        (refine qv (f.toNat, _) ⟨(by (first | omega | (simp only [cst] at *; omega) | (simp only [sm] at *; omega))), hLr⟩ ?_; cbv; (repeat' (first
    | (refine q1 (by first | exact trivial | omega | (dsimp only; omega) | exact pow62 _ (by omega) | exact mul9 (by omega) (by omega) | (simp only [sm] at *; omega)) (fun z hz => ?_); (try simp only at hz); cbv)
    | (refine rq (by first | exact trivial | omega | (dsimp only; omega) | (simp only [sm] at *; omega)) ?_; cbv)
    | (refine QC.tt (by first | omega | (dsimp only; omega) | exact rfl | (simp only [sm] at *; omega)) ?_; cbv)
    | (refine QC.tt ?_ ?_; (focus (simp only [decide_true, Bool.and_true, Bool.and_self] <;> fail)); cbv)
    | (refine QC.ff ?_ ?_; (focus (simp only [decide_true, Bool.and_true, Bool.and_self, decide_false, Bool.false_and, reduceCtorEq, not_false_eq_true] <;> fail)); cbv)
    | (refine QC.ff (by first | omega | (dsimp only; omega) | (simp only [sm] at *; omega)) ?_; cbv)
    | (refine QC.mk (fun hc => ?_) (fun hc => ?_) <;> (try dsimp only at hc) <;> cbv)
    | (refine br_mk2 (fun hb => ?_) (fun hb => ?_) <;> (try subst hb) <;> cbv))))
        (refine qv (n, _) ⟨hni, hri⟩ ?_; cbv; (repeat' (first
    | (refine q1 (by first | exact trivial | omega | (dsimp only; omega) | exact pow62 _ (by omega) | exact mul9 (by omega) (by omega) | (simp only [sm] at *; omega)) (fun z hz => ?_); (try simp only at hz); cbv)
    | (refine rq (by first | exact trivial | omega | (dsimp only; omega) | (simp only [sm] at *; omega)) ?_; cbv)
    | (refine QC.tt (by first | omega | (dsimp only; omega) | exact rfl | (simp only [sm] at *; omega)) ?_; cbv)
    | (refine QC.tt ?_ ?_; (focus (simp only [decide_true, Bool.and_true, Bool.and_self] <;> fail)); cbv)
    | (refine QC.ff ?_ ?_; (focus (simp only [decide_true, Bool.and_true, Bool.and_self, decide_false, Bool.false_and, reduceCtorEq, not_false_eq_true] <;> fail)); cbv)
    | (refine QC.ff (by first | omega | (dsimp only; omega) | (simp only [sm] at *; omega)) ?_; cbv)
    | (refine QC.mk (fun hc => ?_) (fun hc => ?_) <;> (try dsimp only at hc) <;> cbv)
    | (refine br_mk2 (fun hb => ?_) (fun hb => ?_) <;> (try subst hb) <;> cbv))))
        · have hne : lk M f n ≠ 0 := by rw [hlk]; (first | omega | (simp only [cst] at *; omega) | (simp only [sm] at *; omega))
          have hy := hgy hne
          refine ⟨(i + 1, z, _), ⟨by show z = ((i + 1 : Nat) : Int); (first | omega | (simp only [cst] at *; omega) | (simp only [sm] at *; omega)), by show i + 1 ≤ tx.length; omega, hb2⟩, by show tx.length - (i + 1) < tx.length - i; omega, ?_⟩
          cbv
          refine ⟨?_, trivial⟩
          show Blk.row none 3 (apL (G i) [.int .i64 j]) = .row none 3 (G (i + 1))
          rw [hy]
        · have hne : lk M f n = 0 := by rw [hlk]; (first | omega | (simp only [cst] at *; omega) | (simp only [sm] at *; omega))
          have hy := hgn hne
          refine ⟨(i + 1, z, _), ⟨by show z = ((i + 1 : Nat) : Int); (first | omega | (simp only [cst] at *; omega) | (simp only [sm] at *; omega)), by show i + 1 ≤ tx.length; omega, hb2⟩, by show tx.length - (i + 1) < tx.length - i; omega, ?_⟩
          cbv
          refine ⟨?_, trivial⟩
          show Blk.row none 3 (G i) = .row none 3 (G (i + 1))
          rw [hy]
      · have hb2 : false = S (i + 1) := by rw [hsn, ← hb, decide_eq_false (show ¬ f = (n : Int) by (first | omega | (simp only [cst] at *; omega) | (simp only [sm] at *; omega)))]; rfl
        skip
        (refine qv (i, _) ⟨hj, hLi⟩ ?_; cbv; (repeat' (first
    | (refine q1 (by first | exact trivial | omega | (dsimp only; omega) | exact pow62 _ (by omega) | exact mul9 (by omega) (by omega) | (simp only [sm] at *; omega)) (fun z hz => ?_); (try simp only at hz); cbv)
    | (refine rq (by first | exact trivial | omega | (dsimp only; omega) | (simp only [sm] at *; omega)) ?_; cbv)
    | (refine QC.tt (by first | omega | (dsimp only; omega) | exact rfl | (simp only [sm] at *; omega)) ?_; cbv)
    | (refine QC.tt ?_ ?_; (focus (simp only [decide_true, Bool.and_true, Bool.and_self] <;> fail)); cbv)
    | (refine QC.ff ?_ ?_; (focus (simp only [decide_true, Bool.and_true, Bool.and_self, decide_false, Bool.false_and, reduceCtorEq, not_false_eq_true] <;> fail)); cbv)
    | (refine QC.ff (by first | omega | (dsimp only; omega) | (simp only [sm] at *; omega)) ?_; cbv)
    | (refine QC.mk (fun hc => ?_) (fun hc => ?_) <;> (try dsimp only at hc) <;> cbv)
    | (refine br_mk2 (fun hb => ?_) (fun hb => ?_) <;> (try subst hb) <;> cbv))))
        (refine qv (f.toNat, _) ⟨(by (first | omega | (simp only [cst] at *; omega) | (simp only [sm] at *; omega))), hLr⟩ ?_; cbv; (repeat' (first
    | (refine q1 (by first | exact trivial | omega | (dsimp only; omega) | exact pow62 _ (by omega) | exact mul9 (by omega) (by omega) | (simp only [sm] at *; omega)) (fun z hz => ?_); (try simp only at hz); cbv)
    | (refine rq (by first | exact trivial | omega | (dsimp only; omega) | (simp only [sm] at *; omega)) ?_; cbv)
    | (refine QC.tt (by first | omega | (dsimp only; omega) | exact rfl | (simp only [sm] at *; omega)) ?_; cbv)
    | (refine QC.tt ?_ ?_; (focus (simp only [decide_true, Bool.and_true, Bool.and_self] <;> fail)); cbv)
    | (refine QC.ff ?_ ?_; (focus (simp only [decide_true, Bool.and_true, Bool.and_self, decide_false, Bool.false_and, reduceCtorEq, not_false_eq_true] <;> fail)); cbv)
    | (refine QC.ff (by first | omega | (dsimp only; omega) | (simp only [sm] at *; omega)) ?_; cbv)
    | (refine QC.mk (fun hc => ?_) (fun hc => ?_) <;> (try dsimp only at hc) <;> cbv)
    | (refine br_mk2 (fun hb => ?_) (fun hb => ?_) <;> (try subst hb) <;> cbv))))
        (refine qv (n, _) ⟨hni, hri⟩ ?_; cbv; (repeat' (first
    | (refine q1 (by first | exact trivial | omega | (dsimp only; omega) | exact pow62 _ (by omega) | exact mul9 (by omega) (by omega) | (simp only [sm] at *; omega)) (fun z hz => ?_); (try simp only at hz); cbv)
    | (refine rq (by first | exact trivial | omega | (dsimp only; omega) | (simp only [sm] at *; omega)) ?_; cbv)
    | (refine QC.tt (by first | omega | (dsimp only; omega) | exact rfl | (simp only [sm] at *; omega)) ?_; cbv)
    | (refine QC.tt ?_ ?_; (focus (simp only [decide_true, Bool.and_true, Bool.and_self] <;> fail)); cbv)
    | (refine QC.ff ?_ ?_; (focus (simp only [decide_true, Bool.and_true, Bool.and_self, decide_false, Bool.false_and, reduceCtorEq, not_false_eq_true] <;> fail)); cbv)
    | (refine QC.ff (by first | omega | (dsimp only; omega) | (simp only [sm] at *; omega)) ?_; cbv)
    | (refine QC.mk (fun hc => ?_) (fun hc => ?_) <;> (try dsimp only at hc) <;> cbv)
    | (refine br_mk2 (fun hb => ?_) (fun hb => ?_) <;> (try subst hb) <;> cbv))))
        · have hne : lk M f n ≠ 0 := by rw [hlk]; (first | omega | (simp only [cst] at *; omega) | (simp only [sm] at *; omega))
          have hy := hgy hne
          refine ⟨(i + 1, z, _), ⟨by show z = ((i + 1 : Nat) : Int); (first | omega | (simp only [cst] at *; omega) | (simp only [sm] at *; omega)), by show i + 1 ≤ tx.length; omega, hb2⟩, by show tx.length - (i + 1) < tx.length - i; omega, ?_⟩
          cbv
          refine ⟨?_, trivial⟩
          show Blk.row none 3 (apL (G i) [.int .i64 j]) = .row none 3 (G (i + 1))
          rw [hy]
        · have hne : lk M f n = 0 := by rw [hlk]; (first | omega | (simp only [cst] at *; omega) | (simp only [sm] at *; omega))
          have hy := hgn hne
          refine ⟨(i + 1, z, _), ⟨by show z = ((i + 1 : Nat) : Int); (first | omega | (simp only [cst] at *; omega) | (simp only [sm] at *; omega)), by show i + 1 ≤ tx.length; omega, hb2⟩, by show tx.length - (i + 1) < tx.length - i; omega, ?_⟩
          cbv
          refine ⟨?_, trivial⟩
          show Blk.row none 3 (G i) = .row none 3 (G (i + 1))
          rw [hy]
    · have e : i = tx.length := by (first | omega | (simp only [cst] at *; omega) | (simp only [sm] at *; omega))
      subst e
      exact ⟨by rw [hX, hSe, ← hb], rfl, rfl⟩
end Go.Proofs.YtbnphjniadiclaaDoor
