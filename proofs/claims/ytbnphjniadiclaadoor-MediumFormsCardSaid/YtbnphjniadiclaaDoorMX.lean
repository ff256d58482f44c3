/- multihopref11.Deliver. -/
import Derived.Test.YtbnphjniadiclaaDoorMW
namespace Go.Proofs.YtbnphjniadiclaaDoor
set_option linter.unusedVariables false
set_option linter.unusedSimpArgs false
open Go.RowKit
set_option maxHeartbeats 16000000
/-- The one transmission that a node hears. -/
theorem hxs_one {M : List (List Int)} {tx : List Txn} {n : Nat} (h : (hxs M tx n tx.length).length = 1) : ∃ (k : Nat) (t : Txn), hxs M tx n tx.length = [k] ∧ tx[k]? = some t ∧ hd M tx n = [t] := by
  obtain ⟨k, hk⟩ := List.length_eq_one_iff.1 h
  obtain ⟨h1, h2⟩ := hxs_hd (M := M) (tx := tx) (n := n) tx.length (Nat.le_refl _)
  rw [hk, List.take_length] at h1
  have hkt := h2 k (by rw [hk]; simp)
  have ht : tx[k]? = some tx[k] := List.getElem?_eq_getElem hkt
  refine ⟨k, tx[k], hk, ht, ?_⟩
  rw [← h1]
  simp [ht]
theorem rdeliver_c (M : List (List Int)) (W : List SV) (hW : W = matV M) (hv : VM M) (tx : List Txn) (K : List SV) (hK : K = txL tx) (ht : VT M.length tx) (ds : List Int) (D : List SV) (hD : D = ints .u8 ds) (hdb : ∀ d ∈ ds, 0 ≤ d ∧ d ≤ 255) (hdl : ds.length ≤ 140737488351232)
    (R : List SV) (hR : R = rcL (dF M tx ds M.length).2) :
    Good 25 (pu [.lst none W, .lst (some 2) K, .lst none D] (.tup [.lst (some 3) R, .int .i64 0])) := by
  have hq12 := hv.q
  have htl := ht.len
  have g1 := rvslot_c M W hW (by omega) (fun r hr => by obtain ⟨k, hk, rfl⟩ := List.mem_iff_getElem.1 hr; have := (hv.r k _ (List.getElem?_eq_getElem hk)).l; omega) tx K hK (by omega) (fun t h => by obtain ⟨k, hk, rfl⟩ := List.mem_iff_getElem.1 h; have := (ht k _ (List.getElem?_eq_getElem hk)).c; omega) true ⟨fun _ => ⟨hv, ht⟩, fun _ => rfl⟩
  have hWl : W.length = M.length := by rw [hW, matV_len]
  have hKl : K.length = tx.length := by rw [hK, txL_len]
  have hDl : D.length = ds.length := by rw [hD, ints_len]
  have hE := fun i hi => tx_at hK i hi
  have hF := fun i hi => matV_at hW i hi
  have hH := fun i hi => hD ▸ ints_at (k := .u8) (l := ds) i hi
  have hg := fun n hn ni hni X hX s hs => heard_c M W hW hv tx K hK ht (by omega) n hn ni hni X hX s hs
  obtain ⟨U, hU⟩ : ∃ U : List Rcp → List SV, ∀ l, U l = rcL l := ⟨rcL, fun _ => rfl⟩
  have hU0 : [] = U [] := by rw [hU]; rfl
  have hUl : ∀ l, (U l).length = l.length := fun l => by rw [hU, rcL_len]
  have hUs : ∀ l f t b B, B = u8l b → apL (U l) [.agg [.int .i64 f, .int .i64 t, .lst none B]] = U (l ++ [⟨f, t, b⟩]) := fun l f t b B hB => by rw [apL_eq, hU, hU, hB]; simp [rcL, Rcp.v]
  obtain ⟨q, hq⟩ : ∃ q : Nat → Nat × List Rcp, ∀ n, q n = dF M tx ds n := ⟨_, fun _ => rfl⟩
  have hql : ∀ n, (q n).2.length ≤ n := fun n => by rw [hq]; exact dF_len n
  have hqu : ∀ n, (q n).1 ≤ n := fun n => by
    rw [hq]
    induction n with
    | zero => simp [dF]
    | succ n ih =>
      rw [dF, stepD]
      split
      · omega
      · dsimp only; omega
  rw [← hq, ← hU] at hR
  refine Good.of Tryd.func25 rfl (by rfl) (by kernel_rfl) ?_
  cbv
  (repeat' (first
    | (refine q1 (by first | exact trivial | omega | (dsimp only; omega) | exact pow62 _ (by omega) | exact mul9 (by omega) (by omega) | (simp only [sm] at *; omega)) (fun z hz => ?_); (try simp only at hz); cbv)
    | (refine rq (by first | exact trivial | omega | (dsimp only; omega) | (simp only [sm] at *; omega)) ?_; cbv)
    | (refine QC.tt (by first | omega | (dsimp only; omega) | exact rfl | (simp only [sm] at *; omega)) ?_; cbv)
    | (refine QC.tt ?_ ?_; (focus (simp only [decide_true, Bool.and_true, Bool.and_self] <;> fail)); cbv)
    | (refine QC.ff ?_ ?_; (focus (simp only [decide_true, Bool.and_true, Bool.and_self, decide_false, Bool.false_and, reduceCtorEq, not_false_eq_true] <;> fail)); cbv)
    | (refine QC.ff (by first | omega | (dsimp only; omega) | (simp only [sm] at *; omega)) ?_; cbv)
    | (refine QC.mk (fun hc => ?_) (fun hc => ?_) <;> (try dsimp only at hc) <;> cbv)
    | (refine br_mk2 (fun hb => ?_) (fun hb => ?_) <;> (try subst hb) <;> cbv)))
  (refine callq (g1) rfl rfl ?_; cbv; (repeat' (first
    | (refine q1 (by first | exact trivial | omega | (dsimp only; omega) | exact pow62 _ (by omega) | exact mul9 (by omega) (by omega) | (simp only [sm] at *; omega)) (fun z hz => ?_); (try simp only at hz); cbv)
    | (refine rq (by first | exact trivial | omega | (dsimp only; omega) | (simp only [sm] at *; omega)) ?_; cbv)
    | (refine QC.tt (by first | omega | (dsimp only; omega) | exact rfl | (simp only [sm] at *; omega)) ?_; cbv)
    | (refine QC.tt ?_ ?_; (focus (simp only [decide_true, Bool.and_true, Bool.and_self] <;> fail)); cbv)
    | (refine QC.ff ?_ ?_; (focus (simp only [decide_true, Bool.and_true, Bool.and_self, decide_false, Bool.false_and, reduceCtorEq, not_false_eq_true] <;> fail)); cbv)
    | (refine QC.ff (by first | omega | (dsimp only; omega) | (simp only [sm] at *; omega)) ?_; cbv)
    | (refine QC.mk (fun hc => ?_) (fun hc => ?_) <;> (try dsimp only at hc) <;> cbv)
    | (refine br_mk2 (fun hb => ?_) (fun hb => ?_) <;> (try subst hb) <;> cbv))))
  refine loopQ (A := Nat × Int × Nat × Int × List Rcp) (fun p => p.2.1 = p.1 ∧ p.1 ≤ M.length ∧ q p.1 = (p.2.2.1, p.2.2.2.2) ∧ p.2.2.2.1 = p.2.2.1) (fun p => M.length - p.1) (fun p => [(10, .int .i64 p.2.1), (9, .int .i64 p.2.2.2.1), (8, .row 8)]) (fun p => [(8, .row (some 3) 37 (U p.2.2.2.2))]) (0, 0, 0, 0, []) ⟨rfl, Nat.zero_le _, by rw [hq]; rfl, rfl⟩ ?_ ?_
  · cbv
    refine ⟨?_, trivial⟩
    show Blk.row (some 3) 37 [] = .row (some 3) 37 (U [])
    rw [← hU0]
  · intro ⟨i, j, un, u, out⟩ hh
    have hj : j = (i : Int) := hh.1
    have hi : i ≤ M.length := hh.2.1
    have hqi : q i = (un, out) := hh.2.2.1
    have hu : u = (un : Int) := hh.2.2.2
    clear hh
    have hmk : True := trivial
    have hul := hUl out
    cbv
    (repeat' (first
    | (refine q1 (by first | exact trivial | omega | (dsimp only; omega) | exact pow62 _ (by omega) | exact mul9 (by omega) (by omega) | (simp only [sm] at *; omega)) (fun z hz => ?_); (try simp only at hz); cbv)
    | (refine rq (by first | exact trivial | omega | (dsimp only; omega) | (simp only [sm] at *; omega)) ?_; cbv)
    | (refine QC.tt (by first | omega | (dsimp only; omega) | exact rfl | (simp only [sm] at *; omega)) ?_; cbv)
    | (refine QC.tt ?_ ?_; (focus (simp only [decide_true, Bool.and_true, Bool.and_self] <;> fail)); cbv)
    | (refine QC.ff ?_ ?_; (focus (simp only [decide_true, Bool.and_true, Bool.and_self, decide_false, Bool.false_and, reduceCtorEq, not_false_eq_true] <;> fail)); cbv)
    | (refine QC.ff (by first | omega | (dsimp only; omega) | (simp only [sm] at *; omega)) ?_; cbv)
    | (refine QC.mk (fun hc => ?_) (fun hc => ?_) <;> (try dsimp only at hc) <;> cbv)
    | (refine br_mk2 (fun hb => ?_) (fun hb => ?_) <;> (try subst hb) <;> cbv)))
    · have hlt : i < M.length := by (first | omega | (simp only [cst] at *; omega) | (simp only [sm] at *; omega))
      have hqul := hqu i
      rw [hqi] at hqul
      dsimp only at hqul
      obtain ⟨X, hX⟩ : ∃ X, X = nats (hxs M tx i tx.length) := ⟨_, rfl⟩
      obtain ⟨s, hs⟩ : ∃ s, s = selfB tx i := ⟨_, rfl⟩
      have g2 := hg i hlt j hj X hX s hs
      have hXl : X.length = (hxs M tx i tx.length).length := by rw [hX, nats_len]
      (refine callq (g2) rfl rfl ?_; cbv; (repeat' (first
    | (refine q1 (by first | exact trivial | omega | (dsimp only; omega) | exact pow62 _ (by omega) | exact mul9 (by omega) (by omega) | (simp only [sm] at *; omega)) (fun z hz => ?_); (try simp only at hz); cbv)
    | (refine rq (by first | exact trivial | omega | (dsimp only; omega) | (simp only [sm] at *; omega)) ?_; cbv)
    | (refine QC.tt (by first | omega | (dsimp only; omega) | exact rfl | (simp only [sm] at *; omega)) ?_; cbv)
    | (refine QC.tt ?_ ?_; (focus (simp only [decide_true, Bool.and_true, Bool.and_self] <;> fail)); cbv)
    | (refine QC.ff ?_ ?_; (focus (simp only [decide_true, Bool.and_true, Bool.and_self, decide_false, Bool.false_and, reduceCtorEq, not_false_eq_true] <;> fail)); cbv)
    | (refine QC.ff (by first | omega | (dsimp only; omega) | (simp only [sm] at *; omega)) ?_; cbv)
    | (refine QC.mk (fun hc => ?_) (fun hc => ?_) <;> (try dsimp only at hc) <;> cbv)
    | (refine br_mk2 (fun hb => ?_) (fun hb => ?_) <;> (try subst hb) <;> cbv))))
      · have hsk := dF_skip (M := M) (tx := tx) (ds := ds) (n := i) (.inl hs.symm)
        skip
        rw [← hq, ← hq, hqi] at hsk
        refine ⟨(i + 1, z, un, u, out), ⟨by show z = ((i + 1 : Nat) : Int); (first | omega | (simp only [cst] at *; omega) | (simp only [sm] at *; omega)), by show i + 1 ≤ M.length; omega, hsk, hu⟩, by show M.length - (i + 1) < M.length - i; omega, ?_⟩
        cbv
        exact ⟨rfl, trivial⟩
      · have hne : (hxs M tx i tx.length).length ≠ 1 := by (first | omega | (simp only [cst] at *; omega) | (simp only [sm] at *; omega))
        rw [hxs_hdlen _ (Nat.le_refl _), List.take_length] at hne
        have hsk := dF_skip (M := M) (tx := tx) (ds := ds) (n := i) (.inr hne)
        skip
        rw [← hq, ← hq, hqi] at hsk
        refine ⟨(i + 1, z, un, u, out), ⟨by show z = ((i + 1 : Nat) : Int); (first | omega | (simp only [cst] at *; omega) | (simp only [sm] at *; omega)), by show i + 1 ≤ M.length; omega, hsk, hu⟩, by show M.length - (i + 1) < M.length - i; omega, ?_⟩
        cbv
        exact ⟨rfl, trivial⟩
      · skip
        obtain ⟨k2, t, hxk, ht2, hd2⟩ := hxs_one (M := M) (tx := tx) (n := i) (by (first | omega | (simp only [cst] at *; omega) | (simp only [sm] at *; omega)))
        have hk2 := (List.getElem?_eq_some_iff.1 ht2).1
        obtain ⟨ki, hki, hX0⟩ : ∃ ki : Int, ki = k2 ∧ X[0]? = some (.int .i64 ki) := ⟨_, rfl, by rw [hX, hxk]; rfl⟩
        obtain ⟨f, bs, B, htx, hB, hLi⟩ := hE k2 hk2
        have hBl : B.length = bs.length := by rw [hB, u8l_len]
        have ht3 := ht2.symm.trans htx
        injection ht3 with ht3
        subst ht3
        have htk := ht k2 _ htx
        have hf0 := ht.lo k2 _ htx
        have hfn := htk.b
        have hbl := htk.c
        dsimp only at hf0 hfn hbl
        obtain ⟨r, Rr, hr, hRr, hLr⟩ := hF f.toNat (by omega)
        have hrl := (hv.r _ _ hr).l
        have hri := row_at hRr i (by omega)
        have hlk : lk M f i = r.getD i 0 := by unfold lk; rw [hr]; rfl
        obtain ⟨v, hv0⟩ : ∃ v, v = r.getD i 0 := ⟨_, rfl⟩
        rw [← hv0] at hri hlk
        have hone := dF_one (ds := ds) hs.symm hd2
        dsimp only at hone
        rw [← hq, ← hq, hqi, hlk] at hone
        dsimp only at hone
        obtain ⟨dd, hdd⟩ : ∃ d, d = ds.getD un 0 := ⟨_, rfl⟩
        rw [← hdd] at hone
        have hud : un < ds.length := by (first | omega | (simp only [cst] at *; omega) | (simp only [sm] at *; omega))
        have hdi := hH un hud
        rw [← hdd] at hdi
        have hdb2 := hdb dd (by rw [hdd, List.getD_eq_getElem?_getD, List.getElem?_eq_getElem hud]; exact List.getElem_mem hud)
        (refine qv (un, _) ⟨hu, hdi⟩ ?_; cbv; (repeat' (first
    | (refine q1 (by first | exact trivial | omega | (dsimp only; omega) | exact pow62 _ (by omega) | exact mul9 (by omega) (by omega) | (simp only [sm] at *; omega)) (fun z hz => ?_); (try simp only at hz); cbv)
    | (refine rq (by first | exact trivial | omega | (dsimp only; omega) | (simp only [sm] at *; omega)) ?_; cbv)
    | (refine QC.tt (by first | omega | (dsimp only; omega) | exact rfl | (simp only [sm] at *; omega)) ?_; cbv)
    | (refine QC.tt ?_ ?_; (focus (simp only [decide_true, Bool.and_true, Bool.and_self] <;> fail)); cbv)
    | (refine QC.ff ?_ ?_; (focus (simp only [decide_true, Bool.and_true, Bool.and_self, decide_false, Bool.false_and, reduceCtorEq, not_false_eq_true] <;> fail)); cbv)
    | (refine QC.ff (by first | omega | (dsimp only; omega) | (simp only [sm] at *; omega)) ?_; cbv)
    | (refine QC.mk (fun hc => ?_) (fun hc => ?_) <;> (try dsimp only at hc) <;> cbv)
    | (refine br_mk2 (fun hb => ?_) (fun hb => ?_) <;> (try subst hb) <;> cbv))))
        (refine qv (0, _) ⟨rfl, hX0⟩ ?_; cbv; (repeat' (first
    | (refine q1 (by first | exact trivial | omega | (dsimp only; omega) | exact pow62 _ (by omega) | exact mul9 (by omega) (by omega) | (simp only [sm] at *; omega)) (fun z hz => ?_); (try simp only at hz); cbv)
    | (refine rq (by first | exact trivial | omega | (dsimp only; omega) | (simp only [sm] at *; omega)) ?_; cbv)
    | (refine QC.tt (by first | omega | (dsimp only; omega) | exact rfl | (simp only [sm] at *; omega)) ?_; cbv)
    | (refine QC.tt ?_ ?_; (focus (simp only [decide_true, Bool.and_true, Bool.and_self] <;> fail)); cbv)
    | (refine QC.ff ?_ ?_; (focus (simp only [decide_true, Bool.and_true, Bool.and_self, decide_false, Bool.false_and, reduceCtorEq, not_false_eq_true] <;> fail)); cbv)
    | (refine QC.ff (by first | omega | (dsimp only; omega) | (simp only [sm] at *; omega)) ?_; cbv)
    | (refine QC.mk (fun hc => ?_) (fun hc => ?_) <;> (try dsimp only at hc) <;> cbv)
    | (refine br_mk2 (fun hb => ?_) (fun hb => ?_) <;> (try subst hb) <;> cbv))))
        (refine qv (k2, _) ⟨hki, hLi⟩ ?_; cbv; (repeat' (first
    | (refine q1 (by first | exact trivial | omega | (dsimp only; omega) | exact pow62 _ (by omega) | exact mul9 (by omega) (by omega) | (simp only [sm] at *; omega)) (fun z hz => ?_); (try simp only at hz); cbv)
    | (refine rq (by first | exact trivial | omega | (dsimp only; omega) | (simp only [sm] at *; omega)) ?_; cbv)
    | (refine QC.tt (by first | omega | (dsimp only; omega) | exact rfl | (simp only [sm] at *; omega)) ?_; cbv)
    | (refine QC.tt ?_ ?_; (focus (simp only [decide_true, Bool.and_true, Bool.and_self] <;> fail)); cbv)
    | (refine QC.ff ?_ ?_; (focus (simp only [decide_true, Bool.and_true, Bool.and_self, decide_false, Bool.false_and, reduceCtorEq, not_false_eq_true] <;> fail)); cbv)
    | (refine QC.ff (by first | omega | (dsimp only; omega) | (simp only [sm] at *; omega)) ?_; cbv)
    | (refine QC.mk (fun hc => ?_) (fun hc => ?_) <;> (try dsimp only at hc) <;> cbv)
    | (refine br_mk2 (fun hb => ?_) (fun hb => ?_) <;> (try subst hb) <;> cbv))))
        (refine qv (f.toNat, _) ⟨(by (first | omega | (simp only [cst] at *; omega) | (simp only [sm] at *; omega))), hLr⟩ ?_; cbv; (repeat' (first
    | (refine q1 (by first | exact trivial | omega | (dsimp only; omega) | exact pow62 _ (by omega) | exact mul9 (by omega) (by omega) | (simp only [sm] at *; omega)) (fun z hz => ?_); (try simp only at hz); cbv)
    | (refine rq (by first | exact trivial | omega | (dsimp only; omega) | (simp only [sm] at *; omega)) ?_; cbv)
    | (refine QC.tt (by first | omega | (dsimp only; omega) | exact rfl | (simp only [sm] at *; omega)) ?_; cbv)
    | (refine QC.tt ?_ ?_; (focus (simp only [decide_true, Bool.and_true, Bool.and_self] <;> fail)); cbv)
    | (refine QC.ff ?_ ?_; (focus (simp only [decide_true, Bool.and_true, Bool.and_self, decide_false, Bool.false_and, reduceCtorEq, not_false_eq_true] <;> fail)); cbv)
    | (refine QC.ff (by first | omega | (dsimp only; omega) | (simp only [sm] at *; omega)) ?_; cbv)
    | (refine QC.mk (fun hc => ?_) (fun hc => ?_) <;> (try dsimp only at hc) <;> cbv)
    | (refine br_mk2 (fun hb => ?_) (fun hb => ?_) <;> (try subst hb) <;> cbv))))
        (refine qv (i, _) ⟨hj, hri⟩ ?_; cbv; (repeat' (first
    | (refine q1 (by first | exact trivial | omega | (dsimp only; omega) | exact pow62 _ (by omega) | exact mul9 (by omega) (by omega) | (simp only [sm] at *; omega)) (fun z hz => ?_); (try simp only at hz); cbv)
    | (refine rq (by first | exact trivial | omega | (dsimp only; omega) | (simp only [sm] at *; omega)) ?_; cbv)
    | (refine QC.tt (by first | omega | (dsimp only; omega) | exact rfl | (simp only [sm] at *; omega)) ?_; cbv)
    | (refine QC.tt ?_ ?_; (focus (simp only [decide_true, Bool.and_true, Bool.and_self] <;> fail)); cbv)
    | (refine QC.ff ?_ ?_; (focus (simp only [decide_true, Bool.and_true, Bool.and_self, decide_false, Bool.false_and, reduceCtorEq, not_false_eq_true] <;> fail)); cbv)
    | (refine QC.ff (by first | omega | (dsimp only; omega) | (simp only [sm] at *; omega)) ?_; cbv)
    | (refine QC.mk (fun hc => ?_) (fun hc => ?_) <;> (try dsimp only at hc) <;> cbv)
    | (refine br_mk2 (fun hb => ?_) (fun hb => ?_) <;> (try subst hb) <;> cbv))))
        · have hdv : dd < v := by omega
          have hol := hql i
          rw [hqi] at hol
          dsimp only at hol
          have hzu : z = ((un + 1 : Nat) : Int) := by (first | omega | (simp only [cst] at *; omega) | (simp only [sm] at *; omega))
          refine rq (bndA (U out) _ 40 (by simp only [List.length_cons, List.length_nil]; omega)) ?_
          cbv
          (repeat' (first
    | (refine q1 (by first | exact trivial | omega | (dsimp only; omega) | exact pow62 _ (by omega) | exact mul9 (by omega) (by omega) | (simp only [sm] at *; omega)) (fun z hz => ?_); (try simp only at hz); cbv)
    | (refine rq (by first | exact trivial | omega | (dsimp only; omega) | (simp only [sm] at *; omega)) ?_; cbv)
    | (refine QC.tt (by first | omega | (dsimp only; omega) | exact rfl | (simp only [sm] at *; omega)) ?_; cbv)
    | (refine QC.tt ?_ ?_; (focus (simp only [decide_true, Bool.and_true, Bool.and_self] <;> fail)); cbv)
    | (refine QC.ff ?_ ?_; (focus (simp only [decide_true, Bool.and_true, Bool.and_self, decide_false, Bool.false_and, reduceCtorEq, not_false_eq_true] <;> fail)); cbv)
    | (refine QC.ff (by first | omega | (dsimp only; omega) | (simp only [sm] at *; omega)) ?_; cbv)
    | (refine QC.mk (fun hc => ?_) (fun hc => ?_) <;> (try dsimp only at hc) <;> cbv)
    | (refine br_mk2 (fun hb => ?_) (fun hb => ?_) <;> (try subst hb) <;> cbv)))
          refine ⟨(i + 1, z, un + 1, _, out ++ [⟨f, i, bs⟩]), ⟨by show z = ((i + 1 : Nat) : Int); (first | omega | (simp only [cst] at *; omega) | (simp only [sm] at *; omega)), by show i + 1 ≤ M.length; omega, by show q (i + 1) = _; rw [hone, if_pos hdv], hzu⟩, by show M.length - (i + 1) < M.length - i; omega, ?_⟩
          cbv
          refine ⟨?_, trivial⟩
          show Blk.row (some 3) 37 (apL (U out) [.agg [.int .i64 f, .int .i64 j, .lst none B]]) = .row (some 3) 37 (U (out ++ [⟨f, i, bs⟩]))
          rw [hj, hUs out f i bs B hB]
        · have hdv : ¬ dd < v := by omega
          rename_i zu hzu0
          have hzu : zu = ((un + 1 : Nat) : Int) := by (first | omega | (simp only [cst] at *; omega) | (simp only [sm] at *; omega))
          refine ⟨(i + 1, z, un + 1, zu, out), ⟨by show z = ((i + 1 : Nat) : Int); (first | omega | (simp only [cst] at *; omega) | (simp only [sm] at *; omega)), by show i + 1 ≤ M.length; omega, by show q (i + 1) = _; rw [hone, if_neg hdv], hzu⟩, by show M.length - (i + 1) < M.length - i; omega, ?_⟩
          cbv
          exact ⟨rfl, trivial⟩
      · skip
        obtain ⟨k2, t, hxk, ht2, hd2⟩ := hxs_one (M := M) (tx := tx) (n := i) (by (first | omega | (simp only [cst] at *; omega) | (simp only [sm] at *; omega)))
        have hk2 := (List.getElem?_eq_some_iff.1 ht2).1
        obtain ⟨ki, hki, hX0⟩ : ∃ ki : Int, ki = k2 ∧ X[0]? = some (.int .i64 ki) := ⟨_, rfl, by rw [hX, hxk]; rfl⟩
        obtain ⟨f, bs, B, htx, hB, hLi⟩ := hE k2 hk2
        have hBl : B.length = bs.length := by rw [hB, u8l_len]
        have ht3 := ht2.symm.trans htx
        injection ht3 with ht3
        subst ht3
        have htk := ht k2 _ htx
        have hf0 := ht.lo k2 _ htx
        have hfn := htk.b
        have hbl := htk.c
        dsimp only at hf0 hfn hbl
        obtain ⟨r, Rr, hr, hRr, hLr⟩ := hF f.toNat (by omega)
        have hrl := (hv.r _ _ hr).l
        have hri := row_at hRr i (by omega)
        have hlk : lk M f i = r.getD i 0 := by unfold lk; rw [hr]; rfl
        obtain ⟨v, hv0⟩ : ∃ v, v = r.getD i 0 := ⟨_, rfl⟩
        rw [← hv0] at hri hlk
        have hone := dF_one (ds := ds) hs.symm hd2
        dsimp only at hone
        rw [← hq, ← hq, hqi, hlk] at hone
        dsimp only at hone
        obtain ⟨dd, hdd⟩ : ∃ d, d = ds.getD un 0 := ⟨_, rfl⟩
        rw [← hdd] at hone
        have hud : ¬ un < ds.length := by (first | omega | (simp only [cst] at *; omega) | (simp only [sm] at *; omega))
        have hd0 : dd = 0 := by rw [hdd, List.getD_eq_getElem?_getD, List.getElem?_eq_none (by omega)]; rfl
        skip
        (refine qv (0, _) ⟨rfl, hX0⟩ ?_; cbv; (repeat' (first
    | (refine q1 (by first | exact trivial | omega | (dsimp only; omega) | exact pow62 _ (by omega) | exact mul9 (by omega) (by omega) | (simp only [sm] at *; omega)) (fun z hz => ?_); (try simp only at hz); cbv)
    | (refine rq (by first | exact trivial | omega | (dsimp only; omega) | (simp only [sm] at *; omega)) ?_; cbv)
    | (refine QC.tt (by first | omega | (dsimp only; omega) | exact rfl | (simp only [sm] at *; omega)) ?_; cbv)
    | (refine QC.tt ?_ ?_; (focus (simp only [decide_true, Bool.and_true, Bool.and_self] <;> fail)); cbv)
    | (refine QC.ff ?_ ?_; (focus (simp only [decide_true, Bool.and_true, Bool.and_self, decide_false, Bool.false_and, reduceCtorEq, not_false_eq_true] <;> fail)); cbv)
    | (refine QC.ff (by first | omega | (dsimp only; omega) | (simp only [sm] at *; omega)) ?_; cbv)
    | (refine QC.mk (fun hc => ?_) (fun hc => ?_) <;> (try dsimp only at hc) <;> cbv)
    | (refine br_mk2 (fun hb => ?_) (fun hb => ?_) <;> (try subst hb) <;> cbv))))
        (refine qv (k2, _) ⟨hki, hLi⟩ ?_; cbv; (repeat' (first
    | (refine q1 (by first | exact trivial | omega | (dsimp only; omega) | exact pow62 _ (by omega) | exact mul9 (by omega) (by omega) | (simp only [sm] at *; omega)) (fun z hz => ?_); (try simp only at hz); cbv)
    | (refine rq (by first | exact trivial | omega | (dsimp only; omega) | (simp only [sm] at *; omega)) ?_; cbv)
    | (refine QC.tt (by first | omega | (dsimp only; omega) | exact rfl | (simp only [sm] at *; omega)) ?_; cbv)
    | (refine QC.tt ?_ ?_; (focus (simp only [decide_true, Bool.and_true, Bool.and_self] <;> fail)); cbv)
    | (refine QC.ff ?_ ?_; (focus (simp only [decide_true, Bool.and_true, Bool.and_self, decide_false, Bool.false_and, reduceCtorEq, not_false_eq_true] <;> fail)); cbv)
    | (refine QC.ff (by first | omega | (dsimp only; omega) | (simp only [sm] at *; omega)) ?_; cbv)
    | (refine QC.mk (fun hc => ?_) (fun hc => ?_) <;> (try dsimp only at hc) <;> cbv)
    | (refine br_mk2 (fun hb => ?_) (fun hb => ?_) <;> (try subst hb) <;> cbv))))
        (refine qv (f.toNat, _) ⟨(by (first | omega | (simp only [cst] at *; omega) | (simp only [sm] at *; omega))), hLr⟩ ?_; cbv; (repeat' (first
    | (refine q1 (by first | exact trivial | omega | (dsimp only; omega) | exact pow62 _ (by omega) | exact mul9 (by omega) (by omega) | (simp only [sm] at *; omega)) (fun z hz => ?_); (try simp only at hz); cbv)
    | (refine rq (by first | exact trivial | omega | (dsimp only; omega) | (simp only [sm] at *; omega)) ?_; cbv)
    | (refine QC.tt (by first | omega | (dsimp only; omega) | exact rfl | (simp only [sm] at *; omega)) ?_; cbv)
    | (refine QC.tt ?_ ?_; (focus (simp only [decide_true, Bool.and_true, Bool.and_self] <;> fail)); cbv)
    | (refine QC.ff ?_ ?_; (focus (simp only [decide_true, Bool.and_true, Bool.and_self, decide_false, Bool.false_and, reduceCtorEq, not_false_eq_true] <;> fail)); cbv)
    | (refine QC.ff (by first | omega | (dsimp only; omega) | (simp only [sm] at *; omega)) ?_; cbv)
    | (refine QC.mk (fun hc => ?_) (fun hc => ?_) <;> (try dsimp only at hc) <;> cbv)
    | (refine br_mk2 (fun hb => ?_) (fun hb => ?_) <;> (try subst hb) <;> cbv))))
        (refine qv (i, _) ⟨hj, hri⟩ ?_; cbv; (repeat' (first
    | (refine q1 (by first | exact trivial | omega | (dsimp only; omega) | exact pow62 _ (by omega) | exact mul9 (by omega) (by omega) | (simp only [sm] at *; omega)) (fun z hz => ?_); (try simp only at hz); cbv)
    | (refine rq (by first | exact trivial | omega | (dsimp only; omega) | (simp only [sm] at *; omega)) ?_; cbv)
    | (refine QC.tt (by first | omega | (dsimp only; omega) | exact rfl | (simp only [sm] at *; omega)) ?_; cbv)
    | (refine QC.tt ?_ ?_; (focus (simp only [decide_true, Bool.and_true, Bool.and_self] <;> fail)); cbv)
    | (refine QC.ff ?_ ?_; (focus (simp only [decide_true, Bool.and_true, Bool.and_self, decide_false, Bool.false_and, reduceCtorEq, not_false_eq_true] <;> fail)); cbv)
    | (refine QC.ff (by first | omega | (dsimp only; omega) | (simp only [sm] at *; omega)) ?_; cbv)
    | (refine QC.mk (fun hc => ?_) (fun hc => ?_) <;> (try dsimp only at hc) <;> cbv)
    | (refine br_mk2 (fun hb => ?_) (fun hb => ?_) <;> (try subst hb) <;> cbv))))
        · have hdv : dd < v := by omega
          have hol := hql i
          rw [hqi] at hol
          dsimp only at hol
          have hzu : z = ((un + 1 : Nat) : Int) := by (first | omega | (simp only [cst] at *; omega) | (simp only [sm] at *; omega))
          refine rq (bndA (U out) _ 40 (by simp only [List.length_cons, List.length_nil]; omega)) ?_
          cbv
          (repeat' (first
    | (refine q1 (by first | exact trivial | omega | (dsimp only; omega) | exact pow62 _ (by omega) | exact mul9 (by omega) (by omega) | (simp only [sm] at *; omega)) (fun z hz => ?_); (try simp only at hz); cbv)
    | (refine rq (by first | exact trivial | omega | (dsimp only; omega) | (simp only [sm] at *; omega)) ?_; cbv)
    | (refine QC.tt (by first | omega | (dsimp only; omega) | exact rfl | (simp only [sm] at *; omega)) ?_; cbv)
    | (refine QC.tt ?_ ?_; (focus (simp only [decide_true, Bool.and_true, Bool.and_self] <;> fail)); cbv)
    | (refine QC.ff ?_ ?_; (focus (simp only [decide_true, Bool.and_true, Bool.and_self, decide_false, Bool.false_and, reduceCtorEq, not_false_eq_true] <;> fail)); cbv)
    | (refine QC.ff (by first | omega | (dsimp only; omega) | (simp only [sm] at *; omega)) ?_; cbv)
    | (refine QC.mk (fun hc => ?_) (fun hc => ?_) <;> (try dsimp only at hc) <;> cbv)
    | (refine br_mk2 (fun hb => ?_) (fun hb => ?_) <;> (try subst hb) <;> cbv)))
          refine ⟨(i + 1, z, un + 1, _, out ++ [⟨f, i, bs⟩]), ⟨by show z = ((i + 1 : Nat) : Int); (first | omega | (simp only [cst] at *; omega) | (simp only [sm] at *; omega)), by show i + 1 ≤ M.length; omega, by show q (i + 1) = _; rw [hone, if_pos hdv], hzu⟩, by show M.length - (i + 1) < M.length - i; omega, ?_⟩
          cbv
          refine ⟨?_, trivial⟩
          show Blk.row (some 3) 37 (apL (U out) [.agg [.int .i64 f, .int .i64 j, .lst none B]]) = .row (some 3) 37 (U (out ++ [⟨f, i, bs⟩]))
          rw [hj, hUs out f i bs B hB]
        · have hdv : ¬ dd < v := by omega
          rename_i zu hzu0
          have hzu : zu = ((un + 1 : Nat) : Int) := by (first | omega | (simp only [cst] at *; omega) | (simp only [sm] at *; omega))
          refine ⟨(i + 1, z, un + 1, zu, out), ⟨by show z = ((i + 1 : Nat) : Int); (first | omega | (simp only [cst] at *; omega) | (simp only [sm] at *; omega)), by show i + 1 ≤ M.length; omega, by show q (i + 1) = _; rw [hone, if_neg hdv], hzu⟩, by show M.length - (i + 1) < M.length - i; omega, ?_⟩
          cbv
          exact ⟨rfl, trivial⟩
    · have hil : i = M.length := by (first | omega | (simp only [cst] at *; omega) | (simp only [sm] at *; omega))
      subst hil
      exact ⟨by rw [hR, hqi], rfl, rfl⟩
end Go.Proofs.YtbnphjniadiclaaDoor
