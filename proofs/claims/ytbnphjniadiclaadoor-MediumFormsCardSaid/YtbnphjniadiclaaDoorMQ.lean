/- Contract of medium.Part. -/
import Derived.Test.YtbnphjniadiclaaDoorMP
namespace Go.Proofs.YtbnphjniadiclaaDoor
set_option linter.unusedVariables false
set_option linter.unusedSimpArgs false
open Go.RowKit
set_option maxHeartbeats 16000000
def nats (l : List Nat) : List SV := l.map fun k : Nat => SV.int .i64 (k : Int)
theorem nats_len (l : List Nat) : (nats l).length = l.length := by simp [nats]
theorem nats_app (l m : List Nat) : nats l ++ nats m = nats (l ++ m) := by simp [nats]
theorem nats_at {l : List Nat} {i k : Nat} (h : l[i]? = some k) : (nats l)[i]? = some (.int .i64 (k : Int)) := by simp [nats, h]
/-- The queue's row, of which a part is the queue. -/
structure QueI (C : List SV) (an nn : Nat) (U : List SV) (n : Nat) : Prop where
  l : an + nn ≤ C.length
  s : O.sg C an nn = U
  e : nn = n
theorem queI_hd {C : List SV} {an nn : Nat} {U : List SV} {n : Nat} (h : QueI C an nn U (n + 1)) {x : SV} (hx : U[0]? = some x) : C[an + 0]? = some x := by
  rw [← h.s, osg, List.getElem?_take, if_pos (by rw [h.e]; omega), List.getElem?_drop] at hx
  exact hx
theorem queI_tl {C : List SV} {an nn : Nat} {U V : List SV} {n : Nat} (h : QueI C an nn U (n + 1)) (hV : U.drop 1 = V) (a2 n2 : Nat) (ha : a2 = O.ad an 1) (hn : n2 = O.sb nn 1) : QueI C a2 n2 V n := by
  have hl := h.l
  have hnn := h.e
  have e1 : a2 = an + 1 := by rw [ha, oad]; rfl
  have e2 : n2 = nn - 1 := by rw [hn, osb]; rfl
  refine ⟨by omega, ?_, by omega⟩
  rw [← hV, ← h.s, osg, osg, e1, e2, List.drop_take, List.drop_drop]
theorem queI_app (U : List SV) (n : Nat) (h : U.length = n) : QueI U 0 n U n := ⟨by omega, by rw [osg, List.drop_zero, List.take_of_length_le (by omega)], rfl⟩
theorem bndA' (l ys : List SV) (k : Nat) (h : (l.length + ys.length) * k ≤ 140737488355328) : ((O.ln l : Int) + (O.ln ys : Int)) * (k : Int) ≤ 140737488355328 := bndA l ys k h
theorem part_c (M : List (List Int)) (W : List SV) (hW : W = matV M) (hv : VM M) (a : Nat) (ha : a < M.length) (ai : Int) (hai : ai = a) (R : List SV) (hR : R = nats (partP M a)) : Good 16 (pu [.lst none W, .int .i64 ai] (.lst none R)) := by
  have hq12 := hv.q
  have g1 := valid_c M W hW (by omega) (fun r hr => by obtain ⟨k, hk, rfl⟩ := List.mem_iff_getElem.1 hr; have := (hv.r k _ (List.getElem?_eq_getElem hk)).l; omega) true ⟨fun _ => hv, fun _ => rfl⟩
  have hWl : W.length = M.length := by rw [hW, matV_len]
  have hF := fun i hi => matV_at hW i hi
  obtain ⟨UB, hUB⟩ : ∃ U : List Bool → List SV, ∀ l, U l = l.map SV.bool := ⟨_, fun _ => rfl⟩
  obtain ⟨UQ, hUQ⟩ : ∃ U : List Nat → List SV, ∀ l, U l = nats l := ⟨_, fun _ => rfl⟩
  have hB0 : ∀ z : Int, z = M.length → O.st (O.rp z (.bool false)) a (.bool true) = UB ((List.replicate M.length false).set a true) := fun z hz => by rw [hUB, ost, orp, hz]; simp
  have hBl : ∀ l, (UB l).length = l.length := fun l => by rw [hUB]; simp
  have hBat : ∀ (l : List Bool) (i : Nat) (b : Bool), l[i]? = some b → (UB l)[i]? = some (.bool b) := fun l i b h => by rw [hUB]; simp [h]
  have hBs : ∀ l i, O.st (UB l) i (.bool true) = UB (l.set i true) := fun l i => by rw [hUB, hUB, ost]; simp [List.map_set]
  have hQ0 : [.int .i64 ai] = UQ [a] := by rw [hUQ, hai]; rfl
  have hQl : ∀ l, (UQ l).length = l.length := fun l => by rw [hUQ, nats_len]
  have hQs : ∀ l (k : Nat) (ki : Int), ki = k → apL (UQ l) [.int .i64 ki] = UQ (l ++ [k]) := fun l k ki h => by rw [apL_eq, hUQ, hUQ, h]; exact nats_app l [k]
  have hQe : [] = UQ [] := by rw [hUQ]; rfl
  have hQhd : ∀ (x : Nat) (l : List Nat), (UQ (x :: l))[0]? = some (.int .i64 (x : Int)) ∧ (UQ (x :: l)).drop 1 = UQ l := fun x l => by rw [hUQ, hUQ]; exact ⟨rfl, rfl⟩
  have hlkr : ∀ (f : Nat) (r : List Int) (k : Nat), M[f]? = some r → lk M f k = r.getD k 0 := fun f r k hr => by unfold lk; rw [Int.toNat_natCast, hr]; rfl
  rw [← hUQ] at hR
  refine Good.of Tryd.func16 rfl (by rfl) (by kernel_rfl) ?_
  cbv
  (repeat' (first
    | (refine q1 (by first | exact trivial | omega | (dsimp only; omega) | exact pow62 _ (by omega) | exact mul9 (by omega) (by omega) | (simp only [sm] at *; omega)) (fun z hz => ?_); (try simp only at hz); cbv)
    | (refine rq (by first | exact trivial | omega | (dsimp only; omega) | (simp only [sm] at *; omega)) ?_; cbv)
    | (refine QC.tt (by first | omega | (dsimp only; omega) | exact rfl | (simp only [sm] at *; omega)) ?_; cbv)
    | (refine QC.tt ?_ ?_; (focus (simp only [decide_true, Bool.and_true, Bool.and_self] <;> fail)); cbv)
    | (refine QC.ff ?_ ?_; (focus (simp only [decide_true, Bool.and_true, Bool.and_self, decide_false, Bool.false_and, reduceCtorEq, not_false_eq_true] <;> fail)); cbv)
    | (refine QC.ff (by first | omega | (dsimp only; omega) | (simp only [sm] at *; omega)) ?_; cbv)
    | (refine QC.mk (fun hc => ?_) (fun hc => ?_) <;> (try dsimp only at hc) <;> cbv)
    | (refine br_mk2 (fun hb => ?_) (fun hb => ?_) <;> (try subst hb) <;> cbv)))
  (refine callq (g1) rfl rfl ?_; cbv; (repeat' (first
    | (refine q1 (by first | exact trivial | omega | (dsimp only; omega) | exact pow62 _ (by omega) | exact mul9 (by omega) (by omega) | (simp only [sm] at *; omega)) (fun z hz => ?_); (try simp only at hz); cbv)
    | (refine rq (by first | exact trivial | omega | (dsimp only; omega) | (simp only [sm] at *; omega)) ?_; cbv)
    | (refine QC.tt (by first | omega | (dsimp only; omega) | exact rfl | (simp only [sm] at *; omega)) ?_; cbv)
    | (refine QC.tt ?_ ?_; (focus (simp only [decide_true, Bool.and_true, Bool.and_self] <;> fail)); cbv)
    | (refine QC.ff ?_ ?_; (focus (simp only [decide_true, Bool.and_true, Bool.and_self, decide_false, Bool.false_and, reduceCtorEq, not_false_eq_true] <;> fail)); cbv)
    | (refine QC.ff (by first | omega | (dsimp only; omega) | (simp only [sm] at *; omega)) ?_; cbv)
    | (refine QC.mk (fun hc => ?_) (fun hc => ?_) <;> (try dsimp only at hc) <;> cbv)
    | (refine br_mk2 (fun hb => ?_) (fun hb => ?_) <;> (try subst hb) <;> cbv))))
  (refine qv (a) (by (first | omega | (simp only [cst] at *; omega) | (simp only [sm] at *; omega))) ?_; cbv; (repeat' (first
    | (refine q1 (by first | exact trivial | omega | (dsimp only; omega) | exact pow62 _ (by omega) | exact mul9 (by omega) (by omega) | (simp only [sm] at *; omega)) (fun z hz => ?_); (try simp only at hz); cbv)
    | (refine rq (by first | exact trivial | omega | (dsimp only; omega) | (simp only [sm] at *; omega)) ?_; cbv)
    | (refine QC.tt (by first | omega | (dsimp only; omega) | exact rfl | (simp only [sm] at *; omega)) ?_; cbv)
    | (refine QC.tt ?_ ?_; (focus (simp only [decide_true, Bool.and_true, Bool.and_self] <;> fail)); cbv)
    | (refine QC.ff ?_ ?_; (focus (simp only [decide_true, Bool.and_true, Bool.and_self, decide_false, Bool.false_and, reduceCtorEq, not_false_eq_true] <;> fail)); cbv)
    | (refine QC.ff (by first | omega | (dsimp only; omega) | (simp only [sm] at *; omega)) ?_; cbv)
    | (refine QC.mk (fun hc => ?_) (fun hc => ?_) <;> (try dsimp only at hc) <;> cbv)
    | (refine br_mk2 (fun hb => ?_) (fun hb => ?_) <;> (try subst hb) <;> cbv))))
  have hb0 := hB0 z (by (first | omega | (simp only [cst] at *; omega) | (simp only [sm] at *; omega)))
  refine loopQ (A := List Bool × List Nat × List SV × Nat × Nat) (fun p => Bfs M a p.1 p.2.1 none 0 ∧ QueI p.2.2.1 p.2.2.2.1 p.2.2.2.2 (UQ p.2.1) p.2.1.length ∧ p.2.1.length + cf p.1 ≤ M.length) (fun p => 2 * cf p.1 + p.2.1.length) (fun p => [(5, .row 27), (6, .rsl 32 none p.2.2.2.1 p.2.2.2.2 none), (32, .any)]) (fun p => [(27, .row none 4 (UB p.1)), (32, .row none 3 p.2.2.1)])
    ((List.replicate M.length false).set a true, [a], UQ [a], 0, 1) ⟨bfs0 ha, queI_app _ _ (by rw [hQl]; rfl), ?_⟩ ?_ ?_
  · show 1 + cf ((List.replicate M.length false).set a true) ≤ M.length
    have h1 := cf_set (rs := List.replicate M.length false) (b := a) (by rw [List.getElem?_replicate, if_pos ha])
    have h2 : cf (List.replicate M.length false) = M.length := by unfold cf; simp
    omega
  · cbv
    refine ⟨⟨?_, trivial⟩, ?_, ?_, trivial⟩
    · show SV.rsl 32 none 0 (O.ln [SV.int .i64 ai]) none = _
      rw [oln]
      rfl
    · show Blk.row none 4 (O.st (O.rp z (.bool false)) a (.bool true)) = .row none 4 (UB ((List.replicate M.length false).set a true))
      rw [hb0]
    · show Blk.row none 3 [.int .i64 ai] = .row none 3 (UQ [a])
      rw [hQ0]
  · intro ⟨rs, q, C, an, nn⟩ hh
    have hbf : Bfs M a rs q none 0 := hh.1
    have hqi : QueI C an nn (UQ q) q.length := hh.2.1
    have hcn : q.length + cf rs ≤ M.length := hh.2.2
    clear hh
    have hmk : True := trivial
    have hbl := hBl rs
    have hrn := hbf.fn
    have hnn := hqi.e
    have hal := hqi.l
    have hql := hQl q
    have hsg := hqi.s
    cbv
    (repeat' (first
    | (refine q1 (by first | exact trivial | omega | (dsimp only; omega) | exact pow62 _ (by omega) | exact mul9 (by omega) (by omega) | (simp only [sm] at *; omega)) (fun z hz => ?_); (try simp only at hz); cbv)
    | (refine rq (by first | exact trivial | omega | (dsimp only; omega) | (simp only [sm] at *; omega)) ?_; cbv)
    | (refine QC.tt (by first | omega | (dsimp only; omega) | exact rfl | (simp only [sm] at *; omega)) ?_; cbv)
    | (refine QC.tt ?_ ?_; (focus (simp only [decide_true, Bool.and_true, Bool.and_self] <;> fail)); cbv)
    | (refine QC.ff ?_ ?_; (focus (simp only [decide_true, Bool.and_true, Bool.and_self, decide_false, Bool.false_and, reduceCtorEq, not_false_eq_true] <;> fail)); cbv)
    | (refine QC.ff (by first | omega | (dsimp only; omega) | (simp only [sm] at *; omega)) ?_; cbv)
    | (refine QC.mk (fun hc => ?_) (fun hc => ?_) <;> (try dsimp only at hc) <;> cbv)
    | (refine br_mk2 (fun hb => ?_) (fun hb => ?_) <;> (try subst hb) <;> cbv)))
    · obtain ⟨x, q', rfl⟩ : ∃ x l, q = x :: l := by
        cases q with
        | nil => simp at hnn; exfalso; (first | omega | (simp only [cst] at *; omega) | (simp only [sm] at *; omega))
        | cons x l => exact ⟨x, l, rfl⟩
      obtain ⟨xi, hxi, hx0⟩ : ∃ xi : Int, xi = x ∧ C[an + 0]? = some (.int .i64 xi) := ⟨_, rfl, queI_hd hqi (hQhd x q').1⟩
      have hlen0 : 0 < O.ln (O.sg C an nn) := by rw [hsg, oln, hql]; simp
      have hlen1 : 1 ≤ O.ln (O.sg C an nn) := hlen0
      have hbp := bfs_pop hbf
      have htl := fun a2 n2 => queI_tl hqi (hQhd x q').2 a2 n2
      have hxM : x < M.length := by have := (hbp.fe x rfl).1; have := (List.getElem?_eq_some_iff.1 this).1; omega
      obtain ⟨rx, Rx, hrx, hRx, hLx⟩ := hF x hxM
      have hrxl := (hv.r _ _ hrx).l
      refine qv 0 ⟨rfl, hlen0⟩ ?_
      cbv
      (repeat' (first
    | (refine q1 (by first | exact trivial | omega | (dsimp only; omega) | exact pow62 _ (by omega) | exact mul9 (by omega) (by omega) | (simp only [sm] at *; omega)) (fun z hz => ?_); (try simp only at hz); cbv)
    | (refine rq (by first | exact trivial | omega | (dsimp only; omega) | (simp only [sm] at *; omega)) ?_; cbv)
    | (refine QC.tt (by first | omega | (dsimp only; omega) | exact rfl | (simp only [sm] at *; omega)) ?_; cbv)
    | (refine QC.tt ?_ ?_; (focus (simp only [decide_true, Bool.and_true, Bool.and_self] <;> fail)); cbv)
    | (refine QC.ff ?_ ?_; (focus (simp only [decide_true, Bool.and_true, Bool.and_self, decide_false, Bool.false_and, reduceCtorEq, not_false_eq_true] <;> fail)); cbv)
    | (refine QC.ff (by first | omega | (dsimp only; omega) | (simp only [sm] at *; omega)) ?_; cbv)
    | (refine QC.mk (fun hc => ?_) (fun hc => ?_) <;> (try dsimp only at hc) <;> cbv)
    | (refine br_mk2 (fun hb => ?_) (fun hb => ?_) <;> (try subst hb) <;> cbv)))
      refine qv _ hx0 ?_
      cbv
      (repeat' (first
    | (refine q1 (by first | exact trivial | omega | (dsimp only; omega) | exact pow62 _ (by omega) | exact mul9 (by omega) (by omega) | (simp only [sm] at *; omega)) (fun z hz => ?_); (try simp only at hz); cbv)
    | (refine rq (by first | exact trivial | omega | (dsimp only; omega) | (simp only [sm] at *; omega)) ?_; cbv)
    | (refine QC.tt (by first | omega | (dsimp only; omega) | exact rfl | (simp only [sm] at *; omega)) ?_; cbv)
    | (refine QC.tt ?_ ?_; (focus (simp only [decide_true, Bool.and_true, Bool.and_self] <;> fail)); cbv)
    | (refine QC.ff ?_ ?_; (focus (simp only [decide_true, Bool.and_true, Bool.and_self, decide_false, Bool.false_and, reduceCtorEq, not_false_eq_true] <;> fail)); cbv)
    | (refine QC.ff (by first | omega | (dsimp only; omega) | (simp only [sm] at *; omega)) ?_; cbv)
    | (refine QC.mk (fun hc => ?_) (fun hc => ?_) <;> (try dsimp only at hc) <;> cbv)
    | (refine br_mk2 (fun hb => ?_) (fun hb => ?_) <;> (try subst hb) <;> cbv)))
      have hqlen : (x :: q').length = q'.length + 1 := rfl
      refine loopQ (A := Nat × Int × List Bool × List Nat × List SV × Nat × Nat) (fun p => p.2.1 = p.1 ∧ p.1 ≤ M.length ∧ Bfs M a p.2.2.1 p.2.2.2.1 (some x) p.1 ∧ QueI p.2.2.2.2.1 p.2.2.2.2.2.1 p.2.2.2.2.2.2 (UQ p.2.2.2.1) p.2.2.2.1.length ∧ p.2.2.2.1.length + cf p.2.2.1 + 1 ≤ M.length ∧ 2 * cf p.2.2.1 + p.2.2.2.1.length < 2 * cf rs + (q'.length + 1)) (fun p => M.length - p.1)
        (fun p => [(43, .int .i64 p.2.1), (5, .row 27), (6, .rsl 32 none p.2.2.2.2.2.1 p.2.2.2.2.2.2 none), (33, .any), (36, .any), (37, .any), (39, .any), (40, .any)]) (fun p => [(27, .row none 4 (UB p.2.2.1)), (32, .row none 3 p.2.2.2.2.1)])
        (0, 0, rs, q', C, O.ad an 1, O.sb nn 1) ⟨rfl, Nat.zero_le _, hbp, htl _ _ rfl rfl, by show q'.length + cf rs + 1 ≤ M.length; omega, by show 2 * cf rs + q'.length < _; omega⟩ ?_ ?_
      · cbv
        exact ⟨rfl, trivial⟩
      · intro ⟨b, jb, rs2, q2, C2, an2, nn2⟩ hh
        have hjb : jb = (b : Int) := hh.1
        have hb : b ≤ M.length := hh.2.1
        have hbf2 : Bfs M a rs2 q2 (some x) b := hh.2.2.1
        have hqi2 : QueI C2 an2 nn2 (UQ q2) q2.length := hh.2.2.2.1
        have hcn2 : q2.length + cf rs2 + 1 ≤ M.length := hh.2.2.2.2.1
        have hms2 : 2 * cf rs2 + q2.length < 2 * cf rs + (q'.length + 1) := hh.2.2.2.2.2
        clear hh
        have hmk : True := trivial
        have hbl2 := hBl rs2
        have hrn2 := hbf2.fn
        have hnn2 := hqi2.e
        have hal2 := hqi2.l
        have hql2 := hQl q2
        have hsg2 := hqi2.s
        cbv
        (repeat' (first
    | (refine q1 (by first | exact trivial | omega | (dsimp only; omega) | exact pow62 _ (by omega) | exact mul9 (by omega) (by omega) | (simp only [sm] at *; omega)) (fun z hz => ?_); (try simp only at hz); cbv)
    | (refine rq (by first | exact trivial | omega | (dsimp only; omega) | (simp only [sm] at *; omega)) ?_; cbv)
    | (refine QC.tt (by first | omega | (dsimp only; omega) | exact rfl | (simp only [sm] at *; omega)) ?_; cbv)
    | (refine QC.tt ?_ ?_; (focus (simp only [decide_true, Bool.and_true, Bool.and_self] <;> fail)); cbv)
    | (refine QC.ff ?_ ?_; (focus (simp only [decide_true, Bool.and_true, Bool.and_self, decide_false, Bool.false_and, reduceCtorEq, not_false_eq_true] <;> fail)); cbv)
    | (refine QC.ff (by first | omega | (dsimp only; omega) | (simp only [sm] at *; omega)) ?_; cbv)
    | (refine QC.mk (fun hc => ?_) (fun hc => ?_) <;> (try dsimp only at hc) <;> cbv)
    | (refine br_mk2 (fun hb => ?_) (fun hb => ?_) <;> (try subst hb) <;> cbv)))
        · have hbM : b < M.length := by (first | omega | (simp only [cst] at *; omega) | (simp only [sm] at *; omega))
          obtain ⟨rb, hrb⟩ : ∃ r, rs2[b]? = some r := ⟨rs2[b]'(by omega), List.getElem?_eq_getElem (by omega)⟩
          have hga := hBat rs2 b rb hrb
          obtain ⟨ry, Ry, hry, hRy, hLy⟩ := hF b hbM
          have hryl := (hv.r _ _ hry).l
          have e1 := hlkr x rx b hrx
          have e2 := hlkr b ry x hry
          obtain ⟨v1, hv1, hri1⟩ : ∃ v, v = rx.getD b 0 ∧ Rx[b]? = some (.int .i64 v) := ⟨_, rfl, row_at hRx b (by omega)⟩
          obtain ⟨v2, hv2, hri2⟩ : ∃ v, v = ry.getD x 0 ∧ Ry[x]? = some (.int .i64 v) := ⟨_, rfl, row_at hRy x (by omega)⟩
          rw [← hv1] at e1
          rw [← hv2] at e2
          (refine qv (b) (by (first | omega | (simp only [cst] at *; omega) | (simp only [sm] at *; omega))) ?_; cbv; (repeat' (first
    | (refine q1 (by first | exact trivial | omega | (dsimp only; omega) | exact pow62 _ (by omega) | exact mul9 (by omega) (by omega) | (simp only [sm] at *; omega)) (fun z hz => ?_); (try simp only at hz); cbv)
    | (refine rq (by first | exact trivial | omega | (dsimp only; omega) | (simp only [sm] at *; omega)) ?_; cbv)
    | (refine QC.tt (by first | omega | (dsimp only; omega) | exact rfl | (simp only [sm] at *; omega)) ?_; cbv)
    | (refine QC.tt ?_ ?_; (focus (simp only [decide_true, Bool.and_true, Bool.and_self] <;> fail)); cbv)
    | (refine QC.ff ?_ ?_; (focus (simp only [decide_true, Bool.and_true, Bool.and_self, decide_false, Bool.false_and, reduceCtorEq, not_false_eq_true] <;> fail)); cbv)
    | (refine QC.ff (by first | omega | (dsimp only; omega) | (simp only [sm] at *; omega)) ?_; cbv)
    | (refine QC.mk (fun hc => ?_) (fun hc => ?_) <;> (try dsimp only at hc) <;> cbv)
    | (refine br_mk2 (fun hb => ?_) (fun hb => ?_) <;> (try subst hb) <;> cbv))))
          (refine qv _ (hga) ?_; cbv; (repeat' (first
    | (refine q1 (by first | exact trivial | omega | (dsimp only; omega) | exact pow62 _ (by omega) | exact mul9 (by omega) (by omega) | (simp only [sm] at *; omega)) (fun z hz => ?_); (try simp only at hz); cbv)
    | (refine rq (by first | exact trivial | omega | (dsimp only; omega) | (simp only [sm] at *; omega)) ?_; cbv)
    | (refine QC.tt (by first | omega | (dsimp only; omega) | exact rfl | (simp only [sm] at *; omega)) ?_; cbv)
    | (refine QC.tt ?_ ?_; (focus (simp only [decide_true, Bool.and_true, Bool.and_self] <;> fail)); cbv)
    | (refine QC.ff ?_ ?_; (focus (simp only [decide_true, Bool.and_true, Bool.and_self, decide_false, Bool.false_and, reduceCtorEq, not_false_eq_true] <;> fail)); cbv)
    | (refine QC.ff (by first | omega | (dsimp only; omega) | (simp only [sm] at *; omega)) ?_; cbv)
    | (refine QC.mk (fun hc => ?_) (fun hc => ?_) <;> (try dsimp only at hc) <;> cbv)
    | (refine br_mk2 (fun hb => ?_) (fun hb => ?_) <;> (try subst hb) <;> cbv))))
          · refine ⟨(b + 1, z, rs2, q2, C2, an2, nn2), ⟨by show z = ((b + 1 : Nat) : Int); (first | omega | (simp only [cst] at *; omega) | (simp only [sm] at *; omega)), by show b + 1 ≤ M.length; omega, bfs_skip hbf2 (.inl hrb), hqi2, hcn2, hms2⟩, by show M.length - (b + 1) < M.length - b; omega, ?_⟩
            cbv
            exact ⟨rfl, trivial⟩
          · (refine qv (x, _) ⟨hxi, hLx⟩ ?_; cbv; (repeat' (first
    | (refine q1 (by first | exact trivial | omega | (dsimp only; omega) | exact pow62 _ (by omega) | exact mul9 (by omega) (by omega) | (simp only [sm] at *; omega)) (fun z hz => ?_); (try simp only at hz); cbv)
    | (refine rq (by first | exact trivial | omega | (dsimp only; omega) | (simp only [sm] at *; omega)) ?_; cbv)
    | (refine QC.tt (by first | omega | (dsimp only; omega) | exact rfl | (simp only [sm] at *; omega)) ?_; cbv)
    | (refine QC.tt ?_ ?_; (focus (simp only [decide_true, Bool.and_true, Bool.and_self] <;> fail)); cbv)
    | (refine QC.ff ?_ ?_; (focus (simp only [decide_true, Bool.and_true, Bool.and_self, decide_false, Bool.false_and, reduceCtorEq, not_false_eq_true] <;> fail)); cbv)
    | (refine QC.ff (by first | omega | (dsimp only; omega) | (simp only [sm] at *; omega)) ?_; cbv)
    | (refine QC.mk (fun hc => ?_) (fun hc => ?_) <;> (try dsimp only at hc) <;> cbv)
    | (refine br_mk2 (fun hb => ?_) (fun hb => ?_) <;> (try subst hb) <;> cbv))))
            (refine qv (b, _) ⟨hjb, hri1⟩ ?_; cbv; (repeat' (first
    | (refine q1 (by first | exact trivial | omega | (dsimp only; omega) | exact pow62 _ (by omega) | exact mul9 (by omega) (by omega) | (simp only [sm] at *; omega)) (fun z hz => ?_); (try simp only at hz); cbv)
    | (refine rq (by first | exact trivial | omega | (dsimp only; omega) | (simp only [sm] at *; omega)) ?_; cbv)
    | (refine QC.tt (by first | omega | (dsimp only; omega) | exact rfl | (simp only [sm] at *; omega)) ?_; cbv)
    | (refine QC.tt ?_ ?_; (focus (simp only [decide_true, Bool.and_true, Bool.and_self] <;> fail)); cbv)
    | (refine QC.ff ?_ ?_; (focus (simp only [decide_true, Bool.and_true, Bool.and_self, decide_false, Bool.false_and, reduceCtorEq, not_false_eq_true] <;> fail)); cbv)
    | (refine QC.ff (by first | omega | (dsimp only; omega) | (simp only [sm] at *; omega)) ?_; cbv)
    | (refine QC.mk (fun hc => ?_) (fun hc => ?_) <;> (try dsimp only at hc) <;> cbv)
    | (refine br_mk2 (fun hb => ?_) (fun hb => ?_) <;> (try subst hb) <;> cbv))))
            · (refine qv (b, _) ⟨hjb, hLy⟩ ?_; cbv; (repeat' (first
    | (refine q1 (by first | exact trivial | omega | (dsimp only; omega) | exact pow62 _ (by omega) | exact mul9 (by omega) (by omega) | (simp only [sm] at *; omega)) (fun z hz => ?_); (try simp only at hz); cbv)
    | (refine rq (by first | exact trivial | omega | (dsimp only; omega) | (simp only [sm] at *; omega)) ?_; cbv)
    | (refine QC.tt (by first | omega | (dsimp only; omega) | exact rfl | (simp only [sm] at *; omega)) ?_; cbv)
    | (refine QC.tt ?_ ?_; (focus (simp only [decide_true, Bool.and_true, Bool.and_self] <;> fail)); cbv)
    | (refine QC.ff ?_ ?_; (focus (simp only [decide_true, Bool.and_true, Bool.and_self, decide_false, Bool.false_and, reduceCtorEq, not_false_eq_true] <;> fail)); cbv)
    | (refine QC.ff (by first | omega | (dsimp only; omega) | (simp only [sm] at *; omega)) ?_; cbv)
    | (refine QC.mk (fun hc => ?_) (fun hc => ?_) <;> (try dsimp only at hc) <;> cbv)
    | (refine br_mk2 (fun hb => ?_) (fun hb => ?_) <;> (try subst hb) <;> cbv))))
              (refine qv (x, _) ⟨hxi, hri2⟩ ?_; cbv; (repeat' (first
    | (refine q1 (by first | exact trivial | omega | (dsimp only; omega) | exact pow62 _ (by omega) | exact mul9 (by omega) (by omega) | (simp only [sm] at *; omega)) (fun z hz => ?_); (try simp only at hz); cbv)
    | (refine rq (by first | exact trivial | omega | (dsimp only; omega) | (simp only [sm] at *; omega)) ?_; cbv)
    | (refine QC.tt (by first | omega | (dsimp only; omega) | exact rfl | (simp only [sm] at *; omega)) ?_; cbv)
    | (refine QC.tt ?_ ?_; (focus (simp only [decide_true, Bool.and_true, Bool.and_self] <;> fail)); cbv)
    | (refine QC.ff ?_ ?_; (focus (simp only [decide_true, Bool.and_true, Bool.and_self, decide_false, Bool.false_and, reduceCtorEq, not_false_eq_true] <;> fail)); cbv)
    | (refine QC.ff (by first | omega | (dsimp only; omega) | (simp only [sm] at *; omega)) ?_; cbv)
    | (refine QC.mk (fun hc => ?_) (fun hc => ?_) <;> (try dsimp only at hc) <;> cbv)
    | (refine br_mk2 (fun hb => ?_) (fun hb => ?_) <;> (try subst hb) <;> cbv))))
              · have had : adj M x b := ⟨by rw [e1]; (first | omega | (simp only [cst] at *; omega) | (simp only [sm] at *; omega)), by rw [e2]; (first | omega | (simp only [cst] at *; omega) | (simp only [sm] at *; omega))⟩
                have hmk2 := bfs_mark hbf2 hbM had
                have hcf := cf_set hrb
                (refine qv (b) (by (first | omega | (simp only [cst] at *; omega) | (simp only [sm] at *; omega))) ?_; cbv; (repeat' (first
    | (refine q1 (by first | exact trivial | omega | (dsimp only; omega) | exact pow62 _ (by omega) | exact mul9 (by omega) (by omega) | (simp only [sm] at *; omega)) (fun z hz => ?_); (try simp only at hz); cbv)
    | (refine rq (by first | exact trivial | omega | (dsimp only; omega) | (simp only [sm] at *; omega)) ?_; cbv)
    | (refine QC.tt (by first | omega | (dsimp only; omega) | exact rfl | (simp only [sm] at *; omega)) ?_; cbv)
    | (refine QC.tt ?_ ?_; (focus (simp only [decide_true, Bool.and_true, Bool.and_self] <;> fail)); cbv)
    | (refine QC.ff ?_ ?_; (focus (simp only [decide_true, Bool.and_true, Bool.and_self, decide_false, Bool.false_and, reduceCtorEq, not_false_eq_true] <;> fail)); cbv)
    | (refine QC.ff (by first | omega | (dsimp only; omega) | (simp only [sm] at *; omega)) ?_; cbv)
    | (refine QC.mk (fun hc => ?_) (fun hc => ?_) <;> (try dsimp only at hc) <;> cbv)
    | (refine br_mk2 (fun hb => ?_) (fun hb => ?_) <;> (try subst hb) <;> cbv))))
                obtain ⟨ln2, hln2⟩ : ∃ n, n = (q2 ++ [b]).length := ⟨_, rfl⟩
                refine ⟨(b + 1, z, rs2.set b true, q2 ++ [b], UQ (q2 ++ [b]), 0, ln2), ⟨by show z = ((b + 1 : Nat) : Int); (first | omega | (simp only [cst] at *; omega) | (simp only [sm] at *; omega)), by show b + 1 ≤ M.length; omega, hmk2, by show QueI (UQ (q2 ++ [b])) 0 ln2 (UQ (q2 ++ [b])) (q2 ++ [b]).length; rw [hln2]; exact queI_app _ _ (hQl _), by show (q2 ++ [b]).length + cf (rs2.set b true) + 1 ≤ M.length; rw [List.length_append, List.length_singleton]; omega, by show 2 * cf (rs2.set b true) + (q2 ++ [b]).length < _; rw [List.length_append, List.length_singleton]; omega⟩, by show M.length - (b + 1) < M.length - b; omega, ?_⟩
                have hbs := hBs rs2 b
                have hqs := hQs q2 b jb hjb
                have hq3 := hQl (q2 ++ [b])
                cbv
                refine ⟨⟨?_, trivial⟩, ?_, ?_, trivial⟩
                · show SV.rsl 32 none 0 (O.ln (apL (O.sg C2 an2 nn2) [.int .i64 jb])) none = SV.rsl 32 none 0 ln2 none
                  rw [hsg2, hqs, oln, hq3, hln2]
                · show Blk.row none 4 (O.st (UB rs2) b (.bool true)) = .row none 4 (UB (rs2.set b true))
                  rw [hbs]
                · show Blk.row none 3 (apL (O.sg C2 an2 nn2) [.int .i64 jb]) = .row none 3 (UQ (q2 ++ [b]))
                  rw [hsg2, hqs]
              · refine ⟨(b + 1, z, rs2, q2, C2, an2, nn2), ⟨by show z = ((b + 1 : Nat) : Int); (first | omega | (simp only [cst] at *; omega) | (simp only [sm] at *; omega)), by show b + 1 ≤ M.length; omega, bfs_skip hbf2 (.inr (fun h => by have := h.2; rw [e2] at this; (first | omega | (simp only [cst] at *; omega) | (simp only [sm] at *; omega)))), hqi2, hcn2, hms2⟩, by show M.length - (b + 1) < M.length - b; omega, ?_⟩
                cbv
                exact ⟨rfl, trivial⟩
            · refine ⟨(b + 1, z, rs2, q2, C2, an2, nn2), ⟨by show z = ((b + 1 : Nat) : Int); (first | omega | (simp only [cst] at *; omega) | (simp only [sm] at *; omega)), by show b + 1 ≤ M.length; omega, bfs_skip hbf2 (.inr (fun h => by have := h.1; rw [e1] at this; (first | omega | (simp only [cst] at *; omega) | (simp only [sm] at *; omega)))), hqi2, hcn2, hms2⟩, by show M.length - (b + 1) < M.length - b; omega, ?_⟩
              cbv
              exact ⟨rfl, trivial⟩
        · have e : b = M.length := by (first | omega | (simp only [cst] at *; omega) | (simp only [sm] at *; omega))
          rw [e] at hbf2
          refine ⟨(rs2, q2, C2, an2, nn2), ⟨bfs_done hbf2, hqi2, by show q2.length + cf rs2 ≤ M.length; omega⟩, by show 2 * cf rs2 + q2.length < 2 * cf rs + (q'.length + 1); omega, ?_⟩
          cbv
          exact ⟨rfl, trivial⟩
    · have hq0 : q = [] := by
        cases q with
        | nil => rfl
        | cons x l => simp at hnn; exfalso; (first | omega | (simp only [cst] at *; omega) | (simp only [sm] at *; omega))
      subst hq0
      refine loopQ (A := Nat × Int) (fun p => p.2 = p.1 ∧ p.1 ≤ M.length) (fun p => M.length - p.1) (fun p => [(81, .int .i64 p.2), (9, .row 9)]) (fun p => [(9, .row none 3 (UQ (partB rs p.1)))]) (0, 0) ⟨rfl, Nat.zero_le _⟩ ?_ ?_
      · cbv
        refine ⟨?_, trivial⟩
        show Blk.row none 3 [] = .row none 3 (UQ [])
        rw [← hQe]
      · intro ⟨i, j⟩ hh
        have hj : j = (i : Int) := hh.1
        have hi : i ≤ M.length := hh.2
        clear hh
        have hmk : True := trivial
        have hpl := hQl (partB rs i)
        have hpb := partB_len rs i
        cbv
        (repeat' (first
    | (refine q1 (by first | exact trivial | omega | (dsimp only; omega) | exact pow62 _ (by omega) | exact mul9 (by omega) (by omega) | (simp only [sm] at *; omega)) (fun z hz => ?_); (try simp only at hz); cbv)
    | (refine rq (by first | exact trivial | omega | (dsimp only; omega) | (simp only [sm] at *; omega)) ?_; cbv)
    | (refine QC.tt (by first | omega | (dsimp only; omega) | exact rfl | (simp only [sm] at *; omega)) ?_; cbv)
    | (refine QC.tt ?_ ?_; (focus (simp only [decide_true, Bool.and_true, Bool.and_self] <;> fail)); cbv)
    | (refine QC.ff ?_ ?_; (focus (simp only [decide_true, Bool.and_true, Bool.and_self, decide_false, Bool.false_and, reduceCtorEq, not_false_eq_true] <;> fail)); cbv)
    | (refine QC.ff (by first | omega | (dsimp only; omega) | (simp only [sm] at *; omega)) ?_; cbv)
    | (refine QC.mk (fun hc => ?_) (fun hc => ?_) <;> (try dsimp only at hc) <;> cbv)
    | (refine br_mk2 (fun hb => ?_) (fun hb => ?_) <;> (try subst hb) <;> cbv)))
        · have hiM : i < M.length := by (first | omega | (simp only [cst] at *; omega) | (simp only [sm] at *; omega))
          obtain ⟨rb, hrb⟩ : ∃ r, rs[i]? = some r := ⟨rs[i]'(by omega), List.getElem?_eq_getElem (by omega)⟩
          have hga := hBat rs i rb hrb
          have hps := partB_succ rs i
          have hgd : rs.getD i false = rb := by rw [List.getD_eq_getElem?_getD, hrb]; rfl
          rw [hgd] at hps
          (refine qv (i) (by (first | omega | (simp only [cst] at *; omega) | (simp only [sm] at *; omega))) ?_; cbv; (repeat' (first
    | (refine q1 (by first | exact trivial | omega | (dsimp only; omega) | exact pow62 _ (by omega) | exact mul9 (by omega) (by omega) | (simp only [sm] at *; omega)) (fun z hz => ?_); (try simp only at hz); cbv)
    | (refine rq (by first | exact trivial | omega | (dsimp only; omega) | (simp only [sm] at *; omega)) ?_; cbv)
    | (refine QC.tt (by first | omega | (dsimp only; omega) | exact rfl | (simp only [sm] at *; omega)) ?_; cbv)
    | (refine QC.tt ?_ ?_; (focus (simp only [decide_true, Bool.and_true, Bool.and_self] <;> fail)); cbv)
    | (refine QC.ff ?_ ?_; (focus (simp only [decide_true, Bool.and_true, Bool.and_self, decide_false, Bool.false_and, reduceCtorEq, not_false_eq_true] <;> fail)); cbv)
    | (refine QC.ff (by first | omega | (dsimp only; omega) | (simp only [sm] at *; omega)) ?_; cbv)
    | (refine QC.mk (fun hc => ?_) (fun hc => ?_) <;> (try dsimp only at hc) <;> cbv)
    | (refine br_mk2 (fun hb => ?_) (fun hb => ?_) <;> (try subst hb) <;> cbv))))
          (refine qv _ (hga) ?_; cbv; (repeat' (first
    | (refine q1 (by first | exact trivial | omega | (dsimp only; omega) | exact pow62 _ (by omega) | exact mul9 (by omega) (by omega) | (simp only [sm] at *; omega)) (fun z hz => ?_); (try simp only at hz); cbv)
    | (refine rq (by first | exact trivial | omega | (dsimp only; omega) | (simp only [sm] at *; omega)) ?_; cbv)
    | (refine QC.tt (by first | omega | (dsimp only; omega) | exact rfl | (simp only [sm] at *; omega)) ?_; cbv)
    | (refine QC.tt ?_ ?_; (focus (simp only [decide_true, Bool.and_true, Bool.and_self] <;> fail)); cbv)
    | (refine QC.ff ?_ ?_; (focus (simp only [decide_true, Bool.and_true, Bool.and_self, decide_false, Bool.false_and, reduceCtorEq, not_false_eq_true] <;> fail)); cbv)
    | (refine QC.ff (by first | omega | (dsimp only; omega) | (simp only [sm] at *; omega)) ?_; cbv)
    | (refine QC.mk (fun hc => ?_) (fun hc => ?_) <;> (try dsimp only at hc) <;> cbv)
    | (refine br_mk2 (fun hb => ?_) (fun hb => ?_) <;> (try subst hb) <;> cbv))))
          · rw [if_pos rfl] at hps
            have hqs := hQs (partB rs i) i j hj
            refine ⟨(i + 1, z), ⟨by show z = ((i + 1 : Nat) : Int); (first | omega | (simp only [cst] at *; omega) | (simp only [sm] at *; omega)), by show i + 1 ≤ M.length; omega⟩, by show M.length - (i + 1) < M.length - i; omega, ?_⟩
            cbv
            refine ⟨?_, trivial⟩
            show Blk.row none 3 (apL (UQ (partB rs i)) [.int .i64 j]) = .row none 3 (UQ (partB rs (i + 1)))
            rw [hps, hqs]
          · rw [if_neg (by simp)] at hps
            refine ⟨(i + 1, z), ⟨by show z = ((i + 1 : Nat) : Int); (first | omega | (simp only [cst] at *; omega) | (simp only [sm] at *; omega)), by show i + 1 ≤ M.length; omega⟩, by show M.length - (i + 1) < M.length - i; omega, ?_⟩
            cbv
            refine ⟨?_, trivial⟩
            show Blk.row none 3 (UQ (partB rs i)) = .row none 3 (UQ (partB rs (i + 1)))
            rw [hps]
        · have e : i = M.length := by (first | omega | (simp only [cst] at *; omega) | (simp only [sm] at *; omega))
          subst e
          refine ⟨?_, rfl, rfl⟩
          rw [hR, ← partB_end hbf]
end Go.Proofs.YtbnphjniadiclaaDoor
