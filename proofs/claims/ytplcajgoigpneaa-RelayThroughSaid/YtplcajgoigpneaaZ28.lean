/- Texts put together: PB. -/
import Derived.Test.YtplcajgoigpneaaZ27
namespace Go.Proofs.Ytplcajgoigpneaa
set_option linter.unusedVariables false
set_option linter.unusedSimpArgs false
open Go.RowKit
set_option maxHeartbeats 8000000
theorem overlap_c (n1 t1 a1 n2 t2 a2 : Int) (X Y : List SV) (r : Bool) (ha : 0 ≤ a1 ∧ a1 ≤ 2047 ∧ 0 ≤ a2 ∧ a2 ≤ 2047) (hX : X.length ≤ 140737488352000) (hY : Y.length ≤ 140737488352000) (hr : r = decide (a1 < a2 + Y.length ∧ a2 < a1 + X.length)) :
    Good 56 (pu [.agg [.int .i64 n1, .int .u16 t1, .int .i64 a1, .lst none X], .agg [.int .i64 n2, .int .u16 t2, .int .i64 a2, .lst none Y]] (.bool r)) := by
  refine Good.of Try.func56 rfl (by rfl) (by kernel_rfl) ?_
  cbv
  (repeat' (first
| (refine q1w (fun z hz => ?_); (try simp only at hz); cbv)
| (refine rqw ?_; cbv)
| (refine rq (show kfitQ _ _ from by simp [kfitQ, IntKind.min, IntKind.max, IntKind.signed, IntKind.bits]; omega) ?_; cbv)
| (refine chpA ?_; cbv)
| (refine QC.tw ?_; cbv)
| (refine QC.tt ?_ ?_; (focus (simp only [decide_true, Bool.and_true, Bool.and_self] <;> fail)); cbv)
| (refine QC.ff ?_ ?_; (focus (simp only [decide_true, Bool.and_true, Bool.and_self, decide_false, Bool.false_and, reduceCtorEq, not_false_eq_true] <;> fail)); cbv)
| (refine QC.fw ?_; cbv)
| (refine QC.mk (fun hc => ?_) (fun hc => ?_) <;> (try dsimp only at hc) <;> cbv)
| (refine br_mk2 (fun hb => ?_) (fun hb => ?_) <;> (try subst hb) <;> cbv)))
  all_goals refine ⟨?_, rfl, rfl⟩
  all_goals rw [hr]
  all_goals first | (rw [decide_eq_true (by (first | omega | (simp only [cst] at *; omega) | (simp only [sm] at *; omega)))]) | (rw [decide_eq_false (by (first | omega | (simp only [cst] at *; omega) | (simp only [sm] at *; omega)))])
theorem bsame_c (a b c d e f t n u1 u2 : Int) (P Q : List SV) : Good 48 (pu [.agg [.int .i64 a, .int .u16 b, .int .u64 c, .int .i64 d, .int .u16 e, .int .u64 f, .int .u16 t, .int .i64 n, .lst (some 4) P, .int .i64 u1], .agg [.int .i64 a, .int .u16 b, .int .u64 c, .int .i64 d, .int .u16 e, .int .u64 f, .int .u16 t, .int .i64 n, .lst (some 4) Q, .int .i64 u2]] (.bool true)) := by
  refine Good.of Try.func48 rfl (by rfl) (by kernel_rfl) ?_
  cbv
  (repeat' (first
| (refine q1w (fun z hz => ?_); (try simp only at hz); cbv)
| (refine rqw ?_; cbv)
| (refine rq (show kfitQ _ _ from by simp [kfitQ, IntKind.min, IntKind.max, IntKind.signed, IntKind.bits]; omega) ?_; cbv)
| (refine chpA ?_; cbv)
| (refine QC.tw ?_; cbv)
| (refine QC.tt ?_ ?_; (focus (simp only [decide_true, Bool.and_true, Bool.and_self] <;> fail)); cbv)
| (refine QC.ff ?_ ?_; (focus (simp only [decide_true, Bool.and_true, Bool.and_self, decide_false, Bool.false_and, reduceCtorEq, not_false_eq_true] <;> fail)); cbv)
| (refine QC.fw ?_; cbv)
| (refine QC.mk (fun hc => ?_) (fun hc => ?_) <;> (try dsimp only at hc) <;> cbv)
| (refine br_mk2 (fun hb => ?_) (fun hb => ?_) <;> (try subst hb) <;> cbv)))
  exact ⟨rfl, rfl, rfl⟩
theorem fr_at {fs : List Fr} {L : List SV} (hL : L = frL fs) (i : Nat) (hi : i < fs.length) : ∃ (n t a : Int) (b : List UInt8) (X : List SV), fs[i]? = some ⟨n, t, a, b⟩ ∧ X = u8l b ∧ L[i]? = some (.agg [.int .i64 n, .int .u16 t, .int .i64 a, .lst none X]) :=
  ⟨fs[i].n, fs[i].t, fs[i].a, fs[i].b, _, List.getElem?_eq_getElem hi, rfl, by rw [hL]; simp [frL, hi, Fr.v]⟩
theorem copied_c (fs : List Fr) (L : List SV) (hL : L = frL fs) (hl : fs.length ≤ 2047) (hb : ∀ f ∈ fs, f.b.length ≤ 2047) : Good 47 (nu [.lst (some 4) L] (.row 1) (.row (some 4) 31 L)) := by
  have hLl : L.length = fs.length := by rw [hL]; simp [frL]
  have hE := fun i hi => fr_at hL i hi
  obtain ⟨U, hU⟩ : ∃ U : Nat → List SV, ∀ i, U i = L.take i := ⟨fun i => L.take i, fun _ => rfl⟩
  have U0 : U 0 = [] := by rw [hU]; rfl
  have hUl : ∀ i, (U i).length ≤ i := fun i => by rw [hU, List.length_take]; omega
  have hUs : ∀ (i : Nat) (x : SV), L[i]? = some x → apL (U i) [x] = U (i + 1) := fun i x hx => by rw [apL_eq, hU, hU, List.take_add_one, hx]; rfl
  have Un : U fs.length = L := by rw [hU, ← hLl, List.take_length]
  have hB : ∀ (i : Nat) (f : Fr), fs[i]? = some f → f.b.length ≤ 2047 := fun i f h => hb f (List.mem_of_getElem? h)
  clear hL hU
  refine Good.of Try.func47 rfl (by rfl) (by kernel_rfl) ?_
  cbv
  (repeat' (first
| (refine q1w (fun z hz => ?_); (try simp only at hz); cbv)
| (refine rqw ?_; cbv)
| (refine rq (show kfitQ _ _ from by simp [kfitQ, IntKind.min, IntKind.max, IntKind.signed, IntKind.bits]; omega) ?_; cbv)
| (refine chpA ?_; cbv)
| (refine QC.tw ?_; cbv)
| (refine QC.tt ?_ ?_; (focus (simp only [decide_true, Bool.and_true, Bool.and_self] <;> fail)); cbv)
| (refine QC.ff ?_ ?_; (focus (simp only [decide_true, Bool.and_true, Bool.and_self, decide_false, Bool.false_and, reduceCtorEq, not_false_eq_true] <;> fail)); cbv)
| (refine QC.fw ?_; cbv)
| (refine QC.mk (fun hc => ?_) (fun hc => ?_) <;> (try dsimp only at hc) <;> cbv)
| (refine br_mk2 (fun hb => ?_) (fun hb => ?_) <;> (try subst hb) <;> cbv)))
  refine loopQ (A := Nat × Int) (fun p => p.2 = p.1 ∧ p.1 ≤ fs.length) (fun p => fs.length - p.1) (fun p => [(4, .int .i64 p.2), (3, .row 3)]) (fun p => [(3, .row (some 4) 31 (U p.1)), (5, .no)]) (0, 0) ⟨rfl, Nat.zero_le _⟩ ?_ ?_
  · cbv
    rw [U0]
    exact ⟨rfl, trivial⟩
  · intro ⟨i, j⟩ hh
    have hj : j = (i : Int) := hh.1
    have hi : i ≤ fs.length := hh.2
    clear hh
    have hUi := hUl i
    have hmk : True := trivial
    cbv
    (repeat' (first
| (refine q1w (fun z hz => ?_); (try simp only at hz); cbv)
| (refine rqw ?_; cbv)
| (refine rq (show kfitQ _ _ from by simp [kfitQ, IntKind.min, IntKind.max, IntKind.signed, IntKind.bits]; omega) ?_; cbv)
| (refine chpA ?_; cbv)
| (refine QC.tw ?_; cbv)
| (refine QC.tt ?_ ?_; (focus (simp only [decide_true, Bool.and_true, Bool.and_self] <;> fail)); cbv)
| (refine QC.ff ?_ ?_; (focus (simp only [decide_true, Bool.and_true, Bool.and_self, decide_false, Bool.false_and, reduceCtorEq, not_false_eq_true] <;> fail)); cbv)
| (refine QC.fw ?_; cbv)
| (refine QC.mk (fun hc => ?_) (fun hc => ?_) <;> (try dsimp only at hc) <;> cbv)
| (refine br_mk2 (fun hb => ?_) (fun hb => ?_) <;> (try subst hb) <;> cbv)))
    · have hlt : i < fs.length := by (first | omega | (simp only [cst] at *; omega) | (simp only [sm] at *; omega))
      obtain ⟨n, t, a, b, X, hx, hX, hLi⟩ := hE i hlt
      have hXl : X.length ≤ 2047 := by rw [hX, u8l_len]; exact hB i _ hx
      (refine qv (i, _) ⟨hj, hLi⟩ ?_; cbv; (repeat' (first
| (refine q1w (fun z hz => ?_); (try simp only at hz); cbv)
| (refine rqw ?_; cbv)
| (refine rq (show kfitQ _ _ from by simp [kfitQ, IntKind.min, IntKind.max, IntKind.signed, IntKind.bits]; omega) ?_; cbv)
| (refine chpA ?_; cbv)
| (refine QC.tw ?_; cbv)
| (refine QC.tt ?_ ?_; (focus (simp only [decide_true, Bool.and_true, Bool.and_self] <;> fail)); cbv)
| (refine QC.ff ?_ ?_; (focus (simp only [decide_true, Bool.and_true, Bool.and_self, decide_false, Bool.false_and, reduceCtorEq, not_false_eq_true] <;> fail)); cbv)
| (refine QC.fw ?_; cbv)
| (refine QC.mk (fun hc => ?_) (fun hc => ?_) <;> (try dsimp only at hc) <;> cbv)
| (refine br_mk2 (fun hb => ?_) (fun hb => ?_) <;> (try subst hb) <;> cbv))))
      refine ⟨(i + 1, z), ⟨by show z = ((i + 1 : Nat) : Int); (first | omega | (simp only [cst] at *; omega) | (simp only [sm] at *; omega)), by show i + 1 ≤ fs.length; omega⟩, by show fs.length - (i + 1) < fs.length - i; omega, ?_⟩
      cbv
      refine ⟨?_, trivial⟩
      exact congrArg (Blk.row (some 4) 31) (hUs i _ hLi)
    · have e : i = fs.length := by (first | omega | (simp only [cst] at *; omega) | (simp only [sm] at *; omega))
      refine ⟨rfl, ?_, rfl⟩
      show Blk.row (some 4) 31 (U i) = _
      rw [e, Un]
theorem insert_c (fs : List Fr) (L : List SV) (hL : L = frL fs) (hl : fs.length ≤ 2047) (n t a : Int) (X : List SV) (ha : ∀ f ∈ fs, f.a ≤ a) (R : List SV) (hR : R = L ++ [.agg [.int .i64 n, .int .u16 t, .int .i64 a, .lst none X]]) :
    Good 57 (nu [.lst (some 4) L, .agg [.int .i64 n, .int .u16 t, .int .i64 a, .lst none X]] (.row 1) (.row (some 4) 31 R)) := by
  have hLl : L.length = fs.length := by rw [hL]; simp [frL]
  have hE := fun i hi => fr_at hL i hi
  obtain ⟨U, hU⟩ : ∃ U : Nat → List SV, ∀ i, U i = L.take i := ⟨fun i => L.take i, fun _ => rfl⟩
  have U0 : U 0 = [] := by rw [hU]; rfl
  have hUl : ∀ i, (U i).length ≤ i := fun i => by rw [hU, List.length_take]; omega
  have hUs : ∀ (i : Nat) (x : SV), L[i]? = some x → apL (U i) [x] = U (i + 1) := fun i x hx => by rw [apL_eq, hU, hU, List.take_add_one, hx]; rfl
  have Un : apL (U fs.length) [.agg [.int .i64 n, .int .u16 t, .int .i64 a, .lst none X]] = R := by rw [apL_eq, hR, hU, ← hLl, List.take_length]
  have hB : ∀ (i : Nat) (f : Fr), fs[i]? = some f → f.a ≤ a := fun i f h => ha f (List.mem_of_getElem? h)
  clear hL hU hR
  refine Good.of Try.func57 rfl (by rfl) (by kernel_rfl) ?_
  cbv
  (repeat' (first
| (refine q1w (fun z hz => ?_); (try simp only at hz); cbv)
| (refine rqw ?_; cbv)
| (refine rq (show kfitQ _ _ from by simp [kfitQ, IntKind.min, IntKind.max, IntKind.signed, IntKind.bits]; omega) ?_; cbv)
| (refine chpA ?_; cbv)
| (refine QC.tw ?_; cbv)
| (refine QC.tt ?_ ?_; (focus (simp only [decide_true, Bool.and_true, Bool.and_self] <;> fail)); cbv)
| (refine QC.ff ?_ ?_; (focus (simp only [decide_true, Bool.and_true, Bool.and_self, decide_false, Bool.false_and, reduceCtorEq, not_false_eq_true] <;> fail)); cbv)
| (refine QC.fw ?_; cbv)
| (refine QC.mk (fun hc => ?_) (fun hc => ?_) <;> (try dsimp only at hc) <;> cbv)
| (refine br_mk2 (fun hb => ?_) (fun hb => ?_) <;> (try subst hb) <;> cbv)))
  refine loopQ (A := Nat × Int) (fun p => p.2 = p.1 ∧ p.1 ≤ fs.length) (fun p => fs.length - p.1) (fun p => [(7, .int .i64 p.2), (5, .row 5), (6, .bool false)]) (fun p => [(5, .row (some 4) 31 (U p.1))]) (0, 0) ⟨rfl, Nat.zero_le _⟩ ?_ ?_
  · cbv
    rw [U0]
    first | exact ⟨rfl, trivial⟩ | exact ⟨rfl, rfl, trivial⟩ | exact ⟨⟨rfl, trivial⟩, trivial⟩
  · intro ⟨i, j⟩ hh
    have hj : j = (i : Int) := hh.1
    have hi : i ≤ fs.length := hh.2
    clear hh
    have hUi := hUl i
    have hmk : True := trivial
    cbv
    (repeat' (first
| (refine q1w (fun z hz => ?_); (try simp only at hz); cbv)
| (refine rqw ?_; cbv)
| (refine rq (show kfitQ _ _ from by simp [kfitQ, IntKind.min, IntKind.max, IntKind.signed, IntKind.bits]; omega) ?_; cbv)
| (refine chpA ?_; cbv)
| (refine QC.tw ?_; cbv)
| (refine QC.tt ?_ ?_; (focus (simp only [decide_true, Bool.and_true, Bool.and_self] <;> fail)); cbv)
| (refine QC.ff ?_ ?_; (focus (simp only [decide_true, Bool.and_true, Bool.and_self, decide_false, Bool.false_and, reduceCtorEq, not_false_eq_true] <;> fail)); cbv)
| (refine QC.fw ?_; cbv)
| (refine QC.mk (fun hc => ?_) (fun hc => ?_) <;> (try dsimp only at hc) <;> cbv)
| (refine br_mk2 (fun hb => ?_) (fun hb => ?_) <;> (try subst hb) <;> cbv)))
    · have hlt : i < fs.length := by (first | omega | (simp only [cst] at *; omega) | (simp only [sm] at *; omega))
      obtain ⟨n2, t2, a2, b, Y, hx, hX, hLi⟩ := hE i hlt
      have hle : a2 ≤ a := hB i _ hx
      (refine qv (i, _) ⟨hj, hLi⟩ ?_; cbv; (repeat' (first
| (refine q1w (fun z hz => ?_); (try simp only at hz); cbv)
| (refine rqw ?_; cbv)
| (refine rq (show kfitQ _ _ from by simp [kfitQ, IntKind.min, IntKind.max, IntKind.signed, IntKind.bits]; omega) ?_; cbv)
| (refine chpA ?_; cbv)
| (refine QC.tw ?_; cbv)
| (refine QC.tt ?_ ?_; (focus (simp only [decide_true, Bool.and_true, Bool.and_self] <;> fail)); cbv)
| (refine QC.ff ?_ ?_; (focus (simp only [decide_true, Bool.and_true, Bool.and_self, decide_false, Bool.false_and, reduceCtorEq, not_false_eq_true] <;> fail)); cbv)
| (refine QC.fw ?_; cbv)
| (refine QC.mk (fun hc => ?_) (fun hc => ?_) <;> (try dsimp only at hc) <;> cbv)
| (refine br_mk2 (fun hb => ?_) (fun hb => ?_) <;> (try subst hb) <;> cbv))))
      (refine qv (i, _) ⟨hj, hLi⟩ ?_; cbv; (repeat' (first
| (refine q1w (fun z hz => ?_); (try simp only at hz); cbv)
| (refine rqw ?_; cbv)
| (refine rq (show kfitQ _ _ from by simp [kfitQ, IntKind.min, IntKind.max, IntKind.signed, IntKind.bits]; omega) ?_; cbv)
| (refine chpA ?_; cbv)
| (refine QC.tw ?_; cbv)
| (refine QC.tt ?_ ?_; (focus (simp only [decide_true, Bool.and_true, Bool.and_self] <;> fail)); cbv)
| (refine QC.ff ?_ ?_; (focus (simp only [decide_true, Bool.and_true, Bool.and_self, decide_false, Bool.false_and, reduceCtorEq, not_false_eq_true] <;> fail)); cbv)
| (refine QC.fw ?_; cbv)
| (refine QC.mk (fun hc => ?_) (fun hc => ?_) <;> (try dsimp only at hc) <;> cbv)
| (refine br_mk2 (fun hb => ?_) (fun hb => ?_) <;> (try subst hb) <;> cbv))))
      refine ⟨(i + 1, z), ⟨by show z = ((i + 1 : Nat) : Int); (first | omega | (simp only [cst] at *; omega) | (simp only [sm] at *; omega)), by show i + 1 ≤ fs.length; omega⟩, by show fs.length - (i + 1) < fs.length - i; omega, ?_⟩
      cbv
      refine ⟨?_, trivial⟩
      exact congrArg (Blk.row (some 4) 31) (hUs i _ hLi)
    · have e : i = fs.length := by (first | omega | (simp only [cst] at *; omega) | (simp only [sm] at *; omega))
      refine ⟨rfl, ?_, rfl⟩
      show Blk.row (some 4) 31 (apL (U i) _) = _
      rw [e, Un]
end Go.Proofs.Ytplcajgoigpneaa
