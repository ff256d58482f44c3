/- Texts put together: PC. -/
import Derived.Test.YtplcajgoigpneaaZ28
namespace Go.Proofs.Ytplcajgoigpneaa
set_option linter.unusedVariables false
set_option linter.unusedSimpArgs false
open Go.RowKit
set_option maxHeartbeats 8000000
theorem rjoin_e (fs : List Fr) (W : List SV) (hf : ∀ f ∈ fs, f.fits) (hW : W = frL fs) (hl : fs.length ≤ 3000000000000) (rs : List UInt8) (ok : Bool) (R : List SV) (hj : joinF fs = (rs, ok)) (hR : R = u8l rs) : Good 50 (pu [.lst (some 4) W] (.tup [.lst none R, .bool ok])) := by
  have hWl : W.length = fs.length := by rw [hW]; simp [frL]
  subst hR
  cases fs with
  | nil =>
    have e : joinF [] = ([], false) := rfl
    rw [e] at hj
    injection hj with h1 h2
    subst h1; subst h2
    exact rjoin_no W 0 hWl (by omega) (fun h => absurd h (by omega))
  | cons f fs =>
    have hf0 := hf f (by simp)
    have hW0 : W[0]? = some (.agg [.int .i64 f.n, .int .u16 f.t, .int .i64 f.a, .lst none (u8l f.b)]) := by rw [hW]; simp [frL, Fr.v]
    have e1 : rs = (joinF (f :: fs)).1 := by rw [hj]
    have e2 : ok = (joinF (f :: fs)).2 := by rw [hj]
    subst e1; subst e2
    cases hv : validF f.n f.a f.b.length with
    | true => exact rjoin_yes (f :: fs) f.n f.t f.a f.b W _ _ _ hf hW (by simpa using hl) rfl hv rfl rfl
    | false =>
      have e : joinF (f :: fs) = ([], false) := by
        have : f.ok = false := hv
        simp only [joinF, this]
      rw [e]
      have hb := hf0.b
      exact rjoin_no W _ hWl hl (fun _ => ⟨_, _, _, _, hW0, rvalid_c _ _ _ _ f.b.length _ (u8l_len _) (by omega) hf0.n hf0.a hv.symm⟩)
theorem FSeq.fits {bs : List UInt8} {g : Nat → Fr} {K : Nat} {n t : Int} {A : Nat → Int} (h : FSeq bs g K n t A) {i : Nat} (hi : i < K) : (g i).fits ∧ (g i).b.length ≤ 2047 ∧ g i = ⟨n, t, A i, (g i).b⟩ ∧ validF n (A i) (g i).b.length = true := by
  have h1 := h.hn i hi
  have h2 := h.ht i hi
  have h3 := h.a i hi
  have h4 := h.len i hi
  have h5 := h.ok i hi
  have h6 := h.rg (k := i) (by omega)
  have h7 := h.rg (k := i + 1) (by omega)
  have := h.nb
  have := h.tb
  refine ⟨⟨by omega, by omega, by omega, by omega⟩, by omega, ?_, ?_⟩
  · generalize g i = x at *
    obtain ⟨a, b, c, d⟩ := x
    dsimp only at h1 h2 h3 ⊢
    rw [h1, h2, h3]
  · rw [← h1, ← h3]; exact h5
theorem FSeq.at' {bs : List UInt8} {g : Nat → Fr} {K : Nat} {n t : Int} {A : Nat → Int} (h : FSeq bs g K n t A) {k : Nat} (hk : k ≤ K) {P : List SV} (hP : P = frL ((List.range k).map g)) (i : Nat) (hi : i < k) : ∃ X : List SV, X = u8l (g i).b ∧ (X.length : Int) = A (i + 1) - A i ∧ validF n (A i) X.length = true ∧ P[i]? = some (.agg [.int .i64 n, .int .u16 t, .int .i64 (A i), .lst none X]) := by
  have hf := h.fits (i := i) (by omega)
  refine ⟨_, rfl, by rw [u8l_len]; exact h.len i (by omega), by rw [u8l_len]; exact hf.2.2.2, ?_⟩
  rw [hP, frL, List.getElem?_map, List.getElem?_map, List.getElem?_range hi]
  simp only [Option.map_some, Fr.v]
  rw [h.hn i (by omega), h.ht i (by omega), h.a i (by omega)]
theorem one_c {bs : List UInt8} {g : Nat → Fr} {K : Nat} {n t : Int} {A : Nat → Int} (h : FSeq bs g K n t A) (k : Nat) (hk : 1 ≤ k ∧ k < K) (P : List SV) (hP : P = frL ((List.range k).map g)) (a b c d e f u : Int) (hs : someA a b c = true) (hd : someA d e f = true) (hu : timeT u = true) :
    Good 55 (pu [.agg [.int .i64 a, .int .u16 b, .int .u64 c, .int .i64 d, .int .u16 e, .int .u64 f, .int .u16 t, .int .i64 n, .lst (some 4) P, .int .i64 u]] (.bool true)) := by
  have hPl : P.length = k := by rw [hP]; simp [frL]
  have hK := h.Kle K (Nat.le_refl _)
  have hK2 := h.aK
  have hnb := h.nb
  have hE := h.at' (by omega : k ≤ K) hP
  have hA := fun i (hi : i ≤ K) => h.rg hi
  have g1 := some_c a b c true hs.symm
  have g2 := some_c d e f true hd.symm
  have g3 := rtime_c u true hu.symm
  have hR0 : ([] : List SV) = u8l [] := rfl
  have g4 := rjoin_e ((List.range k).map g) P (fun f hf => by obtain ⟨i, hi, rfl⟩ := List.mem_map.1 hf; exact (h.fits (by have := List.mem_range.1 hi; omega)).1) hP (by simp; omega) [] false [] (h.jl k hk.2) hR0
  have WE := Wrap.mk hE
  have WA := Wrap.mk hA
  clear hE hA h hP
  refine Good.of Try.func55 rfl (by rfl) (by kernel_rfl) ?_
  cbv
  (repeat' (first
| (refine q1w (fun z hz => ?_); (try simp only at hz); cbv)
| (refine rqw ?_; cbv)
| (refine rq (show kfitQ _ _ from by simp [kfitQ, IntKind.min, IntKind.max, IntKind.signed, IntKind.bits]; omega) ?_; cbv)
| (refine chpA ?_; cbv)
| (refine QC.tw ?_; cbv)
| (refine QC.tt ?_ ?_; (focus (simp only [decide_true, Bool.and_true, Bool.and_self] <;> fail)); cbv)
| (refine QC.ff ?_ ?_; (focus (simp only [decide_true, Bool.and_true, Bool.and_self, decide_false, Bool.false_and, reduceCtorEq, not_false_eq_true] <;> fail)); cbv)
| (refine QC.fw ?_; cbv)
| (refine QC.mk (fun hc => ?_) (fun hc => ?_) <;> (try dsimp only at hc) <;> cbv)
| (refine br_mk2 (fun hb => ?_) (fun hb => ?_) <;> (try subst hb) <;> cbv)))
  (refine callq (g1) rfl rfl ?_; cbv; (repeat' (first
| (refine q1w (fun z hz => ?_); (try simp only at hz); cbv)
| (refine rqw ?_; cbv)
| (refine rq (show kfitQ _ _ from by simp [kfitQ, IntKind.min, IntKind.max, IntKind.signed, IntKind.bits]; omega) ?_; cbv)
| (refine chpA ?_; cbv)
| (refine QC.tw ?_; cbv)
| (refine QC.tt ?_ ?_; (focus (simp only [decide_true, Bool.and_true, Bool.and_self] <;> fail)); cbv)
| (refine QC.ff ?_ ?_; (focus (simp only [decide_true, Bool.and_true, Bool.and_self, decide_false, Bool.false_and, reduceCtorEq, not_false_eq_true] <;> fail)); cbv)
| (refine QC.fw ?_; cbv)
| (refine QC.mk (fun hc => ?_) (fun hc => ?_) <;> (try dsimp only at hc) <;> cbv)
| (refine br_mk2 (fun hb => ?_) (fun hb => ?_) <;> (try subst hb) <;> cbv))))
  (refine callq (g2) rfl rfl ?_; cbv; (repeat' (first
| (refine q1w (fun z hz => ?_); (try simp only at hz); cbv)
| (refine rqw ?_; cbv)
| (refine rq (show kfitQ _ _ from by simp [kfitQ, IntKind.min, IntKind.max, IntKind.signed, IntKind.bits]; omega) ?_; cbv)
| (refine chpA ?_; cbv)
| (refine QC.tw ?_; cbv)
| (refine QC.tt ?_ ?_; (focus (simp only [decide_true, Bool.and_true, Bool.and_self] <;> fail)); cbv)
| (refine QC.ff ?_ ?_; (focus (simp only [decide_true, Bool.and_true, Bool.and_self, decide_false, Bool.false_and, reduceCtorEq, not_false_eq_true] <;> fail)); cbv)
| (refine QC.fw ?_; cbv)
| (refine QC.mk (fun hc => ?_) (fun hc => ?_) <;> (try dsimp only at hc) <;> cbv)
| (refine br_mk2 (fun hb => ?_) (fun hb => ?_) <;> (try subst hb) <;> cbv))))
  (refine callq (g3) rfl rfl ?_; cbv; (repeat' (first
| (refine q1w (fun z hz => ?_); (try simp only at hz); cbv)
| (refine rqw ?_; cbv)
| (refine rq (show kfitQ _ _ from by simp [kfitQ, IntKind.min, IntKind.max, IntKind.signed, IntKind.bits]; omega) ?_; cbv)
| (refine chpA ?_; cbv)
| (refine QC.tw ?_; cbv)
| (refine QC.tt ?_ ?_; (focus (simp only [decide_true, Bool.and_true, Bool.and_self] <;> fail)); cbv)
| (refine QC.ff ?_ ?_; (focus (simp only [decide_true, Bool.and_true, Bool.and_self, decide_false, Bool.false_and, reduceCtorEq, not_false_eq_true] <;> fail)); cbv)
| (refine QC.fw ?_; cbv)
| (refine QC.mk (fun hc => ?_) (fun hc => ?_) <;> (try dsimp only at hc) <;> cbv)
| (refine br_mk2 (fun hb => ?_) (fun hb => ?_) <;> (try subst hb) <;> cbv))))
  refine loopQ (A := Nat × Int) (fun p => p.2 = p.1 ∧ p.1 ≤ k) (fun p => k - p.1) (fun p => [(3, .int .i64 p.2)]) (fun p => [(4, .no)]) (0, 0) ⟨rfl, Nat.zero_le _⟩ ?_ ?_
  · cbv
  · intro ⟨i, j⟩ hh
    have hj : j = (i : Int) := hh.1
    have hi : i ≤ k := hh.2
    clear hh
    have hmk : True := trivial
    cbv
    (repeat' (first
| (refine q1w (fun z hz => ?_); (try simp only at hz); cbv)
| (refine rqw ?_; cbv)
| (refine rq (show kfitQ _ _ from by simp [kfitQ, IntKind.min, IntKind.max, IntKind.signed, IntKind.bits]; omega) ?_; cbv)
| (refine chpA ?_; cbv)
| (refine QC.tw ?_; cbv)
| (refine QC.tt ?_ ?_; (focus (simp only [decide_true, Bool.and_true, Bool.and_self] <;> fail)); cbv)
| (refine QC.ff ?_ ?_; (focus (simp only [decide_true, Bool.and_true, Bool.and_self, decide_false, Bool.false_and, reduceCtorEq, not_false_eq_true] <;> fail)); cbv)
| (refine QC.fw ?_; cbv)
| (refine QC.mk (fun hc => ?_) (fun hc => ?_) <;> (try dsimp only at hc) <;> cbv)
| (refine br_mk2 (fun hb => ?_) (fun hb => ?_) <;> (try subst hb) <;> cbv)))
    · have hlt : i < k := by (first | omega | (simp only [cst] at *; omega) | (simp only [sm] at *; omega))
      obtain ⟨X, hX, hXl, hv, hx⟩ := WE.h i hlt
      have hA1 := WA.h i (by omega)
      have hA2 := WA.h (i + 1) (by omega)
      have g5 := rvalid_c X n t (A i) X.length true rfl (by (first | omega | (simp only [cst] at *; omega) | (simp only [sm] at *; omega))) (by (first | omega | (simp only [cst] at *; omega) | (simp only [sm] at *; omega))) (by (first | omega | (simp only [cst] at *; omega) | (simp only [sm] at *; omega))) hv.symm
      generalize hAi : A i = ai at *
      (refine qv (i, _) ⟨hj, hx⟩ ?_; cbv; (repeat' (first
| (refine q1w (fun z hz => ?_); (try simp only at hz); cbv)
| (refine rqw ?_; cbv)
| (refine rq (show kfitQ _ _ from by simp [kfitQ, IntKind.min, IntKind.max, IntKind.signed, IntKind.bits]; omega) ?_; cbv)
| (refine chpA ?_; cbv)
| (refine QC.tw ?_; cbv)
| (refine QC.tt ?_ ?_; (focus (simp only [decide_true, Bool.and_true, Bool.and_self] <;> fail)); cbv)
| (refine QC.ff ?_ ?_; (focus (simp only [decide_true, Bool.and_true, Bool.and_self, decide_false, Bool.false_and, reduceCtorEq, not_false_eq_true] <;> fail)); cbv)
| (refine QC.fw ?_; cbv)
| (refine QC.mk (fun hc => ?_) (fun hc => ?_) <;> (try dsimp only at hc) <;> cbv)
| (refine br_mk2 (fun hb => ?_) (fun hb => ?_) <;> (try subst hb) <;> cbv))))
      (refine callq (g5) rfl rfl ?_; cbv; (repeat' (first
| (refine q1w (fun z hz => ?_); (try simp only at hz); cbv)
| (refine rqw ?_; cbv)
| (refine rq (show kfitQ _ _ from by simp [kfitQ, IntKind.min, IntKind.max, IntKind.signed, IntKind.bits]; omega) ?_; cbv)
| (refine chpA ?_; cbv)
| (refine QC.tw ?_; cbv)
| (refine QC.tt ?_ ?_; (focus (simp only [decide_true, Bool.and_true, Bool.and_self] <;> fail)); cbv)
| (refine QC.ff ?_ ?_; (focus (simp only [decide_true, Bool.and_true, Bool.and_self, decide_false, Bool.false_and, reduceCtorEq, not_false_eq_true] <;> fail)); cbv)
| (refine QC.fw ?_; cbv)
| (refine QC.mk (fun hc => ?_) (fun hc => ?_) <;> (try dsimp only at hc) <;> cbv)
| (refine br_mk2 (fun hb => ?_) (fun hb => ?_) <;> (try subst hb) <;> cbv))))
      · obtain ⟨Y, hY, hYl, hv2, hy⟩ := WE.h (i - 1) (by (first | omega | (simp only [cst] at *; omega) | (simp only [sm] at *; omega)))
        have e1 : i - 1 + 1 = i := by (first | omega | (simp only [cst] at *; omega) | (simp only [sm] at *; omega))
        rw [e1, hAi] at hYl
        have hA3 := WA.h (i - 1) (by omega)
        generalize hBi : A (i - 1) = bi at *
        (refine qv (i - 1, _) ⟨(by (first | omega | (simp only [cst] at *; omega) | (simp only [sm] at *; omega))), hy⟩ ?_; cbv; (repeat' (first
| (refine q1w (fun z hz => ?_); (try simp only at hz); cbv)
| (refine rqw ?_; cbv)
| (refine rq (show kfitQ _ _ from by simp [kfitQ, IntKind.min, IntKind.max, IntKind.signed, IntKind.bits]; omega) ?_; cbv)
| (refine chpA ?_; cbv)
| (refine QC.tw ?_; cbv)
| (refine QC.tt ?_ ?_; (focus (simp only [decide_true, Bool.and_true, Bool.and_self] <;> fail)); cbv)
| (refine QC.ff ?_ ?_; (focus (simp only [decide_true, Bool.and_true, Bool.and_self, decide_false, Bool.false_and, reduceCtorEq, not_false_eq_true] <;> fail)); cbv)
| (refine QC.fw ?_; cbv)
| (refine QC.mk (fun hc => ?_) (fun hc => ?_) <;> (try dsimp only at hc) <;> cbv)
| (refine br_mk2 (fun hb => ?_) (fun hb => ?_) <;> (try subst hb) <;> cbv))))
        (refine qv (i - 1, _) ⟨(by (first | omega | (simp only [cst] at *; omega) | (simp only [sm] at *; omega))), hy⟩ ?_; cbv; (repeat' (first
| (refine q1w (fun z hz => ?_); (try simp only at hz); cbv)
| (refine rqw ?_; cbv)
| (refine rq (show kfitQ _ _ from by simp [kfitQ, IntKind.min, IntKind.max, IntKind.signed, IntKind.bits]; omega) ?_; cbv)
| (refine chpA ?_; cbv)
| (refine QC.tw ?_; cbv)
| (refine QC.tt ?_ ?_; (focus (simp only [decide_true, Bool.and_true, Bool.and_self] <;> fail)); cbv)
| (refine QC.ff ?_ ?_; (focus (simp only [decide_true, Bool.and_true, Bool.and_self, decide_false, Bool.false_and, reduceCtorEq, not_false_eq_true] <;> fail)); cbv)
| (refine QC.fw ?_; cbv)
| (refine QC.mk (fun hc => ?_) (fun hc => ?_) <;> (try dsimp only at hc) <;> cbv)
| (refine br_mk2 (fun hb => ?_) (fun hb => ?_) <;> (try subst hb) <;> cbv))))
        refine ⟨(i + 1, z), ⟨by show z = ((i + 1 : Nat) : Int); (first | omega | (simp only [cst] at *; omega) | (simp only [sm] at *; omega)), by show i + 1 ≤ k; omega⟩, by show k - (i + 1) < k - i; omega, ?_⟩
        cbv
      · refine ⟨(i + 1, z), ⟨by show z = ((i + 1 : Nat) : Int); (first | omega | (simp only [cst] at *; omega) | (simp only [sm] at *; omega)), by show i + 1 ≤ k; omega⟩, by show k - (i + 1) < k - i; omega, ?_⟩
        cbv
    · (refine callq (g4) rfl rfl ?_; cbv; (repeat' (first
| (refine q1w (fun z hz => ?_); (try simp only at hz); cbv)
| (refine rqw ?_; cbv)
| (refine rq (show kfitQ _ _ from by simp [kfitQ, IntKind.min, IntKind.max, IntKind.signed, IntKind.bits]; omega) ?_; cbv)
| (refine chpA ?_; cbv)
| (refine QC.tw ?_; cbv)
| (refine QC.tt ?_ ?_; (focus (simp only [decide_true, Bool.and_true, Bool.and_self] <;> fail)); cbv)
| (refine QC.ff ?_ ?_; (focus (simp only [decide_true, Bool.and_true, Bool.and_self, decide_false, Bool.false_and, reduceCtorEq, not_false_eq_true] <;> fail)); cbv)
| (refine QC.fw ?_; cbv)
| (refine QC.mk (fun hc => ?_) (fun hc => ?_) <;> (try dsimp only at hc) <;> cbv)
| (refine br_mk2 (fun hb => ?_) (fun hb => ?_) <;> (try subst hb) <;> cbv))))
      exact ⟨rfl, rfl, rfl⟩
end Go.Proofs.Ytplcajgoigpneaa
