/- Texts put together: FJ. -/
import Derived.Test.YtplcajgoigpneaaZ02
namespace Go.Proofs.Ytplcajgoigpneaa
set_option linter.unusedVariables false
set_option linter.unusedSimpArgs false
open Go.RowKit
set_option maxHeartbeats 8000000
theorem rjoin_yes (fs : List Fr) (n0 t0 a0 : Int) (b0 : List UInt8) (W R : List SV) (ok : Bool) (rs : List UInt8) (hf : ∀ f ∈ fs, f.fits) (hW : W = frL fs) (hl : fs.length ≤ 3000000000000) (h0 : fs[0]? = some ⟨n0, t0, a0, b0⟩) (hok : validF n0 a0 b0.length = true) (hj' : joinF fs = (rs, ok)) (hR : R = u8l rs) :
    Good 50 (pu [.lst (some 4) W] (.tup [.lst none R, .bool ok])) := by
  obtain ⟨U, B, Pt, Sp, hU, hB, hPt, hSp⟩ := joinG
  have hWl : W.length = fs.length := by rw [hW]; simp [frL]
  have f0i := of_decide_eq_true hok
  have hlen0 : 0 < fs.length := by
    cases fs with
    | nil => simp at h0
    | cons => simp
  obtain ⟨X0, hX0⟩ : ∃ X0, X0 = u8l b0 := ⟨_, rfl⟩
  have hv0 : Good 41 (pu [.agg [.int .i64 n0, .int .u16 t0, .int .i64 a0, .lst none X0]] (.bool true)) := rvalid_c _ _ _ _ b0.length true (by rw [hX0]; exact u8l_len _) (by have := (hf _ (List.mem_of_getElem? h0)).b; dsimp only at this; omega) (by omega) (by omega) hok.symm
  have hE : ∀ i, i < fs.length → ∃ (n t a : Int) (b : List UInt8) (X : List SV) (r : Bool), fs[i]? = some ⟨n, t, a, b⟩ ∧ X = u8l b ∧ X.length = b.length ∧ (⟨n, t, a, b⟩ : Fr).fits ∧ r = validF n a b.length ∧ W[i]? = some (.agg [.int .i64 n, .int .u16 t, .int .i64 a, .lst none X]) ∧
      Good 41 (pu [.agg [.int .i64 n, .int .u16 t, .int .i64 a, .lst none X]] (.bool r)) := fun i hi => by
    have hfi := hf fs[i] (List.getElem_mem hi)
    refine ⟨fs[i].n, fs[i].t, fs[i].a, fs[i].b, u8l fs[i].b, validF fs[i].n fs[i].a fs[i].b.length, List.getElem?_eq_getElem hi, rfl, u8l_len _, hfi, rfl, by rw [hW]; simp [frL, hi, Fr.v], ?_⟩
    exact rvalid_c _ _ _ _ fs[i].b.length _ (u8l_len _) (by have := hfi.b; omega) hfi.n hfi.a rfl
  have hW0 : W[0]? = some (.agg [.int .i64 n0, .int .u16 t0, .int .i64 a0, .lst none X0]) := by rw [hW]; simp [frL, h0, Fr.v, hX0]
  refine Good.of Try.func50 rfl (by rfl) (by kernel_rfl) ?_
  cbv
  (repeat' (first
| (refine q1w (fun z hz => ?_); (try simp only at hz); cbv)
| (refine rqw ?_; cbv)
| (refine rq (show kfitQ _ _ from by simp [kfitQ, IntKind.min, IntKind.max, IntKind.signed, IntKind.bits]; omega) ?_; cbv)
| (refine chpA ?_; cbv)
| (refine QC.tw ?_; cbv)
| (refine QC.tt ?_ ?_; (focus (simp only [decide_true, Bool.and_true, Bool.and_self] <;> fail)); cbv)
| (refine QC.ff ?_ ?_; (focus (simp only [decide_true, Bool.and_true, Bool.and_self, decide_false, Bool.false_and, reduceCtorEq, not_false_eq_true] <;> fail)); cbv)
| (refine QC.fw ?_; cbv)
| (refine QC.mk (fun hc => ?_) (fun hc => ?_) <;> (try dsimp only at hc) <;> cbv)
| (refine br_mk2 (fun hb => ?_) (fun hb => ?_) <;> (try subst hb) <;> cbv)))
  refine qv (0, .agg [.int .i64 n0, .int .u16 t0, .int .i64 a0, .lst none X0]) ⟨rfl, hW0⟩ ?_
  cbv
  (repeat' (first
| (refine q1w (fun z hz => ?_); (try simp only at hz); cbv)
| (refine rqw ?_; cbv)
| (refine rq (show kfitQ _ _ from by simp [kfitQ, IntKind.min, IntKind.max, IntKind.signed, IntKind.bits]; omega) ?_; cbv)
| (refine chpA ?_; cbv)
| (refine QC.tw ?_; cbv)
| (refine QC.tt ?_ ?_; (focus (simp only [decide_true, Bool.and_true, Bool.and_self] <;> fail)); cbv)
| (refine QC.ff ?_ ?_; (focus (simp only [decide_true, Bool.and_true, Bool.and_self, decide_false, Bool.false_and, reduceCtorEq, not_false_eq_true] <;> fail)); cbv)
| (refine QC.fw ?_; cbv)
| (refine QC.mk (fun hc => ?_) (fun hc => ?_) <;> (try dsimp only at hc) <;> cbv)
| (refine br_mk2 (fun hb => ?_) (fun hb => ?_) <;> (try subst hb) <;> cbv)))
  (refine callq (hv0) rfl rfl ?_; cbv; (repeat' (first
| (refine q1w (fun z hz => ?_); (try simp only at hz); cbv)
| (refine rqw ?_; cbv)
| (refine rq (show kfitQ _ _ from by simp [kfitQ, IntKind.min, IntKind.max, IntKind.signed, IntKind.bits]; omega) ?_; cbv)
| (refine chpA ?_; cbv)
| (refine QC.tw ?_; cbv)
| (refine QC.tt ?_ ?_; (focus (simp only [decide_true, Bool.and_true, Bool.and_self] <;> fail)); cbv)
| (refine QC.ff ?_ ?_; (focus (simp only [decide_true, Bool.and_true, Bool.and_self, decide_false, Bool.false_and, reduceCtorEq, not_false_eq_true] <;> fail)); cbv)
| (refine QC.fw ?_; cbv)
| (refine QC.mk (fun hc => ?_) (fun hc => ?_) <;> (try dsimp only at hc) <;> cbv)
| (refine br_mk2 (fun hb => ?_) (fun hb => ?_) <;> (try subst hb) <;> cbv))))
  refine qv (0, .agg [.int .i64 n0, .int .u16 t0, .int .i64 a0, .lst none X0]) ⟨rfl, hW0⟩ ?_
  cbv
  (repeat' (first
| (refine q1w (fun z hz => ?_); (try simp only at hz); cbv)
| (refine rqw ?_; cbv)
| (refine rq (show kfitQ _ _ from by simp [kfitQ, IntKind.min, IntKind.max, IntKind.signed, IntKind.bits]; omega) ?_; cbv)
| (refine chpA ?_; cbv)
| (refine QC.tw ?_; cbv)
| (refine QC.tt ?_ ?_; (focus (simp only [decide_true, Bool.and_true, Bool.and_self] <;> fail)); cbv)
| (refine QC.ff ?_ ?_; (focus (simp only [decide_true, Bool.and_true, Bool.and_self, decide_false, Bool.false_and, reduceCtorEq, not_false_eq_true] <;> fail)); cbv)
| (refine QC.fw ?_; cbv)
| (refine QC.mk (fun hc => ?_) (fun hc => ?_) <;> (try dsimp only at hc) <;> cbv)
| (refine br_mk2 (fun hb => ?_) (fun hb => ?_) <;> (try subst hb) <;> cbv)))
  refine qv (0, .agg [.int .i64 n0, .int .u16 t0, .int .i64 a0, .lst none X0]) ⟨rfl, hW0⟩ ?_
  cbv
  (repeat' (first
| (refine q1w (fun z hz => ?_); (try simp only at hz); cbv)
| (refine rqw ?_; cbv)
| (refine rq (show kfitQ _ _ from by simp [kfitQ, IntKind.min, IntKind.max, IntKind.signed, IntKind.bits]; omega) ?_; cbv)
| (refine chpA ?_; cbv)
| (refine QC.tw ?_; cbv)
| (refine QC.tt ?_ ?_; (focus (simp only [decide_true, Bool.and_true, Bool.and_self] <;> fail)); cbv)
| (refine QC.ff ?_ ?_; (focus (simp only [decide_true, Bool.and_true, Bool.and_self, decide_false, Bool.false_and, reduceCtorEq, not_false_eq_true] <;> fail)); cbv)
| (refine QC.fw ?_; cbv)
| (refine QC.mk (fun hc => ?_) (fun hc => ?_) <;> (try dsimp only at hc) <;> cbv)
| (refine br_mk2 (fun hb => ?_) (fun hb => ?_) <;> (try subst hb) <;> cbv)))
  refine loopQ (A := Nat × Int × Int × List UInt8 × List Bool) (fun p => p.2.1 = p.1 ∧ p.1 ≤ fs.length ∧ goF n0 t0 (fs.take p.1) (jo0 n0) = some ⟨p.2.2.2.1, p.2.2.2.2, p.2.2.1⟩ ∧ p.2.2.2.1.length = n0.toNat ∧ p.2.2.2.2.length = n0.toNat ∧ 0 ≤ p.2.2.1 ∧ p.2.2.1 ≤ 2047 * p.1)
    (fun p => fs.length - p.1) (fun p => [(6, .int .i64 p.2.2.1), (7, .int .i64 p.2.1)]) (fun p => [(24, .row none 5 (U p.2.2.2.1)), (29, .row none 4 (B p.2.2.2.2)), (8, .no)])
    (0, 0, 0, List.replicate n0.toNat 0, List.replicate n0.toNat false) ⟨rfl, Nat.zero_le _, rfl, by simp, by simp, Int.le_refl _, by simp⟩ ?_ ?_
  · cbv
    refine ⟨?_, ?_, trivial⟩
    · show Blk.row none 5 (O.rp n0 (.int .u8 0)) = .row none 5 (U (List.replicate n0.toNat 0))
      rw [orp, u8l_rep, hU]
    · show Blk.row none 4 (O.rp n0 (.bool false)) = .row none 4 (B (List.replicate n0.toNat false))
      rw [orp, bl_rep, hB]
  · intro ⟨i, j, c, o, h⟩ hh
    have hj : j = (i : Int) := hh.1
    have hi : i ≤ fs.length := hh.2.1
    have hg : goF n0 t0 (fs.take i) (jo0 n0) = some ⟨o, h, c⟩ := hh.2.2.1
    have ho : o.length = n0.toNat := hh.2.2.2.1
    have hhl : h.length = n0.toNat := hh.2.2.2.2.1
    have hc0 : 0 ≤ c ∧ c ≤ 2047 * (i : Int) := hh.2.2.2.2.2
    clear hh
    have hUo : (U o).length = n0.toNat := by rw [hU, u8l_len, ho]
    cbv
    (repeat' (first
| (refine q1w (fun z hz => ?_); (try simp only at hz); cbv)
| (refine rqw ?_; cbv)
| (refine rq (show kfitQ _ _ from by simp [kfitQ, IntKind.min, IntKind.max, IntKind.signed, IntKind.bits]; omega) ?_; cbv)
| (refine chpA ?_; cbv)
| (refine QC.tw ?_; cbv)
| (refine QC.tt ?_ ?_; (focus (simp only [decide_true, Bool.and_true, Bool.and_self] <;> fail)); cbv)
| (refine QC.ff ?_ ?_; (focus (simp only [decide_true, Bool.and_true, Bool.and_self, decide_false, Bool.false_and, reduceCtorEq, not_false_eq_true] <;> fail)); cbv)
| (refine QC.fw ?_; cbv)
| (refine QC.mk (fun hc => ?_) (fun hc => ?_) <;> (try dsimp only at hc) <;> cbv)
| (refine br_mk2 (fun hb => ?_) (fun hb => ?_) <;> (try subst hb) <;> cbv)))
    · obtain ⟨n, t, a, b, X, r, hfi, hX, hXl, hfit, hr, hWi, hvi⟩ := hE i (by (first | omega | (simp only [cst] at *; omega) | (simp only [sm] at *; omega)))
      refine qv (i, .agg [.int .i64 n, .int .u16 t, .int .i64 a, .lst none X]) ⟨hj, hWi⟩ ?_
      cbv
      (repeat' (first
| (refine q1w (fun z hz => ?_); (try simp only at hz); cbv)
| (refine rqw ?_; cbv)
| (refine rq (show kfitQ _ _ from by simp [kfitQ, IntKind.min, IntKind.max, IntKind.signed, IntKind.bits]; omega) ?_; cbv)
| (refine chpA ?_; cbv)
| (refine QC.tw ?_; cbv)
| (refine QC.tt ?_ ?_; (focus (simp only [decide_true, Bool.and_true, Bool.and_self] <;> fail)); cbv)
| (refine QC.ff ?_ ?_; (focus (simp only [decide_true, Bool.and_true, Bool.and_self, decide_false, Bool.false_and, reduceCtorEq, not_false_eq_true] <;> fail)); cbv)
| (refine QC.fw ?_; cbv)
| (refine QC.mk (fun hc => ?_) (fun hc => ?_) <;> (try dsimp only at hc) <;> cbv)
| (refine br_mk2 (fun hb => ?_) (fun hb => ?_) <;> (try subst hb) <;> cbv)))
      have hno : Wrap ((validF n a b.length = false ∨ ¬ n = n0 ∨ ¬ t = t0 ∨ ∃ k, k < b.length ∧ h[a.toNat + k]? ≠ some false) → R = [] ∧ ok = false) := ⟨fun hh => by
        have := joinF_step_no h0 hg hfi hh
        rw [hj'] at this
        injection this with e1 e2
        exact ⟨by rw [hR, e1]; rfl, e2⟩⟩
      have hvb : r = true → n = n0 → 0 ≤ a ∧ a + b.length ≤ n0 ∧ 1 ≤ b.length := fun h1 h2 => by
        rw [hr] at h1
        have := of_decide_eq_true h1
        omega
      have hmk : True := trivial
      (refine callq (hvi) rfl rfl ?_; cbv; (repeat' (first
| (refine q1w (fun z hz => ?_); (try simp only at hz); cbv)
| (refine rqw ?_; cbv)
| (refine rq (show kfitQ _ _ from by simp [kfitQ, IntKind.min, IntKind.max, IntKind.signed, IntKind.bits]; omega) ?_; cbv)
| (refine chpA ?_; cbv)
| (refine QC.tw ?_; cbv)
| (refine QC.tt ?_ ?_; (focus (simp only [decide_true, Bool.and_true, Bool.and_self] <;> fail)); cbv)
| (refine QC.ff ?_ ?_; (focus (simp only [decide_true, Bool.and_true, Bool.and_self, decide_false, Bool.false_and, reduceCtorEq, not_false_eq_true] <;> fail)); cbv)
| (refine QC.fw ?_; cbv)
| (refine QC.mk (fun hc => ?_) (fun hc => ?_) <;> (try dsimp only at hc) <;> cbv)
| (refine br_mk2 (fun hb => ?_) (fun hb => ?_) <;> (try subst hb) <;> cbv))))
      · (refine qv (0, _) ⟨rfl, hW0⟩ ?_; cbv; (repeat' (first
| (refine q1w (fun z hz => ?_); (try simp only at hz); cbv)
| (refine rqw ?_; cbv)
| (refine rq (show kfitQ _ _ from by simp [kfitQ, IntKind.min, IntKind.max, IntKind.signed, IntKind.bits]; omega) ?_; cbv)
| (refine chpA ?_; cbv)
| (refine QC.tw ?_; cbv)
| (refine QC.tt ?_ ?_; (focus (simp only [decide_true, Bool.and_true, Bool.and_self] <;> fail)); cbv)
| (refine QC.ff ?_ ?_; (focus (simp only [decide_true, Bool.and_true, Bool.and_self, decide_false, Bool.false_and, reduceCtorEq, not_false_eq_true] <;> fail)); cbv)
| (refine QC.fw ?_; cbv)
| (refine QC.mk (fun hc => ?_) (fun hc => ?_) <;> (try dsimp only at hc) <;> cbv)
| (refine br_mk2 (fun hb => ?_) (fun hb => ?_) <;> (try subst hb) <;> cbv))))
        · obtain ⟨e1, e2⟩ := hno.h (.inr (.inl hc))
          rw [e1, e2]
          exact ⟨rfl, rfl, rfl⟩
        · (refine qv (0, _) ⟨rfl, hW0⟩ ?_; cbv; (repeat' (first
| (refine q1w (fun z hz => ?_); (try simp only at hz); cbv)
| (refine rqw ?_; cbv)
| (refine rq (show kfitQ _ _ from by simp [kfitQ, IntKind.min, IntKind.max, IntKind.signed, IntKind.bits]; omega) ?_; cbv)
| (refine chpA ?_; cbv)
| (refine QC.tw ?_; cbv)
| (refine QC.tt ?_ ?_; (focus (simp only [decide_true, Bool.and_true, Bool.and_self] <;> fail)); cbv)
| (refine QC.ff ?_ ?_; (focus (simp only [decide_true, Bool.and_true, Bool.and_self, decide_false, Bool.false_and, reduceCtorEq, not_false_eq_true] <;> fail)); cbv)
| (refine QC.fw ?_; cbv)
| (refine QC.mk (fun hc => ?_) (fun hc => ?_) <;> (try dsimp only at hc) <;> cbv)
| (refine br_mk2 (fun hb => ?_) (fun hb => ?_) <;> (try subst hb) <;> cbv))))
          · obtain ⟨e1, e2⟩ := hno.h (.inr (.inr (.inl hc)))
            rw [e1, e2]
            exact ⟨rfl, rfl, rfl⟩
          · have hvb := hvb rfl (by omega)
            refine loopQ (A := Nat × Int × Int) (fun p => p.2.1 = p.1 ∧ p.1 ≤ b.length ∧ p.2.2 = c + p.1 ∧ ∀ q, q < p.1 → h[a.toNat + q]? = some false) (fun p => b.length - p.1) (fun p => [(9, .int .i64 p.2.1), (6, .int .i64 p.2.2)]) (fun p => [(24, .row none 5 (Sp o a b p.1)), (29, .row none 4 (Pt h a p.1))]) (0, 0, c) ⟨rfl, Nat.zero_le _, by simp, fun q hq => absurd hq (Nat.not_lt_zero q)⟩ ?_ ?_
            · cbv
              refine ⟨?_, ?_, trivial⟩
              · show Blk.row none 5 (U o) = .row none 5 (Sp o a b 0)
                rw [hU, hSp, List.take_zero, spl_nil]
              · show Blk.row none 4 (B h) = .row none 4 (Pt h a 0)
                rw [hB, hPt, paint_zero]
            · intro ⟨k, jk, ck⟩ hh
              have hjk : jk = (k : Int) := hh.1
              have hk : k ≤ b.length := hh.2.1
              have hck : ck = c + (k : Int) := hh.2.2.1
              have hq : ∀ q, q < k → h[a.toNat + q]? = some false := hh.2.2.2
              clear hh
              have htk : (b.take k).length = k := by rw [List.length_take]; omega
              have hPl : (Pt h a k).length = n0.toNat := by rw [hPt, bl_len, paint_len _ _ _ (by (first | omega | (simp only [cst] at *; omega) | (simp only [sm] at *; omega))), hhl]
              have hSl : (Sp o a b k).length = n0.toNat := by rw [hSp, u8l_len, spl_len _ _ _ (by (first | omega | (simp only [cst] at *; omega) | (simp only [sm] at *; omega))), ho]
              have hPk : k < b.length → (Pt h a k)[a.toNat + k]? = some (.bool (h.getD (a.toNat + k) false)) := fun hlt => by
                rw [hPt]
                have hl2 : a.toNat + k < h.length := by (first | omega | (simp only [cst] at *; omega) | (simp only [sm] at *; omega))
                have e := paint_at h a k (a.toNat + k) (Nat.le_refl _) hl2
                simp only [bl, List.getElem?_map, e]
                simp [hl2]
              have hXk : k < b.length → X[k]? = some (.int .u8 (b.getD k 0).toNat) := fun hlt => by rw [hX]; exact u8l_at k hlt
              have hbvb : 0 ≤ ((b.getD k 0).toNat : Int) ∧ ((b.getD k 0).toNat : Int) ≤ 255 := by have := (b.getD k 0).toNat_lt; omega
              generalize hxv' : ((b.getD k 0).toNat : Int) = xv at hXk hbvb
              generalize hbv' : h.getD (a.toNat + k) false = bv at hPk
              generalize hsp' : a.toNat + k = sp at hPk
              have hxv := hxv'.symm
              have hbv := hbv'.symm
              have hsp := hsp'.symm
              clear hbv' hsp' hxv'
              have hT : Wrap (k < b.length → bv = true → R = [] ∧ ok = false) := ⟨fun hlt hb => hno.h (.inr (.inr (.inr ⟨k, hlt, fun e => by rw [hb, List.getD, e] at hbv; cases hbv⟩)))⟩
              have hF : Wrap (k < b.length → bv = false → ∀ q, q < k + 1 → h[a.toNat + q]? = some false) := ⟨fun hlt hb q hq' => by
                by_cases e : q = k
                · subst e
                  rw [hb, List.getD] at hbv
                  have hl2 : a.toNat + q < h.length := by (first | omega | (simp only [cst] at *; omega) | (simp only [sm] at *; omega))
                  rw [List.getElem?_eq_getElem hl2] at hbv ⊢
                  exact congrArg some hbv.symm
                · exact hq q (by omega)⟩
              have hmk : True := trivial
              cbv
              (repeat' (first
| (refine q1w (fun z hz => ?_); (try simp only at hz); cbv)
| (refine rqw ?_; cbv)
| (refine rq (show kfitQ _ _ from by simp [kfitQ, IntKind.min, IntKind.max, IntKind.signed, IntKind.bits]; omega) ?_; cbv)
| (refine chpA ?_; cbv)
| (refine QC.tw ?_; cbv)
| (refine QC.tt ?_ ?_; (focus (simp only [decide_true, Bool.and_true, Bool.and_self] <;> fail)); cbv)
| (refine QC.ff ?_ ?_; (focus (simp only [decide_true, Bool.and_true, Bool.and_self, decide_false, Bool.false_and, reduceCtorEq, not_false_eq_true] <;> fail)); cbv)
| (refine QC.fw ?_; cbv)
| (refine QC.mk (fun hc => ?_) (fun hc => ?_) <;> (try dsimp only at hc) <;> cbv)
| (refine br_mk2 (fun hb => ?_) (fun hb => ?_) <;> (try subst hb) <;> cbv)))
              · have hlt : k < b.length := by (first | omega | (simp only [cst] at *; omega) | (simp only [sm] at *; omega))
                have hPk := hPk hlt
                have hXk := hXk hlt
                refine qv sp ⟨by (first | omega | (simp only [cst] at *; omega) | (simp only [sm] at *; omega)), by (first | omega | (simp only [cst] at *; omega) | (simp only [sm] at *; omega))⟩ ?_
                cbv
                (repeat' (first
| (refine q1w (fun z hz => ?_); (try simp only at hz); cbv)
| (refine rqw ?_; cbv)
| (refine rq (show kfitQ _ _ from by simp [kfitQ, IntKind.min, IntKind.max, IntKind.signed, IntKind.bits]; omega) ?_; cbv)
| (refine chpA ?_; cbv)
| (refine QC.tw ?_; cbv)
| (refine QC.tt ?_ ?_; (focus (simp only [decide_true, Bool.and_true, Bool.and_self] <;> fail)); cbv)
| (refine QC.ff ?_ ?_; (focus (simp only [decide_true, Bool.and_true, Bool.and_self, decide_false, Bool.false_and, reduceCtorEq, not_false_eq_true] <;> fail)); cbv)
| (refine QC.fw ?_; cbv)
| (refine QC.mk (fun hc => ?_) (fun hc => ?_) <;> (try dsimp only at hc) <;> cbv)
| (refine br_mk2 (fun hb => ?_) (fun hb => ?_) <;> (try subst hb) <;> cbv)))
                (refine qv _ (hPk) ?_; cbv; (repeat' (first
| (refine q1w (fun z hz => ?_); (try simp only at hz); cbv)
| (refine rqw ?_; cbv)
| (refine rq (show kfitQ _ _ from by simp [kfitQ, IntKind.min, IntKind.max, IntKind.signed, IntKind.bits]; omega) ?_; cbv)
| (refine chpA ?_; cbv)
| (refine QC.tw ?_; cbv)
| (refine QC.tt ?_ ?_; (focus (simp only [decide_true, Bool.and_true, Bool.and_self] <;> fail)); cbv)
| (refine QC.ff ?_ ?_; (focus (simp only [decide_true, Bool.and_true, Bool.and_self, decide_false, Bool.false_and, reduceCtorEq, not_false_eq_true] <;> fail)); cbv)
| (refine QC.fw ?_; cbv)
| (refine QC.mk (fun hc => ?_) (fun hc => ?_) <;> (try dsimp only at hc) <;> cbv)
| (refine br_mk2 (fun hb => ?_) (fun hb => ?_) <;> (try subst hb) <;> cbv))))
                · obtain ⟨e1, e2⟩ := hT.h hlt rfl
                  rw [e1, e2]
                  exact ⟨rfl, rfl, rfl⟩
                · (refine qv (k, _) ⟨hjk, hXk⟩ ?_; cbv; (repeat' (first
| (refine q1w (fun z hz => ?_); (try simp only at hz); cbv)
| (refine rqw ?_; cbv)
| (refine rq (show kfitQ _ _ from by simp [kfitQ, IntKind.min, IntKind.max, IntKind.signed, IntKind.bits]; omega) ?_; cbv)
| (refine chpA ?_; cbv)
| (refine QC.tw ?_; cbv)
| (refine QC.tt ?_ ?_; (focus (simp only [decide_true, Bool.and_true, Bool.and_self] <;> fail)); cbv)
| (refine QC.ff ?_ ?_; (focus (simp only [decide_true, Bool.and_true, Bool.and_self, decide_false, Bool.false_and, reduceCtorEq, not_false_eq_true] <;> fail)); cbv)
| (refine QC.fw ?_; cbv)
| (refine QC.mk (fun hc => ?_) (fun hc => ?_) <;> (try dsimp only at hc) <;> cbv)
| (refine br_mk2 (fun hb => ?_) (fun hb => ?_) <;> (try subst hb) <;> cbv))))
                  refine qv sp ⟨by (first | omega | (simp only [cst] at *; omega) | (simp only [sm] at *; omega)), by (first | omega | (simp only [cst] at *; omega) | (simp only [sm] at *; omega))⟩ ?_
                  cbv
                  (repeat' (first
| (refine q1w (fun z hz => ?_); (try simp only at hz); cbv)
| (refine rqw ?_; cbv)
| (refine rq (show kfitQ _ _ from by simp [kfitQ, IntKind.min, IntKind.max, IntKind.signed, IntKind.bits]; omega) ?_; cbv)
| (refine chpA ?_; cbv)
| (refine QC.tw ?_; cbv)
| (refine QC.tt ?_ ?_; (focus (simp only [decide_true, Bool.and_true, Bool.and_self] <;> fail)); cbv)
| (refine QC.ff ?_ ?_; (focus (simp only [decide_true, Bool.and_true, Bool.and_self, decide_false, Bool.false_and, reduceCtorEq, not_false_eq_true] <;> fail)); cbv)
| (refine QC.fw ?_; cbv)
| (refine QC.mk (fun hc => ?_) (fun hc => ?_) <;> (try dsimp only at hc) <;> cbv)
| (refine br_mk2 (fun hb => ?_) (fun hb => ?_) <;> (try subst hb) <;> cbv)))
                  refine qv sp ⟨by (first | omega | (simp only [cst] at *; omega) | (simp only [sm] at *; omega)), by (first | omega | (simp only [cst] at *; omega) | (simp only [sm] at *; omega))⟩ ?_
                  cbv
                  (repeat' (first
| (refine q1w (fun z hz => ?_); (try simp only at hz); cbv)
| (refine rqw ?_; cbv)
| (refine rq (show kfitQ _ _ from by simp [kfitQ, IntKind.min, IntKind.max, IntKind.signed, IntKind.bits]; omega) ?_; cbv)
| (refine chpA ?_; cbv)
| (refine QC.tw ?_; cbv)
| (refine QC.tt ?_ ?_; (focus (simp only [decide_true, Bool.and_true, Bool.and_self] <;> fail)); cbv)
| (refine QC.ff ?_ ?_; (focus (simp only [decide_true, Bool.and_true, Bool.and_self, decide_false, Bool.false_and, reduceCtorEq, not_false_eq_true] <;> fail)); cbv)
| (refine QC.fw ?_; cbv)
| (refine QC.mk (fun hc => ?_) (fun hc => ?_) <;> (try dsimp only at hc) <;> cbv)
| (refine br_mk2 (fun hb => ?_) (fun hb => ?_) <;> (try subst hb) <;> cbv)))
                  rename_i z1 hz1 
                  refine ⟨(k + 1, z, z1), ⟨by show z = ((k + 1 : Nat) : Int); (first | omega | (simp only [cst] at *; omega) | (simp only [sm] at *; omega)), by show k + 1 ≤ b.length; omega, by show z1 = c + ((k + 1 : Nat) : Int); (first | omega | (simp only [cst] at *; omega) | (simp only [sm] at *; omega)), hF.h hlt rfl⟩, by show b.length - (k + 1) < b.length - k; omega, ?_⟩
                  cbv
                  refine ⟨?_, ?_, trivial⟩
                  · show Blk.row none 5 (O.st (Sp o a b k) sp (.int .u8 xv)) = .row none 5 (Sp o a b (k + 1))
                    rw [ost, hSp, hSp, hxv, u8l_set, hsp, spl_set _ _ _ _ hlt (by (first | omega | (simp only [cst] at *; omega) | (simp only [sm] at *; omega)))]
                  · show Blk.row none 4 (O.st (Pt h a k) sp (.bool true)) = .row none 4 (Pt h a (k + 1))
                    rw [ost, hPt, hPt, bl_set, hsp, paint_set _ _ _ (by (first | omega | (simp only [cst] at *; omega) | (simp only [sm] at *; omega)))]
              · have hkb : k = b.length := by (first | omega | (simp only [cst] at *; omega) | (simp only [sm] at *; omega))
                subst hkb
                have hvb : 0 ≤ a ∧ a.toNat + b.length ≤ n0.toNat ∧ 1 ≤ b.length ∧ (b.length : Int) ≤ 2047 := by (first | omega | (simp only [cst] at *; omega) | (simp only [sm] at *; omega))
                have hlo : (splice o a b).length = n0.toNat := by rw [spl_len _ _ _ (by omega)]; exact ho
                have hlh : (paint h a b.length).length = n0.toNat := by rw [paint_len _ _ _ (by omega)]; exact hhl
                have hg' := joinF_step_yes hg hfi hr.symm (by omega) (by omega) hq
                refine ⟨(i + 1, z, ck, splice o a b, paint h a b.length), ⟨by show z = ((i + 1 : Nat) : Int); (first | omega | (simp only [cst] at *; omega) | (simp only [sm] at *; omega)), by show i + 1 ≤ fs.length; (first | omega | (simp only [cst] at *; omega) | (simp only [sm] at *; omega)), by show goF n0 t0 (fs.take (i + 1)) (jo0 n0) = some ⟨splice o a b, paint h a b.length, ck⟩; rw [hck]; exact hg', hlo, hlh, by show 0 ≤ ck; (first | omega | (simp only [cst] at *; omega) | (simp only [sm] at *; omega)), by show ck ≤ 2047 * ((i + 1 : Nat) : Int); (first | omega | (simp only [cst] at *; omega) | (simp only [sm] at *; omega))⟩, by show fs.length - (i + 1) < fs.length - i; (first | omega | (simp only [cst] at *; omega) | (simp only [sm] at *; omega)), ?_⟩
                cbv
                refine ⟨?_, ?_, trivial⟩
                · show Blk.row none 5 (Sp o a b b.length) = .row none 5 (U (splice o a b))
                  rw [hSp, hU, List.take_length]
                · show Blk.row none 4 (Pt h a b.length) = .row none 4 (B (paint h a b.length))
                  rw [hPt, hB]
      · obtain ⟨e1, e2⟩ := hno.h (.inl hr.symm)
        rw [e1, e2]
        exact ⟨rfl, rfl, rfl⟩
    · have e : i = fs.length := by (first | omega | (simp only [cst] at *; omega) | (simp only [sm] at *; omega))
      rw [e, List.take_length] at hg
      have := joinF_some h0 hok hg
      dsimp only at this
      rw [if_neg (by (first | omega | (simp only [cst] at *; omega) | (simp only [sm] at *; omega))), hj'] at this
      injection this with e1 e2
      rw [hR, e1, e2]
      exact ⟨rfl, rfl, rfl⟩
    · have e : i = fs.length := by (first | omega | (simp only [cst] at *; omega) | (simp only [sm] at *; omega))
      rw [e, List.take_length] at hg
      have := joinF_some h0 hok hg
      dsimp only at this
      rw [if_pos (by (first | omega | (simp only [cst] at *; omega) | (simp only [sm] at *; omega))), hj'] at this
      injection this with e1 e2
      rw [hR, e1, e2, ← hU]
      exact ⟨rfl, rfl, rfl⟩
theorem rjoin_no (W : List SV) (n : Nat) (hn : W.length = n) (hl : n ≤ 3000000000000) (h : 0 < n → ∃ n0 t0 a0 X0, W[0]? = some (.agg [.int .i64 n0, .int .u16 t0, .int .i64 a0, .lst none X0]) ∧ Good 41 (pu [.agg [.int .i64 n0, .int .u16 t0, .int .i64 a0, .lst none X0]] (.bool false))) :
    Good 50 (pu [.lst (some 4) W] (.tup [.lst none [], .bool false])) := by
  by_cases h0 : n = 0
  · refine Good.of Try.func50 rfl (by rfl) (by kernel_rfl) ?_
    cbv
    (repeat' (first
| (refine q1w (fun z hz => ?_); (try simp only at hz); cbv)
| (refine rqw ?_; cbv)
| (refine rq (show kfitQ _ _ from by simp [kfitQ, IntKind.min, IntKind.max, IntKind.signed, IntKind.bits]; omega) ?_; cbv)
| (refine chpA ?_; cbv)
| (refine QC.tw ?_; cbv)
| (refine QC.tt ?_ ?_; (focus (simp only [decide_true, Bool.and_true, Bool.and_self] <;> fail)); cbv)
| (refine QC.ff ?_ ?_; (focus (simp only [decide_true, Bool.and_true, Bool.and_self, decide_false, Bool.false_and, reduceCtorEq, not_false_eq_true] <;> fail)); cbv)
| (refine QC.fw ?_; cbv)
| (refine QC.mk (fun hc => ?_) (fun hc => ?_) <;> (try dsimp only at hc) <;> cbv)
| (refine br_mk2 (fun hb => ?_) (fun hb => ?_) <;> (try subst hb) <;> cbv)))
    exact ⟨rfl, rfl, rfl⟩
  · obtain ⟨n0, t0, a0, X0, hW0, hv0⟩ := h (by omega)
    refine Good.of Try.func50 rfl (by rfl) (by kernel_rfl) ?_
    cbv
    (repeat' (first
| (refine q1w (fun z hz => ?_); (try simp only at hz); cbv)
| (refine rqw ?_; cbv)
| (refine rq (show kfitQ _ _ from by simp [kfitQ, IntKind.min, IntKind.max, IntKind.signed, IntKind.bits]; omega) ?_; cbv)
| (refine chpA ?_; cbv)
| (refine QC.tw ?_; cbv)
| (refine QC.tt ?_ ?_; (focus (simp only [decide_true, Bool.and_true, Bool.and_self] <;> fail)); cbv)
| (refine QC.ff ?_ ?_; (focus (simp only [decide_true, Bool.and_true, Bool.and_self, decide_false, Bool.false_and, reduceCtorEq, not_false_eq_true] <;> fail)); cbv)
| (refine QC.fw ?_; cbv)
| (refine QC.mk (fun hc => ?_) (fun hc => ?_) <;> (try dsimp only at hc) <;> cbv)
| (refine br_mk2 (fun hb => ?_) (fun hb => ?_) <;> (try subst hb) <;> cbv)))
    refine qv (0, .agg [.int .i64 n0, .int .u16 t0, .int .i64 a0, .lst none X0]) ⟨rfl, hW0⟩ ?_
    cbv
    (repeat' (first
| (refine q1w (fun z hz => ?_); (try simp only at hz); cbv)
| (refine rqw ?_; cbv)
| (refine rq (show kfitQ _ _ from by simp [kfitQ, IntKind.min, IntKind.max, IntKind.signed, IntKind.bits]; omega) ?_; cbv)
| (refine chpA ?_; cbv)
| (refine QC.tw ?_; cbv)
| (refine QC.tt ?_ ?_; (focus (simp only [decide_true, Bool.and_true, Bool.and_self] <;> fail)); cbv)
| (refine QC.ff ?_ ?_; (focus (simp only [decide_true, Bool.and_true, Bool.and_self, decide_false, Bool.false_and, reduceCtorEq, not_false_eq_true] <;> fail)); cbv)
| (refine QC.fw ?_; cbv)
| (refine QC.mk (fun hc => ?_) (fun hc => ?_) <;> (try dsimp only at hc) <;> cbv)
| (refine br_mk2 (fun hb => ?_) (fun hb => ?_) <;> (try subst hb) <;> cbv)))
    (refine callq (hv0) rfl rfl ?_; cbv; (repeat' (first
| (refine q1w (fun z hz => ?_); (try simp only at hz); cbv)
| (refine rqw ?_; cbv)
| (refine rq (show kfitQ _ _ from by simp [kfitQ, IntKind.min, IntKind.max, IntKind.signed, IntKind.bits]; omega) ?_; cbv)
| (refine chpA ?_; cbv)
| (refine QC.tw ?_; cbv)
| (refine QC.tt ?_ ?_; (focus (simp only [decide_true, Bool.and_true, Bool.and_self] <;> fail)); cbv)
| (refine QC.ff ?_ ?_; (focus (simp only [decide_true, Bool.and_true, Bool.and_self, decide_false, Bool.false_and, reduceCtorEq, not_false_eq_true] <;> fail)); cbv)
| (refine QC.fw ?_; cbv)
| (refine QC.mk (fun hc => ?_) (fun hc => ?_) <;> (try dsimp only at hc) <;> cbv)
| (refine br_mk2 (fun hb => ?_) (fun hb => ?_) <;> (try subst hb) <;> cbv))))
    exact ⟨rfl, rfl, rfl⟩
end Go.Proofs.Ytplcajgoigpneaa
