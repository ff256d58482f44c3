/- Texts put together: LS. -/
import Derived.Test.YtplcajgoigpneaaZ25
namespace Go.Proofs.Ytplcajgoigpneaa
set_option linter.unusedVariables false
set_option linter.unusedSimpArgs false
open Go.RowKit
set_option maxHeartbeats 16000000
set_option maxRecDepth 4000 in
theorem reached_e {L : List SV} {a : Int} (h : Tp L a) {U : List Sw → List SV} (hU : ∀ l, U l = swL l) : ∃ (l : List Sw) (now c : Int), VS l ∧ (∀ x ∈ l, RQ x) ∧ (0 ≤ now ∧ now ≤ 62) ∧ Tp L c ∧
    Good 9 (le 70 (.agg [.lst none L, .int .i64 a]) [] (.tup [.lst (some 11) (U l), .int .i64 now]) (.agg [.lst none L, .int .i64 c])) := by
  obtain ⟨n0, b1, p1, u1, t1, g1⟩ := next_e h 20 (by omega)
  obtain ⟨k1, b2, p2, u2, t2, g2⟩ := next_e t1 14 (by omega)
  obtain ⟨k0, hk0⟩ : ∃ k0 : Nat, k1 = k0 := Int.eq_ofNat_of_zero_le p2
  have hI0 : RoI L ⟨k0, b2, n0, []⟩ := ⟨t2, p1, by dsimp only; omega, VS_nil, fun x hx => by simp at hx⟩
  obtain ⟨fin, S, s0, sI, sR, sE, fI, fC⟩ := orbit (RoI L) (fun a => 0 < a.k) (fun a => a.k) (RoR U L) (ro_round hU) _ hI0
  have hIb : ∀ a, S a → a.k ≤ 20 ∧ 0 ≤ a.now ∧ a.now ≤ 62 := fun a ha => by
    have := (sI a ha).n1
    have := (sI a ha).n2
    omega
  have hfn := (hIb fin)
  have hSf : 0 ≤ fin.now ∧ fin.now ≤ 62 := by
    have := fI.n1
    have := fI.n2
    omega
  have hU0 : U [] = [] := by rw [hU]; rfl
  refine ⟨fin.l, fin.now, fin.c, fI.v, fI.q, hSf, fI.tp, ?_⟩
  clear sI fI hI0 hfn
  obtain ⟨fk, fc, fnow, fl⟩ := fin
  refine Good.of Try.func9 rfl (by rfl) (by kernel_rfl) ?_
  cbv
  have hmk : True := trivial
  (repeat' (first
| (refine q1w (fun z hz => ?_); (try simp only at hz); cbv)
| (refine rqw ?_; cbv)
| (refine rq (show kfitQ _ _ from by simp [kfitQ, IntKind.min, IntKind.max, IntKind.signed, IntKind.bits]; omega) ?_; cbv)
| (refine chpA ?_; cbv)
| (refine QC.tw ?_; cbv)
| (refine QC.tt ?_ ?_; (focus (simp only [decide_true, Bool.and_true, Bool.and_self] <;> fail)); cbv)
| (refine QC.ff ?_ ?_; (focus (simp only [decide_true, Bool.and_true, Bool.and_self, decide_false, Bool.false_and, reduceCtorEq, not_false_eq_true] <;> fail)); cbv)
| (refine QC.fw ?_; cbv)
| (refine QC.mk (fun hc => ?_) (fun hc => ?_) <;> (try dsimp only at hc) <;> cbv)
| (refine br_mk2 (fun hb => ?_) (fun hb => ?_) <;> (try subst hb) <;> cbv)))
  (refine callq (g1) rfl rfl ?_; cbv; (repeat' (first
| (refine q1w (fun z hz => ?_); (try simp only at hz); cbv)
| (refine rqw ?_; cbv)
| (refine rq (show kfitQ _ _ from by simp [kfitQ, IntKind.min, IntKind.max, IntKind.signed, IntKind.bits]; omega) ?_; cbv)
| (refine chpA ?_; cbv)
| (refine QC.tw ?_; cbv)
| (refine QC.tt ?_ ?_; (focus (simp only [decide_true, Bool.and_true, Bool.and_self] <;> fail)); cbv)
| (refine QC.ff ?_ ?_; (focus (simp only [decide_true, Bool.and_true, Bool.and_self, decide_false, Bool.false_and, reduceCtorEq, not_false_eq_true] <;> fail)); cbv)
| (refine QC.fw ?_; cbv)
| (refine QC.mk (fun hc => ?_) (fun hc => ?_) <;> (try dsimp only at hc) <;> cbv)
| (refine br_mk2 (fun hb => ?_) (fun hb => ?_) <;> (try subst hb) <;> cbv))))
  (refine callq (g2) rfl rfl ?_; cbv; (repeat' (first
| (refine q1w (fun z hz => ?_); (try simp only at hz); cbv)
| (refine rqw ?_; cbv)
| (refine rq (show kfitQ _ _ from by simp [kfitQ, IntKind.min, IntKind.max, IntKind.signed, IntKind.bits]; omega) ?_; cbv)
| (refine chpA ?_; cbv)
| (refine QC.tw ?_; cbv)
| (refine QC.tt ?_ ?_; (focus (simp only [decide_true, Bool.and_true, Bool.and_self] <;> fail)); cbv)
| (refine QC.ff ?_ ?_; (focus (simp only [decide_true, Bool.and_true, Bool.and_self, decide_false, Bool.false_and, reduceCtorEq, not_false_eq_true] <;> fail)); cbv)
| (refine QC.fw ?_; cbv)
| (refine QC.mk (fun hc => ?_) (fun hc => ?_) <;> (try dsimp only at hc) <;> cbv)
| (refine br_mk2 (fun hb => ?_) (fun hb => ?_) <;> (try subst hb) <;> cbv))))
  refine loopQ (A := RoS × Int) (fun p => S p.1 ∧ p.2 = p.1.k) (fun p => p.1.k) (fun p => [(6, .int .i64 p.2), (5, .int .i64 p.1.now), (4, .lst (some 11) (U p.1.l))]) (fun p => [(0, .chunk 70 (.agg [.lst none L, .int .i64 p.1.c])), (10, .no), (11, .no)]) (⟨k0, b2, n0, []⟩, k1) ⟨s0, hk0⟩ ?_ ?_
  · cbv
    rw [hU0]
    repeat' (first | exact rfl | exact trivial | apply And.intro)
  · intro ⟨⟨k, c, now, l⟩, i⟩ hh
    have hS : S ⟨k, c, now, l⟩ := hh.1
    have hi : i = (k : Int) := hh.2
    have hb := hIb _ hS
    have hE := sE _ hS
    have hR := sR _ hS
    have hn1 : 0 ≤ now ∧ now ≤ 62 := hb.2
    have hkb : k ≤ 20 := hb.1
    have hib : i ≤ 20 := by omega
    clear hh hIb sE sR hb hS
    have hml : True := trivial
    cbv
    (repeat' (first
| (refine q1w (fun z hz => ?_); (try simp only at hz); cbv)
| (refine rqw ?_; cbv)
| (refine rq (show kfitQ _ _ from by simp [kfitQ, IntKind.min, IntKind.max, IntKind.signed, IntKind.bits]; omega) ?_; cbv)
| (refine chpA ?_; cbv)
| (refine QC.tw ?_; cbv)
| (refine QC.tt ?_ ?_; (focus (simp only [decide_true, Bool.and_true, Bool.and_self] <;> fail)); cbv)
| (refine QC.ff ?_ ?_; (focus (simp only [decide_true, Bool.and_true, Bool.and_self, decide_false, Bool.false_and, reduceCtorEq, not_false_eq_true] <;> fail)); cbv)
| (refine QC.fw ?_; cbv)
| (refine QC.mk (fun hc => ?_) (fun hc => ?_) <;> (try dsimp only at hc) <;> cbv)
| (refine br_mk2 (fun hb => ?_) (fun hb => ?_) <;> (try subst hb) <;> cbv)))
    · have hk : 0 < k := by (first | omega | (simp only [cst] at *; omega) | (simp only [sm] at *; omega))
      obtain ⟨⟨k', c', now', l'⟩, hS', hlt, nf, W, c1, ⟨fj, fcc, fll⟩, S2, d, e1, e2, e2', e3, e3', e4, e5, e6, e7, e8, e9, e10⟩ := hR hk
      have e8 : now' = now + d := e8
      have e9 : l' = fll := e9
      have e10 : k' + 1 = k := e10
      subst e9
      clear hR hE
      (refine callq (e1) rfl rfl ?_; cbv; (repeat' (first
| (refine q1w (fun z hz => ?_); (try simp only at hz); cbv)
| (refine rqw ?_; cbv)
| (refine rq (show kfitQ _ _ from by simp [kfitQ, IntKind.min, IntKind.max, IntKind.signed, IntKind.bits]; omega) ?_; cbv)
| (refine chpA ?_; cbv)
| (refine QC.tw ?_; cbv)
| (refine QC.tt ?_ ?_; (focus (simp only [decide_true, Bool.and_true, Bool.and_self] <;> fail)); cbv)
| (refine QC.ff ?_ ?_; (focus (simp only [decide_true, Bool.and_true, Bool.and_self, decide_false, Bool.false_and, reduceCtorEq, not_false_eq_true] <;> fail)); cbv)
| (refine QC.fw ?_; cbv)
| (refine QC.mk (fun hc => ?_) (fun hc => ?_) <;> (try dsimp only at hc) <;> cbv)
| (refine br_mk2 (fun hb => ?_) (fun hb => ?_) <;> (try subst hb) <;> cbv))))
      refine loopQ (A := RiS × Int) (fun p => S2 p.1 ∧ p.2 = p.1.j) (fun p => 2 - p.1.j) (fun p => [(8, .int .i64 p.2), (4, .lst (some 11) (U p.1.l))]) (fun p => [(0, .chunk 70 (.agg [.lst none L, .int .i64 p.1.c])), (10, .no), (11, .no)]) (⟨0, c1, l⟩, 0) ⟨e3, rfl⟩ ?_ ?_
      · cbv
        repeat' (first | exact rfl | exact trivial | apply And.intro)
      · intro ⟨⟨j, c2, l2⟩, jj⟩ hh
        have hS2 : S2 ⟨j, c2, l2⟩ := hh.1
        have hjj : jj = (j : Int) := hh.2
        have hE := e5 _ hS2
        have hR := e4 _ hS2
        have hj2 : j ≤ 2 := e3' _ hS2
        clear hh e4 e5 hS2 e3'
        have hmm : True := trivial
        cbv
        (repeat' (first
| (refine q1w (fun z hz => ?_); (try simp only at hz); cbv)
| (refine rqw ?_; cbv)
| (refine rq (show kfitQ _ _ from by simp [kfitQ, IntKind.min, IntKind.max, IntKind.signed, IntKind.bits]; omega) ?_; cbv)
| (refine chpA ?_; cbv)
| (refine QC.tw ?_; cbv)
| (refine QC.tt ?_ ?_; (focus (simp only [decide_true, Bool.and_true, Bool.and_self] <;> fail)); cbv)
| (refine QC.ff ?_ ?_; (focus (simp only [decide_true, Bool.and_true, Bool.and_self, decide_false, Bool.false_and, reduceCtorEq, not_false_eq_true] <;> fail)); cbv)
| (refine QC.fw ?_; cbv)
| (refine QC.mk (fun hc => ?_) (fun hc => ?_) <;> (try dsimp only at hc) <;> cbv)
| (refine br_mk2 (fun hb => ?_) (fun hb => ?_) <;> (try subst hb) <;> cbv)))
        · obtain ⟨⟨j', c3, l3⟩, hS3, hlt3, m1, s1, x1, c4, n, t, o, X, m2, s2, x2, c5, tg, r, Y, r1, r2, r3, r4, r5, r6, r7, r8, r9⟩ := hR ⟨by (first | omega | (simp only [cst] at *; omega) | (simp only [sm] at *; omega)), by (first | omega | (simp only [cst] at *; omega) | (simp only [sm] at *; omega))⟩
          have r9 : j' = j + 1 := r9
          obtain ⟨rR, rn, rt, ro, rd0, rd, re, rf, rer⟩ := r
          have r7 : rer = 0 → l3 = rR := r7
          have r8 : rer ≠ 0 → l3 = l2 := r8
          dsimp only at r1 r2 r4 r6 hlt3
          clear hR hE
          (refine callq (r1) rfl rfl ?_; cbv; (repeat' (first
| (refine q1w (fun z hz => ?_); (try simp only at hz); cbv)
| (refine rqw ?_; cbv)
| (refine rq (show kfitQ _ _ from by simp [kfitQ, IntKind.min, IntKind.max, IntKind.signed, IntKind.bits]; omega) ?_; cbv)
| (refine chpA ?_; cbv)
| (refine QC.tw ?_; cbv)
| (refine QC.tt ?_ ?_; (focus (simp only [decide_true, Bool.and_true, Bool.and_self] <;> fail)); cbv)
| (refine QC.ff ?_ ?_; (focus (simp only [decide_true, Bool.and_true, Bool.and_self, decide_false, Bool.false_and, reduceCtorEq, not_false_eq_true] <;> fail)); cbv)
| (refine QC.fw ?_; cbv)
| (refine QC.mk (fun hc => ?_) (fun hc => ?_) <;> (try dsimp only at hc) <;> cbv)
| (refine br_mk2 (fun hb => ?_) (fun hb => ?_) <;> (try subst hb) <;> cbv))))
          (refine qv (j, _) ⟨hjj, r2⟩ ?_; cbv; (repeat' (first
| (refine q1w (fun z hz => ?_); (try simp only at hz); cbv)
| (refine rqw ?_; cbv)
| (refine rq (show kfitQ _ _ from by simp [kfitQ, IntKind.min, IntKind.max, IntKind.signed, IntKind.bits]; omega) ?_; cbv)
| (refine chpA ?_; cbv)
| (refine QC.tw ?_; cbv)
| (refine QC.tt ?_ ?_; (focus (simp only [decide_true, Bool.and_true, Bool.and_self] <;> fail)); cbv)
| (refine QC.ff ?_ ?_; (focus (simp only [decide_true, Bool.and_true, Bool.and_self, decide_false, Bool.false_and, reduceCtorEq, not_false_eq_true] <;> fail)); cbv)
| (refine QC.fw ?_; cbv)
| (refine QC.mk (fun hc => ?_) (fun hc => ?_) <;> (try dsimp only at hc) <;> cbv)
| (refine br_mk2 (fun hb => ?_) (fun hb => ?_) <;> (try subst hb) <;> cbv))))
          (refine callq (r3) rfl rfl ?_; cbv; (repeat' (first
| (refine q1w (fun z hz => ?_); (try simp only at hz); cbv)
| (refine rqw ?_; cbv)
| (refine rq (show kfitQ _ _ from by simp [kfitQ, IntKind.min, IntKind.max, IntKind.signed, IntKind.bits]; omega) ?_; cbv)
| (refine chpA ?_; cbv)
| (refine QC.tw ?_; cbv)
| (refine QC.tt ?_ ?_; (focus (simp only [decide_true, Bool.and_true, Bool.and_self] <;> fail)); cbv)
| (refine QC.ff ?_ ?_; (focus (simp only [decide_true, Bool.and_true, Bool.and_self, decide_false, Bool.false_and, reduceCtorEq, not_false_eq_true] <;> fail)); cbv)
| (refine QC.fw ?_; cbv)
| (refine QC.mk (fun hc => ?_) (fun hc => ?_) <;> (try dsimp only at hc) <;> cbv)
| (refine br_mk2 (fun hb => ?_) (fun hb => ?_) <;> (try subst hb) <;> cbv))))
          (refine callq (r4) rfl rfl ?_; cbv; (repeat' (first
| (refine q1w (fun z hz => ?_); (try simp only at hz); cbv)
| (refine rqw ?_; cbv)
| (refine rq (show kfitQ _ _ from by simp [kfitQ, IntKind.min, IntKind.max, IntKind.signed, IntKind.bits]; omega) ?_; cbv)
| (refine chpA ?_; cbv)
| (refine QC.tw ?_; cbv)
| (refine QC.tt ?_ ?_; (focus (simp only [decide_true, Bool.and_true, Bool.and_self] <;> fail)); cbv)
| (refine QC.ff ?_ ?_; (focus (simp only [decide_true, Bool.and_true, Bool.and_self, decide_false, Bool.false_and, reduceCtorEq, not_false_eq_true] <;> fail)); cbv)
| (refine QC.fw ?_; cbv)
| (refine QC.mk (fun hc => ?_) (fun hc => ?_) <;> (try dsimp only at hc) <;> cbv)
| (refine br_mk2 (fun hb => ?_) (fun hb => ?_) <;> (try subst hb) <;> cbv))))
          have e : z = tg := by (first | omega | (simp only [cst] at *; omega) | (simp only [sm] at *; omega))
          subst e
          (refine callq (r6) rfl rfl ?_; cbv; (repeat' (first
| (refine q1w (fun z hz => ?_); (try simp only at hz); cbv)
| (refine rqw ?_; cbv)
| (refine rq (show kfitQ _ _ from by simp [kfitQ, IntKind.min, IntKind.max, IntKind.signed, IntKind.bits]; omega) ?_; cbv)
| (refine chpA ?_; cbv)
| (refine QC.tw ?_; cbv)
| (refine QC.tt ?_ ?_; (focus (simp only [decide_true, Bool.and_true, Bool.and_self] <;> fail)); cbv)
| (refine QC.ff ?_ ?_; (focus (simp only [decide_true, Bool.and_true, Bool.and_self, decide_false, Bool.false_and, reduceCtorEq, not_false_eq_true] <;> fail)); cbv)
| (refine QC.fw ?_; cbv)
| (refine QC.mk (fun hc => ?_) (fun hc => ?_) <;> (try dsimp only at hc) <;> cbv)
| (refine br_mk2 (fun hb => ?_) (fun hb => ?_) <;> (try subst hb) <;> cbv))))
          · have e3 := r7 hc
            subst e3
            refine ⟨(⟨j', c3, l3⟩, z), ⟨hS3, by show z = (j' : Int); (first | omega | (simp only [cst] at *; omega) | (simp only [sm] at *; omega))⟩, by show 2 - j' < 2 - j; omega, ?_⟩
            cbv
            repeat' (first | exact rfl | exact trivial | apply And.intro)
          · have e3 := r8 hc
            subst e3
            refine ⟨(⟨j', c3, l3⟩, z), ⟨hS3, by show z = (j' : Int); (first | omega | (simp only [cst] at *; omega) | (simp only [sm] at *; omega))⟩, by show 2 - j' < 2 - j; omega, ?_⟩
            cbv
            repeat' (first | exact rfl | exact trivial | apply And.intro)
        all_goals
          have hfin := hE (by (first | omega | (simp only [cst] at *; omega) | (simp only [sm] at *; omega)))
          injection hfin with f1 f2 f3
          subst f1; subst f2; subst f3
          (refine callq (e6) rfl rfl ?_; cbv; (repeat' (first
| (refine q1w (fun z hz => ?_); (try simp only at hz); cbv)
| (refine rqw ?_; cbv)
| (refine rq (show kfitQ _ _ from by simp [kfitQ, IntKind.min, IntKind.max, IntKind.signed, IntKind.bits]; omega) ?_; cbv)
| (refine chpA ?_; cbv)
| (refine QC.tw ?_; cbv)
| (refine QC.tt ?_ ?_; (focus (simp only [decide_true, Bool.and_true, Bool.and_self] <;> fail)); cbv)
| (refine QC.ff ?_ ?_; (focus (simp only [decide_true, Bool.and_true, Bool.and_self, decide_false, Bool.false_and, reduceCtorEq, not_false_eq_true] <;> fail)); cbv)
| (refine QC.fw ?_; cbv)
| (refine QC.mk (fun hc => ?_) (fun hc => ?_) <;> (try dsimp only at hc) <;> cbv)
| (refine br_mk2 (fun hb => ?_) (fun hb => ?_) <;> (try subst hb) <;> cbv))))
          rename_i zn hzn
          have hzn : zn = now' := by (first | omega | (simp only [cst] at *; omega) | (simp only [sm] at *; omega))
          subst hzn
          refine ⟨(⟨k', c', zn, l2⟩, z), ⟨hS', by show z = (k' : Int); (first | omega | (simp only [cst] at *; omega) | (simp only [sm] at *; omega))⟩, by show k' < k; omega, ?_⟩
          cbv
          repeat' (first | exact rfl | exact trivial | apply And.intro)
    · have hk : ¬ 0 < k := by (first | omega | (simp only [cst] at *; omega) | (simp only [sm] at *; omega))
      have hE := hE hk
      injection hE with e1 e2 e3 e4
      subst e1; subst e2; subst e3; subst e4
      exact ⟨rfl, rfl, rfl⟩
end Go.Proofs.Ytplcajgoigpneaa
