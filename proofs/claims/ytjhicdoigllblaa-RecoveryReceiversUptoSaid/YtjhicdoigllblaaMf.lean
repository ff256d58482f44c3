/- Texts put together: XLc XLd XLe XN XM. -/
import Derived.Test.YtjhicdoigllblaaMe
import Derived.Test.YtjhicdoigllblaaRows
namespace Go.Proofs.Ytjhicdoigllblaa
set_option linter.unusedVariables false
set_option linter.unusedSimpArgs false
open Go.RowKit
set_option maxHeartbeats 16000000
set_option maxRecDepth 8000 in
theorem receivers_20
    (x0 : Rcv) (R0 : List SV) (hR0 : R0 = rowsB x0.ps) (hf0 : x0.fits) (hl0 : x0.ps.flatten.length ≤ 140737488351232) (p0 : Pce) (D0 : List SV) (hD0 : D0 = u8l p0.d) (hp0 : p0.fits) (Z T : List SV) (hT : T = Z.take 400)
    (st stg ak rd un : Int) (ps : List (List UInt8)) (R : List SV) (c1 : Int) (hstg : 0 ≤ stg ∧ stg ≤ 255) (hR : R = rowsB ps) (hsh : ∀ p ∈ ps, p.length ≤ 200) (hn1 : 1 ≤ ps.length ∧ ps.length ≤ 32)
    (gS : Good 11 (le 81 (.agg [.lst none T, .int .i64 0]) [] (.agg [.int .i64 st, .int .u8 stg, .lst none R, .int .u32 ak, .int .i64 rd, .int .i64 un]) (.agg [.lst none T, .int .i64 c1])))
    (rtg rcn rhv : Int) (rdn : Bool) (rps : List (List UInt8)) (Q : List SV) (c2 : Int) (hrf : Rcv.fits ⟨rtg, rcn, rps, rhv, rdn⟩) (hQ : Q = rowsB rps) (hrs : ∀ p ∈ rps, p.length ≤ 200) (hrc : rps.length ≤ 32) (hcn : 0 ≤ rcn ∧ rcn ≤ 32)
    (gC : Good 29 (le 81 (.agg [.lst none T, .int .i64 c1]) [.agg [.int .i64 st, .int .u8 stg, .lst none R, .int .u32 ak, .int .i64 rd, .int .i64 un]] (.agg [.int .u8 rtg, .int .i64 rcn, .lst none Q, .int .u32 rhv, .bool rdn]) (.agg [.lst none T, .int .i64 c2])))
    (np : Int) (hnp : np = ps.length) (n : Nat) (zn c3 : Int) (hzn : zn = n) (hnl : n < ps.length) (g3 : Good 12 (le 81 (.agg [.lst none T, .int .i64 c2]) [.int .i64 np] (.int .i64 zn) (.agg [.lst none T, .int .i64 c3])))
    (v6 c4 : Int) (hv6 : 0 ≤ v6 ∧ v6 < 6) (g4 : Good 12 (le 81 (.agg [.lst none T, .int .i64 c3]) [.int .i64 6] (.int .i64 v6) (.agg [.lst none T, .int .i64 c4])))
    (qa : Bool) (c5 : Int) (g5 : Good 30 (le 81 (.agg [.lst none T, .int .i64 c4]) [.int .i64 2] (.bool qa) (.agg [.lst none T, .int .i64 c5])))
    (c6 c7 c8 : Int) (t8 : Tp T c8) (bs : List UInt8) (hbs : bs.length ≤ 3)
    (g6 : Good 30 (le 81 (.agg [.lst none T, .int .i64 c5]) [.int .i64 4] (.bool false) (.agg [.lst none T, .int .i64 c6])))
    (g8 : Good 12 (le 81 (.agg [.lst none T, .int .i64 c6]) [.int .i64 4] (.int .i64 2) (.agg [.lst none T, .int .i64 c8]))) :
    Good 6 (pu [x0.w R0, pceV p0 D0, .lst none Z] (.bool true)) := by
  skip
  have h0 := new_c Z T hT
  have hk := known_c
  have hRl : R.length = ps.length := by rw [hR, rowsB_len]
  obtain ⟨d, hd⟩ : ∃ d, d = ps.getD n [] := ⟨_, rfl⟩
  obtain ⟨D, hD⟩ : ∃ D, D = u8l d := ⟨_, rfl⟩
  have hRn : R[n]? = some (.lst none D) := by
    rw [hR, rowsB, List.getElem?_map, hD, hd, List.getD_eq_getElem?_getD, List.getElem?_eq_getElem hnl]; rfl
  have hdl : d.length ≤ 200 := by
    rw [hd, List.getD_eq_getElem?_getD, List.getElem?_eq_getElem hnl]
    exact hsh _ (List.getElem_mem hnl)
  have hnlR : n < R.length := by omega
  have hfl : rps.flatten.length ≤ 140737488351232 := by
    have h1 := flat_le2 rps 200 hrs
    have h2 : rps.length * 200 ≤ 32 * 200 := Nat.mul_le_mul_right _ hrc
    omega
  have hrt := hrf.tag
  have hrh := hrf.hv
  dsimp only at hrt hrh
  have hnpR : np = (R.length : Int) := by omega
  clear hd hT
  skip
  refine Good.of Try.func6 rfl (by rfl) (by kernel_rfl) ?_
  cbv
  have hmk : True := trivial
  (repeat' (first
| (refine q1w (fun z hz => ?_); (try simp only at hz); cbv)
| (refine rqw ?_; cbv)
| (refine QC.tw ?_; cbv)
| (refine QC.tt ?_ ?_; (focus (simp only [decide_true, Bool.and_true, Bool.and_self] <;> fail)); cbv)
| (refine QC.ff ?_ ?_; (focus (simp only [decide_true, Bool.and_true, Bool.and_self, decide_false, Bool.false_and, reduceCtorEq, not_false_eq_true] <;> fail)); cbv)
| (refine QC.fw ?_; cbv)
| (refine QC.mk (fun hc => ?_) (fun hc => ?_) <;> (try dsimp only at hc) <;> cbv)
| (refine br_mk2 (fun hb => ?_) (fun hb => ?_) <;> (try subst hb) <;> cbv)
| (refine callq (h0) rfl rfl ?_; cbv)
| (refine callq (gS) rfl rfl ?_; cbv)
| (refine callq (gC) rfl rfl ?_; cbv)))
  have ez : np = z := by (first | omega | (simp only [cst] at *; omega) | (simp only [sm] at *; omega))
  subst ez
  (repeat' (first
| (refine q1w (fun z hz => ?_); (try simp only at hz); cbv)
| (refine rqw ?_; cbv)
| (refine QC.tw ?_; cbv)
| (refine QC.tt ?_ ?_; (focus (simp only [decide_true, Bool.and_true, Bool.and_self] <;> fail)); cbv)
| (refine QC.ff ?_ ?_; (focus (simp only [decide_true, Bool.and_true, Bool.and_self, decide_false, Bool.false_and, reduceCtorEq, not_false_eq_true] <;> fail)); cbv)
| (refine QC.fw ?_; cbv)
| (refine QC.mk (fun hc => ?_) (fun hc => ?_) <;> (try dsimp only at hc) <;> cbv)
| (refine br_mk2 (fun hb => ?_) (fun hb => ?_) <;> (try subst hb) <;> cbv)
| (refine callq (g3) rfl rfl ?_; cbv)
| (refine callq (g4) rfl rfl ?_; cbv)
| (refine callq (g5) rfl rfl ?_; cbv)))
  (refine qv (n, _) ⟨hzn, hRn⟩ ?_; cbv; (repeat' (first
| (refine q1w (fun z hz => ?_); (try simp only at hz); cbv)
| (refine rqw ?_; cbv)
| (refine QC.tw ?_; cbv)
| (refine QC.tt ?_ ?_; (focus (simp only [decide_true, Bool.and_true, Bool.and_self] <;> fail)); cbv)
| (refine QC.ff ?_ ?_; (focus (simp only [decide_true, Bool.and_true, Bool.and_self, decide_false, Bool.false_and, reduceCtorEq, not_false_eq_true] <;> fail)); cbv)
| (refine QC.fw ?_; cbv)
| (refine QC.mk (fun hc => ?_) (fun hc => ?_) <;> (try dsimp only at hc) <;> cbv)
| (refine br_mk2 (fun hb => ?_) (fun hb => ?_) <;> (try subst hb) <;> cbv))))
  rename_i zc hzc qt hqt
  have hqtb : 0 ≤ qt ∧ qt ≤ 255 := by (first | omega | (simp only [cst] at *; omega) | (simp only [sm] at *; omega))
  have ez : np = z := by (first | omega | (simp only [cst] at *; omega) | (simp only [sm] at *; omega))
  subst ez
  (refine callq (g6) rfl rfl ?_; cbv; (repeat' (first
| (refine q1w (fun z hz => ?_); (try simp only at hz); cbv)
| (refine rqw ?_; cbv)
| (refine QC.tw ?_; cbv)
| (refine QC.tt ?_ ?_; (focus (simp only [decide_true, Bool.and_true, Bool.and_self] <;> fail)); cbv)
| (refine QC.ff ?_ ?_; (focus (simp only [decide_true, Bool.and_true, Bool.and_self, decide_false, Bool.false_and, reduceCtorEq, not_false_eq_true] <;> fail)); cbv)
| (refine QC.fw ?_; cbv)
| (refine QC.mk (fun hc => ?_) (fun hc => ?_) <;> (try dsimp only at hc) <;> cbv)
| (refine br_mk2 (fun hb => ?_) (fun hb => ?_) <;> (try subst hb) <;> cbv))))
  (refine callq (g8) rfl rfl ?_; cbv; (repeat' (first
| (refine q1w (fun z hz => ?_); (try simp only at hz); cbv)
| (refine rqw ?_; cbv)
| (refine QC.tw ?_; cbv)
| (refine QC.tt ?_ ?_; (focus (simp only [decide_true, Bool.and_true, Bool.and_self] <;> fail)); cbv)
| (refine QC.ff ?_ ?_; (focus (simp only [decide_true, Bool.and_true, Bool.and_self, decide_false, Bool.false_and, reduceCtorEq, not_false_eq_true] <;> fail)); cbv)
| (refine QC.fw ?_; cbv)
| (refine QC.mk (fun hc => ?_) (fun hc => ?_) <;> (try dsimp only at hc) <;> cbv)
| (refine br_mk2 (fun hb => ?_) (fun hb => ?_) <;> (try subst hb) <;> cbv))))
  have hzb : 1 ≤ z ∧ z ≤ 33 := by (first | omega | (simp only [cst] at *; omega) | (simp only [sm] at *; omega))
  obtain ⟨sp, hsp⟩ : ∃ sp : Rcv, sp = ⟨rtg, z, rps, rhv, rdn⟩ := ⟨_, rfl⟩
  obtain ⟨q, hqd⟩ : ∃ q : Pce, q = ⟨qt, zn, np, qa, d⟩ := ⟨_, rfl⟩
  have hnpb : 0 ≤ np ∧ np ≤ 32 := by (first | omega | (simp only [cst] at *; omega) | (simp only [sm] at *; omega))
  have hznb : 0 ≤ zn ∧ zn ≤ 32 := by (first | omega | (simp only [cst] at *; omega) | (simp only [sm] at *; omega))
  have hq : q.fits := by rw [hqd]; exact ⟨hqtb, by dsimp only; omega, by dsimp only; omega, by dsimp only; omega⟩
  obtain ⟨E, hE0⟩ : ∃ E, E = D := ⟨_, rfl⟩
  have hE : E = u8l q.d := by rw [hE0, hqd]; exact hD
  skip
  have hspf : sp.fits := by
    rw [hsp]
    exact ⟨by dsimp only; omega, by dsimp only; omega, by dsimp only; omega, hrf.n, hrf.b⟩
  obtain ⟨V, hV⟩ : ∃ V : List SV, V = [x0.w R0, (⟨rtg, rcn, rps, rhv, rdn⟩ : Rcv).w Q, sp.w Q, zRV] := ⟨_, rfl⟩
  have hVE := v3_e x0 R0 hR0 hf0 hl0 ⟨rtg, rcn, rps, rhv, rdn⟩ Q hQ hrf hfl sp Q (by rw [hsp]; exact hQ) hspf (by rw [hsp]; exact hfl)
  rw [← hV] at hVE
  have hV3 : V[3]? = some zRV := by rw [hV]; rfl
  have hVl : V.length = 4 := by rw [hV]; rfl
  rw [hsp] at hV
  obtain ⟨V2, hV2⟩ : ∃ V : List SV, V = [pceV p0 D0, pceV q E] := ⟨_, rfl⟩
  have hV2E := p2_e p0 q D0 E hD0 hE hp0 hq
  rw [← hV2] at hV2E
  have hV2l : V2.length = 2 := by rw [hV2]; rfl
  rw [hqd] at hV2
  clear hsp hspf hqd hq hE
  rw [hE0] at hV2
  skip
  refine loopQ (A := Nat × Int) (fun p => p.2 = p.1 ∧ p.1 ≤ 4) (fun p => 4 - p.1) (fun p => [(14, .int .i64 p.2)]) (fun p => [(102, .row (some 5) 55 V)]) (0, 0) ⟨rfl, by omega⟩ ?_ ?_
  · cbv
    rw [hV]
    repeat' (first | exact rfl | exact trivial | apply And.intro)
  · intro ⟨i, j⟩ hh
    have hj : j = (i : Int) := hh.1
    have hi : i ≤ 4 := hh.2
    clear hh hV
    have hmq : True := trivial
    cbv
    (repeat' (first
| (refine q1w (fun z hz => ?_); (try simp only at hz); cbv)
| (refine rqw ?_; cbv)
| (refine QC.tw ?_; cbv)
| (refine QC.tt ?_ ?_; (focus (simp only [decide_true, Bool.and_true, Bool.and_self] <;> fail)); cbv)
| (refine QC.ff ?_ ?_; (focus (simp only [decide_true, Bool.and_true, Bool.and_self, decide_false, Bool.false_and, reduceCtorEq, not_false_eq_true] <;> fail)); cbv)
| (refine QC.fw ?_; cbv)
| (refine QC.mk (fun hc => ?_) (fun hc => ?_) <;> (try dsimp only at hc) <;> cbv)
| (refine br_mk2 (fun hb => ?_) (fun hb => ?_) <;> (try subst hb) <;> cbv)))
    · have hlt : i < 4 := by (first | omega | (simp only [cst] at *; omega) | (simp only [sm] at *; omega))
      cases Nat.lt_or_ge i 3 with
      | inl h3 =>
        obtain ⟨x, X, hVi, hX, hxf, hxl⟩ := hVE i h3
        have gRn := fun p D hD hp => rrnd_e x X hX hxf p D hD hp
        have gDg := dg_e x X hX hxf hxl
        clear hX hxf hxl
        skip
        refine loopQ (A := Nat × Int) (fun p => p.2 = p.1 ∧ p.1 ≤ 2) (fun p => 2 - p.1) (fun p => [(16, .int .i64 p.2)]) (fun p => [(111, .row (some 5) 51 V2)]) (0, 0) ⟨rfl, by omega⟩ ?_ ?_
        · cbv
          rw [hV2]
          repeat' (first | exact rfl | exact trivial | apply And.intro)
        · intro ⟨i2, j2⟩ hh
          have hj2 : j2 = (i2 : Int) := hh.1
          have hi2 : i2 ≤ 2 := hh.2
          clear hh hV2
          have hmz : True := trivial
          cbv
          (repeat' (first
| (refine q1w (fun z hz => ?_); (try simp only at hz); cbv)
| (refine rqw ?_; cbv)
| (refine QC.tw ?_; cbv)
| (refine QC.tt ?_ ?_; (focus (simp only [decide_true, Bool.and_true, Bool.and_self] <;> fail)); cbv)
| (refine QC.ff ?_ ?_; (focus (simp only [decide_true, Bool.and_true, Bool.and_self, decide_false, Bool.false_and, reduceCtorEq, not_false_eq_true] <;> fail)); cbv)
| (refine QC.fw ?_; cbv)
| (refine QC.mk (fun hc => ?_) (fun hc => ?_) <;> (try dsimp only at hc) <;> cbv)
| (refine br_mk2 (fun hb => ?_) (fun hb => ?_) <;> (try subst hb) <;> cbv)))
          · have hlt2 : i2 < 2 := by (first | omega | (simp only [cst] at *; omega) | (simp only [sm] at *; omega))
            obtain ⟨p, X2, hWi, hX2, hpf⟩ := hV2E i2 hlt2
            obtain ⟨y, Y, bm, e, ok, f1, f2, f3⟩ := gRn p X2 hX2 hpf
            clear gRn gDg hV2E hVE hk hX2 hpf
            skip
            (repeat' (first
| (refine QC.ff (fun h => h rfl) ?_; cbv)
| (refine q1w (fun z hz => ?_); (try simp only at hz); cbv)
| (refine rqw ?_; cbv)
| (refine QC.tw ?_; cbv)
| (refine QC.tt ?_ ?_; (focus (simp only [decide_true, Bool.and_true, Bool.and_self] <;> fail)); cbv)
| (refine QC.ff ?_ ?_; (focus (simp only [decide_true, Bool.and_true, Bool.and_self, decide_false, Bool.false_and, reduceCtorEq, not_false_eq_true] <;> fail)); cbv)
| (refine QC.fw ?_; cbv)
| (refine QC.mk (fun hc => ?_) (fun hc => ?_) <;> (try dsimp only at hc) <;> cbv)
| (refine br_mk2 (fun hb => ?_) (fun hb => ?_) <;> (try subst hb) <;> cbv)
| (refine qv (i) (by (first | omega | (simp only [cst] at *; omega) | (simp only [sm] at *; omega))) ?_; cbv)
| (refine qv _ (hVi) ?_; cbv)
| (refine qv (i2) (by (first | omega | (simp only [cst] at *; omega) | (simp only [sm] at *; omega))) ?_; cbv)
| (refine qv _ (hWi) ?_; cbv)
| (refine callq (f1) rfl rfl ?_; cbv)
| (refine callq (f2) rfl rfl ?_; cbv)
| (refine callq (f3) rfl rfl ?_; cbv)))
            all_goals
              refine ⟨(i2 + 1, z), ⟨by show z = ((i2 + 1 : Nat) : Int); (first | omega | (simp only [cst] at *; omega) | (simp only [sm] at *; omega)), by show i2 + 1 ≤ 2; omega⟩, by show 2 - (i2 + 1) < 2 - i2; omega, ?_⟩
              cbv
              repeat' (first | exact rfl | exact trivial | apply And.intro)
          · obtain ⟨L, ok, r, f1, f2, f3, f4, f5⟩ := gDg
            clear gRn hV2E hVE hk
            skip
            (repeat' (first
| (refine QC.ff (fun h => h rfl) ?_; cbv)
| (refine q1w (fun z hz => ?_); (try simp only at hz); cbv)
| (refine rqw ?_; cbv)
| (refine QC.tw ?_; cbv)
| (refine QC.tt ?_ ?_; (focus (simp only [decide_true, Bool.and_true, Bool.and_self] <;> fail)); cbv)
| (refine QC.ff ?_ ?_; (focus (simp only [decide_true, Bool.and_true, Bool.and_self, decide_false, Bool.false_and, reduceCtorEq, not_false_eq_true] <;> fail)); cbv)
| (refine QC.fw ?_; cbv)
| (refine QC.mk (fun hc => ?_) (fun hc => ?_) <;> (try dsimp only at hc) <;> cbv)
| (refine br_mk2 (fun hb => ?_) (fun hb => ?_) <;> (try subst hb) <;> cbv)
| (refine qv (i) (by (first | omega | (simp only [cst] at *; omega) | (simp only [sm] at *; omega))) ?_; cbv)
| (refine qv _ (hVi) ?_; cbv)
| (refine callq (f1) rfl rfl ?_; cbv)
| (refine callq (f2) rfl rfl ?_; cbv)
| (refine callq (f3) rfl rfl ?_; cbv)
| (refine callq (f4) rfl rfl ?_; cbv)
| (refine callq (f5) rfl rfl ?_; cbv)))
            all_goals
              refine ⟨(i + 1, z), ⟨by show z = ((i + 1 : Nat) : Int); (first | omega | (simp only [cst] at *; omega) | (simp only [sm] at *; omega)), by show i + 1 ≤ 4; omega⟩, by show 4 - (i + 1) < 4 - i; omega, ?_⟩
              cbv
              repeat' (first | exact rfl | exact trivial | apply And.intro)
      | inr h3 =>
        have hi3 : i = 3 := by omega
        have hVi : V[i]? = some zRV := by rw [hi3]; exact hV3
        have gRn := fun p D hD hp => zrnd_e p D hD hp
        have gDg := zdg_e
        skip
        refine loopQ (A := Nat × Int) (fun p => p.2 = p.1 ∧ p.1 ≤ 2) (fun p => 2 - p.1) (fun p => [(16, .int .i64 p.2)]) (fun p => [(111, .row (some 5) 51 V2)]) (0, 0) ⟨rfl, by omega⟩ ?_ ?_
        · cbv
          rw [hV2]
          repeat' (first | exact rfl | exact trivial | apply And.intro)
        · intro ⟨i2, j2⟩ hh
          have hj2 : j2 = (i2 : Int) := hh.1
          have hi2 : i2 ≤ 2 := hh.2
          clear hh hV2
          have hmz : True := trivial
          cbv
          (repeat' (first
| (refine q1w (fun z hz => ?_); (try simp only at hz); cbv)
| (refine rqw ?_; cbv)
| (refine QC.tw ?_; cbv)
| (refine QC.tt ?_ ?_; (focus (simp only [decide_true, Bool.and_true, Bool.and_self] <;> fail)); cbv)
| (refine QC.ff ?_ ?_; (focus (simp only [decide_true, Bool.and_true, Bool.and_self, decide_false, Bool.false_and, reduceCtorEq, not_false_eq_true] <;> fail)); cbv)
| (refine QC.fw ?_; cbv)
| (refine QC.mk (fun hc => ?_) (fun hc => ?_) <;> (try dsimp only at hc) <;> cbv)
| (refine br_mk2 (fun hb => ?_) (fun hb => ?_) <;> (try subst hb) <;> cbv)))
          · have hlt2 : i2 < 2 := by (first | omega | (simp only [cst] at *; omega) | (simp only [sm] at *; omega))
            obtain ⟨p, X2, hWi, hX2, hpf⟩ := hV2E i2 hlt2
            obtain ⟨y, Y, bm, e, ok, f1, f2, f3⟩ := gRn p X2 hX2 hpf
            clear gRn gDg hV2E hVE hk hX2 hpf
            skip
            (repeat' (first
| (refine QC.ff (fun h => h rfl) ?_; cbv)
| (refine q1w (fun z hz => ?_); (try simp only at hz); cbv)
| (refine rqw ?_; cbv)
| (refine QC.tw ?_; cbv)
| (refine QC.tt ?_ ?_; (focus (simp only [decide_true, Bool.and_true, Bool.and_self] <;> fail)); cbv)
| (refine QC.ff ?_ ?_; (focus (simp only [decide_true, Bool.and_true, Bool.and_self, decide_false, Bool.false_and, reduceCtorEq, not_false_eq_true] <;> fail)); cbv)
| (refine QC.fw ?_; cbv)
| (refine QC.mk (fun hc => ?_) (fun hc => ?_) <;> (try dsimp only at hc) <;> cbv)
| (refine br_mk2 (fun hb => ?_) (fun hb => ?_) <;> (try subst hb) <;> cbv)
| (refine qv (i) (by (first | omega | (simp only [cst] at *; omega) | (simp only [sm] at *; omega))) ?_; cbv)
| (refine qv _ (hVi) ?_; cbv)
| (refine qv (i2) (by (first | omega | (simp only [cst] at *; omega) | (simp only [sm] at *; omega))) ?_; cbv)
| (refine qv _ (hWi) ?_; cbv)
| (refine callq (f1) rfl rfl ?_; cbv)
| (refine callq (f2) rfl rfl ?_; cbv)
| (refine callq (f3) rfl rfl ?_; cbv)))
            all_goals
              refine ⟨(i2 + 1, z), ⟨by show z = ((i2 + 1 : Nat) : Int); (first | omega | (simp only [cst] at *; omega) | (simp only [sm] at *; omega)), by show i2 + 1 ≤ 2; omega⟩, by show 2 - (i2 + 1) < 2 - i2; omega, ?_⟩
              cbv
              repeat' (first | exact rfl | exact trivial | apply And.intro)
          · obtain ⟨L, ok, r, f1, f2, f3, f4, f5⟩ := gDg
            clear gRn hV2E hVE hk
            skip
            (repeat' (first
| (refine QC.ff (fun h => h rfl) ?_; cbv)
| (refine q1w (fun z hz => ?_); (try simp only at hz); cbv)
| (refine rqw ?_; cbv)
| (refine QC.tw ?_; cbv)
| (refine QC.tt ?_ ?_; (focus (simp only [decide_true, Bool.and_true, Bool.and_self] <;> fail)); cbv)
| (refine QC.ff ?_ ?_; (focus (simp only [decide_true, Bool.and_true, Bool.and_self, decide_false, Bool.false_and, reduceCtorEq, not_false_eq_true] <;> fail)); cbv)
| (refine QC.fw ?_; cbv)
| (refine QC.mk (fun hc => ?_) (fun hc => ?_) <;> (try dsimp only at hc) <;> cbv)
| (refine br_mk2 (fun hb => ?_) (fun hb => ?_) <;> (try subst hb) <;> cbv)
| (refine qv (i) (by (first | omega | (simp only [cst] at *; omega) | (simp only [sm] at *; omega))) ?_; cbv)
| (refine qv _ (hVi) ?_; cbv)
| (refine callq (f1) rfl rfl ?_; cbv)
| (refine callq (f2) rfl rfl ?_; cbv)
| (refine callq (f3) rfl rfl ?_; cbv)
| (refine callq (f4) rfl rfl ?_; cbv)
| (refine callq (f5) rfl rfl ?_; cbv)))
            all_goals
              refine ⟨(i + 1, z), ⟨by show z = ((i + 1 : Nat) : Int); (first | omega | (simp only [cst] at *; omega) | (simp only [sm] at *; omega)), by show i + 1 ≤ 4; omega⟩, by show 4 - (i + 1) < 4 - i; omega, ?_⟩
              cbv
              repeat' (first | exact rfl | exact trivial | apply And.intro)
    · (refine callq (hk) rfl rfl ?_; cbv; (repeat' (first
| (refine q1w (fun z hz => ?_); (try simp only at hz); cbv)
| (refine rqw ?_; cbv)
| (refine QC.tw ?_; cbv)
| (refine QC.tt ?_ ?_; (focus (simp only [decide_true, Bool.and_true, Bool.and_self] <;> fail)); cbv)
| (refine QC.ff ?_ ?_; (focus (simp only [decide_true, Bool.and_true, Bool.and_self, decide_false, Bool.false_and, reduceCtorEq, not_false_eq_true] <;> fail)); cbv)
| (refine QC.fw ?_; cbv)
| (refine QC.mk (fun hc => ?_) (fun hc => ?_) <;> (try dsimp only at hc) <;> cbv)
| (refine br_mk2 (fun hb => ?_) (fun hb => ?_) <;> (try subst hb) <;> cbv))))
      exact ⟨rfl, rfl, rfl⟩
set_option maxRecDepth 8000 in
theorem receivers_21
    (x0 : Rcv) (R0 : List SV) (hR0 : R0 = rowsB x0.ps) (hf0 : x0.fits) (hl0 : x0.ps.flatten.length ≤ 140737488351232) (p0 : Pce) (D0 : List SV) (hD0 : D0 = u8l p0.d) (hp0 : p0.fits) (Z T : List SV) (hT : T = Z.take 400)
    (st stg ak rd un : Int) (ps : List (List UInt8)) (R : List SV) (c1 : Int) (hstg : 0 ≤ stg ∧ stg ≤ 255) (hR : R = rowsB ps) (hsh : ∀ p ∈ ps, p.length ≤ 200) (hn1 : 1 ≤ ps.length ∧ ps.length ≤ 32)
    (gS : Good 11 (le 81 (.agg [.lst none T, .int .i64 0]) [] (.agg [.int .i64 st, .int .u8 stg, .lst none R, .int .u32 ak, .int .i64 rd, .int .i64 un]) (.agg [.lst none T, .int .i64 c1])))
    (rtg rcn rhv : Int) (rdn : Bool) (rps : List (List UInt8)) (Q : List SV) (c2 : Int) (hrf : Rcv.fits ⟨rtg, rcn, rps, rhv, rdn⟩) (hQ : Q = rowsB rps) (hrs : ∀ p ∈ rps, p.length ≤ 200) (hrc : rps.length ≤ 32) (hcn : 0 ≤ rcn ∧ rcn ≤ 32)
    (gC : Good 29 (le 81 (.agg [.lst none T, .int .i64 c1]) [.agg [.int .i64 st, .int .u8 stg, .lst none R, .int .u32 ak, .int .i64 rd, .int .i64 un]] (.agg [.int .u8 rtg, .int .i64 rcn, .lst none Q, .int .u32 rhv, .bool rdn]) (.agg [.lst none T, .int .i64 c2])))
    (np : Int) (hnp : np = ps.length) (n : Nat) (zn c3 : Int) (hzn : zn = n) (hnl : n < ps.length) (g3 : Good 12 (le 81 (.agg [.lst none T, .int .i64 c2]) [.int .i64 np] (.int .i64 zn) (.agg [.lst none T, .int .i64 c3])))
    (v6 c4 : Int) (hv6 : 0 ≤ v6 ∧ v6 < 6) (g4 : Good 12 (le 81 (.agg [.lst none T, .int .i64 c3]) [.int .i64 6] (.int .i64 v6) (.agg [.lst none T, .int .i64 c4])))
    (qa : Bool) (c5 : Int) (g5 : Good 30 (le 81 (.agg [.lst none T, .int .i64 c4]) [.int .i64 2] (.bool qa) (.agg [.lst none T, .int .i64 c5])))
    (c6 c7 c8 : Int) (t8 : Tp T c8) (bs : List UInt8) (hbs : bs.length ≤ 3)
    (g6 : Good 30 (le 81 (.agg [.lst none T, .int .i64 c5]) [.int .i64 4] (.bool true) (.agg [.lst none T, .int .i64 c6])))
    (gB : Good 14 (leN 81 (.agg [.lst none T, .int .i64 c6]) [.int .i64 3] (.row 1) (.agg [.lst none T, .int .i64 c7]) (.row none 5 (u8l bs))))
    (g8 : Good 12 (le 81 (.agg [.lst none T, .int .i64 c7]) [.int .i64 4] (.int .i64 2) (.agg [.lst none T, .int .i64 c8]))) :
    Good 6 (pu [x0.w R0, pceV p0 D0, .lst none Z] (.bool true)) := by
  skip
  have h0 := new_c Z T hT
  have hk := known_c
  have hRl : R.length = ps.length := by rw [hR, rowsB_len]
  obtain ⟨d, hd⟩ : ∃ d, d = ps.getD n [] := ⟨_, rfl⟩
  obtain ⟨D, hD⟩ : ∃ D, D = u8l d := ⟨_, rfl⟩
  have hRn : R[n]? = some (.lst none D) := by
    rw [hR, rowsB, List.getElem?_map, hD, hd, List.getD_eq_getElem?_getD, List.getElem?_eq_getElem hnl]; rfl
  have hdl : d.length ≤ 200 := by
    rw [hd, List.getD_eq_getElem?_getD, List.getElem?_eq_getElem hnl]
    exact hsh _ (List.getElem_mem hnl)
  have hnlR : n < R.length := by omega
  have hfl : rps.flatten.length ≤ 140737488351232 := by
    have h1 := flat_le2 rps 200 hrs
    have h2 : rps.length * 200 ≤ 32 * 200 := Nat.mul_le_mul_right _ hrc
    omega
  have hrt := hrf.tag
  have hrh := hrf.hv
  dsimp only at hrt hrh
  have hnpR : np = (R.length : Int) := by omega
  clear hd hT
  obtain ⟨BS, hBS⟩ : ∃ BS, BS = u8l bs := ⟨_, rfl⟩
  rw [← hBS] at gB
  skip
  refine Good.of Try.func6 rfl (by rfl) (by kernel_rfl) ?_
  cbv
  have hmk : True := trivial
  (repeat' (first
| (refine q1w (fun z hz => ?_); (try simp only at hz); cbv)
| (refine rqw ?_; cbv)
| (refine QC.tw ?_; cbv)
| (refine QC.tt ?_ ?_; (focus (simp only [decide_true, Bool.and_true, Bool.and_self] <;> fail)); cbv)
| (refine QC.ff ?_ ?_; (focus (simp only [decide_true, Bool.and_true, Bool.and_self, decide_false, Bool.false_and, reduceCtorEq, not_false_eq_true] <;> fail)); cbv)
| (refine QC.fw ?_; cbv)
| (refine QC.mk (fun hc => ?_) (fun hc => ?_) <;> (try dsimp only at hc) <;> cbv)
| (refine br_mk2 (fun hb => ?_) (fun hb => ?_) <;> (try subst hb) <;> cbv)
| (refine callq (h0) rfl rfl ?_; cbv)
| (refine callq (gS) rfl rfl ?_; cbv)
| (refine callq (gC) rfl rfl ?_; cbv)))
  have ez : np = z := by (first | omega | (simp only [cst] at *; omega) | (simp only [sm] at *; omega))
  subst ez
  (repeat' (first
| (refine q1w (fun z hz => ?_); (try simp only at hz); cbv)
| (refine rqw ?_; cbv)
| (refine QC.tw ?_; cbv)
| (refine QC.tt ?_ ?_; (focus (simp only [decide_true, Bool.and_true, Bool.and_self] <;> fail)); cbv)
| (refine QC.ff ?_ ?_; (focus (simp only [decide_true, Bool.and_true, Bool.and_self, decide_false, Bool.false_and, reduceCtorEq, not_false_eq_true] <;> fail)); cbv)
| (refine QC.fw ?_; cbv)
| (refine QC.mk (fun hc => ?_) (fun hc => ?_) <;> (try dsimp only at hc) <;> cbv)
| (refine br_mk2 (fun hb => ?_) (fun hb => ?_) <;> (try subst hb) <;> cbv)
| (refine callq (g3) rfl rfl ?_; cbv)
| (refine callq (g4) rfl rfl ?_; cbv)
| (refine callq (g5) rfl rfl ?_; cbv)))
  (refine qv (n, _) ⟨hzn, hRn⟩ ?_; cbv; (repeat' (first
| (refine q1w (fun z hz => ?_); (try simp only at hz); cbv)
| (refine rqw ?_; cbv)
| (refine QC.tw ?_; cbv)
| (refine QC.tt ?_ ?_; (focus (simp only [decide_true, Bool.and_true, Bool.and_self] <;> fail)); cbv)
| (refine QC.ff ?_ ?_; (focus (simp only [decide_true, Bool.and_true, Bool.and_self, decide_false, Bool.false_and, reduceCtorEq, not_false_eq_true] <;> fail)); cbv)
| (refine QC.fw ?_; cbv)
| (refine QC.mk (fun hc => ?_) (fun hc => ?_) <;> (try dsimp only at hc) <;> cbv)
| (refine br_mk2 (fun hb => ?_) (fun hb => ?_) <;> (try subst hb) <;> cbv))))
  rename_i zc hzc qt hqt
  have hqtb : 0 ≤ qt ∧ qt ≤ 255 := by (first | omega | (simp only [cst] at *; omega) | (simp only [sm] at *; omega))
  have ez : np = z := by (first | omega | (simp only [cst] at *; omega) | (simp only [sm] at *; omega))
  subst ez
  (refine callq (g6) rfl rfl ?_; cbv; (repeat' (first
| (refine q1w (fun z hz => ?_); (try simp only at hz); cbv)
| (refine rqw ?_; cbv)
| (refine QC.tw ?_; cbv)
| (refine QC.tt ?_ ?_; (focus (simp only [decide_true, Bool.and_true, Bool.and_self] <;> fail)); cbv)
| (refine QC.ff ?_ ?_; (focus (simp only [decide_true, Bool.and_true, Bool.and_self, decide_false, Bool.false_and, reduceCtorEq, not_false_eq_true] <;> fail)); cbv)
| (refine QC.fw ?_; cbv)
| (refine QC.mk (fun hc => ?_) (fun hc => ?_) <;> (try dsimp only at hc) <;> cbv)
| (refine br_mk2 (fun hb => ?_) (fun hb => ?_) <;> (try subst hb) <;> cbv))))
  (refine callq (gB) rfl rfl ?_; cbv; (repeat' (first
| (refine q1w (fun z hz => ?_); (try simp only at hz); cbv)
| (refine rqw ?_; cbv)
| (refine QC.tw ?_; cbv)
| (refine QC.tt ?_ ?_; (focus (simp only [decide_true, Bool.and_true, Bool.and_self] <;> fail)); cbv)
| (refine QC.ff ?_ ?_; (focus (simp only [decide_true, Bool.and_true, Bool.and_self, decide_false, Bool.false_and, reduceCtorEq, not_false_eq_true] <;> fail)); cbv)
| (refine QC.fw ?_; cbv)
| (refine QC.mk (fun hc => ?_) (fun hc => ?_) <;> (try dsimp only at hc) <;> cbv)
| (refine br_mk2 (fun hb => ?_) (fun hb => ?_) <;> (try subst hb) <;> cbv))))
  (refine callq (g8) rfl rfl ?_; cbv; (repeat' (first
| (refine q1w (fun z hz => ?_); (try simp only at hz); cbv)
| (refine rqw ?_; cbv)
| (refine QC.tw ?_; cbv)
| (refine QC.tt ?_ ?_; (focus (simp only [decide_true, Bool.and_true, Bool.and_self] <;> fail)); cbv)
| (refine QC.ff ?_ ?_; (focus (simp only [decide_true, Bool.and_true, Bool.and_self, decide_false, Bool.false_and, reduceCtorEq, not_false_eq_true] <;> fail)); cbv)
| (refine QC.fw ?_; cbv)
| (refine QC.mk (fun hc => ?_) (fun hc => ?_) <;> (try dsimp only at hc) <;> cbv)
| (refine br_mk2 (fun hb => ?_) (fun hb => ?_) <;> (try subst hb) <;> cbv))))
  have hzb : 1 ≤ z ∧ z ≤ 33 := by (first | omega | (simp only [cst] at *; omega) | (simp only [sm] at *; omega))
  obtain ⟨sp, hsp⟩ : ∃ sp : Rcv, sp = ⟨rtg, z, rps, rhv, rdn⟩ := ⟨_, rfl⟩
  obtain ⟨q, hqd⟩ : ∃ q : Pce, q = ⟨qt, zn, np, qa, bs⟩ := ⟨_, rfl⟩
  have hnpb : 0 ≤ np ∧ np ≤ 32 := by (first | omega | (simp only [cst] at *; omega) | (simp only [sm] at *; omega))
  have hznb : 0 ≤ zn ∧ zn ≤ 32 := by (first | omega | (simp only [cst] at *; omega) | (simp only [sm] at *; omega))
  have hq : q.fits := by rw [hqd]; exact ⟨hqtb, by dsimp only; omega, by dsimp only; omega, by dsimp only; omega⟩
  obtain ⟨E, hE0⟩ : ∃ E, E = BS := ⟨_, rfl⟩
  have hE : E = u8l q.d := by rw [hE0, hqd]; exact hBS
  skip
  have hspf : sp.fits := by
    rw [hsp]
    exact ⟨by dsimp only; omega, by dsimp only; omega, by dsimp only; omega, hrf.n, hrf.b⟩
  obtain ⟨V, hV⟩ : ∃ V : List SV, V = [x0.w R0, (⟨rtg, rcn, rps, rhv, rdn⟩ : Rcv).w Q, sp.w Q, zRV] := ⟨_, rfl⟩
  have hVE := v3_e x0 R0 hR0 hf0 hl0 ⟨rtg, rcn, rps, rhv, rdn⟩ Q hQ hrf hfl sp Q (by rw [hsp]; exact hQ) hspf (by rw [hsp]; exact hfl)
  rw [← hV] at hVE
  have hV3 : V[3]? = some zRV := by rw [hV]; rfl
  have hVl : V.length = 4 := by rw [hV]; rfl
  rw [hsp] at hV
  obtain ⟨V2, hV2⟩ : ∃ V : List SV, V = [pceV p0 D0, pceV q E] := ⟨_, rfl⟩
  have hV2E := p2_e p0 q D0 E hD0 hE hp0 hq
  rw [← hV2] at hV2E
  have hV2l : V2.length = 2 := by rw [hV2]; rfl
  rw [hqd] at hV2
  clear hsp hspf hqd hq hE
  rw [hE0] at hV2
  skip
  refine loopQF [67] (A := Nat × Int) (fun p => p.2 = p.1 ∧ p.1 ≤ 4) (fun p => 4 - p.1) (fun p => [(14, .int .i64 p.2)]) (fun p => [(67, .frz none BS), (102, .row (some 5) 55 V)]) (0, 0) ⟨rfl, by omega⟩ ?_ ?_
  · cbv
    rw [hV]
    repeat' (first | exact rfl | exact trivial | apply And.intro)
  · intro ⟨i, j⟩ hh
    have hj : j = (i : Int) := hh.1
    have hi : i ≤ 4 := hh.2
    clear hh hV
    have hmq : True := trivial
    cbv
    (repeat' (first
| (refine q1w (fun z hz => ?_); (try simp only at hz); cbv)
| (refine rqw ?_; cbv)
| (refine QC.tw ?_; cbv)
| (refine QC.tt ?_ ?_; (focus (simp only [decide_true, Bool.and_true, Bool.and_self] <;> fail)); cbv)
| (refine QC.ff ?_ ?_; (focus (simp only [decide_true, Bool.and_true, Bool.and_self, decide_false, Bool.false_and, reduceCtorEq, not_false_eq_true] <;> fail)); cbv)
| (refine QC.fw ?_; cbv)
| (refine QC.mk (fun hc => ?_) (fun hc => ?_) <;> (try dsimp only at hc) <;> cbv)
| (refine br_mk2 (fun hb => ?_) (fun hb => ?_) <;> (try subst hb) <;> cbv)))
    · have hlt : i < 4 := by (first | omega | (simp only [cst] at *; omega) | (simp only [sm] at *; omega))
      cases Nat.lt_or_ge i 3 with
      | inl h3 =>
        obtain ⟨x, X, hVi, hX, hxf, hxl⟩ := hVE i h3
        have gRn := fun p D hD hp => rrnd_e x X hX hxf p D hD hp
        have gDg := dg_e x X hX hxf hxl
        clear hX hxf hxl
        skip
        refine loopQ (A := Nat × Int) (fun p => p.2 = p.1 ∧ p.1 ≤ 2) (fun p => 2 - p.1) (fun p => [(16, .int .i64 p.2)]) (fun p => [(111, .row (some 5) 51 V2)]) (0, 0) ⟨rfl, by omega⟩ ?_ ?_
        · cbv
          rw [hV2]
          repeat' (first | exact rfl | exact trivial | apply And.intro)
        · intro ⟨i2, j2⟩ hh
          have hj2 : j2 = (i2 : Int) := hh.1
          have hi2 : i2 ≤ 2 := hh.2
          clear hh hV2
          have hmz : True := trivial
          cbv
          (repeat' (first
| (refine q1w (fun z hz => ?_); (try simp only at hz); cbv)
| (refine rqw ?_; cbv)
| (refine QC.tw ?_; cbv)
| (refine QC.tt ?_ ?_; (focus (simp only [decide_true, Bool.and_true, Bool.and_self] <;> fail)); cbv)
| (refine QC.ff ?_ ?_; (focus (simp only [decide_true, Bool.and_true, Bool.and_self, decide_false, Bool.false_and, reduceCtorEq, not_false_eq_true] <;> fail)); cbv)
| (refine QC.fw ?_; cbv)
| (refine QC.mk (fun hc => ?_) (fun hc => ?_) <;> (try dsimp only at hc) <;> cbv)
| (refine br_mk2 (fun hb => ?_) (fun hb => ?_) <;> (try subst hb) <;> cbv)))
          · have hlt2 : i2 < 2 := by (first | omega | (simp only [cst] at *; omega) | (simp only [sm] at *; omega))
            obtain ⟨p, X2, hWi, hX2, hpf⟩ := hV2E i2 hlt2
            obtain ⟨y, Y, bm, e, ok, f1, f2, f3⟩ := gRn p X2 hX2 hpf
            clear gRn gDg hV2E hVE hk hX2 hpf
            skip
            (repeat' (first
| (refine QC.ff (fun h => h rfl) ?_; cbv)
| (refine q1w (fun z hz => ?_); (try simp only at hz); cbv)
| (refine rqw ?_; cbv)
| (refine QC.tw ?_; cbv)
| (refine QC.tt ?_ ?_; (focus (simp only [decide_true, Bool.and_true, Bool.and_self] <;> fail)); cbv)
| (refine QC.ff ?_ ?_; (focus (simp only [decide_true, Bool.and_true, Bool.and_self, decide_false, Bool.false_and, reduceCtorEq, not_false_eq_true] <;> fail)); cbv)
| (refine QC.fw ?_; cbv)
| (refine QC.mk (fun hc => ?_) (fun hc => ?_) <;> (try dsimp only at hc) <;> cbv)
| (refine br_mk2 (fun hb => ?_) (fun hb => ?_) <;> (try subst hb) <;> cbv)
| (refine qv (i) (by (first | omega | (simp only [cst] at *; omega) | (simp only [sm] at *; omega))) ?_; cbv)
| (refine qv _ (hVi) ?_; cbv)
| (refine qv (i2) (by (first | omega | (simp only [cst] at *; omega) | (simp only [sm] at *; omega))) ?_; cbv)
| (refine qv _ (hWi) ?_; cbv)
| (refine callq (f1) rfl rfl ?_; cbv)
| (refine callq (f2) rfl rfl ?_; cbv)
| (refine callq (f3) rfl rfl ?_; cbv)))
            all_goals
              refine ⟨(i2 + 1, z), ⟨by show z = ((i2 + 1 : Nat) : Int); (first | omega | (simp only [cst] at *; omega) | (simp only [sm] at *; omega)), by show i2 + 1 ≤ 2; omega⟩, by show 2 - (i2 + 1) < 2 - i2; omega, ?_⟩
              cbv
              repeat' (first | exact rfl | exact trivial | apply And.intro)
          · obtain ⟨L, ok, r, f1, f2, f3, f4, f5⟩ := gDg
            clear gRn hV2E hVE hk
            skip
            (repeat' (first
| (refine QC.ff (fun h => h rfl) ?_; cbv)
| (refine q1w (fun z hz => ?_); (try simp only at hz); cbv)
| (refine rqw ?_; cbv)
| (refine QC.tw ?_; cbv)
| (refine QC.tt ?_ ?_; (focus (simp only [decide_true, Bool.and_true, Bool.and_self] <;> fail)); cbv)
| (refine QC.ff ?_ ?_; (focus (simp only [decide_true, Bool.and_true, Bool.and_self, decide_false, Bool.false_and, reduceCtorEq, not_false_eq_true] <;> fail)); cbv)
| (refine QC.fw ?_; cbv)
| (refine QC.mk (fun hc => ?_) (fun hc => ?_) <;> (try dsimp only at hc) <;> cbv)
| (refine br_mk2 (fun hb => ?_) (fun hb => ?_) <;> (try subst hb) <;> cbv)
| (refine qv (i) (by (first | omega | (simp only [cst] at *; omega) | (simp only [sm] at *; omega))) ?_; cbv)
| (refine qv _ (hVi) ?_; cbv)
| (refine callq (f1) rfl rfl ?_; cbv)
| (refine callq (f2) rfl rfl ?_; cbv)
| (refine callq (f3) rfl rfl ?_; cbv)
| (refine callq (f4) rfl rfl ?_; cbv)
| (refine callq (f5) rfl rfl ?_; cbv)))
            all_goals
              refine ⟨(i + 1, z), ⟨by show z = ((i + 1 : Nat) : Int); (first | omega | (simp only [cst] at *; omega) | (simp only [sm] at *; omega)), by show i + 1 ≤ 4; omega⟩, by show 4 - (i + 1) < 4 - i; omega, ?_⟩
              cbv
              repeat' (first | exact rfl | exact trivial | apply And.intro)
      | inr h3 =>
        have hi3 : i = 3 := by omega
        have hVi : V[i]? = some zRV := by rw [hi3]; exact hV3
        have gRn := fun p D hD hp => zrnd_e p D hD hp
        have gDg := zdg_e
        skip
        refine loopQ (A := Nat × Int) (fun p => p.2 = p.1 ∧ p.1 ≤ 2) (fun p => 2 - p.1) (fun p => [(16, .int .i64 p.2)]) (fun p => [(111, .row (some 5) 51 V2)]) (0, 0) ⟨rfl, by omega⟩ ?_ ?_
        · cbv
          rw [hV2]
          repeat' (first | exact rfl | exact trivial | apply And.intro)
        · intro ⟨i2, j2⟩ hh
          have hj2 : j2 = (i2 : Int) := hh.1
          have hi2 : i2 ≤ 2 := hh.2
          clear hh hV2
          have hmz : True := trivial
          cbv
          (repeat' (first
| (refine q1w (fun z hz => ?_); (try simp only at hz); cbv)
| (refine rqw ?_; cbv)
| (refine QC.tw ?_; cbv)
| (refine QC.tt ?_ ?_; (focus (simp only [decide_true, Bool.and_true, Bool.and_self] <;> fail)); cbv)
| (refine QC.ff ?_ ?_; (focus (simp only [decide_true, Bool.and_true, Bool.and_self, decide_false, Bool.false_and, reduceCtorEq, not_false_eq_true] <;> fail)); cbv)
| (refine QC.fw ?_; cbv)
| (refine QC.mk (fun hc => ?_) (fun hc => ?_) <;> (try dsimp only at hc) <;> cbv)
| (refine br_mk2 (fun hb => ?_) (fun hb => ?_) <;> (try subst hb) <;> cbv)))
          · have hlt2 : i2 < 2 := by (first | omega | (simp only [cst] at *; omega) | (simp only [sm] at *; omega))
            obtain ⟨p, X2, hWi, hX2, hpf⟩ := hV2E i2 hlt2
            obtain ⟨y, Y, bm, e, ok, f1, f2, f3⟩ := gRn p X2 hX2 hpf
            clear gRn gDg hV2E hVE hk hX2 hpf
            skip
            (repeat' (first
| (refine QC.ff (fun h => h rfl) ?_; cbv)
| (refine q1w (fun z hz => ?_); (try simp only at hz); cbv)
| (refine rqw ?_; cbv)
| (refine QC.tw ?_; cbv)
| (refine QC.tt ?_ ?_; (focus (simp only [decide_true, Bool.and_true, Bool.and_self] <;> fail)); cbv)
| (refine QC.ff ?_ ?_; (focus (simp only [decide_true, Bool.and_true, Bool.and_self, decide_false, Bool.false_and, reduceCtorEq, not_false_eq_true] <;> fail)); cbv)
| (refine QC.fw ?_; cbv)
| (refine QC.mk (fun hc => ?_) (fun hc => ?_) <;> (try dsimp only at hc) <;> cbv)
| (refine br_mk2 (fun hb => ?_) (fun hb => ?_) <;> (try subst hb) <;> cbv)
| (refine qv (i) (by (first | omega | (simp only [cst] at *; omega) | (simp only [sm] at *; omega))) ?_; cbv)
| (refine qv _ (hVi) ?_; cbv)
| (refine qv (i2) (by (first | omega | (simp only [cst] at *; omega) | (simp only [sm] at *; omega))) ?_; cbv)
| (refine qv _ (hWi) ?_; cbv)
| (refine callq (f1) rfl rfl ?_; cbv)
| (refine callq (f2) rfl rfl ?_; cbv)
| (refine callq (f3) rfl rfl ?_; cbv)))
            all_goals
              refine ⟨(i2 + 1, z), ⟨by show z = ((i2 + 1 : Nat) : Int); (first | omega | (simp only [cst] at *; omega) | (simp only [sm] at *; omega)), by show i2 + 1 ≤ 2; omega⟩, by show 2 - (i2 + 1) < 2 - i2; omega, ?_⟩
              cbv
              repeat' (first | exact rfl | exact trivial | apply And.intro)
          · obtain ⟨L, ok, r, f1, f2, f3, f4, f5⟩ := gDg
            clear gRn hV2E hVE hk
            skip
            (repeat' (first
| (refine QC.ff (fun h => h rfl) ?_; cbv)
| (refine q1w (fun z hz => ?_); (try simp only at hz); cbv)
| (refine rqw ?_; cbv)
| (refine QC.tw ?_; cbv)
| (refine QC.tt ?_ ?_; (focus (simp only [decide_true, Bool.and_true, Bool.and_self] <;> fail)); cbv)
| (refine QC.ff ?_ ?_; (focus (simp only [decide_true, Bool.and_true, Bool.and_self, decide_false, Bool.false_and, reduceCtorEq, not_false_eq_true] <;> fail)); cbv)
| (refine QC.fw ?_; cbv)
| (refine QC.mk (fun hc => ?_) (fun hc => ?_) <;> (try dsimp only at hc) <;> cbv)
| (refine br_mk2 (fun hb => ?_) (fun hb => ?_) <;> (try subst hb) <;> cbv)
| (refine qv (i) (by (first | omega | (simp only [cst] at *; omega) | (simp only [sm] at *; omega))) ?_; cbv)
| (refine qv _ (hVi) ?_; cbv)
| (refine callq (f1) rfl rfl ?_; cbv)
| (refine callq (f2) rfl rfl ?_; cbv)
| (refine callq (f3) rfl rfl ?_; cbv)
| (refine callq (f4) rfl rfl ?_; cbv)
| (refine callq (f5) rfl rfl ?_; cbv)))
            all_goals
              refine ⟨(i + 1, z), ⟨by show z = ((i + 1 : Nat) : Int); (first | omega | (simp only [cst] at *; omega) | (simp only [sm] at *; omega)), by show i + 1 ≤ 4; omega⟩, by show 4 - (i + 1) < 4 - i; omega, ?_⟩
              cbv
              repeat' (first | exact rfl | exact trivial | apply And.intro)
    · (refine callq (hk) rfl rfl ?_; cbv; (repeat' (first
| (refine q1w (fun z hz => ?_); (try simp only at hz); cbv)
| (refine rqw ?_; cbv)
| (refine QC.tw ?_; cbv)
| (refine QC.tt ?_ ?_; (focus (simp only [decide_true, Bool.and_true, Bool.and_self] <;> fail)); cbv)
| (refine QC.ff ?_ ?_; (focus (simp only [decide_true, Bool.and_true, Bool.and_self, decide_false, Bool.false_and, reduceCtorEq, not_false_eq_true] <;> fail)); cbv)
| (refine QC.fw ?_; cbv)
| (refine QC.mk (fun hc => ?_) (fun hc => ?_) <;> (try dsimp only at hc) <;> cbv)
| (refine br_mk2 (fun hb => ?_) (fun hb => ?_) <;> (try subst hb) <;> cbv))))
      exact ⟨rfl, rfl, rfl⟩
end Go.Proofs.Ytjhicdoigllblaa
namespace Go.Proofs.Ytjhicdoigllblaa
set_option linter.unusedVariables false
set_option linter.unusedSimpArgs false
open Go.RowKit
set_option maxHeartbeats 16000000
set_option maxRecDepth 8000 in
theorem receivers_30
    (x0 : Rcv) (R0 : List SV) (hR0 : R0 = rowsB x0.ps) (hf0 : x0.fits) (hl0 : x0.ps.flatten.length ≤ 140737488351232) (p0 : Pce) (D0 : List SV) (hD0 : D0 = u8l p0.d) (hp0 : p0.fits) (Z T : List SV) (hT : T = Z.take 400)
    (st stg ak rd un : Int) (ps : List (List UInt8)) (R : List SV) (c1 : Int) (hstg : 0 ≤ stg ∧ stg ≤ 255) (hR : R = rowsB ps) (hsh : ∀ p ∈ ps, p.length ≤ 200) (hn1 : 1 ≤ ps.length ∧ ps.length ≤ 32)
    (gS : Good 11 (le 81 (.agg [.lst none T, .int .i64 0]) [] (.agg [.int .i64 st, .int .u8 stg, .lst none R, .int .u32 ak, .int .i64 rd, .int .i64 un]) (.agg [.lst none T, .int .i64 c1])))
    (rtg rcn rhv : Int) (rdn : Bool) (rps : List (List UInt8)) (Q : List SV) (c2 : Int) (hrf : Rcv.fits ⟨rtg, rcn, rps, rhv, rdn⟩) (hQ : Q = rowsB rps) (hrs : ∀ p ∈ rps, p.length ≤ 200) (hrc : rps.length ≤ 32) (hcn : 0 ≤ rcn ∧ rcn ≤ 32)
    (gC : Good 29 (le 81 (.agg [.lst none T, .int .i64 c1]) [.agg [.int .i64 st, .int .u8 stg, .lst none R, .int .u32 ak, .int .i64 rd, .int .i64 un]] (.agg [.int .u8 rtg, .int .i64 rcn, .lst none Q, .int .u32 rhv, .bool rdn]) (.agg [.lst none T, .int .i64 c2])))
    (np : Int) (hnp : np = ps.length) (n : Nat) (zn c3 : Int) (hzn : zn = n) (hnl : n < ps.length) (g3 : Good 12 (le 81 (.agg [.lst none T, .int .i64 c2]) [.int .i64 np] (.int .i64 zn) (.agg [.lst none T, .int .i64 c3])))
    (v6 c4 : Int) (hv6 : 0 ≤ v6 ∧ v6 < 6) (g4 : Good 12 (le 81 (.agg [.lst none T, .int .i64 c3]) [.int .i64 6] (.int .i64 v6) (.agg [.lst none T, .int .i64 c4])))
    (qa : Bool) (c5 : Int) (g5 : Good 30 (le 81 (.agg [.lst none T, .int .i64 c4]) [.int .i64 2] (.bool qa) (.agg [.lst none T, .int .i64 c5])))
    (c6 c7 c8 : Int) (t8 : Tp T c8) (bs : List UInt8) (hbs : bs.length ≤ 3)
    (g6 : Good 30 (le 81 (.agg [.lst none T, .int .i64 c5]) [.int .i64 4] (.bool false) (.agg [.lst none T, .int .i64 c6])))
    (g8 : Good 12 (le 81 (.agg [.lst none T, .int .i64 c6]) [.int .i64 4] (.int .i64 3) (.agg [.lst none T, .int .i64 c8]))) :
    Good 6 (pu [x0.w R0, pceV p0 D0, .lst none Z] (.bool true)) := by
  skip
  have h0 := new_c Z T hT
  have hk := known_c
  have hRl : R.length = ps.length := by rw [hR, rowsB_len]
  obtain ⟨d, hd⟩ : ∃ d, d = ps.getD n [] := ⟨_, rfl⟩
  obtain ⟨D, hD⟩ : ∃ D, D = u8l d := ⟨_, rfl⟩
  have hRn : R[n]? = some (.lst none D) := by
    rw [hR, rowsB, List.getElem?_map, hD, hd, List.getD_eq_getElem?_getD, List.getElem?_eq_getElem hnl]; rfl
  have hdl : d.length ≤ 200 := by
    rw [hd, List.getD_eq_getElem?_getD, List.getElem?_eq_getElem hnl]
    exact hsh _ (List.getElem_mem hnl)
  have hnlR : n < R.length := by omega
  have hfl : rps.flatten.length ≤ 140737488351232 := by
    have h1 := flat_le2 rps 200 hrs
    have h2 : rps.length * 200 ≤ 32 * 200 := Nat.mul_le_mul_right _ hrc
    omega
  have hrt := hrf.tag
  have hrh := hrf.hv
  dsimp only at hrt hrh
  have hnpR : np = (R.length : Int) := by omega
  clear hd hT
  skip
  refine Good.of Try.func6 rfl (by rfl) (by kernel_rfl) ?_
  cbv
  have hmk : True := trivial
  (repeat' (first
| (refine q1w (fun z hz => ?_); (try simp only at hz); cbv)
| (refine rqw ?_; cbv)
| (refine QC.tw ?_; cbv)
| (refine QC.tt ?_ ?_; (focus (simp only [decide_true, Bool.and_true, Bool.and_self] <;> fail)); cbv)
| (refine QC.ff ?_ ?_; (focus (simp only [decide_true, Bool.and_true, Bool.and_self, decide_false, Bool.false_and, reduceCtorEq, not_false_eq_true] <;> fail)); cbv)
| (refine QC.fw ?_; cbv)
| (refine QC.mk (fun hc => ?_) (fun hc => ?_) <;> (try dsimp only at hc) <;> cbv)
| (refine br_mk2 (fun hb => ?_) (fun hb => ?_) <;> (try subst hb) <;> cbv)
| (refine callq (h0) rfl rfl ?_; cbv)
| (refine callq (gS) rfl rfl ?_; cbv)
| (refine callq (gC) rfl rfl ?_; cbv)))
  have ez : np = z := by (first | omega | (simp only [cst] at *; omega) | (simp only [sm] at *; omega))
  subst ez
  (repeat' (first
| (refine q1w (fun z hz => ?_); (try simp only at hz); cbv)
| (refine rqw ?_; cbv)
| (refine QC.tw ?_; cbv)
| (refine QC.tt ?_ ?_; (focus (simp only [decide_true, Bool.and_true, Bool.and_self] <;> fail)); cbv)
| (refine QC.ff ?_ ?_; (focus (simp only [decide_true, Bool.and_true, Bool.and_self, decide_false, Bool.false_and, reduceCtorEq, not_false_eq_true] <;> fail)); cbv)
| (refine QC.fw ?_; cbv)
| (refine QC.mk (fun hc => ?_) (fun hc => ?_) <;> (try dsimp only at hc) <;> cbv)
| (refine br_mk2 (fun hb => ?_) (fun hb => ?_) <;> (try subst hb) <;> cbv)
| (refine callq (g3) rfl rfl ?_; cbv)
| (refine callq (g4) rfl rfl ?_; cbv)
| (refine callq (g5) rfl rfl ?_; cbv)))
  (refine qv (n, _) ⟨hzn, hRn⟩ ?_; cbv; (repeat' (first
| (refine q1w (fun z hz => ?_); (try simp only at hz); cbv)
| (refine rqw ?_; cbv)
| (refine QC.tw ?_; cbv)
| (refine QC.tt ?_ ?_; (focus (simp only [decide_true, Bool.and_true, Bool.and_self] <;> fail)); cbv)
| (refine QC.ff ?_ ?_; (focus (simp only [decide_true, Bool.and_true, Bool.and_self, decide_false, Bool.false_and, reduceCtorEq, not_false_eq_true] <;> fail)); cbv)
| (refine QC.fw ?_; cbv)
| (refine QC.mk (fun hc => ?_) (fun hc => ?_) <;> (try dsimp only at hc) <;> cbv)
| (refine br_mk2 (fun hb => ?_) (fun hb => ?_) <;> (try subst hb) <;> cbv))))
  rename_i zc hzc qt hqt
  have hqtb : 0 ≤ qt ∧ qt ≤ 255 := by (first | omega | (simp only [cst] at *; omega) | (simp only [sm] at *; omega))
  have ez : np = z := by (first | omega | (simp only [cst] at *; omega) | (simp only [sm] at *; omega))
  subst ez
  (refine callq (g6) rfl rfl ?_; cbv; (repeat' (first
| (refine q1w (fun z hz => ?_); (try simp only at hz); cbv)
| (refine rqw ?_; cbv)
| (refine QC.tw ?_; cbv)
| (refine QC.tt ?_ ?_; (focus (simp only [decide_true, Bool.and_true, Bool.and_self] <;> fail)); cbv)
| (refine QC.ff ?_ ?_; (focus (simp only [decide_true, Bool.and_true, Bool.and_self, decide_false, Bool.false_and, reduceCtorEq, not_false_eq_true] <;> fail)); cbv)
| (refine QC.fw ?_; cbv)
| (refine QC.mk (fun hc => ?_) (fun hc => ?_) <;> (try dsimp only at hc) <;> cbv)
| (refine br_mk2 (fun hb => ?_) (fun hb => ?_) <;> (try subst hb) <;> cbv))))
  (refine callq (g8) rfl rfl ?_; cbv; (repeat' (first
| (refine q1w (fun z hz => ?_); (try simp only at hz); cbv)
| (refine rqw ?_; cbv)
| (refine QC.tw ?_; cbv)
| (refine QC.tt ?_ ?_; (focus (simp only [decide_true, Bool.and_true, Bool.and_self] <;> fail)); cbv)
| (refine QC.ff ?_ ?_; (focus (simp only [decide_true, Bool.and_true, Bool.and_self, decide_false, Bool.false_and, reduceCtorEq, not_false_eq_true] <;> fail)); cbv)
| (refine QC.fw ?_; cbv)
| (refine QC.mk (fun hc => ?_) (fun hc => ?_) <;> (try dsimp only at hc) <;> cbv)
| (refine br_mk2 (fun hb => ?_) (fun hb => ?_) <;> (try subst hb) <;> cbv))))
  have hzb : 0 ≤ z ∧ z ≤ 255 := by (first | omega | (simp only [cst] at *; omega) | (simp only [sm] at *; omega))
  obtain ⟨sp, hsp⟩ : ∃ sp : Rcv, sp = ⟨z, rcn, rps, rhv, rdn⟩ := ⟨_, rfl⟩
  obtain ⟨q, hqd⟩ : ∃ q : Pce, q = ⟨qt, zn, np, qa, d⟩ := ⟨_, rfl⟩
  have hnpb : 0 ≤ np ∧ np ≤ 32 := by (first | omega | (simp only [cst] at *; omega) | (simp only [sm] at *; omega))
  have hznb : 0 ≤ zn ∧ zn ≤ 32 := by (first | omega | (simp only [cst] at *; omega) | (simp only [sm] at *; omega))
  have hq : q.fits := by rw [hqd]; exact ⟨hqtb, by dsimp only; omega, by dsimp only; omega, by dsimp only; omega⟩
  obtain ⟨E, hE0⟩ : ∃ E, E = D := ⟨_, rfl⟩
  have hE : E = u8l q.d := by rw [hE0, hqd]; exact hD
  skip
  have hspf : sp.fits := by
    rw [hsp]
    exact ⟨by dsimp only; omega, by dsimp only; omega, by dsimp only; omega, hrf.n, hrf.b⟩
  obtain ⟨V, hV⟩ : ∃ V : List SV, V = [x0.w R0, (⟨rtg, rcn, rps, rhv, rdn⟩ : Rcv).w Q, sp.w Q, zRV] := ⟨_, rfl⟩
  have hVE := v3_e x0 R0 hR0 hf0 hl0 ⟨rtg, rcn, rps, rhv, rdn⟩ Q hQ hrf hfl sp Q (by rw [hsp]; exact hQ) hspf (by rw [hsp]; exact hfl)
  rw [← hV] at hVE
  have hV3 : V[3]? = some zRV := by rw [hV]; rfl
  have hVl : V.length = 4 := by rw [hV]; rfl
  rw [hsp] at hV
  obtain ⟨V2, hV2⟩ : ∃ V : List SV, V = [pceV p0 D0, pceV q E] := ⟨_, rfl⟩
  have hV2E := p2_e p0 q D0 E hD0 hE hp0 hq
  rw [← hV2] at hV2E
  have hV2l : V2.length = 2 := by rw [hV2]; rfl
  rw [hqd] at hV2
  clear hsp hspf hqd hq hE
  rw [hE0] at hV2
  skip
  refine loopQ (A := Nat × Int) (fun p => p.2 = p.1 ∧ p.1 ≤ 4) (fun p => 4 - p.1) (fun p => [(14, .int .i64 p.2)]) (fun p => [(102, .row (some 5) 55 V)]) (0, 0) ⟨rfl, by omega⟩ ?_ ?_
  · cbv
    rw [hV]
    repeat' (first | exact rfl | exact trivial | apply And.intro)
  · intro ⟨i, j⟩ hh
    have hj : j = (i : Int) := hh.1
    have hi : i ≤ 4 := hh.2
    clear hh hV
    have hmq : True := trivial
    cbv
    (repeat' (first
| (refine q1w (fun z hz => ?_); (try simp only at hz); cbv)
| (refine rqw ?_; cbv)
| (refine QC.tw ?_; cbv)
| (refine QC.tt ?_ ?_; (focus (simp only [decide_true, Bool.and_true, Bool.and_self] <;> fail)); cbv)
| (refine QC.ff ?_ ?_; (focus (simp only [decide_true, Bool.and_true, Bool.and_self, decide_false, Bool.false_and, reduceCtorEq, not_false_eq_true] <;> fail)); cbv)
| (refine QC.fw ?_; cbv)
| (refine QC.mk (fun hc => ?_) (fun hc => ?_) <;> (try dsimp only at hc) <;> cbv)
| (refine br_mk2 (fun hb => ?_) (fun hb => ?_) <;> (try subst hb) <;> cbv)))
    · have hlt : i < 4 := by (first | omega | (simp only [cst] at *; omega) | (simp only [sm] at *; omega))
      cases Nat.lt_or_ge i 3 with
      | inl h3 =>
        obtain ⟨x, X, hVi, hX, hxf, hxl⟩ := hVE i h3
        have gRn := fun p D hD hp => rrnd_e x X hX hxf p D hD hp
        have gDg := dg_e x X hX hxf hxl
        clear hX hxf hxl
        skip
        refine loopQ (A := Nat × Int) (fun p => p.2 = p.1 ∧ p.1 ≤ 2) (fun p => 2 - p.1) (fun p => [(16, .int .i64 p.2)]) (fun p => [(111, .row (some 5) 51 V2)]) (0, 0) ⟨rfl, by omega⟩ ?_ ?_
        · cbv
          rw [hV2]
          repeat' (first | exact rfl | exact trivial | apply And.intro)
        · intro ⟨i2, j2⟩ hh
          have hj2 : j2 = (i2 : Int) := hh.1
          have hi2 : i2 ≤ 2 := hh.2
          clear hh hV2
          have hmz : True := trivial
          cbv
          (repeat' (first
| (refine q1w (fun z hz => ?_); (try simp only at hz); cbv)
| (refine rqw ?_; cbv)
| (refine QC.tw ?_; cbv)
| (refine QC.tt ?_ ?_; (focus (simp only [decide_true, Bool.and_true, Bool.and_self] <;> fail)); cbv)
| (refine QC.ff ?_ ?_; (focus (simp only [decide_true, Bool.and_true, Bool.and_self, decide_false, Bool.false_and, reduceCtorEq, not_false_eq_true] <;> fail)); cbv)
| (refine QC.fw ?_; cbv)
| (refine QC.mk (fun hc => ?_) (fun hc => ?_) <;> (try dsimp only at hc) <;> cbv)
| (refine br_mk2 (fun hb => ?_) (fun hb => ?_) <;> (try subst hb) <;> cbv)))
          · have hlt2 : i2 < 2 := by (first | omega | (simp only [cst] at *; omega) | (simp only [sm] at *; omega))
            obtain ⟨p, X2, hWi, hX2, hpf⟩ := hV2E i2 hlt2
            obtain ⟨y, Y, bm, e, ok, f1, f2, f3⟩ := gRn p X2 hX2 hpf
            clear gRn gDg hV2E hVE hk hX2 hpf
            skip
            (repeat' (first
| (refine QC.ff (fun h => h rfl) ?_; cbv)
| (refine q1w (fun z hz => ?_); (try simp only at hz); cbv)
| (refine rqw ?_; cbv)
| (refine QC.tw ?_; cbv)
| (refine QC.tt ?_ ?_; (focus (simp only [decide_true, Bool.and_true, Bool.and_self] <;> fail)); cbv)
| (refine QC.ff ?_ ?_; (focus (simp only [decide_true, Bool.and_true, Bool.and_self, decide_false, Bool.false_and, reduceCtorEq, not_false_eq_true] <;> fail)); cbv)
| (refine QC.fw ?_; cbv)
| (refine QC.mk (fun hc => ?_) (fun hc => ?_) <;> (try dsimp only at hc) <;> cbv)
| (refine br_mk2 (fun hb => ?_) (fun hb => ?_) <;> (try subst hb) <;> cbv)
| (refine qv (i) (by (first | omega | (simp only [cst] at *; omega) | (simp only [sm] at *; omega))) ?_; cbv)
| (refine qv _ (hVi) ?_; cbv)
| (refine qv (i2) (by (first | omega | (simp only [cst] at *; omega) | (simp only [sm] at *; omega))) ?_; cbv)
| (refine qv _ (hWi) ?_; cbv)
| (refine callq (f1) rfl rfl ?_; cbv)
| (refine callq (f2) rfl rfl ?_; cbv)
| (refine callq (f3) rfl rfl ?_; cbv)))
            all_goals
              refine ⟨(i2 + 1, z), ⟨by show z = ((i2 + 1 : Nat) : Int); (first | omega | (simp only [cst] at *; omega) | (simp only [sm] at *; omega)), by show i2 + 1 ≤ 2; omega⟩, by show 2 - (i2 + 1) < 2 - i2; omega, ?_⟩
              cbv
              repeat' (first | exact rfl | exact trivial | apply And.intro)
          · obtain ⟨L, ok, r, f1, f2, f3, f4, f5⟩ := gDg
            clear gRn hV2E hVE hk
            skip
            (repeat' (first
| (refine QC.ff (fun h => h rfl) ?_; cbv)
| (refine q1w (fun z hz => ?_); (try simp only at hz); cbv)
| (refine rqw ?_; cbv)
| (refine QC.tw ?_; cbv)
| (refine QC.tt ?_ ?_; (focus (simp only [decide_true, Bool.and_true, Bool.and_self] <;> fail)); cbv)
| (refine QC.ff ?_ ?_; (focus (simp only [decide_true, Bool.and_true, Bool.and_self, decide_false, Bool.false_and, reduceCtorEq, not_false_eq_true] <;> fail)); cbv)
| (refine QC.fw ?_; cbv)
| (refine QC.mk (fun hc => ?_) (fun hc => ?_) <;> (try dsimp only at hc) <;> cbv)
| (refine br_mk2 (fun hb => ?_) (fun hb => ?_) <;> (try subst hb) <;> cbv)
| (refine qv (i) (by (first | omega | (simp only [cst] at *; omega) | (simp only [sm] at *; omega))) ?_; cbv)
| (refine qv _ (hVi) ?_; cbv)
| (refine callq (f1) rfl rfl ?_; cbv)
| (refine callq (f2) rfl rfl ?_; cbv)
| (refine callq (f3) rfl rfl ?_; cbv)
| (refine callq (f4) rfl rfl ?_; cbv)
| (refine callq (f5) rfl rfl ?_; cbv)))
            all_goals
              refine ⟨(i + 1, z), ⟨by show z = ((i + 1 : Nat) : Int); (first | omega | (simp only [cst] at *; omega) | (simp only [sm] at *; omega)), by show i + 1 ≤ 4; omega⟩, by show 4 - (i + 1) < 4 - i; omega, ?_⟩
              cbv
              repeat' (first | exact rfl | exact trivial | apply And.intro)
      | inr h3 =>
        have hi3 : i = 3 := by omega
        have hVi : V[i]? = some zRV := by rw [hi3]; exact hV3
        have gRn := fun p D hD hp => zrnd_e p D hD hp
        have gDg := zdg_e
        skip
        refine loopQ (A := Nat × Int) (fun p => p.2 = p.1 ∧ p.1 ≤ 2) (fun p => 2 - p.1) (fun p => [(16, .int .i64 p.2)]) (fun p => [(111, .row (some 5) 51 V2)]) (0, 0) ⟨rfl, by omega⟩ ?_ ?_
        · cbv
          rw [hV2]
          repeat' (first | exact rfl | exact trivial | apply And.intro)
        · intro ⟨i2, j2⟩ hh
          have hj2 : j2 = (i2 : Int) := hh.1
          have hi2 : i2 ≤ 2 := hh.2
          clear hh hV2
          have hmz : True := trivial
          cbv
          (repeat' (first
| (refine q1w (fun z hz => ?_); (try simp only at hz); cbv)
| (refine rqw ?_; cbv)
| (refine QC.tw ?_; cbv)
| (refine QC.tt ?_ ?_; (focus (simp only [decide_true, Bool.and_true, Bool.and_self] <;> fail)); cbv)
| (refine QC.ff ?_ ?_; (focus (simp only [decide_true, Bool.and_true, Bool.and_self, decide_false, Bool.false_and, reduceCtorEq, not_false_eq_true] <;> fail)); cbv)
| (refine QC.fw ?_; cbv)
| (refine QC.mk (fun hc => ?_) (fun hc => ?_) <;> (try dsimp only at hc) <;> cbv)
| (refine br_mk2 (fun hb => ?_) (fun hb => ?_) <;> (try subst hb) <;> cbv)))
          · have hlt2 : i2 < 2 := by (first | omega | (simp only [cst] at *; omega) | (simp only [sm] at *; omega))
            obtain ⟨p, X2, hWi, hX2, hpf⟩ := hV2E i2 hlt2
            obtain ⟨y, Y, bm, e, ok, f1, f2, f3⟩ := gRn p X2 hX2 hpf
            clear gRn gDg hV2E hVE hk hX2 hpf
            skip
            (repeat' (first
| (refine QC.ff (fun h => h rfl) ?_; cbv)
| (refine q1w (fun z hz => ?_); (try simp only at hz); cbv)
| (refine rqw ?_; cbv)
| (refine QC.tw ?_; cbv)
| (refine QC.tt ?_ ?_; (focus (simp only [decide_true, Bool.and_true, Bool.and_self] <;> fail)); cbv)
| (refine QC.ff ?_ ?_; (focus (simp only [decide_true, Bool.and_true, Bool.and_self, decide_false, Bool.false_and, reduceCtorEq, not_false_eq_true] <;> fail)); cbv)
| (refine QC.fw ?_; cbv)
| (refine QC.mk (fun hc => ?_) (fun hc => ?_) <;> (try dsimp only at hc) <;> cbv)
| (refine br_mk2 (fun hb => ?_) (fun hb => ?_) <;> (try subst hb) <;> cbv)
| (refine qv (i) (by (first | omega | (simp only [cst] at *; omega) | (simp only [sm] at *; omega))) ?_; cbv)
| (refine qv _ (hVi) ?_; cbv)
| (refine qv (i2) (by (first | omega | (simp only [cst] at *; omega) | (simp only [sm] at *; omega))) ?_; cbv)
| (refine qv _ (hWi) ?_; cbv)
| (refine callq (f1) rfl rfl ?_; cbv)
| (refine callq (f2) rfl rfl ?_; cbv)
| (refine callq (f3) rfl rfl ?_; cbv)))
            all_goals
              refine ⟨(i2 + 1, z), ⟨by show z = ((i2 + 1 : Nat) : Int); (first | omega | (simp only [cst] at *; omega) | (simp only [sm] at *; omega)), by show i2 + 1 ≤ 2; omega⟩, by show 2 - (i2 + 1) < 2 - i2; omega, ?_⟩
              cbv
              repeat' (first | exact rfl | exact trivial | apply And.intro)
          · obtain ⟨L, ok, r, f1, f2, f3, f4, f5⟩ := gDg
            clear gRn hV2E hVE hk
            skip
            (repeat' (first
| (refine QC.ff (fun h => h rfl) ?_; cbv)
| (refine q1w (fun z hz => ?_); (try simp only at hz); cbv)
| (refine rqw ?_; cbv)
| (refine QC.tw ?_; cbv)
| (refine QC.tt ?_ ?_; (focus (simp only [decide_true, Bool.and_true, Bool.and_self] <;> fail)); cbv)
| (refine QC.ff ?_ ?_; (focus (simp only [decide_true, Bool.and_true, Bool.and_self, decide_false, Bool.false_and, reduceCtorEq, not_false_eq_true] <;> fail)); cbv)
| (refine QC.fw ?_; cbv)
| (refine QC.mk (fun hc => ?_) (fun hc => ?_) <;> (try dsimp only at hc) <;> cbv)
| (refine br_mk2 (fun hb => ?_) (fun hb => ?_) <;> (try subst hb) <;> cbv)
| (refine qv (i) (by (first | omega | (simp only [cst] at *; omega) | (simp only [sm] at *; omega))) ?_; cbv)
| (refine qv _ (hVi) ?_; cbv)
| (refine callq (f1) rfl rfl ?_; cbv)
| (refine callq (f2) rfl rfl ?_; cbv)
| (refine callq (f3) rfl rfl ?_; cbv)
| (refine callq (f4) rfl rfl ?_; cbv)
| (refine callq (f5) rfl rfl ?_; cbv)))
            all_goals
              refine ⟨(i + 1, z), ⟨by show z = ((i + 1 : Nat) : Int); (first | omega | (simp only [cst] at *; omega) | (simp only [sm] at *; omega)), by show i + 1 ≤ 4; omega⟩, by show 4 - (i + 1) < 4 - i; omega, ?_⟩
              cbv
              repeat' (first | exact rfl | exact trivial | apply And.intro)
    · (refine callq (hk) rfl rfl ?_; cbv; (repeat' (first
| (refine q1w (fun z hz => ?_); (try simp only at hz); cbv)
| (refine rqw ?_; cbv)
| (refine QC.tw ?_; cbv)
| (refine QC.tt ?_ ?_; (focus (simp only [decide_true, Bool.and_true, Bool.and_self] <;> fail)); cbv)
| (refine QC.ff ?_ ?_; (focus (simp only [decide_true, Bool.and_true, Bool.and_self, decide_false, Bool.false_and, reduceCtorEq, not_false_eq_true] <;> fail)); cbv)
| (refine QC.fw ?_; cbv)
| (refine QC.mk (fun hc => ?_) (fun hc => ?_) <;> (try dsimp only at hc) <;> cbv)
| (refine br_mk2 (fun hb => ?_) (fun hb => ?_) <;> (try subst hb) <;> cbv))))
      exact ⟨rfl, rfl, rfl⟩
set_option maxRecDepth 8000 in
theorem receivers_31
    (x0 : Rcv) (R0 : List SV) (hR0 : R0 = rowsB x0.ps) (hf0 : x0.fits) (hl0 : x0.ps.flatten.length ≤ 140737488351232) (p0 : Pce) (D0 : List SV) (hD0 : D0 = u8l p0.d) (hp0 : p0.fits) (Z T : List SV) (hT : T = Z.take 400)
    (st stg ak rd un : Int) (ps : List (List UInt8)) (R : List SV) (c1 : Int) (hstg : 0 ≤ stg ∧ stg ≤ 255) (hR : R = rowsB ps) (hsh : ∀ p ∈ ps, p.length ≤ 200) (hn1 : 1 ≤ ps.length ∧ ps.length ≤ 32)
    (gS : Good 11 (le 81 (.agg [.lst none T, .int .i64 0]) [] (.agg [.int .i64 st, .int .u8 stg, .lst none R, .int .u32 ak, .int .i64 rd, .int .i64 un]) (.agg [.lst none T, .int .i64 c1])))
    (rtg rcn rhv : Int) (rdn : Bool) (rps : List (List UInt8)) (Q : List SV) (c2 : Int) (hrf : Rcv.fits ⟨rtg, rcn, rps, rhv, rdn⟩) (hQ : Q = rowsB rps) (hrs : ∀ p ∈ rps, p.length ≤ 200) (hrc : rps.length ≤ 32) (hcn : 0 ≤ rcn ∧ rcn ≤ 32)
    (gC : Good 29 (le 81 (.agg [.lst none T, .int .i64 c1]) [.agg [.int .i64 st, .int .u8 stg, .lst none R, .int .u32 ak, .int .i64 rd, .int .i64 un]] (.agg [.int .u8 rtg, .int .i64 rcn, .lst none Q, .int .u32 rhv, .bool rdn]) (.agg [.lst none T, .int .i64 c2])))
    (np : Int) (hnp : np = ps.length) (n : Nat) (zn c3 : Int) (hzn : zn = n) (hnl : n < ps.length) (g3 : Good 12 (le 81 (.agg [.lst none T, .int .i64 c2]) [.int .i64 np] (.int .i64 zn) (.agg [.lst none T, .int .i64 c3])))
    (v6 c4 : Int) (hv6 : 0 ≤ v6 ∧ v6 < 6) (g4 : Good 12 (le 81 (.agg [.lst none T, .int .i64 c3]) [.int .i64 6] (.int .i64 v6) (.agg [.lst none T, .int .i64 c4])))
    (qa : Bool) (c5 : Int) (g5 : Good 30 (le 81 (.agg [.lst none T, .int .i64 c4]) [.int .i64 2] (.bool qa) (.agg [.lst none T, .int .i64 c5])))
    (c6 c7 c8 : Int) (t8 : Tp T c8) (bs : List UInt8) (hbs : bs.length ≤ 3)
    (g6 : Good 30 (le 81 (.agg [.lst none T, .int .i64 c5]) [.int .i64 4] (.bool true) (.agg [.lst none T, .int .i64 c6])))
    (gB : Good 14 (leN 81 (.agg [.lst none T, .int .i64 c6]) [.int .i64 3] (.row 1) (.agg [.lst none T, .int .i64 c7]) (.row none 5 (u8l bs))))
    (g8 : Good 12 (le 81 (.agg [.lst none T, .int .i64 c7]) [.int .i64 4] (.int .i64 3) (.agg [.lst none T, .int .i64 c8]))) :
    Good 6 (pu [x0.w R0, pceV p0 D0, .lst none Z] (.bool true)) := by
  skip
  have h0 := new_c Z T hT
  have hk := known_c
  have hRl : R.length = ps.length := by rw [hR, rowsB_len]
  obtain ⟨d, hd⟩ : ∃ d, d = ps.getD n [] := ⟨_, rfl⟩
  obtain ⟨D, hD⟩ : ∃ D, D = u8l d := ⟨_, rfl⟩
  have hRn : R[n]? = some (.lst none D) := by
    rw [hR, rowsB, List.getElem?_map, hD, hd, List.getD_eq_getElem?_getD, List.getElem?_eq_getElem hnl]; rfl
  have hdl : d.length ≤ 200 := by
    rw [hd, List.getD_eq_getElem?_getD, List.getElem?_eq_getElem hnl]
    exact hsh _ (List.getElem_mem hnl)
  have hnlR : n < R.length := by omega
  have hfl : rps.flatten.length ≤ 140737488351232 := by
    have h1 := flat_le2 rps 200 hrs
    have h2 : rps.length * 200 ≤ 32 * 200 := Nat.mul_le_mul_right _ hrc
    omega
  have hrt := hrf.tag
  have hrh := hrf.hv
  dsimp only at hrt hrh
  have hnpR : np = (R.length : Int) := by omega
  clear hd hT
  obtain ⟨BS, hBS⟩ : ∃ BS, BS = u8l bs := ⟨_, rfl⟩
  rw [← hBS] at gB
  skip
  refine Good.of Try.func6 rfl (by rfl) (by kernel_rfl) ?_
  cbv
  have hmk : True := trivial
  (repeat' (first
| (refine q1w (fun z hz => ?_); (try simp only at hz); cbv)
| (refine rqw ?_; cbv)
| (refine QC.tw ?_; cbv)
| (refine QC.tt ?_ ?_; (focus (simp only [decide_true, Bool.and_true, Bool.and_self] <;> fail)); cbv)
| (refine QC.ff ?_ ?_; (focus (simp only [decide_true, Bool.and_true, Bool.and_self, decide_false, Bool.false_and, reduceCtorEq, not_false_eq_true] <;> fail)); cbv)
| (refine QC.fw ?_; cbv)
| (refine QC.mk (fun hc => ?_) (fun hc => ?_) <;> (try dsimp only at hc) <;> cbv)
| (refine br_mk2 (fun hb => ?_) (fun hb => ?_) <;> (try subst hb) <;> cbv)
| (refine callq (h0) rfl rfl ?_; cbv)
| (refine callq (gS) rfl rfl ?_; cbv)
| (refine callq (gC) rfl rfl ?_; cbv)))
  have ez : np = z := by (first | omega | (simp only [cst] at *; omega) | (simp only [sm] at *; omega))
  subst ez
  (repeat' (first
| (refine q1w (fun z hz => ?_); (try simp only at hz); cbv)
| (refine rqw ?_; cbv)
| (refine QC.tw ?_; cbv)
| (refine QC.tt ?_ ?_; (focus (simp only [decide_true, Bool.and_true, Bool.and_self] <;> fail)); cbv)
| (refine QC.ff ?_ ?_; (focus (simp only [decide_true, Bool.and_true, Bool.and_self, decide_false, Bool.false_and, reduceCtorEq, not_false_eq_true] <;> fail)); cbv)
| (refine QC.fw ?_; cbv)
| (refine QC.mk (fun hc => ?_) (fun hc => ?_) <;> (try dsimp only at hc) <;> cbv)
| (refine br_mk2 (fun hb => ?_) (fun hb => ?_) <;> (try subst hb) <;> cbv)
| (refine callq (g3) rfl rfl ?_; cbv)
| (refine callq (g4) rfl rfl ?_; cbv)
| (refine callq (g5) rfl rfl ?_; cbv)))
  (refine qv (n, _) ⟨hzn, hRn⟩ ?_; cbv; (repeat' (first
| (refine q1w (fun z hz => ?_); (try simp only at hz); cbv)
| (refine rqw ?_; cbv)
| (refine QC.tw ?_; cbv)
| (refine QC.tt ?_ ?_; (focus (simp only [decide_true, Bool.and_true, Bool.and_self] <;> fail)); cbv)
| (refine QC.ff ?_ ?_; (focus (simp only [decide_true, Bool.and_true, Bool.and_self, decide_false, Bool.false_and, reduceCtorEq, not_false_eq_true] <;> fail)); cbv)
| (refine QC.fw ?_; cbv)
| (refine QC.mk (fun hc => ?_) (fun hc => ?_) <;> (try dsimp only at hc) <;> cbv)
| (refine br_mk2 (fun hb => ?_) (fun hb => ?_) <;> (try subst hb) <;> cbv))))
  rename_i zc hzc qt hqt
  have hqtb : 0 ≤ qt ∧ qt ≤ 255 := by (first | omega | (simp only [cst] at *; omega) | (simp only [sm] at *; omega))
  have ez : np = z := by (first | omega | (simp only [cst] at *; omega) | (simp only [sm] at *; omega))
  subst ez
  (refine callq (g6) rfl rfl ?_; cbv; (repeat' (first
| (refine q1w (fun z hz => ?_); (try simp only at hz); cbv)
| (refine rqw ?_; cbv)
| (refine QC.tw ?_; cbv)
| (refine QC.tt ?_ ?_; (focus (simp only [decide_true, Bool.and_true, Bool.and_self] <;> fail)); cbv)
| (refine QC.ff ?_ ?_; (focus (simp only [decide_true, Bool.and_true, Bool.and_self, decide_false, Bool.false_and, reduceCtorEq, not_false_eq_true] <;> fail)); cbv)
| (refine QC.fw ?_; cbv)
| (refine QC.mk (fun hc => ?_) (fun hc => ?_) <;> (try dsimp only at hc) <;> cbv)
| (refine br_mk2 (fun hb => ?_) (fun hb => ?_) <;> (try subst hb) <;> cbv))))
  (refine callq (gB) rfl rfl ?_; cbv; (repeat' (first
| (refine q1w (fun z hz => ?_); (try simp only at hz); cbv)
| (refine rqw ?_; cbv)
| (refine QC.tw ?_; cbv)
| (refine QC.tt ?_ ?_; (focus (simp only [decide_true, Bool.and_true, Bool.and_self] <;> fail)); cbv)
| (refine QC.ff ?_ ?_; (focus (simp only [decide_true, Bool.and_true, Bool.and_self, decide_false, Bool.false_and, reduceCtorEq, not_false_eq_true] <;> fail)); cbv)
| (refine QC.fw ?_; cbv)
| (refine QC.mk (fun hc => ?_) (fun hc => ?_) <;> (try dsimp only at hc) <;> cbv)
| (refine br_mk2 (fun hb => ?_) (fun hb => ?_) <;> (try subst hb) <;> cbv))))
  (refine callq (g8) rfl rfl ?_; cbv; (repeat' (first
| (refine q1w (fun z hz => ?_); (try simp only at hz); cbv)
| (refine rqw ?_; cbv)
| (refine QC.tw ?_; cbv)
| (refine QC.tt ?_ ?_; (focus (simp only [decide_true, Bool.and_true, Bool.and_self] <;> fail)); cbv)
| (refine QC.ff ?_ ?_; (focus (simp only [decide_true, Bool.and_true, Bool.and_self, decide_false, Bool.false_and, reduceCtorEq, not_false_eq_true] <;> fail)); cbv)
| (refine QC.fw ?_; cbv)
| (refine QC.mk (fun hc => ?_) (fun hc => ?_) <;> (try dsimp only at hc) <;> cbv)
| (refine br_mk2 (fun hb => ?_) (fun hb => ?_) <;> (try subst hb) <;> cbv))))
  have hzb : 0 ≤ z ∧ z ≤ 255 := by (first | omega | (simp only [cst] at *; omega) | (simp only [sm] at *; omega))
  obtain ⟨sp, hsp⟩ : ∃ sp : Rcv, sp = ⟨z, rcn, rps, rhv, rdn⟩ := ⟨_, rfl⟩
  obtain ⟨q, hqd⟩ : ∃ q : Pce, q = ⟨qt, zn, np, qa, bs⟩ := ⟨_, rfl⟩
  have hnpb : 0 ≤ np ∧ np ≤ 32 := by (first | omega | (simp only [cst] at *; omega) | (simp only [sm] at *; omega))
  have hznb : 0 ≤ zn ∧ zn ≤ 32 := by (first | omega | (simp only [cst] at *; omega) | (simp only [sm] at *; omega))
  have hq : q.fits := by rw [hqd]; exact ⟨hqtb, by dsimp only; omega, by dsimp only; omega, by dsimp only; omega⟩
  obtain ⟨E, hE0⟩ : ∃ E, E = BS := ⟨_, rfl⟩
  have hE : E = u8l q.d := by rw [hE0, hqd]; exact hBS
  skip
  have hspf : sp.fits := by
    rw [hsp]
    exact ⟨by dsimp only; omega, by dsimp only; omega, by dsimp only; omega, hrf.n, hrf.b⟩
  obtain ⟨V, hV⟩ : ∃ V : List SV, V = [x0.w R0, (⟨rtg, rcn, rps, rhv, rdn⟩ : Rcv).w Q, sp.w Q, zRV] := ⟨_, rfl⟩
  have hVE := v3_e x0 R0 hR0 hf0 hl0 ⟨rtg, rcn, rps, rhv, rdn⟩ Q hQ hrf hfl sp Q (by rw [hsp]; exact hQ) hspf (by rw [hsp]; exact hfl)
  rw [← hV] at hVE
  have hV3 : V[3]? = some zRV := by rw [hV]; rfl
  have hVl : V.length = 4 := by rw [hV]; rfl
  rw [hsp] at hV
  obtain ⟨V2, hV2⟩ : ∃ V : List SV, V = [pceV p0 D0, pceV q E] := ⟨_, rfl⟩
  have hV2E := p2_e p0 q D0 E hD0 hE hp0 hq
  rw [← hV2] at hV2E
  have hV2l : V2.length = 2 := by rw [hV2]; rfl
  rw [hqd] at hV2
  clear hsp hspf hqd hq hE
  rw [hE0] at hV2
  skip
  refine loopQF [67] (A := Nat × Int) (fun p => p.2 = p.1 ∧ p.1 ≤ 4) (fun p => 4 - p.1) (fun p => [(14, .int .i64 p.2)]) (fun p => [(67, .frz none BS), (102, .row (some 5) 55 V)]) (0, 0) ⟨rfl, by omega⟩ ?_ ?_
  · cbv
    rw [hV]
    repeat' (first | exact rfl | exact trivial | apply And.intro)
  · intro ⟨i, j⟩ hh
    have hj : j = (i : Int) := hh.1
    have hi : i ≤ 4 := hh.2
    clear hh hV
    have hmq : True := trivial
    cbv
    (repeat' (first
| (refine q1w (fun z hz => ?_); (try simp only at hz); cbv)
| (refine rqw ?_; cbv)
| (refine QC.tw ?_; cbv)
| (refine QC.tt ?_ ?_; (focus (simp only [decide_true, Bool.and_true, Bool.and_self] <;> fail)); cbv)
| (refine QC.ff ?_ ?_; (focus (simp only [decide_true, Bool.and_true, Bool.and_self, decide_false, Bool.false_and, reduceCtorEq, not_false_eq_true] <;> fail)); cbv)
| (refine QC.fw ?_; cbv)
| (refine QC.mk (fun hc => ?_) (fun hc => ?_) <;> (try dsimp only at hc) <;> cbv)
| (refine br_mk2 (fun hb => ?_) (fun hb => ?_) <;> (try subst hb) <;> cbv)))
    · have hlt : i < 4 := by (first | omega | (simp only [cst] at *; omega) | (simp only [sm] at *; omega))
      cases Nat.lt_or_ge i 3 with
      | inl h3 =>
        obtain ⟨x, X, hVi, hX, hxf, hxl⟩ := hVE i h3
        have gRn := fun p D hD hp => rrnd_e x X hX hxf p D hD hp
        have gDg := dg_e x X hX hxf hxl
        clear hX hxf hxl
        skip
        refine loopQ (A := Nat × Int) (fun p => p.2 = p.1 ∧ p.1 ≤ 2) (fun p => 2 - p.1) (fun p => [(16, .int .i64 p.2)]) (fun p => [(111, .row (some 5) 51 V2)]) (0, 0) ⟨rfl, by omega⟩ ?_ ?_
        · cbv
          rw [hV2]
          repeat' (first | exact rfl | exact trivial | apply And.intro)
        · intro ⟨i2, j2⟩ hh
          have hj2 : j2 = (i2 : Int) := hh.1
          have hi2 : i2 ≤ 2 := hh.2
          clear hh hV2
          have hmz : True := trivial
          cbv
          (repeat' (first
| (refine q1w (fun z hz => ?_); (try simp only at hz); cbv)
| (refine rqw ?_; cbv)
| (refine QC.tw ?_; cbv)
| (refine QC.tt ?_ ?_; (focus (simp only [decide_true, Bool.and_true, Bool.and_self] <;> fail)); cbv)
| (refine QC.ff ?_ ?_; (focus (simp only [decide_true, Bool.and_true, Bool.and_self, decide_false, Bool.false_and, reduceCtorEq, not_false_eq_true] <;> fail)); cbv)
| (refine QC.fw ?_; cbv)
| (refine QC.mk (fun hc => ?_) (fun hc => ?_) <;> (try dsimp only at hc) <;> cbv)
| (refine br_mk2 (fun hb => ?_) (fun hb => ?_) <;> (try subst hb) <;> cbv)))
          · have hlt2 : i2 < 2 := by (first | omega | (simp only [cst] at *; omega) | (simp only [sm] at *; omega))
            obtain ⟨p, X2, hWi, hX2, hpf⟩ := hV2E i2 hlt2
            obtain ⟨y, Y, bm, e, ok, f1, f2, f3⟩ := gRn p X2 hX2 hpf
            clear gRn gDg hV2E hVE hk hX2 hpf
            skip
            (repeat' (first
| (refine QC.ff (fun h => h rfl) ?_; cbv)
| (refine q1w (fun z hz => ?_); (try simp only at hz); cbv)
| (refine rqw ?_; cbv)
| (refine QC.tw ?_; cbv)
| (refine QC.tt ?_ ?_; (focus (simp only [decide_true, Bool.and_true, Bool.and_self] <;> fail)); cbv)
| (refine QC.ff ?_ ?_; (focus (simp only [decide_true, Bool.and_true, Bool.and_self, decide_false, Bool.false_and, reduceCtorEq, not_false_eq_true] <;> fail)); cbv)
| (refine QC.fw ?_; cbv)
| (refine QC.mk (fun hc => ?_) (fun hc => ?_) <;> (try dsimp only at hc) <;> cbv)
| (refine br_mk2 (fun hb => ?_) (fun hb => ?_) <;> (try subst hb) <;> cbv)
| (refine qv (i) (by (first | omega | (simp only [cst] at *; omega) | (simp only [sm] at *; omega))) ?_; cbv)
| (refine qv _ (hVi) ?_; cbv)
| (refine qv (i2) (by (first | omega | (simp only [cst] at *; omega) | (simp only [sm] at *; omega))) ?_; cbv)
| (refine qv _ (hWi) ?_; cbv)
| (refine callq (f1) rfl rfl ?_; cbv)
| (refine callq (f2) rfl rfl ?_; cbv)
| (refine callq (f3) rfl rfl ?_; cbv)))
            all_goals
              refine ⟨(i2 + 1, z), ⟨by show z = ((i2 + 1 : Nat) : Int); (first | omega | (simp only [cst] at *; omega) | (simp only [sm] at *; omega)), by show i2 + 1 ≤ 2; omega⟩, by show 2 - (i2 + 1) < 2 - i2; omega, ?_⟩
              cbv
              repeat' (first | exact rfl | exact trivial | apply And.intro)
          · obtain ⟨L, ok, r, f1, f2, f3, f4, f5⟩ := gDg
            clear gRn hV2E hVE hk
            skip
            (repeat' (first
| (refine QC.ff (fun h => h rfl) ?_; cbv)
| (refine q1w (fun z hz => ?_); (try simp only at hz); cbv)
| (refine rqw ?_; cbv)
| (refine QC.tw ?_; cbv)
| (refine QC.tt ?_ ?_; (focus (simp only [decide_true, Bool.and_true, Bool.and_self] <;> fail)); cbv)
| (refine QC.ff ?_ ?_; (focus (simp only [decide_true, Bool.and_true, Bool.and_self, decide_false, Bool.false_and, reduceCtorEq, not_false_eq_true] <;> fail)); cbv)
| (refine QC.fw ?_; cbv)
| (refine QC.mk (fun hc => ?_) (fun hc => ?_) <;> (try dsimp only at hc) <;> cbv)
| (refine br_mk2 (fun hb => ?_) (fun hb => ?_) <;> (try subst hb) <;> cbv)
| (refine qv (i) (by (first | omega | (simp only [cst] at *; omega) | (simp only [sm] at *; omega))) ?_; cbv)
| (refine qv _ (hVi) ?_; cbv)
| (refine callq (f1) rfl rfl ?_; cbv)
| (refine callq (f2) rfl rfl ?_; cbv)
| (refine callq (f3) rfl rfl ?_; cbv)
| (refine callq (f4) rfl rfl ?_; cbv)
| (refine callq (f5) rfl rfl ?_; cbv)))
            all_goals
              refine ⟨(i + 1, z), ⟨by show z = ((i + 1 : Nat) : Int); (first | omega | (simp only [cst] at *; omega) | (simp only [sm] at *; omega)), by show i + 1 ≤ 4; omega⟩, by show 4 - (i + 1) < 4 - i; omega, ?_⟩
              cbv
              repeat' (first | exact rfl | exact trivial | apply And.intro)
      | inr h3 =>
        have hi3 : i = 3 := by omega
        have hVi : V[i]? = some zRV := by rw [hi3]; exact hV3
        have gRn := fun p D hD hp => zrnd_e p D hD hp
        have gDg := zdg_e
        skip
        refine loopQ (A := Nat × Int) (fun p => p.2 = p.1 ∧ p.1 ≤ 2) (fun p => 2 - p.1) (fun p => [(16, .int .i64 p.2)]) (fun p => [(111, .row (some 5) 51 V2)]) (0, 0) ⟨rfl, by omega⟩ ?_ ?_
        · cbv
          rw [hV2]
          repeat' (first | exact rfl | exact trivial | apply And.intro)
        · intro ⟨i2, j2⟩ hh
          have hj2 : j2 = (i2 : Int) := hh.1
          have hi2 : i2 ≤ 2 := hh.2
          clear hh hV2
          have hmz : True := trivial
          cbv
          (repeat' (first
| (refine q1w (fun z hz => ?_); (try simp only at hz); cbv)
| (refine rqw ?_; cbv)
| (refine QC.tw ?_; cbv)
| (refine QC.tt ?_ ?_; (focus (simp only [decide_true, Bool.and_true, Bool.and_self] <;> fail)); cbv)
| (refine QC.ff ?_ ?_; (focus (simp only [decide_true, Bool.and_true, Bool.and_self, decide_false, Bool.false_and, reduceCtorEq, not_false_eq_true] <;> fail)); cbv)
| (refine QC.fw ?_; cbv)
| (refine QC.mk (fun hc => ?_) (fun hc => ?_) <;> (try dsimp only at hc) <;> cbv)
| (refine br_mk2 (fun hb => ?_) (fun hb => ?_) <;> (try subst hb) <;> cbv)))
          · have hlt2 : i2 < 2 := by (first | omega | (simp only [cst] at *; omega) | (simp only [sm] at *; omega))
            obtain ⟨p, X2, hWi, hX2, hpf⟩ := hV2E i2 hlt2
            obtain ⟨y, Y, bm, e, ok, f1, f2, f3⟩ := gRn p X2 hX2 hpf
            clear gRn gDg hV2E hVE hk hX2 hpf
            skip
            (repeat' (first
| (refine QC.ff (fun h => h rfl) ?_; cbv)
| (refine q1w (fun z hz => ?_); (try simp only at hz); cbv)
| (refine rqw ?_; cbv)
| (refine QC.tw ?_; cbv)
| (refine QC.tt ?_ ?_; (focus (simp only [decide_true, Bool.and_true, Bool.and_self] <;> fail)); cbv)
| (refine QC.ff ?_ ?_; (focus (simp only [decide_true, Bool.and_true, Bool.and_self, decide_false, Bool.false_and, reduceCtorEq, not_false_eq_true] <;> fail)); cbv)
| (refine QC.fw ?_; cbv)
| (refine QC.mk (fun hc => ?_) (fun hc => ?_) <;> (try dsimp only at hc) <;> cbv)
| (refine br_mk2 (fun hb => ?_) (fun hb => ?_) <;> (try subst hb) <;> cbv)
| (refine qv (i) (by (first | omega | (simp only [cst] at *; omega) | (simp only [sm] at *; omega))) ?_; cbv)
| (refine qv _ (hVi) ?_; cbv)
| (refine qv (i2) (by (first | omega | (simp only [cst] at *; omega) | (simp only [sm] at *; omega))) ?_; cbv)
| (refine qv _ (hWi) ?_; cbv)
| (refine callq (f1) rfl rfl ?_; cbv)
| (refine callq (f2) rfl rfl ?_; cbv)
| (refine callq (f3) rfl rfl ?_; cbv)))
            all_goals
              refine ⟨(i2 + 1, z), ⟨by show z = ((i2 + 1 : Nat) : Int); (first | omega | (simp only [cst] at *; omega) | (simp only [sm] at *; omega)), by show i2 + 1 ≤ 2; omega⟩, by show 2 - (i2 + 1) < 2 - i2; omega, ?_⟩
              cbv
              repeat' (first | exact rfl | exact trivial | apply And.intro)
          · obtain ⟨L, ok, r, f1, f2, f3, f4, f5⟩ := gDg
            clear gRn hV2E hVE hk
            skip
            (repeat' (first
| (refine QC.ff (fun h => h rfl) ?_; cbv)
| (refine q1w (fun z hz => ?_); (try simp only at hz); cbv)
| (refine rqw ?_; cbv)
| (refine QC.tw ?_; cbv)
| (refine QC.tt ?_ ?_; (focus (simp only [decide_true, Bool.and_true, Bool.and_self] <;> fail)); cbv)
| (refine QC.ff ?_ ?_; (focus (simp only [decide_true, Bool.and_true, Bool.and_self, decide_false, Bool.false_and, reduceCtorEq, not_false_eq_true] <;> fail)); cbv)
| (refine QC.fw ?_; cbv)
| (refine QC.mk (fun hc => ?_) (fun hc => ?_) <;> (try dsimp only at hc) <;> cbv)
| (refine br_mk2 (fun hb => ?_) (fun hb => ?_) <;> (try subst hb) <;> cbv)
| (refine qv (i) (by (first | omega | (simp only [cst] at *; omega) | (simp only [sm] at *; omega))) ?_; cbv)
| (refine qv _ (hVi) ?_; cbv)
| (refine callq (f1) rfl rfl ?_; cbv)
| (refine callq (f2) rfl rfl ?_; cbv)
| (refine callq (f3) rfl rfl ?_; cbv)
| (refine callq (f4) rfl rfl ?_; cbv)
| (refine callq (f5) rfl rfl ?_; cbv)))
            all_goals
              refine ⟨(i + 1, z), ⟨by show z = ((i + 1 : Nat) : Int); (first | omega | (simp only [cst] at *; omega) | (simp only [sm] at *; omega)), by show i + 1 ≤ 4; omega⟩, by show 4 - (i + 1) < 4 - i; omega, ?_⟩
              cbv
              repeat' (first | exact rfl | exact trivial | apply And.intro)
    · (refine callq (hk) rfl rfl ?_; cbv; (repeat' (first
| (refine q1w (fun z hz => ?_); (try simp only at hz); cbv)
| (refine rqw ?_; cbv)
| (refine QC.tw ?_; cbv)
| (refine QC.tt ?_ ?_; (focus (simp only [decide_true, Bool.and_true, Bool.and_self] <;> fail)); cbv)
| (refine QC.ff ?_ ?_; (focus (simp only [decide_true, Bool.and_true, Bool.and_self, decide_false, Bool.false_and, reduceCtorEq, not_false_eq_true] <;> fail)); cbv)
| (refine QC.fw ?_; cbv)
| (refine QC.mk (fun hc => ?_) (fun hc => ?_) <;> (try dsimp only at hc) <;> cbv)
| (refine br_mk2 (fun hb => ?_) (fun hb => ?_) <;> (try subst hb) <;> cbv))))
      exact ⟨rfl, rfl, rfl⟩
end Go.Proofs.Ytjhicdoigllblaa
namespace Go.Proofs.Ytjhicdoigllblaa
set_option linter.unusedVariables false
set_option linter.unusedSimpArgs false
open Go.RowKit
set_option maxHeartbeats 16000000
set_option maxRecDepth 8000 in
theorem receivers_10f
    (x0 : Rcv) (R0 : List SV) (hR0 : R0 = rowsB x0.ps) (hf0 : x0.fits) (hl0 : x0.ps.flatten.length ≤ 140737488351232) (p0 : Pce) (D0 : List SV) (hD0 : D0 = u8l p0.d) (hp0 : p0.fits) (Z T : List SV) (hT : T = Z.take 400)
    (st stg ak rd un : Int) (ps : List (List UInt8)) (R : List SV) (c1 : Int) (hstg : 0 ≤ stg ∧ stg ≤ 255) (hR : R = rowsB ps) (hsh : ∀ p ∈ ps, p.length ≤ 200) (hn1 : 1 ≤ ps.length ∧ ps.length ≤ 32)
    (gS : Good 11 (le 81 (.agg [.lst none T, .int .i64 0]) [] (.agg [.int .i64 st, .int .u8 stg, .lst none R, .int .u32 ak, .int .i64 rd, .int .i64 un]) (.agg [.lst none T, .int .i64 c1])))
    (rtg rcn rhv : Int) (rdn : Bool) (rps : List (List UInt8)) (Q : List SV) (c2 : Int) (hrf : Rcv.fits ⟨rtg, rcn, rps, rhv, rdn⟩) (hQ : Q = rowsB rps) (hrs : ∀ p ∈ rps, p.length ≤ 200) (hrc : rps.length ≤ 32) (hcn : 0 ≤ rcn ∧ rcn ≤ 32)
    (gC : Good 29 (le 81 (.agg [.lst none T, .int .i64 c1]) [.agg [.int .i64 st, .int .u8 stg, .lst none R, .int .u32 ak, .int .i64 rd, .int .i64 un]] (.agg [.int .u8 rtg, .int .i64 rcn, .lst none Q, .int .u32 rhv, .bool rdn]) (.agg [.lst none T, .int .i64 c2])))
    (np : Int) (hnp : np = ps.length) (n : Nat) (zn c3 : Int) (hzn : zn = n) (hnl : n < ps.length) (g3 : Good 12 (le 81 (.agg [.lst none T, .int .i64 c2]) [.int .i64 np] (.int .i64 zn) (.agg [.lst none T, .int .i64 c3])))
    (v6 c4 : Int) (hv6 : 0 ≤ v6 ∧ v6 < 6) (g4 : Good 12 (le 81 (.agg [.lst none T, .int .i64 c3]) [.int .i64 6] (.int .i64 v6) (.agg [.lst none T, .int .i64 c4])))
    (qa : Bool) (c5 : Int) (g5 : Good 30 (le 81 (.agg [.lst none T, .int .i64 c4]) [.int .i64 2] (.bool qa) (.agg [.lst none T, .int .i64 c5])))
    (c6 c7 c8 : Int) (t8 : Tp T c8) (bs : List UInt8) (hbs : bs.length ≤ 3)
    (g6 : Good 30 (le 81 (.agg [.lst none T, .int .i64 c5]) [.int .i64 4] (.bool false) (.agg [.lst none T, .int .i64 c6])))
    (hdn : rdn = false)
    (g8 : Good 12 (le 81 (.agg [.lst none T, .int .i64 c6]) [.int .i64 4] (.int .i64 1) (.agg [.lst none T, .int .i64 c8]))) :
    Good 6 (pu [x0.w R0, pceV p0 D0, .lst none Z] (.bool true)) := by
  skip
  subst hdn
  have h0 := new_c Z T hT
  have hk := known_c
  have hRl : R.length = ps.length := by rw [hR, rowsB_len]
  obtain ⟨d, hd⟩ : ∃ d, d = ps.getD n [] := ⟨_, rfl⟩
  obtain ⟨D, hD⟩ : ∃ D, D = u8l d := ⟨_, rfl⟩
  have hRn : R[n]? = some (.lst none D) := by
    rw [hR, rowsB, List.getElem?_map, hD, hd, List.getD_eq_getElem?_getD, List.getElem?_eq_getElem hnl]; rfl
  have hdl : d.length ≤ 200 := by
    rw [hd, List.getD_eq_getElem?_getD, List.getElem?_eq_getElem hnl]
    exact hsh _ (List.getElem_mem hnl)
  have hnlR : n < R.length := by omega
  have hfl : rps.flatten.length ≤ 140737488351232 := by
    have h1 := flat_le2 rps 200 hrs
    have h2 : rps.length * 200 ≤ 32 * 200 := Nat.mul_le_mul_right _ hrc
    omega
  have hrt := hrf.tag
  have hrh := hrf.hv
  dsimp only at hrt hrh
  have hnpR : np = (R.length : Int) := by omega
  clear hd hT
  skip
  refine Good.of Try.func6 rfl (by rfl) (by kernel_rfl) ?_
  cbv
  have hmk : True := trivial
  (repeat' (first
| (refine q1w (fun z hz => ?_); (try simp only at hz); cbv)
| (refine rqw ?_; cbv)
| (refine QC.tw ?_; cbv)
| (refine QC.tt ?_ ?_; (focus (simp only [decide_true, Bool.and_true, Bool.and_self] <;> fail)); cbv)
| (refine QC.ff ?_ ?_; (focus (simp only [decide_true, Bool.and_true, Bool.and_self, decide_false, Bool.false_and, reduceCtorEq, not_false_eq_true] <;> fail)); cbv)
| (refine QC.fw ?_; cbv)
| (refine QC.mk (fun hc => ?_) (fun hc => ?_) <;> (try dsimp only at hc) <;> cbv)
| (refine br_mk2 (fun hb => ?_) (fun hb => ?_) <;> (try subst hb) <;> cbv)
| (refine callq (h0) rfl rfl ?_; cbv)
| (refine callq (gS) rfl rfl ?_; cbv)
| (refine callq (gC) rfl rfl ?_; cbv)))
  have ez : np = z := by (first | omega | (simp only [cst] at *; omega) | (simp only [sm] at *; omega))
  subst ez
  (repeat' (first
| (refine q1w (fun z hz => ?_); (try simp only at hz); cbv)
| (refine rqw ?_; cbv)
| (refine QC.tw ?_; cbv)
| (refine QC.tt ?_ ?_; (focus (simp only [decide_true, Bool.and_true, Bool.and_self] <;> fail)); cbv)
| (refine QC.ff ?_ ?_; (focus (simp only [decide_true, Bool.and_true, Bool.and_self, decide_false, Bool.false_and, reduceCtorEq, not_false_eq_true] <;> fail)); cbv)
| (refine QC.fw ?_; cbv)
| (refine QC.mk (fun hc => ?_) (fun hc => ?_) <;> (try dsimp only at hc) <;> cbv)
| (refine br_mk2 (fun hb => ?_) (fun hb => ?_) <;> (try subst hb) <;> cbv)
| (refine callq (g3) rfl rfl ?_; cbv)
| (refine callq (g4) rfl rfl ?_; cbv)
| (refine callq (g5) rfl rfl ?_; cbv)))
  (refine qv (n, _) ⟨hzn, hRn⟩ ?_; cbv; (repeat' (first
| (refine q1w (fun z hz => ?_); (try simp only at hz); cbv)
| (refine rqw ?_; cbv)
| (refine QC.tw ?_; cbv)
| (refine QC.tt ?_ ?_; (focus (simp only [decide_true, Bool.and_true, Bool.and_self] <;> fail)); cbv)
| (refine QC.ff ?_ ?_; (focus (simp only [decide_true, Bool.and_true, Bool.and_self, decide_false, Bool.false_and, reduceCtorEq, not_false_eq_true] <;> fail)); cbv)
| (refine QC.fw ?_; cbv)
| (refine QC.mk (fun hc => ?_) (fun hc => ?_) <;> (try dsimp only at hc) <;> cbv)
| (refine br_mk2 (fun hb => ?_) (fun hb => ?_) <;> (try subst hb) <;> cbv))))
  rename_i zc hzc qt hqt
  have hqtb : 0 ≤ qt ∧ qt ≤ 255 := by (first | omega | (simp only [cst] at *; omega) | (simp only [sm] at *; omega))
  have ez : np = z := by (first | omega | (simp only [cst] at *; omega) | (simp only [sm] at *; omega))
  subst ez
  (refine callq (g6) rfl rfl ?_; cbv; (repeat' (first
| (refine q1w (fun z hz => ?_); (try simp only at hz); cbv)
| (refine rqw ?_; cbv)
| (refine QC.tw ?_; cbv)
| (refine QC.tt ?_ ?_; (focus (simp only [decide_true, Bool.and_true, Bool.and_self] <;> fail)); cbv)
| (refine QC.ff ?_ ?_; (focus (simp only [decide_true, Bool.and_true, Bool.and_self, decide_false, Bool.false_and, reduceCtorEq, not_false_eq_true] <;> fail)); cbv)
| (refine QC.fw ?_; cbv)
| (refine QC.mk (fun hc => ?_) (fun hc => ?_) <;> (try dsimp only at hc) <;> cbv)
| (refine br_mk2 (fun hb => ?_) (fun hb => ?_) <;> (try subst hb) <;> cbv))))
  (refine callq (g8) rfl rfl ?_; cbv; (repeat' (first
| (refine q1w (fun z hz => ?_); (try simp only at hz); cbv)
| (refine rqw ?_; cbv)
| (refine QC.tw ?_; cbv)
| (refine QC.tt ?_ ?_; (focus (simp only [decide_true, Bool.and_true, Bool.and_self] <;> fail)); cbv)
| (refine QC.ff ?_ ?_; (focus (simp only [decide_true, Bool.and_true, Bool.and_self, decide_false, Bool.false_and, reduceCtorEq, not_false_eq_true] <;> fail)); cbv)
| (refine QC.fw ?_; cbv)
| (refine QC.mk (fun hc => ?_) (fun hc => ?_) <;> (try dsimp only at hc) <;> cbv)
| (refine br_mk2 (fun hb => ?_) (fun hb => ?_) <;> (try subst hb) <;> cbv))))
  obtain ⟨sp, hsp⟩ : ∃ sp : Rcv, sp = ⟨rtg, rcn, rps, rhv, true⟩ := ⟨_, rfl⟩
  obtain ⟨q, hqd⟩ : ∃ q : Pce, q = ⟨qt, zn, np, qa, d⟩ := ⟨_, rfl⟩
  have hnpb : 0 ≤ np ∧ np ≤ 32 := by (first | omega | (simp only [cst] at *; omega) | (simp only [sm] at *; omega))
  have hznb : 0 ≤ zn ∧ zn ≤ 32 := by (first | omega | (simp only [cst] at *; omega) | (simp only [sm] at *; omega))
  have hq : q.fits := by rw [hqd]; exact ⟨hqtb, by dsimp only; omega, by dsimp only; omega, by dsimp only; omega⟩
  obtain ⟨E, hE0⟩ : ∃ E, E = D := ⟨_, rfl⟩
  have hE : E = u8l q.d := by rw [hE0, hqd]; exact hD
  skip
  have hspf : sp.fits := by
    rw [hsp]
    exact ⟨by dsimp only; omega, by dsimp only; omega, by dsimp only; omega, hrf.n, hrf.b⟩
  obtain ⟨V, hV⟩ : ∃ V : List SV, V = [x0.w R0, (⟨rtg, rcn, rps, rhv, false⟩ : Rcv).w Q, sp.w Q, zRV] := ⟨_, rfl⟩
  have hVE := v3_e x0 R0 hR0 hf0 hl0 ⟨rtg, rcn, rps, rhv, false⟩ Q hQ hrf hfl sp Q (by rw [hsp]; exact hQ) hspf (by rw [hsp]; exact hfl)
  rw [← hV] at hVE
  have hV3 : V[3]? = some zRV := by rw [hV]; rfl
  have hVl : V.length = 4 := by rw [hV]; rfl
  rw [hsp] at hV
  obtain ⟨V2, hV2⟩ : ∃ V : List SV, V = [pceV p0 D0, pceV q E] := ⟨_, rfl⟩
  have hV2E := p2_e p0 q D0 E hD0 hE hp0 hq
  rw [← hV2] at hV2E
  have hV2l : V2.length = 2 := by rw [hV2]; rfl
  rw [hqd] at hV2
  clear hsp hspf hqd hq hE
  rw [hE0] at hV2
  skip
  refine loopQ (A := Nat × Int) (fun p => p.2 = p.1 ∧ p.1 ≤ 4) (fun p => 4 - p.1) (fun p => [(14, .int .i64 p.2)]) (fun p => [(102, .row (some 5) 55 V)]) (0, 0) ⟨rfl, by omega⟩ ?_ ?_
  · cbv
    rw [hV]
    repeat' (first | exact rfl | exact trivial | apply And.intro)
  · intro ⟨i, j⟩ hh
    have hj : j = (i : Int) := hh.1
    have hi : i ≤ 4 := hh.2
    clear hh hV
    have hmq : True := trivial
    cbv
    (repeat' (first
| (refine q1w (fun z hz => ?_); (try simp only at hz); cbv)
| (refine rqw ?_; cbv)
| (refine QC.tw ?_; cbv)
| (refine QC.tt ?_ ?_; (focus (simp only [decide_true, Bool.and_true, Bool.and_self] <;> fail)); cbv)
| (refine QC.ff ?_ ?_; (focus (simp only [decide_true, Bool.and_true, Bool.and_self, decide_false, Bool.false_and, reduceCtorEq, not_false_eq_true] <;> fail)); cbv)
| (refine QC.fw ?_; cbv)
| (refine QC.mk (fun hc => ?_) (fun hc => ?_) <;> (try dsimp only at hc) <;> cbv)
| (refine br_mk2 (fun hb => ?_) (fun hb => ?_) <;> (try subst hb) <;> cbv)))
    · have hlt : i < 4 := by (first | omega | (simp only [cst] at *; omega) | (simp only [sm] at *; omega))
      cases Nat.lt_or_ge i 3 with
      | inl h3 =>
        obtain ⟨x, X, hVi, hX, hxf, hxl⟩ := hVE i h3
        have gRn := fun p D hD hp => rrnd_e x X hX hxf p D hD hp
        have gDg := dg_e x X hX hxf hxl
        clear hX hxf hxl
        skip
        refine loopQ (A := Nat × Int) (fun p => p.2 = p.1 ∧ p.1 ≤ 2) (fun p => 2 - p.1) (fun p => [(16, .int .i64 p.2)]) (fun p => [(111, .row (some 5) 51 V2)]) (0, 0) ⟨rfl, by omega⟩ ?_ ?_
        · cbv
          rw [hV2]
          repeat' (first | exact rfl | exact trivial | apply And.intro)
        · intro ⟨i2, j2⟩ hh
          have hj2 : j2 = (i2 : Int) := hh.1
          have hi2 : i2 ≤ 2 := hh.2
          clear hh hV2
          have hmz : True := trivial
          cbv
          (repeat' (first
| (refine q1w (fun z hz => ?_); (try simp only at hz); cbv)
| (refine rqw ?_; cbv)
| (refine QC.tw ?_; cbv)
| (refine QC.tt ?_ ?_; (focus (simp only [decide_true, Bool.and_true, Bool.and_self] <;> fail)); cbv)
| (refine QC.ff ?_ ?_; (focus (simp only [decide_true, Bool.and_true, Bool.and_self, decide_false, Bool.false_and, reduceCtorEq, not_false_eq_true] <;> fail)); cbv)
| (refine QC.fw ?_; cbv)
| (refine QC.mk (fun hc => ?_) (fun hc => ?_) <;> (try dsimp only at hc) <;> cbv)
| (refine br_mk2 (fun hb => ?_) (fun hb => ?_) <;> (try subst hb) <;> cbv)))
          · have hlt2 : i2 < 2 := by (first | omega | (simp only [cst] at *; omega) | (simp only [sm] at *; omega))
            obtain ⟨p, X2, hWi, hX2, hpf⟩ := hV2E i2 hlt2
            obtain ⟨y, Y, bm, e, ok, f1, f2, f3⟩ := gRn p X2 hX2 hpf
            clear gRn gDg hV2E hVE hk hX2 hpf
            skip
            (repeat' (first
| (refine QC.ff (fun h => h rfl) ?_; cbv)
| (refine q1w (fun z hz => ?_); (try simp only at hz); cbv)
| (refine rqw ?_; cbv)
| (refine QC.tw ?_; cbv)
| (refine QC.tt ?_ ?_; (focus (simp only [decide_true, Bool.and_true, Bool.and_self] <;> fail)); cbv)
| (refine QC.ff ?_ ?_; (focus (simp only [decide_true, Bool.and_true, Bool.and_self, decide_false, Bool.false_and, reduceCtorEq, not_false_eq_true] <;> fail)); cbv)
| (refine QC.fw ?_; cbv)
| (refine QC.mk (fun hc => ?_) (fun hc => ?_) <;> (try dsimp only at hc) <;> cbv)
| (refine br_mk2 (fun hb => ?_) (fun hb => ?_) <;> (try subst hb) <;> cbv)
| (refine qv (i) (by (first | omega | (simp only [cst] at *; omega) | (simp only [sm] at *; omega))) ?_; cbv)
| (refine qv _ (hVi) ?_; cbv)
| (refine qv (i2) (by (first | omega | (simp only [cst] at *; omega) | (simp only [sm] at *; omega))) ?_; cbv)
| (refine qv _ (hWi) ?_; cbv)
| (refine callq (f1) rfl rfl ?_; cbv)
| (refine callq (f2) rfl rfl ?_; cbv)
| (refine callq (f3) rfl rfl ?_; cbv)))
            all_goals
              refine ⟨(i2 + 1, z), ⟨by show z = ((i2 + 1 : Nat) : Int); (first | omega | (simp only [cst] at *; omega) | (simp only [sm] at *; omega)), by show i2 + 1 ≤ 2; omega⟩, by show 2 - (i2 + 1) < 2 - i2; omega, ?_⟩
              cbv
              repeat' (first | exact rfl | exact trivial | apply And.intro)
          · obtain ⟨L, ok, r, f1, f2, f3, f4, f5⟩ := gDg
            clear gRn hV2E hVE hk
            skip
            (repeat' (first
| (refine QC.ff (fun h => h rfl) ?_; cbv)
| (refine q1w (fun z hz => ?_); (try simp only at hz); cbv)
| (refine rqw ?_; cbv)
| (refine QC.tw ?_; cbv)
| (refine QC.tt ?_ ?_; (focus (simp only [decide_true, Bool.and_true, Bool.and_self] <;> fail)); cbv)
| (refine QC.ff ?_ ?_; (focus (simp only [decide_true, Bool.and_true, Bool.and_self, decide_false, Bool.false_and, reduceCtorEq, not_false_eq_true] <;> fail)); cbv)
| (refine QC.fw ?_; cbv)
| (refine QC.mk (fun hc => ?_) (fun hc => ?_) <;> (try dsimp only at hc) <;> cbv)
| (refine br_mk2 (fun hb => ?_) (fun hb => ?_) <;> (try subst hb) <;> cbv)
| (refine qv (i) (by (first | omega | (simp only [cst] at *; omega) | (simp only [sm] at *; omega))) ?_; cbv)
| (refine qv _ (hVi) ?_; cbv)
| (refine callq (f1) rfl rfl ?_; cbv)
| (refine callq (f2) rfl rfl ?_; cbv)
| (refine callq (f3) rfl rfl ?_; cbv)
| (refine callq (f4) rfl rfl ?_; cbv)
| (refine callq (f5) rfl rfl ?_; cbv)))
            all_goals
              refine ⟨(i + 1, z), ⟨by show z = ((i + 1 : Nat) : Int); (first | omega | (simp only [cst] at *; omega) | (simp only [sm] at *; omega)), by show i + 1 ≤ 4; omega⟩, by show 4 - (i + 1) < 4 - i; omega, ?_⟩
              cbv
              repeat' (first | exact rfl | exact trivial | apply And.intro)
      | inr h3 =>
        have hi3 : i = 3 := by omega
        have hVi : V[i]? = some zRV := by rw [hi3]; exact hV3
        have gRn := fun p D hD hp => zrnd_e p D hD hp
        have gDg := zdg_e
        skip
        refine loopQ (A := Nat × Int) (fun p => p.2 = p.1 ∧ p.1 ≤ 2) (fun p => 2 - p.1) (fun p => [(16, .int .i64 p.2)]) (fun p => [(111, .row (some 5) 51 V2)]) (0, 0) ⟨rfl, by omega⟩ ?_ ?_
        · cbv
          rw [hV2]
          repeat' (first | exact rfl | exact trivial | apply And.intro)
        · intro ⟨i2, j2⟩ hh
          have hj2 : j2 = (i2 : Int) := hh.1
          have hi2 : i2 ≤ 2 := hh.2
          clear hh hV2
          have hmz : True := trivial
          cbv
          (repeat' (first
| (refine q1w (fun z hz => ?_); (try simp only at hz); cbv)
| (refine rqw ?_; cbv)
| (refine QC.tw ?_; cbv)
| (refine QC.tt ?_ ?_; (focus (simp only [decide_true, Bool.and_true, Bool.and_self] <;> fail)); cbv)
| (refine QC.ff ?_ ?_; (focus (simp only [decide_true, Bool.and_true, Bool.and_self, decide_false, Bool.false_and, reduceCtorEq, not_false_eq_true] <;> fail)); cbv)
| (refine QC.fw ?_; cbv)
| (refine QC.mk (fun hc => ?_) (fun hc => ?_) <;> (try dsimp only at hc) <;> cbv)
| (refine br_mk2 (fun hb => ?_) (fun hb => ?_) <;> (try subst hb) <;> cbv)))
          · have hlt2 : i2 < 2 := by (first | omega | (simp only [cst] at *; omega) | (simp only [sm] at *; omega))
            obtain ⟨p, X2, hWi, hX2, hpf⟩ := hV2E i2 hlt2
            obtain ⟨y, Y, bm, e, ok, f1, f2, f3⟩ := gRn p X2 hX2 hpf
            clear gRn gDg hV2E hVE hk hX2 hpf
            skip
            (repeat' (first
| (refine QC.ff (fun h => h rfl) ?_; cbv)
| (refine q1w (fun z hz => ?_); (try simp only at hz); cbv)
| (refine rqw ?_; cbv)
| (refine QC.tw ?_; cbv)
| (refine QC.tt ?_ ?_; (focus (simp only [decide_true, Bool.and_true, Bool.and_self] <;> fail)); cbv)
| (refine QC.ff ?_ ?_; (focus (simp only [decide_true, Bool.and_true, Bool.and_self, decide_false, Bool.false_and, reduceCtorEq, not_false_eq_true] <;> fail)); cbv)
| (refine QC.fw ?_; cbv)
| (refine QC.mk (fun hc => ?_) (fun hc => ?_) <;> (try dsimp only at hc) <;> cbv)
| (refine br_mk2 (fun hb => ?_) (fun hb => ?_) <;> (try subst hb) <;> cbv)
| (refine qv (i) (by (first | omega | (simp only [cst] at *; omega) | (simp only [sm] at *; omega))) ?_; cbv)
| (refine qv _ (hVi) ?_; cbv)
| (refine qv (i2) (by (first | omega | (simp only [cst] at *; omega) | (simp only [sm] at *; omega))) ?_; cbv)
| (refine qv _ (hWi) ?_; cbv)
| (refine callq (f1) rfl rfl ?_; cbv)
| (refine callq (f2) rfl rfl ?_; cbv)
| (refine callq (f3) rfl rfl ?_; cbv)))
            all_goals
              refine ⟨(i2 + 1, z), ⟨by show z = ((i2 + 1 : Nat) : Int); (first | omega | (simp only [cst] at *; omega) | (simp only [sm] at *; omega)), by show i2 + 1 ≤ 2; omega⟩, by show 2 - (i2 + 1) < 2 - i2; omega, ?_⟩
              cbv
              repeat' (first | exact rfl | exact trivial | apply And.intro)
          · obtain ⟨L, ok, r, f1, f2, f3, f4, f5⟩ := gDg
            clear gRn hV2E hVE hk
            skip
            (repeat' (first
| (refine QC.ff (fun h => h rfl) ?_; cbv)
| (refine q1w (fun z hz => ?_); (try simp only at hz); cbv)
| (refine rqw ?_; cbv)
| (refine QC.tw ?_; cbv)
| (refine QC.tt ?_ ?_; (focus (simp only [decide_true, Bool.and_true, Bool.and_self] <;> fail)); cbv)
| (refine QC.ff ?_ ?_; (focus (simp only [decide_true, Bool.and_true, Bool.and_self, decide_false, Bool.false_and, reduceCtorEq, not_false_eq_true] <;> fail)); cbv)
| (refine QC.fw ?_; cbv)
| (refine QC.mk (fun hc => ?_) (fun hc => ?_) <;> (try dsimp only at hc) <;> cbv)
| (refine br_mk2 (fun hb => ?_) (fun hb => ?_) <;> (try subst hb) <;> cbv)
| (refine qv (i) (by (first | omega | (simp only [cst] at *; omega) | (simp only [sm] at *; omega))) ?_; cbv)
| (refine qv _ (hVi) ?_; cbv)
| (refine callq (f1) rfl rfl ?_; cbv)
| (refine callq (f2) rfl rfl ?_; cbv)
| (refine callq (f3) rfl rfl ?_; cbv)
| (refine callq (f4) rfl rfl ?_; cbv)
| (refine callq (f5) rfl rfl ?_; cbv)))
            all_goals
              refine ⟨(i + 1, z), ⟨by show z = ((i + 1 : Nat) : Int); (first | omega | (simp only [cst] at *; omega) | (simp only [sm] at *; omega)), by show i + 1 ≤ 4; omega⟩, by show 4 - (i + 1) < 4 - i; omega, ?_⟩
              cbv
              repeat' (first | exact rfl | exact trivial | apply And.intro)
    · (refine callq (hk) rfl rfl ?_; cbv; (repeat' (first
| (refine q1w (fun z hz => ?_); (try simp only at hz); cbv)
| (refine rqw ?_; cbv)
| (refine QC.tw ?_; cbv)
| (refine QC.tt ?_ ?_; (focus (simp only [decide_true, Bool.and_true, Bool.and_self] <;> fail)); cbv)
| (refine QC.ff ?_ ?_; (focus (simp only [decide_true, Bool.and_true, Bool.and_self, decide_false, Bool.false_and, reduceCtorEq, not_false_eq_true] <;> fail)); cbv)
| (refine QC.fw ?_; cbv)
| (refine QC.mk (fun hc => ?_) (fun hc => ?_) <;> (try dsimp only at hc) <;> cbv)
| (refine br_mk2 (fun hb => ?_) (fun hb => ?_) <;> (try subst hb) <;> cbv))))
      exact ⟨rfl, rfl, rfl⟩
set_option maxRecDepth 8000 in
theorem receivers_11f
    (x0 : Rcv) (R0 : List SV) (hR0 : R0 = rowsB x0.ps) (hf0 : x0.fits) (hl0 : x0.ps.flatten.length ≤ 140737488351232) (p0 : Pce) (D0 : List SV) (hD0 : D0 = u8l p0.d) (hp0 : p0.fits) (Z T : List SV) (hT : T = Z.take 400)
    (st stg ak rd un : Int) (ps : List (List UInt8)) (R : List SV) (c1 : Int) (hstg : 0 ≤ stg ∧ stg ≤ 255) (hR : R = rowsB ps) (hsh : ∀ p ∈ ps, p.length ≤ 200) (hn1 : 1 ≤ ps.length ∧ ps.length ≤ 32)
    (gS : Good 11 (le 81 (.agg [.lst none T, .int .i64 0]) [] (.agg [.int .i64 st, .int .u8 stg, .lst none R, .int .u32 ak, .int .i64 rd, .int .i64 un]) (.agg [.lst none T, .int .i64 c1])))
    (rtg rcn rhv : Int) (rdn : Bool) (rps : List (List UInt8)) (Q : List SV) (c2 : Int) (hrf : Rcv.fits ⟨rtg, rcn, rps, rhv, rdn⟩) (hQ : Q = rowsB rps) (hrs : ∀ p ∈ rps, p.length ≤ 200) (hrc : rps.length ≤ 32) (hcn : 0 ≤ rcn ∧ rcn ≤ 32)
    (gC : Good 29 (le 81 (.agg [.lst none T, .int .i64 c1]) [.agg [.int .i64 st, .int .u8 stg, .lst none R, .int .u32 ak, .int .i64 rd, .int .i64 un]] (.agg [.int .u8 rtg, .int .i64 rcn, .lst none Q, .int .u32 rhv, .bool rdn]) (.agg [.lst none T, .int .i64 c2])))
    (np : Int) (hnp : np = ps.length) (n : Nat) (zn c3 : Int) (hzn : zn = n) (hnl : n < ps.length) (g3 : Good 12 (le 81 (.agg [.lst none T, .int .i64 c2]) [.int .i64 np] (.int .i64 zn) (.agg [.lst none T, .int .i64 c3])))
    (v6 c4 : Int) (hv6 : 0 ≤ v6 ∧ v6 < 6) (g4 : Good 12 (le 81 (.agg [.lst none T, .int .i64 c3]) [.int .i64 6] (.int .i64 v6) (.agg [.lst none T, .int .i64 c4])))
    (qa : Bool) (c5 : Int) (g5 : Good 30 (le 81 (.agg [.lst none T, .int .i64 c4]) [.int .i64 2] (.bool qa) (.agg [.lst none T, .int .i64 c5])))
    (c6 c7 c8 : Int) (t8 : Tp T c8) (bs : List UInt8) (hbs : bs.length ≤ 3)
    (g6 : Good 30 (le 81 (.agg [.lst none T, .int .i64 c5]) [.int .i64 4] (.bool true) (.agg [.lst none T, .int .i64 c6])))
    (hdn : rdn = false)
    (gB : Good 14 (leN 81 (.agg [.lst none T, .int .i64 c6]) [.int .i64 3] (.row 1) (.agg [.lst none T, .int .i64 c7]) (.row none 5 (u8l bs))))
    (g8 : Good 12 (le 81 (.agg [.lst none T, .int .i64 c7]) [.int .i64 4] (.int .i64 1) (.agg [.lst none T, .int .i64 c8]))) :
    Good 6 (pu [x0.w R0, pceV p0 D0, .lst none Z] (.bool true)) := by
  skip
  subst hdn
  have h0 := new_c Z T hT
  have hk := known_c
  have hRl : R.length = ps.length := by rw [hR, rowsB_len]
  obtain ⟨d, hd⟩ : ∃ d, d = ps.getD n [] := ⟨_, rfl⟩
  obtain ⟨D, hD⟩ : ∃ D, D = u8l d := ⟨_, rfl⟩
  have hRn : R[n]? = some (.lst none D) := by
    rw [hR, rowsB, List.getElem?_map, hD, hd, List.getD_eq_getElem?_getD, List.getElem?_eq_getElem hnl]; rfl
  have hdl : d.length ≤ 200 := by
    rw [hd, List.getD_eq_getElem?_getD, List.getElem?_eq_getElem hnl]
    exact hsh _ (List.getElem_mem hnl)
  have hnlR : n < R.length := by omega
  have hfl : rps.flatten.length ≤ 140737488351232 := by
    have h1 := flat_le2 rps 200 hrs
    have h2 : rps.length * 200 ≤ 32 * 200 := Nat.mul_le_mul_right _ hrc
    omega
  have hrt := hrf.tag
  have hrh := hrf.hv
  dsimp only at hrt hrh
  have hnpR : np = (R.length : Int) := by omega
  clear hd hT
  obtain ⟨BS, hBS⟩ : ∃ BS, BS = u8l bs := ⟨_, rfl⟩
  rw [← hBS] at gB
  skip
  refine Good.of Try.func6 rfl (by rfl) (by kernel_rfl) ?_
  cbv
  have hmk : True := trivial
  (repeat' (first
| (refine q1w (fun z hz => ?_); (try simp only at hz); cbv)
| (refine rqw ?_; cbv)
| (refine QC.tw ?_; cbv)
| (refine QC.tt ?_ ?_; (focus (simp only [decide_true, Bool.and_true, Bool.and_self] <;> fail)); cbv)
| (refine QC.ff ?_ ?_; (focus (simp only [decide_true, Bool.and_true, Bool.and_self, decide_false, Bool.false_and, reduceCtorEq, not_false_eq_true] <;> fail)); cbv)
| (refine QC.fw ?_; cbv)
| (refine QC.mk (fun hc => ?_) (fun hc => ?_) <;> (try dsimp only at hc) <;> cbv)
| (refine br_mk2 (fun hb => ?_) (fun hb => ?_) <;> (try subst hb) <;> cbv)
| (refine callq (h0) rfl rfl ?_; cbv)
| (refine callq (gS) rfl rfl ?_; cbv)
| (refine callq (gC) rfl rfl ?_; cbv)))
  have ez : np = z := by (first | omega | (simp only [cst] at *; omega) | (simp only [sm] at *; omega))
  subst ez
  (repeat' (first
| (refine q1w (fun z hz => ?_); (try simp only at hz); cbv)
| (refine rqw ?_; cbv)
| (refine QC.tw ?_; cbv)
| (refine QC.tt ?_ ?_; (focus (simp only [decide_true, Bool.and_true, Bool.and_self] <;> fail)); cbv)
| (refine QC.ff ?_ ?_; (focus (simp only [decide_true, Bool.and_true, Bool.and_self, decide_false, Bool.false_and, reduceCtorEq, not_false_eq_true] <;> fail)); cbv)
| (refine QC.fw ?_; cbv)
| (refine QC.mk (fun hc => ?_) (fun hc => ?_) <;> (try dsimp only at hc) <;> cbv)
| (refine br_mk2 (fun hb => ?_) (fun hb => ?_) <;> (try subst hb) <;> cbv)
| (refine callq (g3) rfl rfl ?_; cbv)
| (refine callq (g4) rfl rfl ?_; cbv)
| (refine callq (g5) rfl rfl ?_; cbv)))
  (refine qv (n, _) ⟨hzn, hRn⟩ ?_; cbv; (repeat' (first
| (refine q1w (fun z hz => ?_); (try simp only at hz); cbv)
| (refine rqw ?_; cbv)
| (refine QC.tw ?_; cbv)
| (refine QC.tt ?_ ?_; (focus (simp only [decide_true, Bool.and_true, Bool.and_self] <;> fail)); cbv)
| (refine QC.ff ?_ ?_; (focus (simp only [decide_true, Bool.and_true, Bool.and_self, decide_false, Bool.false_and, reduceCtorEq, not_false_eq_true] <;> fail)); cbv)
| (refine QC.fw ?_; cbv)
| (refine QC.mk (fun hc => ?_) (fun hc => ?_) <;> (try dsimp only at hc) <;> cbv)
| (refine br_mk2 (fun hb => ?_) (fun hb => ?_) <;> (try subst hb) <;> cbv))))
  rename_i zc hzc qt hqt
  have hqtb : 0 ≤ qt ∧ qt ≤ 255 := by (first | omega | (simp only [cst] at *; omega) | (simp only [sm] at *; omega))
  have ez : np = z := by (first | omega | (simp only [cst] at *; omega) | (simp only [sm] at *; omega))
  subst ez
  (refine callq (g6) rfl rfl ?_; cbv; (repeat' (first
| (refine q1w (fun z hz => ?_); (try simp only at hz); cbv)
| (refine rqw ?_; cbv)
| (refine QC.tw ?_; cbv)
| (refine QC.tt ?_ ?_; (focus (simp only [decide_true, Bool.and_true, Bool.and_self] <;> fail)); cbv)
| (refine QC.ff ?_ ?_; (focus (simp only [decide_true, Bool.and_true, Bool.and_self, decide_false, Bool.false_and, reduceCtorEq, not_false_eq_true] <;> fail)); cbv)
| (refine QC.fw ?_; cbv)
| (refine QC.mk (fun hc => ?_) (fun hc => ?_) <;> (try dsimp only at hc) <;> cbv)
| (refine br_mk2 (fun hb => ?_) (fun hb => ?_) <;> (try subst hb) <;> cbv))))
  (refine callq (gB) rfl rfl ?_; cbv; (repeat' (first
| (refine q1w (fun z hz => ?_); (try simp only at hz); cbv)
| (refine rqw ?_; cbv)
| (refine QC.tw ?_; cbv)
| (refine QC.tt ?_ ?_; (focus (simp only [decide_true, Bool.and_true, Bool.and_self] <;> fail)); cbv)
| (refine QC.ff ?_ ?_; (focus (simp only [decide_true, Bool.and_true, Bool.and_self, decide_false, Bool.false_and, reduceCtorEq, not_false_eq_true] <;> fail)); cbv)
| (refine QC.fw ?_; cbv)
| (refine QC.mk (fun hc => ?_) (fun hc => ?_) <;> (try dsimp only at hc) <;> cbv)
| (refine br_mk2 (fun hb => ?_) (fun hb => ?_) <;> (try subst hb) <;> cbv))))
  (refine callq (g8) rfl rfl ?_; cbv; (repeat' (first
| (refine q1w (fun z hz => ?_); (try simp only at hz); cbv)
| (refine rqw ?_; cbv)
| (refine QC.tw ?_; cbv)
| (refine QC.tt ?_ ?_; (focus (simp only [decide_true, Bool.and_true, Bool.and_self] <;> fail)); cbv)
| (refine QC.ff ?_ ?_; (focus (simp only [decide_true, Bool.and_true, Bool.and_self, decide_false, Bool.false_and, reduceCtorEq, not_false_eq_true] <;> fail)); cbv)
| (refine QC.fw ?_; cbv)
| (refine QC.mk (fun hc => ?_) (fun hc => ?_) <;> (try dsimp only at hc) <;> cbv)
| (refine br_mk2 (fun hb => ?_) (fun hb => ?_) <;> (try subst hb) <;> cbv))))
  obtain ⟨sp, hsp⟩ : ∃ sp : Rcv, sp = ⟨rtg, rcn, rps, rhv, true⟩ := ⟨_, rfl⟩
  obtain ⟨q, hqd⟩ : ∃ q : Pce, q = ⟨qt, zn, np, qa, bs⟩ := ⟨_, rfl⟩
  have hnpb : 0 ≤ np ∧ np ≤ 32 := by (first | omega | (simp only [cst] at *; omega) | (simp only [sm] at *; omega))
  have hznb : 0 ≤ zn ∧ zn ≤ 32 := by (first | omega | (simp only [cst] at *; omega) | (simp only [sm] at *; omega))
  have hq : q.fits := by rw [hqd]; exact ⟨hqtb, by dsimp only; omega, by dsimp only; omega, by dsimp only; omega⟩
  obtain ⟨E, hE0⟩ : ∃ E, E = BS := ⟨_, rfl⟩
  have hE : E = u8l q.d := by rw [hE0, hqd]; exact hBS
  skip
  have hspf : sp.fits := by
    rw [hsp]
    exact ⟨by dsimp only; omega, by dsimp only; omega, by dsimp only; omega, hrf.n, hrf.b⟩
  obtain ⟨V, hV⟩ : ∃ V : List SV, V = [x0.w R0, (⟨rtg, rcn, rps, rhv, false⟩ : Rcv).w Q, sp.w Q, zRV] := ⟨_, rfl⟩
  have hVE := v3_e x0 R0 hR0 hf0 hl0 ⟨rtg, rcn, rps, rhv, false⟩ Q hQ hrf hfl sp Q (by rw [hsp]; exact hQ) hspf (by rw [hsp]; exact hfl)
  rw [← hV] at hVE
  have hV3 : V[3]? = some zRV := by rw [hV]; rfl
  have hVl : V.length = 4 := by rw [hV]; rfl
  rw [hsp] at hV
  obtain ⟨V2, hV2⟩ : ∃ V : List SV, V = [pceV p0 D0, pceV q E] := ⟨_, rfl⟩
  have hV2E := p2_e p0 q D0 E hD0 hE hp0 hq
  rw [← hV2] at hV2E
  have hV2l : V2.length = 2 := by rw [hV2]; rfl
  rw [hqd] at hV2
  clear hsp hspf hqd hq hE
  rw [hE0] at hV2
  skip
  refine loopQF [67] (A := Nat × Int) (fun p => p.2 = p.1 ∧ p.1 ≤ 4) (fun p => 4 - p.1) (fun p => [(14, .int .i64 p.2)]) (fun p => [(67, .frz none BS), (102, .row (some 5) 55 V)]) (0, 0) ⟨rfl, by omega⟩ ?_ ?_
  · cbv
    rw [hV]
    repeat' (first | exact rfl | exact trivial | apply And.intro)
  · intro ⟨i, j⟩ hh
    have hj : j = (i : Int) := hh.1
    have hi : i ≤ 4 := hh.2
    clear hh hV
    have hmq : True := trivial
    cbv
    (repeat' (first
| (refine q1w (fun z hz => ?_); (try simp only at hz); cbv)
| (refine rqw ?_; cbv)
| (refine QC.tw ?_; cbv)
| (refine QC.tt ?_ ?_; (focus (simp only [decide_true, Bool.and_true, Bool.and_self] <;> fail)); cbv)
| (refine QC.ff ?_ ?_; (focus (simp only [decide_true, Bool.and_true, Bool.and_self, decide_false, Bool.false_and, reduceCtorEq, not_false_eq_true] <;> fail)); cbv)
| (refine QC.fw ?_; cbv)
| (refine QC.mk (fun hc => ?_) (fun hc => ?_) <;> (try dsimp only at hc) <;> cbv)
| (refine br_mk2 (fun hb => ?_) (fun hb => ?_) <;> (try subst hb) <;> cbv)))
    · have hlt : i < 4 := by (first | omega | (simp only [cst] at *; omega) | (simp only [sm] at *; omega))
      cases Nat.lt_or_ge i 3 with
      | inl h3 =>
        obtain ⟨x, X, hVi, hX, hxf, hxl⟩ := hVE i h3
        have gRn := fun p D hD hp => rrnd_e x X hX hxf p D hD hp
        have gDg := dg_e x X hX hxf hxl
        clear hX hxf hxl
        skip
        refine loopQ (A := Nat × Int) (fun p => p.2 = p.1 ∧ p.1 ≤ 2) (fun p => 2 - p.1) (fun p => [(16, .int .i64 p.2)]) (fun p => [(111, .row (some 5) 51 V2)]) (0, 0) ⟨rfl, by omega⟩ ?_ ?_
        · cbv
          rw [hV2]
          repeat' (first | exact rfl | exact trivial | apply And.intro)
        · intro ⟨i2, j2⟩ hh
          have hj2 : j2 = (i2 : Int) := hh.1
          have hi2 : i2 ≤ 2 := hh.2
          clear hh hV2
          have hmz : True := trivial
          cbv
          (repeat' (first
| (refine q1w (fun z hz => ?_); (try simp only at hz); cbv)
| (refine rqw ?_; cbv)
| (refine QC.tw ?_; cbv)
| (refine QC.tt ?_ ?_; (focus (simp only [decide_true, Bool.and_true, Bool.and_self] <;> fail)); cbv)
| (refine QC.ff ?_ ?_; (focus (simp only [decide_true, Bool.and_true, Bool.and_self, decide_false, Bool.false_and, reduceCtorEq, not_false_eq_true] <;> fail)); cbv)
| (refine QC.fw ?_; cbv)
| (refine QC.mk (fun hc => ?_) (fun hc => ?_) <;> (try dsimp only at hc) <;> cbv)
| (refine br_mk2 (fun hb => ?_) (fun hb => ?_) <;> (try subst hb) <;> cbv)))
          · have hlt2 : i2 < 2 := by (first | omega | (simp only [cst] at *; omega) | (simp only [sm] at *; omega))
            obtain ⟨p, X2, hWi, hX2, hpf⟩ := hV2E i2 hlt2
            obtain ⟨y, Y, bm, e, ok, f1, f2, f3⟩ := gRn p X2 hX2 hpf
            clear gRn gDg hV2E hVE hk hX2 hpf
            skip
            (repeat' (first
| (refine QC.ff (fun h => h rfl) ?_; cbv)
| (refine q1w (fun z hz => ?_); (try simp only at hz); cbv)
| (refine rqw ?_; cbv)
| (refine QC.tw ?_; cbv)
| (refine QC.tt ?_ ?_; (focus (simp only [decide_true, Bool.and_true, Bool.and_self] <;> fail)); cbv)
| (refine QC.ff ?_ ?_; (focus (simp only [decide_true, Bool.and_true, Bool.and_self, decide_false, Bool.false_and, reduceCtorEq, not_false_eq_true] <;> fail)); cbv)
| (refine QC.fw ?_; cbv)
| (refine QC.mk (fun hc => ?_) (fun hc => ?_) <;> (try dsimp only at hc) <;> cbv)
| (refine br_mk2 (fun hb => ?_) (fun hb => ?_) <;> (try subst hb) <;> cbv)
| (refine qv (i) (by (first | omega | (simp only [cst] at *; omega) | (simp only [sm] at *; omega))) ?_; cbv)
| (refine qv _ (hVi) ?_; cbv)
| (refine qv (i2) (by (first | omega | (simp only [cst] at *; omega) | (simp only [sm] at *; omega))) ?_; cbv)
| (refine qv _ (hWi) ?_; cbv)
| (refine callq (f1) rfl rfl ?_; cbv)
| (refine callq (f2) rfl rfl ?_; cbv)
| (refine callq (f3) rfl rfl ?_; cbv)))
            all_goals
              refine ⟨(i2 + 1, z), ⟨by show z = ((i2 + 1 : Nat) : Int); (first | omega | (simp only [cst] at *; omega) | (simp only [sm] at *; omega)), by show i2 + 1 ≤ 2; omega⟩, by show 2 - (i2 + 1) < 2 - i2; omega, ?_⟩
              cbv
              repeat' (first | exact rfl | exact trivial | apply And.intro)
          · obtain ⟨L, ok, r, f1, f2, f3, f4, f5⟩ := gDg
            clear gRn hV2E hVE hk
            skip
            (repeat' (first
| (refine QC.ff (fun h => h rfl) ?_; cbv)
| (refine q1w (fun z hz => ?_); (try simp only at hz); cbv)
| (refine rqw ?_; cbv)
| (refine QC.tw ?_; cbv)
| (refine QC.tt ?_ ?_; (focus (simp only [decide_true, Bool.and_true, Bool.and_self] <;> fail)); cbv)
| (refine QC.ff ?_ ?_; (focus (simp only [decide_true, Bool.and_true, Bool.and_self, decide_false, Bool.false_and, reduceCtorEq, not_false_eq_true] <;> fail)); cbv)
| (refine QC.fw ?_; cbv)
| (refine QC.mk (fun hc => ?_) (fun hc => ?_) <;> (try dsimp only at hc) <;> cbv)
| (refine br_mk2 (fun hb => ?_) (fun hb => ?_) <;> (try subst hb) <;> cbv)
| (refine qv (i) (by (first | omega | (simp only [cst] at *; omega) | (simp only [sm] at *; omega))) ?_; cbv)
| (refine qv _ (hVi) ?_; cbv)
| (refine callq (f1) rfl rfl ?_; cbv)
| (refine callq (f2) rfl rfl ?_; cbv)
| (refine callq (f3) rfl rfl ?_; cbv)
| (refine callq (f4) rfl rfl ?_; cbv)
| (refine callq (f5) rfl rfl ?_; cbv)))
            all_goals
              refine ⟨(i + 1, z), ⟨by show z = ((i + 1 : Nat) : Int); (first | omega | (simp only [cst] at *; omega) | (simp only [sm] at *; omega)), by show i + 1 ≤ 4; omega⟩, by show 4 - (i + 1) < 4 - i; omega, ?_⟩
              cbv
              repeat' (first | exact rfl | exact trivial | apply And.intro)
      | inr h3 =>
        have hi3 : i = 3 := by omega
        have hVi : V[i]? = some zRV := by rw [hi3]; exact hV3
        have gRn := fun p D hD hp => zrnd_e p D hD hp
        have gDg := zdg_e
        skip
        refine loopQ (A := Nat × Int) (fun p => p.2 = p.1 ∧ p.1 ≤ 2) (fun p => 2 - p.1) (fun p => [(16, .int .i64 p.2)]) (fun p => [(111, .row (some 5) 51 V2)]) (0, 0) ⟨rfl, by omega⟩ ?_ ?_
        · cbv
          rw [hV2]
          repeat' (first | exact rfl | exact trivial | apply And.intro)
        · intro ⟨i2, j2⟩ hh
          have hj2 : j2 = (i2 : Int) := hh.1
          have hi2 : i2 ≤ 2 := hh.2
          clear hh hV2
          have hmz : True := trivial
          cbv
          (repeat' (first
| (refine q1w (fun z hz => ?_); (try simp only at hz); cbv)
| (refine rqw ?_; cbv)
| (refine QC.tw ?_; cbv)
| (refine QC.tt ?_ ?_; (focus (simp only [decide_true, Bool.and_true, Bool.and_self] <;> fail)); cbv)
| (refine QC.ff ?_ ?_; (focus (simp only [decide_true, Bool.and_true, Bool.and_self, decide_false, Bool.false_and, reduceCtorEq, not_false_eq_true] <;> fail)); cbv)
| (refine QC.fw ?_; cbv)
| (refine QC.mk (fun hc => ?_) (fun hc => ?_) <;> (try dsimp only at hc) <;> cbv)
| (refine br_mk2 (fun hb => ?_) (fun hb => ?_) <;> (try subst hb) <;> cbv)))
          · have hlt2 : i2 < 2 := by (first | omega | (simp only [cst] at *; omega) | (simp only [sm] at *; omega))
            obtain ⟨p, X2, hWi, hX2, hpf⟩ := hV2E i2 hlt2
            obtain ⟨y, Y, bm, e, ok, f1, f2, f3⟩ := gRn p X2 hX2 hpf
            clear gRn gDg hV2E hVE hk hX2 hpf
            skip
            (repeat' (first
| (refine QC.ff (fun h => h rfl) ?_; cbv)
| (refine q1w (fun z hz => ?_); (try simp only at hz); cbv)
| (refine rqw ?_; cbv)
| (refine QC.tw ?_; cbv)
| (refine QC.tt ?_ ?_; (focus (simp only [decide_true, Bool.and_true, Bool.and_self] <;> fail)); cbv)
| (refine QC.ff ?_ ?_; (focus (simp only [decide_true, Bool.and_true, Bool.and_self, decide_false, Bool.false_and, reduceCtorEq, not_false_eq_true] <;> fail)); cbv)
| (refine QC.fw ?_; cbv)
| (refine QC.mk (fun hc => ?_) (fun hc => ?_) <;> (try dsimp only at hc) <;> cbv)
| (refine br_mk2 (fun hb => ?_) (fun hb => ?_) <;> (try subst hb) <;> cbv)
| (refine qv (i) (by (first | omega | (simp only [cst] at *; omega) | (simp only [sm] at *; omega))) ?_; cbv)
| (refine qv _ (hVi) ?_; cbv)
| (refine qv (i2) (by (first | omega | (simp only [cst] at *; omega) | (simp only [sm] at *; omega))) ?_; cbv)
| (refine qv _ (hWi) ?_; cbv)
| (refine callq (f1) rfl rfl ?_; cbv)
| (refine callq (f2) rfl rfl ?_; cbv)
| (refine callq (f3) rfl rfl ?_; cbv)))
            all_goals
              refine ⟨(i2 + 1, z), ⟨by show z = ((i2 + 1 : Nat) : Int); (first | omega | (simp only [cst] at *; omega) | (simp only [sm] at *; omega)), by show i2 + 1 ≤ 2; omega⟩, by show 2 - (i2 + 1) < 2 - i2; omega, ?_⟩
              cbv
              repeat' (first | exact rfl | exact trivial | apply And.intro)
          · obtain ⟨L, ok, r, f1, f2, f3, f4, f5⟩ := gDg
            clear gRn hV2E hVE hk
            skip
            (repeat' (first
| (refine QC.ff (fun h => h rfl) ?_; cbv)
| (refine q1w (fun z hz => ?_); (try simp only at hz); cbv)
| (refine rqw ?_; cbv)
| (refine QC.tw ?_; cbv)
| (refine QC.tt ?_ ?_; (focus (simp only [decide_true, Bool.and_true, Bool.and_self] <;> fail)); cbv)
| (refine QC.ff ?_ ?_; (focus (simp only [decide_true, Bool.and_true, Bool.and_self, decide_false, Bool.false_and, reduceCtorEq, not_false_eq_true] <;> fail)); cbv)
| (refine QC.fw ?_; cbv)
| (refine QC.mk (fun hc => ?_) (fun hc => ?_) <;> (try dsimp only at hc) <;> cbv)
| (refine br_mk2 (fun hb => ?_) (fun hb => ?_) <;> (try subst hb) <;> cbv)
| (refine qv (i) (by (first | omega | (simp only [cst] at *; omega) | (simp only [sm] at *; omega))) ?_; cbv)
| (refine qv _ (hVi) ?_; cbv)
| (refine callq (f1) rfl rfl ?_; cbv)
| (refine callq (f2) rfl rfl ?_; cbv)
| (refine callq (f3) rfl rfl ?_; cbv)
| (refine callq (f4) rfl rfl ?_; cbv)
| (refine callq (f5) rfl rfl ?_; cbv)))
            all_goals
              refine ⟨(i + 1, z), ⟨by show z = ((i + 1 : Nat) : Int); (first | omega | (simp only [cst] at *; omega) | (simp only [sm] at *; omega)), by show i + 1 ≤ 4; omega⟩, by show 4 - (i + 1) < 4 - i; omega, ?_⟩
              cbv
              repeat' (first | exact rfl | exact trivial | apply And.intro)
    · (refine callq (hk) rfl rfl ?_; cbv; (repeat' (first
| (refine q1w (fun z hz => ?_); (try simp only at hz); cbv)
| (refine rqw ?_; cbv)
| (refine QC.tw ?_; cbv)
| (refine QC.tt ?_ ?_; (focus (simp only [decide_true, Bool.and_true, Bool.and_self] <;> fail)); cbv)
| (refine QC.ff ?_ ?_; (focus (simp only [decide_true, Bool.and_true, Bool.and_self, decide_false, Bool.false_and, reduceCtorEq, not_false_eq_true] <;> fail)); cbv)
| (refine QC.fw ?_; cbv)
| (refine QC.mk (fun hc => ?_) (fun hc => ?_) <;> (try dsimp only at hc) <;> cbv)
| (refine br_mk2 (fun hb => ?_) (fun hb => ?_) <;> (try subst hb) <;> cbv))))
      exact ⟨rfl, rfl, rfl⟩
end Go.Proofs.Ytjhicdoigllblaa
namespace Go.Proofs.Ytjhicdoigllblaa
set_option linter.unusedVariables false
set_option linter.unusedSimpArgs false
open Go.RowKit
theorem receivers_l (x0 : Rcv) (hf0 : x0.fits) (hl0 : x0.ps.flatten.length ≤ 140737488351232) (p0 : Pce) (hp0 : p0.fits) (zs : List Int) (hz : ∀ v ∈ zs, -9223372036854775808 ≤ v ∧ v ≤ 9223372036854775807) :
    Good 6 (pu [x0.w (rowsB x0.ps), pceV p0 (u8l p0.d), .lst none (ints .i64 zs)] (.bool true)) := by
  obtain ⟨T, hT⟩ : ∃ T, T = (ints .i64 zs).take 400 := ⟨_, rfl⟩
  have t0 : Tp T 0 := hT ▸ tape1 zs hz
  obtain ⟨s, R, c1, v1, v2, v3, v4, v5, t1, gS⟩ := sender_e t0
  have hn1 : 1 ≤ s.ps.length ∧ s.ps.length ≤ 32 := ⟨v1.n1, v1.n2⟩
  obtain ⟨r, Q, c2, r1, r2, r3, r4, r5, t2, gC⟩ := receiver_e t1 s R v3 v2 v4 hn1
  obtain ⟨np, hnp⟩ : ∃ np : Int, np = s.ps.length := ⟨_, rfl⟩
  obtain ⟨zn, c3, p3, u3, t3, g3⟩ := next_e t2 np (by omega)
  obtain ⟨n, hzn⟩ : ∃ n : Nat, zn = n := Int.eq_ofNat_of_zero_le p3
  obtain ⟨v6, c4, p4, u4, t4, g4⟩ := next_e t3 6 (by omega)
  obtain ⟨qa, c5, t5, g5⟩ := bool_e t4 2 (by omega)
  obtain ⟨y, c6, t6, g6⟩ := bool_e t5 4 (by omega)
  obtain ⟨st, stg, ps, ak, rd, un⟩ := s
  obtain ⟨rtg, rcn, rps, rhv, rdn⟩ := r
  dsimp only at v3 v4 hn1 r2 r3 r4 r5 hnp gS gC
  have hstg : 0 ≤ stg ∧ stg ≤ 255 := v2.tag
  have hnl : n < ps.length := by omega
  cases y
  · obtain ⟨k, c8, p8, u8, t8, g8⟩ := next_e t6 4 (by omega)
    rcases (show k = 0 ∨ k = 1 ∨ k = 2 ∨ k = 3 by omega) with rfl | rfl | rfl | rfl
    · exact receivers_00 x0 _ rfl hf0 hl0 p0 _ rfl hp0 _ T hT st stg ak rd un ps R c1 hstg v3 v4 hn1 gS rtg rcn rhv rdn rps Q c2 r1 r2 r3 r4 r5 gC np hnp n zn c3 hzn hnl g3 v6 c4 ⟨p4, u4⟩ g4 qa c5 g5 c6 c6 c8 t8 [] (by simp) g6 g8
    · cases rdn
      · exact receivers_10f x0 _ rfl hf0 hl0 p0 _ rfl hp0 _ T hT st stg ak rd un ps R c1 hstg v3 v4 hn1 gS rtg rcn rhv _ rps Q c2 r1 r2 r3 r4 r5 gC np hnp n zn c3 hzn hnl g3 v6 c4 ⟨p4, u4⟩ g4 qa c5 g5 c6 c6 c8 t8 [] (by simp) g6 rfl g8
      · exact receivers_10t x0 _ rfl hf0 hl0 p0 _ rfl hp0 _ T hT st stg ak rd un ps R c1 hstg v3 v4 hn1 gS rtg rcn rhv _ rps Q c2 r1 r2 r3 r4 r5 gC np hnp n zn c3 hzn hnl g3 v6 c4 ⟨p4, u4⟩ g4 qa c5 g5 c6 c6 c8 t8 [] (by simp) g6 rfl g8
    · exact receivers_20 x0 _ rfl hf0 hl0 p0 _ rfl hp0 _ T hT st stg ak rd un ps R c1 hstg v3 v4 hn1 gS rtg rcn rhv rdn rps Q c2 r1 r2 r3 r4 r5 gC np hnp n zn c3 hzn hnl g3 v6 c4 ⟨p4, u4⟩ g4 qa c5 g5 c6 c6 c8 t8 [] (by simp) g6 g8
    · exact receivers_30 x0 _ rfl hf0 hl0 p0 _ rfl hp0 _ T hT st stg ak rd un ps R c1 hstg v3 v4 hn1 gS rtg rcn rhv rdn rps Q c2 r1 r2 r3 r4 r5 gC np hnp n zn c3 hzn hnl g3 v6 c4 ⟨p4, u4⟩ g4 qa c5 g5 c6 c6 c8 t8 [] (by simp) g6 g8
  · obtain ⟨bs, c7, p7, t7, gB⟩ := bytes_e t6 3 (by omega)
    have hbs : bs.length ≤ 3 := by omega
    obtain ⟨k, c8, p8, u8, t8, g8⟩ := next_e t7 4 (by omega)
    rcases (show k = 0 ∨ k = 1 ∨ k = 2 ∨ k = 3 by omega) with rfl | rfl | rfl | rfl
    · exact receivers_01 x0 _ rfl hf0 hl0 p0 _ rfl hp0 _ T hT st stg ak rd un ps R c1 hstg v3 v4 hn1 gS rtg rcn rhv rdn rps Q c2 r1 r2 r3 r4 r5 gC np hnp n zn c3 hzn hnl g3 v6 c4 ⟨p4, u4⟩ g4 qa c5 g5 c6 c7 c8 t8 bs hbs g6 gB g8
    · cases rdn
      · exact receivers_11f x0 _ rfl hf0 hl0 p0 _ rfl hp0 _ T hT st stg ak rd un ps R c1 hstg v3 v4 hn1 gS rtg rcn rhv _ rps Q c2 r1 r2 r3 r4 r5 gC np hnp n zn c3 hzn hnl g3 v6 c4 ⟨p4, u4⟩ g4 qa c5 g5 c6 c7 c8 t8 bs hbs g6 rfl gB g8
      · exact receivers_11t x0 _ rfl hf0 hl0 p0 _ rfl hp0 _ T hT st stg ak rd un ps R c1 hstg v3 v4 hn1 gS rtg rcn rhv _ rps Q c2 r1 r2 r3 r4 r5 gC np hnp n zn c3 hzn hnl g3 v6 c4 ⟨p4, u4⟩ g4 qa c5 g5 c6 c7 c8 t8 bs hbs g6 rfl gB g8
    · exact receivers_21 x0 _ rfl hf0 hl0 p0 _ rfl hp0 _ T hT st stg ak rd un ps R c1 hstg v3 v4 hn1 gS rtg rcn rhv rdn rps Q c2 r1 r2 r3 r4 r5 gC np hnp n zn c3 hzn hnl g3 v6 c4 ⟨p4, u4⟩ g4 qa c5 g5 c6 c7 c8 t8 bs hbs g6 gB g8
    · exact receivers_31 x0 _ rfl hf0 hl0 p0 _ rfl hp0 _ T hT st stg ak rd un ps R c1 hstg v3 v4 hn1 gS rtg rcn rhv rdn rps Q c2 r1 r2 r3 r4 r5 gC np hnp n zn c3 hzn hnl g3 v6 c4 ⟨p4, u4⟩ g4 qa c5 g5 c6 c7 c8 t8 bs hbs g6 gB g8
end Go.Proofs.Ytjhicdoigllblaa
namespace Go.Proofs.Ytjhicdoigllblaa
set_option linter.unusedVariables false
set_option linter.unusedSimpArgs false
open Go.ChangeShapes Go.WideShapes Go.ChangeAt Go.RowKit Go.WideElems Go.Deep
section
variable {H : Type} {enc : TypeId × Value → H} {P : Program} {w : World}
theorem bulkAll_len : ∀ l : List (DataW H), l.length ≤ Rows.uptoBulkAll l
  | [] => Nat.zero_le _
  | d :: r => by
    have ih := bulkAll_len r
    have h1 : 1 ≤ Rows.uptoBulk d := by
      cases d with
      | lit l => cases l <;> simp [Rows.uptoBulk]
      | _ => simp [Rows.uptoBulk]
    simp only [Rows.uptoBulkAll, List.length_cons]
    omega
theorem bulkAll_mem : ∀ {l : List (DataW H)} {d : DataW H}, d ∈ l → Rows.uptoBulk d ≤ Rows.uptoBulkAll l
  | x :: r, d, h => by
    simp only [Rows.uptoBulkAll]
    rcases List.mem_cons.1 h with rfl | h
    · omega
    · have := bulkAll_mem h; omega
theorem bulk_slice {n t e : Nat} (hu : P.underlying t = some (.slice e)) {L : List SV} {u : Value} {sh : Option Nat} (hd : Den w NoX noEnv (.lst sh L) u) {x : DataW H × List MemPlace} (h : DataW.trod enc P w 0 (fun _ => true) true n t [u] = some x) : L.length ≤ Rows.uptoBulk x.1 := by
  rcases DataW.trod_slice hu h with ⟨hc, rfl⟩ | ⟨a, len, cap, elems, rest, n', _, hc, rfl, _, _, _, hel, _⟩
  · injection hc with hc
    subst hc
    cases hd with
    | lst0 => simp
  · injection hc with hc
    subst hc
    have hl : L.length = len := by
      cases hd with
      | lst0 => rfl
      | lst => rfl
    have := bulkAll_len (elems.map (·.1))
    simp only [Rows.uptoBulk]
    rw [List.length_map] at this
    omega
theorem bulk_rows {n t e b : Nat} (hu : P.underlying t = some (.slice e)) (he : P.underlying e = some (.slice b)) (hc1 : P.cellsOf e = 1) {ps : List (List UInt8)} {u : Value} (hd : Den w NoX noEnv (.lst none (rowsB ps)) u) {x : DataW H × List MemPlace}
    (h : DataW.trod enc P w 0 (fun _ => true) true n t [u] = some x) : ps.flatten.length ≤ Rows.uptoBulk x.1 := by
  by_cases h0 : ps = []
  · subst h0; simp
  rcases DataW.trod_slice hu h with ⟨hc, rfl⟩ | ⟨a, len, cap, elems, rest, n', _, hc, rfl, _, _, _, hel, hE, _⟩
  · injection hc with hc
    subst hc
    exfalso
    generalize hL : rowsB ps = L at hd
    cases hd with
    | lst0 => exact h0 (List.length_eq_zero_iff.1 (by rw [← rowsB_len ps, hL]; rfl))
  · injection hc with hc
    subst hc
    have key : ∀ i (hi : i < ps.length), ∃ y, elems[i]? = some y ∧ (ps[i]).length ≤ Rows.uptoBulk y.1 := by
      intro i hi
      generalize hL : rowsB ps = L at hd
      have hLl : L.length = ps.length := by rw [← hL, rowsB_len]
      cases hd with
      | lst0 => simp at hLl; omega
      | lst _ _ _ b' off _ us hb hx hcap hcell hul ho hh =>
        have hiL : i < L.length := by omega
        have h1 := hE i hiL
        rw [hc1, Nat.mul_one] at h1
        have h2 := hh i hiL
        have h3 : us.length = L.length := by simpa [wid] using hul
        have hui : us[i]? = some us[i] := List.getElem?_eq_getElem (by omega)
        have hcl := hcell i _ hui
        have e1 : valAt none us i = us[i] := by simp [valAt, hui]
        rw [e1] at h2
        have e2 : L[i] = .lst none (u8l ps[i]) := by
          have : L[i]? = some (.lst none (u8l ps[i])) := by rw [← hL]; simp [rowsB, hi]
          exact (List.getElem?_eq_some_iff.1 this).2
        rw [e2] at h2
        cases hce : w.cells? 0 ((⟨b', off, none⟩ : Addr).add i) 1 with
        | none =>
          rw [hce] at h1
          have : elems[i]? = none := h1.symm
          rw [List.getElem?_eq_none_iff] at this
          omega
        | some cs' =>
          rw [hce] at h1
          obtain ⟨_, c2, c3⟩ := World.cells?_some hce
          have c4 := c3 0 (by omega)
          rw [Addr.add_zero', Addr.add_lit, hcl] at c4
          have ecs : cs' = [us[i]] := by
            match cs', c2 with
            | [z], _ => simp at c4; rw [c4]
          rw [ecs] at h1
          have h1 : DataW.trod enc P w 0 (fun _ => true) true n' e [us[i]] = elems[i]? := h1
          cases hy : elems[i]? with
          | none => rw [List.getElem?_eq_none_iff] at hy; omega
          | some y =>
            rw [hy] at h1
            have := bulk_slice he h2 h1
            rw [u8l_len] at this
            exact ⟨y, rfl, this⟩
    have sum : ∀ (qs : List (List UInt8)) (ys : List (DataW H × List MemPlace)), (∀ i (hi : i < qs.length), ∃ y, ys[i]? = some y ∧ (qs[i]).length ≤ Rows.uptoBulk y.1) → qs.flatten.length ≤ Rows.uptoBulkAll (ys.map (·.1)) := by
      intro qs
      induction qs with
      | nil => intro ys _; simp
      | cons q qs ih =>
        intro ys hy
        cases ys with
        | nil => obtain ⟨y, h1, _⟩ := hy 0 (by simp); cases h1
        | cons y ys =>
          have h1 := ih ys fun i hi => hy (i + 1) (by simpa using hi)
          obtain ⟨y', h2, h3⟩ := hy 0 (by simp)
          simp at h2; subst h2
          simp only [List.flatten_cons, List.length_append, List.map_cons, Rows.uptoBulkAll]
          have h3 : q.length ≤ Rows.uptoBulk y.1 := h3
          omega
    have := sum ps elems key
    simp only [Rows.uptoBulk]
    omega
end
theorem bulk_receiver {H : Type} {enc : TypeId × Value → H} {w : World} {n : Nat} {v : Value} {r : Rcv} (hd : Den w NoX noEnv (wrapC (some 5) [.int .u8 r.tag, .int .i64 r.cnt, .lst none (rowsB r.ps), .int .u32 r.hv, .bool r.dn]) v) {x : DataW H × List MemPlace}
    (h : DataW.trod enc Try.prog w 0 (fun _ => true) true n 55 v.cells.toList = some x) : r.ps.flatten.length ≤ Rows.uptoBulk x.1 := by
  obtain ⟨cs, rfl, hl⟩ := Den.agg_iff.1 hd
  obtain ⟨xs, n', _, rfl, hcl, hxl, hX⟩ := DataW.trod_struct Try.underlying55 h
  have h2 := hX 2 _ rfl
  have hcs : cs.length = 5 := by rw [← hl.1]; rfl
  match cs, hcs with
  | [c0, c1, c2, c3, c4], _ =>
    have d2 := hl.2 2 _ _ rfl rfl
    have h2 : DataW.trod enc Try.prog w 0 (fun _ => true) true n' 22 [c2] = xs[2]? := h2
    cases hy : xs[2]? with
    | none => rw [List.getElem?_eq_none_iff] at hy; rw [hxl] at hy; exact absurd hy (by decide)
    | some y =>
      rw [hy] at h2
      have := bulk_rows Try.underlying22 Try.underlying26 (by kernel_rfl) d2 h2
      have hm : y.1 ∈ xs.map (·.1) := List.mem_map.2 ⟨y, List.mem_of_getElem? hy, rfl⟩
      have := bulkAll_mem hm
      simp only [Rows.uptoBulk]
      omega
end Go.Proofs.Ytjhicdoigllblaa
