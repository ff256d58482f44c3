/- Texts put together: XLc. -/
import Derived.Test.YtjhicdoigllblaaMe
namespace Go.Proofs.Ytjhicdoigllblaa
set_option linter.unusedVariables false
set_option linter.unusedSimpArgs false
open Go.RowKit
set_option maxHeartbeats 16000000
set_option maxRecDepth 8000 in
theorem receivers_20
    (x0 : Rcv) (R0 : List SV) (hR0 : R0 = rowsB x0.ps) (hf0 : x0.fits) (hl0 : x0.ps.flatten.length ≤ 140737488351232) (p0 : Pce) (D0 : List SV) (hD0 : D0 = u8l p0.d) (hp0 : p0.fits) (Z T : List SV) (hT : T = Z.take 400)
    (st stg ak rd un : Int) (ps : List (List UInt8)) (R : List SV) (c1 : Int) (hstg : 0 ≤ stg ∧ stg ≤ 255) (hR : R = rowsB ps) (hsh : ∀ p ∈ ps, p.length ≤ 200) (hn1 : 1 ≤ ps.length ∧ ps.length ≤ 32)
    (gS : Good 11 (le 81 (.agg [.lst none T, .int .i64 0]) [] (.agg [.int .i64 st, .int .u8 stg, .lst none R, .int .u32 ak, .int .i64 rd, .int .i64 un]) (.agg [.lst none T, .int .i64 c1])))
    (rtg rcn rhv : Int) (rdn : Bool) (rps : List (List UInt8)) (Q : List SV) (c2 : Int) (hrf : Rcv.fits ⟨rtg, rcn, rps, rhv, rdn⟩) (hQ : Q = rowsB rps) (hrs : ∀ p ∈ rps, p.length ≤ 200) (hrc : rps.length ≤ 32) (hcn : 0 ≤ rcn ∧ rcn ≤ 32)
    (gC : Good 29 (le 81 (.agg [.lst none T, .int .i64 c1]) [.agg [.int .i64 st, .int .u8 stg, .lst none R, .int .u32 ak, .int .i64 rd, .int .i64 un]] (.agg [.int .u8 rtg, .int .i64 rcn, .lst none Q, .int .u32 rhv, .bool rdn]) (.agg [.lst none T, .int .i64 c2])))
    (np : Int) (hnp : np = ps.length) (n : Nat) (zn c3 : Int) (hzn : zn = n) (hnl : n < ps.length) (g3 : Good 12 (le 81 (.agg [.lst none T, .int .i64 c2]) [.int .i64 np] (.int .i64 zn) (.agg [.lst none T, .int .i64 c3])))
    (v6 c4 : Int) (hv6 : 0 ≤ v6 ∧ v6 < 6) (g4 : Good 12 (le 81 (.agg [.lst none T, .int .i64 c3]) [.int .i64 6] (.int .i64 v6) (.agg [.lst none T, .int .i64 c4])))
    (qa : Bool) (c5 : Int) (g5 : Good 30 (le 81 (.agg [.lst none T, .int .i64 c4]) [.int .i64 2] (.bool qa) (.agg [.lst none T, .int .i64 c5])))
    (c6 c7 c8 : Int) (t8 : Tp T c8) (bs : List UInt8) (hbs : bs.length ≤ 3)
    (g6 : Good 30 (le 81 (.agg [.lst none T, .int .i64 c5]) [.int .i64 4] (.bool false) (.agg [.lst none T, .int .i64 c6])))
    (g8 : Good 12 (le 81 (.agg [.lst none T, .int .i64 c6]) [.int .i64 4] (.int .i64 2) (.agg [.lst none T, .int .i64 c8]))) :
    Good 6 (pu [x0.w R0, pceV p0 D0, .lst none Z] (.bool true)) := by
  skip
  have h0 := new_c Z T hT
  have hk := known_c
  have hRl : R.length = ps.length := by rw [hR, rowsB_len]
  obtain ⟨d, hd⟩ : ∃ d, d = ps.getD n [] := ⟨_, rfl⟩
  obtain ⟨D, hD⟩ : ∃ D, D = u8l d := ⟨_, rfl⟩
  have hRn : R[n]? = some (.lst none D) := by
    rw [hR, rowsB, List.getElem?_map, hD, hd, List.getD_eq_getElem?_getD, List.getElem?_eq_getElem hnl]; rfl
  have hdl : d.length ≤ 200 := by
    rw [hd, List.getD_eq_getElem?_getD, List.getElem?_eq_getElem hnl]
    exact hsh _ (List.getElem_mem hnl)
  have hnlR : n < R.length := by omega
  have hfl : rps.flatten.length ≤ 140737488351232 := by
    have h1 := flat_le2 rps 200 hrs
    have h2 : rps.length * 200 ≤ 32 * 200 := Nat.mul_le_mul_right _ hrc
    omega
  have hrt := hrf.tag
  have hrh := hrf.hv
  dsimp only at hrt hrh
  have hnpR : np = (R.length : Int) := by omega
  clear hd hT
  skip
  refine Good.of Try.func6 rfl (by rfl) (by kernel_rfl) ?_
  cbv
  have hmk : True := trivial
  (repeat' (first
| (refine q1w (fun z hz => ?_); (try simp only at hz); cbv)
| (refine rqw ?_; cbv)
| (refine QC.tw ?_; cbv)
| (refine QC.tt ?_ ?_; (focus (simp only [decide_true, Bool.and_true, Bool.and_self] <;> fail)); cbv)
| (refine QC.ff ?_ ?_; (focus (simp only [decide_true, Bool.and_true, Bool.and_self, decide_false, Bool.false_and, reduceCtorEq, not_false_eq_true] <;> fail)); cbv)
| (refine QC.fw ?_; cbv)
| (refine QC.mk (fun hc => ?_) (fun hc => ?_) <;> (try dsimp only at hc) <;> cbv)
| (refine br_mk2 (fun hb => ?_) (fun hb => ?_) <;> (try subst hb) <;> cbv)
| (refine callq (h0) rfl rfl ?_; cbv)
| (refine callq (gS) rfl rfl ?_; cbv)
| (refine callq (gC) rfl rfl ?_; cbv)))
  have ez : np = z := by (first | omega | (simp only [cst] at *; omega) | (simp only [sm] at *; omega))
  subst ez
  (repeat' (first
| (refine q1w (fun z hz => ?_); (try simp only at hz); cbv)
| (refine rqw ?_; cbv)
| (refine QC.tw ?_; cbv)
| (refine QC.tt ?_ ?_; (focus (simp only [decide_true, Bool.and_true, Bool.and_self] <;> fail)); cbv)
| (refine QC.ff ?_ ?_; (focus (simp only [decide_true, Bool.and_true, Bool.and_self, decide_false, Bool.false_and, reduceCtorEq, not_false_eq_true] <;> fail)); cbv)
| (refine QC.fw ?_; cbv)
| (refine QC.mk (fun hc => ?_) (fun hc => ?_) <;> (try dsimp only at hc) <;> cbv)
| (refine br_mk2 (fun hb => ?_) (fun hb => ?_) <;> (try subst hb) <;> cbv)
| (refine callq (g3) rfl rfl ?_; cbv)
| (refine callq (g4) rfl rfl ?_; cbv)
| (refine callq (g5) rfl rfl ?_; cbv)))
  (refine qv (n, _) ⟨hzn, hRn⟩ ?_; cbv; (repeat' (first
| (refine q1w (fun z hz => ?_); (try simp only at hz); cbv)
| (refine rqw ?_; cbv)
| (refine QC.tw ?_; cbv)
| (refine QC.tt ?_ ?_; (focus (simp only [decide_true, Bool.and_true, Bool.and_self] <;> fail)); cbv)
| (refine QC.ff ?_ ?_; (focus (simp only [decide_true, Bool.and_true, Bool.and_self, decide_false, Bool.false_and, reduceCtorEq, not_false_eq_true] <;> fail)); cbv)
| (refine QC.fw ?_; cbv)
| (refine QC.mk (fun hc => ?_) (fun hc => ?_) <;> (try dsimp only at hc) <;> cbv)
| (refine br_mk2 (fun hb => ?_) (fun hb => ?_) <;> (try subst hb) <;> cbv))))
  rename_i zc hzc qt hqt
  have hqtb : 0 ≤ qt ∧ qt ≤ 255 := by (first | omega | (simp only [cst] at *; omega) | (simp only [sm] at *; omega))
  have ez : np = z := by (first | omega | (simp only [cst] at *; omega) | (simp only [sm] at *; omega))
  subst ez
  (refine callq (g6) rfl rfl ?_; cbv; (repeat' (first
| (refine q1w (fun z hz => ?_); (try simp only at hz); cbv)
| (refine rqw ?_; cbv)
| (refine QC.tw ?_; cbv)
| (refine QC.tt ?_ ?_; (focus (simp only [decide_true, Bool.and_true, Bool.and_self] <;> fail)); cbv)
| (refine QC.ff ?_ ?_; (focus (simp only [decide_true, Bool.and_true, Bool.and_self, decide_false, Bool.false_and, reduceCtorEq, not_false_eq_true] <;> fail)); cbv)
| (refine QC.fw ?_; cbv)
| (refine QC.mk (fun hc => ?_) (fun hc => ?_) <;> (try dsimp only at hc) <;> cbv)
| (refine br_mk2 (fun hb => ?_) (fun hb => ?_) <;> (try subst hb) <;> cbv))))
  (refine callq (g8) rfl rfl ?_; cbv; (repeat' (first
| (refine q1w (fun z hz => ?_); (try simp only at hz); cbv)
| (refine rqw ?_; cbv)
| (refine QC.tw ?_; cbv)
| (refine QC.tt ?_ ?_; (focus (simp only [decide_true, Bool.and_true, Bool.and_self] <;> fail)); cbv)
| (refine QC.ff ?_ ?_; (focus (simp only [decide_true, Bool.and_true, Bool.and_self, decide_false, Bool.false_and, reduceCtorEq, not_false_eq_true] <;> fail)); cbv)
| (refine QC.fw ?_; cbv)
| (refine QC.mk (fun hc => ?_) (fun hc => ?_) <;> (try dsimp only at hc) <;> cbv)
| (refine br_mk2 (fun hb => ?_) (fun hb => ?_) <;> (try subst hb) <;> cbv))))
  have hzb : 1 ≤ z ∧ z ≤ 33 := by (first | omega | (simp only [cst] at *; omega) | (simp only [sm] at *; omega))
  obtain ⟨sp, hsp⟩ : ∃ sp : Rcv, sp = ⟨rtg, z, rps, rhv, rdn⟩ := ⟨_, rfl⟩
  obtain ⟨q, hqd⟩ : ∃ q : Pce, q = ⟨qt, zn, np, qa, d⟩ := ⟨_, rfl⟩
  have hnpb : 0 ≤ np ∧ np ≤ 32 := by (first | omega | (simp only [cst] at *; omega) | (simp only [sm] at *; omega))
  have hznb : 0 ≤ zn ∧ zn ≤ 32 := by (first | omega | (simp only [cst] at *; omega) | (simp only [sm] at *; omega))
  have hq : q.fits := by rw [hqd]; exact ⟨hqtb, by dsimp only; omega, by dsimp only; omega, by dsimp only; omega⟩
  obtain ⟨E, hE0⟩ : ∃ E, E = D := ⟨_, rfl⟩
  have hE : E = u8l q.d := by rw [hE0, hqd]; exact hD
  skip
  have hspf : sp.fits := by
    rw [hsp]
    exact ⟨by dsimp only; omega, by dsimp only; omega, by dsimp only; omega, hrf.n, hrf.b⟩
  obtain ⟨V, hV⟩ : ∃ V : List SV, V = [x0.w R0, (⟨rtg, rcn, rps, rhv, rdn⟩ : Rcv).w Q, sp.w Q, zRV] := ⟨_, rfl⟩
  have hVE := v3_e x0 R0 hR0 hf0 hl0 ⟨rtg, rcn, rps, rhv, rdn⟩ Q hQ hrf hfl sp Q (by rw [hsp]; exact hQ) hspf (by rw [hsp]; exact hfl)
  rw [← hV] at hVE
  have hV3 : V[3]? = some zRV := by rw [hV]; rfl
  have hVl : V.length = 4 := by rw [hV]; rfl
  rw [hsp] at hV
  obtain ⟨V2, hV2⟩ : ∃ V : List SV, V = [pceV p0 D0, pceV q E] := ⟨_, rfl⟩
  have hV2E := p2_e p0 q D0 E hD0 hE hp0 hq
  rw [← hV2] at hV2E
  have hV2l : V2.length = 2 := by rw [hV2]; rfl
  rw [hqd] at hV2
  clear hsp hspf hqd hq hE
  rw [hE0] at hV2
  skip
  refine loopQ (A := Nat × Int) (fun p => p.2 = p.1 ∧ p.1 ≤ 4) (fun p => 4 - p.1) (fun p => [(14, .int .i64 p.2)]) (fun p => [(102, .row (some 5) 55 V)]) (0, 0) ⟨rfl, by omega⟩ ?_ ?_
  · cbv
    rw [hV]
    repeat' (first | exact rfl | exact trivial | apply And.intro)
  · intro ⟨i, j⟩ hh
    have hj : j = (i : Int) := hh.1
    have hi : i ≤ 4 := hh.2
    clear hh hV
    have hmq : True := trivial
    cbv
    (repeat' (first
| (refine q1w (fun z hz => ?_); (try simp only at hz); cbv)
| (refine rqw ?_; cbv)
| (refine QC.tw ?_; cbv)
| (refine QC.tt ?_ ?_; (focus (simp only [decide_true, Bool.and_true, Bool.and_self] <;> fail)); cbv)
| (refine QC.ff ?_ ?_; (focus (simp only [decide_true, Bool.and_true, Bool.and_self, decide_false, Bool.false_and, reduceCtorEq, not_false_eq_true] <;> fail)); cbv)
| (refine QC.fw ?_; cbv)
| (refine QC.mk (fun hc => ?_) (fun hc => ?_) <;> (try dsimp only at hc) <;> cbv)
| (refine br_mk2 (fun hb => ?_) (fun hb => ?_) <;> (try subst hb) <;> cbv)))
    · have hlt : i < 4 := by (first | omega | (simp only [cst] at *; omega) | (simp only [sm] at *; omega))
      cases Nat.lt_or_ge i 3 with
      | inl h3 =>
        obtain ⟨x, X, hVi, hX, hxf, hxl⟩ := hVE i h3
        have gRn := fun p D hD hp => rrnd_e x X hX hxf p D hD hp
        have gDg := dg_e x X hX hxf hxl
        clear hX hxf hxl
        skip
        refine loopQ (A := Nat × Int) (fun p => p.2 = p.1 ∧ p.1 ≤ 2) (fun p => 2 - p.1) (fun p => [(16, .int .i64 p.2)]) (fun p => [(111, .row (some 5) 51 V2)]) (0, 0) ⟨rfl, by omega⟩ ?_ ?_
        · cbv
          rw [hV2]
          repeat' (first | exact rfl | exact trivial | apply And.intro)
        · intro ⟨i2, j2⟩ hh
          have hj2 : j2 = (i2 : Int) := hh.1
          have hi2 : i2 ≤ 2 := hh.2
          clear hh hV2
          have hmz : True := trivial
          cbv
          (repeat' (first
| (refine q1w (fun z hz => ?_); (try simp only at hz); cbv)
| (refine rqw ?_; cbv)
| (refine QC.tw ?_; cbv)
| (refine QC.tt ?_ ?_; (focus (simp only [decide_true, Bool.and_true, Bool.and_self] <;> fail)); cbv)
| (refine QC.ff ?_ ?_; (focus (simp only [decide_true, Bool.and_true, Bool.and_self, decide_false, Bool.false_and, reduceCtorEq, not_false_eq_true] <;> fail)); cbv)
| (refine QC.fw ?_; cbv)
| (refine QC.mk (fun hc => ?_) (fun hc => ?_) <;> (try dsimp only at hc) <;> cbv)
| (refine br_mk2 (fun hb => ?_) (fun hb => ?_) <;> (try subst hb) <;> cbv)))
          · have hlt2 : i2 < 2 := by (first | omega | (simp only [cst] at *; omega) | (simp only [sm] at *; omega))
            obtain ⟨p, X2, hWi, hX2, hpf⟩ := hV2E i2 hlt2
            obtain ⟨y, Y, bm, e, ok, f1, f2, f3⟩ := gRn p X2 hX2 hpf
            clear gRn gDg hV2E hVE hk hX2 hpf
            skip
            (repeat' (first
| (refine QC.ff (fun h => h rfl) ?_; cbv)
| (refine q1w (fun z hz => ?_); (try simp only at hz); cbv)
| (refine rqw ?_; cbv)
| (refine QC.tw ?_; cbv)
| (refine QC.tt ?_ ?_; (focus (simp only [decide_true, Bool.and_true, Bool.and_self] <;> fail)); cbv)
| (refine QC.ff ?_ ?_; (focus (simp only [decide_true, Bool.and_true, Bool.and_self, decide_false, Bool.false_and, reduceCtorEq, not_false_eq_true] <;> fail)); cbv)
| (refine QC.fw ?_; cbv)
| (refine QC.mk (fun hc => ?_) (fun hc => ?_) <;> (try dsimp only at hc) <;> cbv)
| (refine br_mk2 (fun hb => ?_) (fun hb => ?_) <;> (try subst hb) <;> cbv)
| (refine qv (i) (by (first | omega | (simp only [cst] at *; omega) | (simp only [sm] at *; omega))) ?_; cbv)
| (refine qv _ (hVi) ?_; cbv)
| (refine qv (i2) (by (first | omega | (simp only [cst] at *; omega) | (simp only [sm] at *; omega))) ?_; cbv)
| (refine qv _ (hWi) ?_; cbv)
| (refine callq (f1) rfl rfl ?_; cbv)
| (refine callq (f2) rfl rfl ?_; cbv)
| (refine callq (f3) rfl rfl ?_; cbv)))
            all_goals
              refine ⟨(i2 + 1, z), ⟨by show z = ((i2 + 1 : Nat) : Int); (first | omega | (simp only [cst] at *; omega) | (simp only [sm] at *; omega)), by show i2 + 1 ≤ 2; omega⟩, by show 2 - (i2 + 1) < 2 - i2; omega, ?_⟩
              cbv
              repeat' (first | exact rfl | exact trivial | apply And.intro)
          · obtain ⟨L, ok, r, f1, f2, f3, f4, f5⟩ := gDg
            clear gRn hV2E hVE hk
            skip
            (repeat' (first
| (refine QC.ff (fun h => h rfl) ?_; cbv)
| (refine q1w (fun z hz => ?_); (try simp only at hz); cbv)
| (refine rqw ?_; cbv)
| (refine QC.tw ?_; cbv)
| (refine QC.tt ?_ ?_; (focus (simp only [decide_true, Bool.and_true, Bool.and_self] <;> fail)); cbv)
| (refine QC.ff ?_ ?_; (focus (simp only [decide_true, Bool.and_true, Bool.and_self, decide_false, Bool.false_and, reduceCtorEq, not_false_eq_true] <;> fail)); cbv)
| (refine QC.fw ?_; cbv)
| (refine QC.mk (fun hc => ?_) (fun hc => ?_) <;> (try dsimp only at hc) <;> cbv)
| (refine br_mk2 (fun hb => ?_) (fun hb => ?_) <;> (try subst hb) <;> cbv)
| (refine qv (i) (by (first | omega | (simp only [cst] at *; omega) | (simp only [sm] at *; omega))) ?_; cbv)
| (refine qv _ (hVi) ?_; cbv)
| (refine callq (f1) rfl rfl ?_; cbv)
| (refine callq (f2) rfl rfl ?_; cbv)
| (refine callq (f3) rfl rfl ?_; cbv)
| (refine callq (f4) rfl rfl ?_; cbv)
| (refine callq (f5) rfl rfl ?_; cbv)))
            all_goals
              refine ⟨(i + 1, z), ⟨by show z = ((i + 1 : Nat) : Int); (first | omega | (simp only [cst] at *; omega) | (simp only [sm] at *; omega)), by show i + 1 ≤ 4; omega⟩, by show 4 - (i + 1) < 4 - i; omega, ?_⟩
              cbv
              repeat' (first | exact rfl | exact trivial | apply And.intro)
      | inr h3 =>
        have hi3 : i = 3 := by omega
        have hVi : V[i]? = some zRV := by rw [hi3]; exact hV3
        have gRn := fun p D hD hp => zrnd_e p D hD hp
        have gDg := zdg_e
        skip
        refine loopQ (A := Nat × Int) (fun p => p.2 = p.1 ∧ p.1 ≤ 2) (fun p => 2 - p.1) (fun p => [(16, .int .i64 p.2)]) (fun p => [(111, .row (some 5) 51 V2)]) (0, 0) ⟨rfl, by omega⟩ ?_ ?_
        · cbv
          rw [hV2]
          repeat' (first | exact rfl | exact trivial | apply And.intro)
        · intro ⟨i2, j2⟩ hh
          have hj2 : j2 = (i2 : Int) := hh.1
          have hi2 : i2 ≤ 2 := hh.2
          clear hh hV2
          have hmz : True := trivial
          cbv
          (repeat' (first
| (refine q1w (fun z hz => ?_); (try simp only at hz); cbv)
| (refine rqw ?_; cbv)
| (refine QC.tw ?_; cbv)
| (refine QC.tt ?_ ?_; (focus (simp only [decide_true, Bool.and_true, Bool.and_self] <;> fail)); cbv)
| (refine QC.ff ?_ ?_; (focus (simp only [decide_true, Bool.and_true, Bool.and_self, decide_false, Bool.false_and, reduceCtorEq, not_false_eq_true] <;> fail)); cbv)
| (refine QC.fw ?_; cbv)
| (refine QC.mk (fun hc => ?_) (fun hc => ?_) <;> (try dsimp only at hc) <;> cbv)
| (refine br_mk2 (fun hb => ?_) (fun hb => ?_) <;> (try subst hb) <;> cbv)))
          · have hlt2 : i2 < 2 := by (first | omega | (simp only [cst] at *; omega) | (simp only [sm] at *; omega))
            obtain ⟨p, X2, hWi, hX2, hpf⟩ := hV2E i2 hlt2
            obtain ⟨y, Y, bm, e, ok, f1, f2, f3⟩ := gRn p X2 hX2 hpf
            clear gRn gDg hV2E hVE hk hX2 hpf
            skip
            (repeat' (first
| (refine QC.ff (fun h => h rfl) ?_; cbv)
| (refine q1w (fun z hz => ?_); (try simp only at hz); cbv)
| (refine rqw ?_; cbv)
| (refine QC.tw ?_; cbv)
| (refine QC.tt ?_ ?_; (focus (simp only [decide_true, Bool.and_true, Bool.and_self] <;> fail)); cbv)
| (refine QC.ff ?_ ?_; (focus (simp only [decide_true, Bool.and_true, Bool.and_self, decide_false, Bool.false_and, reduceCtorEq, not_false_eq_true] <;> fail)); cbv)
| (refine QC.fw ?_; cbv)
| (refine QC.mk (fun hc => ?_) (fun hc => ?_) <;> (try dsimp only at hc) <;> cbv)
| (refine br_mk2 (fun hb => ?_) (fun hb => ?_) <;> (try subst hb) <;> cbv)
| (refine qv (i) (by (first | omega | (simp only [cst] at *; omega) | (simp only [sm] at *; omega))) ?_; cbv)
| (refine qv _ (hVi) ?_; cbv)
| (refine qv (i2) (by (first | omega | (simp only [cst] at *; omega) | (simp only [sm] at *; omega))) ?_; cbv)
| (refine qv _ (hWi) ?_; cbv)
| (refine callq (f1) rfl rfl ?_; cbv)
| (refine callq (f2) rfl rfl ?_; cbv)
| (refine callq (f3) rfl rfl ?_; cbv)))
            all_goals
              refine ⟨(i2 + 1, z), ⟨by show z = ((i2 + 1 : Nat) : Int); (first | omega | (simp only [cst] at *; omega) | (simp only [sm] at *; omega)), by show i2 + 1 ≤ 2; omega⟩, by show 2 - (i2 + 1) < 2 - i2; omega, ?_⟩
              cbv
              repeat' (first | exact rfl | exact trivial | apply And.intro)
          · obtain ⟨L, ok, r, f1, f2, f3, f4, f5⟩ := gDg
            clear gRn hV2E hVE hk
            skip
            (repeat' (first
| (refine QC.ff (fun h => h rfl) ?_; cbv)
| (refine q1w (fun z hz => ?_); (try simp only at hz); cbv)
| (refine rqw ?_; cbv)
| (refine QC.tw ?_; cbv)
| (refine QC.tt ?_ ?_; (focus (simp only [decide_true, Bool.and_true, Bool.and_self] <;> fail)); cbv)
| (refine QC.ff ?_ ?_; (focus (simp only [decide_true, Bool.and_true, Bool.and_self, decide_false, Bool.false_and, reduceCtorEq, not_false_eq_true] <;> fail)); cbv)
| (refine QC.fw ?_; cbv)
| (refine QC.mk (fun hc => ?_) (fun hc => ?_) <;> (try dsimp only at hc) <;> cbv)
| (refine br_mk2 (fun hb => ?_) (fun hb => ?_) <;> (try subst hb) <;> cbv)
| (refine qv (i) (by (first | omega | (simp only [cst] at *; omega) | (simp only [sm] at *; omega))) ?_; cbv)
| (refine qv _ (hVi) ?_; cbv)
| (refine callq (f1) rfl rfl ?_; cbv)
| (refine callq (f2) rfl rfl ?_; cbv)
| (refine callq (f3) rfl rfl ?_; cbv)
| (refine callq (f4) rfl rfl ?_; cbv)
| (refine callq (f5) rfl rfl ?_; cbv)))
            all_goals
              refine ⟨(i + 1, z), ⟨by show z = ((i + 1 : Nat) : Int); (first | omega | (simp only [cst] at *; omega) | (simp only [sm] at *; omega)), by show i + 1 ≤ 4; omega⟩, by show 4 - (i + 1) < 4 - i; omega, ?_⟩
              cbv
              repeat' (first | exact rfl | exact trivial | apply And.intro)
    · (refine callq (hk) rfl rfl ?_; cbv; (repeat' (first
| (refine q1w (fun z hz => ?_); (try simp only at hz); cbv)
| (refine rqw ?_; cbv)
| (refine QC.tw ?_; cbv)
| (refine QC.tt ?_ ?_; (focus (simp only [decide_true, Bool.and_true, Bool.and_self] <;> fail)); cbv)
| (refine QC.ff ?_ ?_; (focus (simp only [decide_true, Bool.and_true, Bool.and_self, decide_false, Bool.false_and, reduceCtorEq, not_false_eq_true] <;> fail)); cbv)
| (refine QC.fw ?_; cbv)
| (refine QC.mk (fun hc => ?_) (fun hc => ?_) <;> (try dsimp only at hc) <;> cbv)
| (refine br_mk2 (fun hb => ?_) (fun hb => ?_) <;> (try subst hb) <;> cbv))))
      exact ⟨rfl, rfl, rfl⟩
set_option maxRecDepth 8000 in
theorem receivers_21
    (x0 : Rcv) (R0 : List SV) (hR0 : R0 = rowsB x0.ps) (hf0 : x0.fits) (hl0 : x0.ps.flatten.length ≤ 140737488351232) (p0 : Pce) (D0 : List SV) (hD0 : D0 = u8l p0.d) (hp0 : p0.fits) (Z T : List SV) (hT : T = Z.take 400)
    (st stg ak rd un : Int) (ps : List (List UInt8)) (R : List SV) (c1 : Int) (hstg : 0 ≤ stg ∧ stg ≤ 255) (hR : R = rowsB ps) (hsh : ∀ p ∈ ps, p.length ≤ 200) (hn1 : 1 ≤ ps.length ∧ ps.length ≤ 32)
    (gS : Good 11 (le 81 (.agg [.lst none T, .int .i64 0]) [] (.agg [.int .i64 st, .int .u8 stg, .lst none R, .int .u32 ak, .int .i64 rd, .int .i64 un]) (.agg [.lst none T, .int .i64 c1])))
    (rtg rcn rhv : Int) (rdn : Bool) (rps : List (List UInt8)) (Q : List SV) (c2 : Int) (hrf : Rcv.fits ⟨rtg, rcn, rps, rhv, rdn⟩) (hQ : Q = rowsB rps) (hrs : ∀ p ∈ rps, p.length ≤ 200) (hrc : rps.length ≤ 32) (hcn : 0 ≤ rcn ∧ rcn ≤ 32)
    (gC : Good 29 (le 81 (.agg [.lst none T, .int .i64 c1]) [.agg [.int .i64 st, .int .u8 stg, .lst none R, .int .u32 ak, .int .i64 rd, .int .i64 un]] (.agg [.int .u8 rtg, .int .i64 rcn, .lst none Q, .int .u32 rhv, .bool rdn]) (.agg [.lst none T, .int .i64 c2])))
    (np : Int) (hnp : np = ps.length) (n : Nat) (zn c3 : Int) (hzn : zn = n) (hnl : n < ps.length) (g3 : Good 12 (le 81 (.agg [.lst none T, .int .i64 c2]) [.int .i64 np] (.int .i64 zn) (.agg [.lst none T, .int .i64 c3])))
    (v6 c4 : Int) (hv6 : 0 ≤ v6 ∧ v6 < 6) (g4 : Good 12 (le 81 (.agg [.lst none T, .int .i64 c3]) [.int .i64 6] (.int .i64 v6) (.agg [.lst none T, .int .i64 c4])))
    (qa : Bool) (c5 : Int) (g5 : Good 30 (le 81 (.agg [.lst none T, .int .i64 c4]) [.int .i64 2] (.bool qa) (.agg [.lst none T, .int .i64 c5])))
    (c6 c7 c8 : Int) (t8 : Tp T c8) (bs : List UInt8) (hbs : bs.length ≤ 3)
    (g6 : Good 30 (le 81 (.agg [.lst none T, .int .i64 c5]) [.int .i64 4] (.bool true) (.agg [.lst none T, .int .i64 c6])))
    (gB : Good 14 (leN 81 (.agg [.lst none T, .int .i64 c6]) [.int .i64 3] (.row 1) (.agg [.lst none T, .int .i64 c7]) (.row none 5 (u8l bs))))
    (g8 : Good 12 (le 81 (.agg [.lst none T, .int .i64 c7]) [.int .i64 4] (.int .i64 2) (.agg [.lst none T, .int .i64 c8]))) :
    Good 6 (pu [x0.w R0, pceV p0 D0, .lst none Z] (.bool true)) := by
  skip
  have h0 := new_c Z T hT
  have hk := known_c
  have hRl : R.length = ps.length := by rw [hR, rowsB_len]
  obtain ⟨d, hd⟩ : ∃ d, d = ps.getD n [] := ⟨_, rfl⟩
  obtain ⟨D, hD⟩ : ∃ D, D = u8l d := ⟨_, rfl⟩
  have hRn : R[n]? = some (.lst none D) := by
    rw [hR, rowsB, List.getElem?_map, hD, hd, List.getD_eq_getElem?_getD, List.getElem?_eq_getElem hnl]; rfl
  have hdl : d.length ≤ 200 := by
    rw [hd, List.getD_eq_getElem?_getD, List.getElem?_eq_getElem hnl]
    exact hsh _ (List.getElem_mem hnl)
  have hnlR : n < R.length := by omega
  have hfl : rps.flatten.length ≤ 140737488351232 := by
    have h1 := flat_le2 rps 200 hrs
    have h2 : rps.length * 200 ≤ 32 * 200 := Nat.mul_le_mul_right _ hrc
    omega
  have hrt := hrf.tag
  have hrh := hrf.hv
  dsimp only at hrt hrh
  have hnpR : np = (R.length : Int) := by omega
  clear hd hT
  obtain ⟨BS, hBS⟩ : ∃ BS, BS = u8l bs := ⟨_, rfl⟩
  rw [← hBS] at gB
  skip
  refine Good.of Try.func6 rfl (by rfl) (by kernel_rfl) ?_
  cbv
  have hmk : True := trivial
  (repeat' (first
| (refine q1w (fun z hz => ?_); (try simp only at hz); cbv)
| (refine rqw ?_; cbv)
| (refine QC.tw ?_; cbv)
| (refine QC.tt ?_ ?_; (focus (simp only [decide_true, Bool.and_true, Bool.and_self] <;> fail)); cbv)
| (refine QC.ff ?_ ?_; (focus (simp only [decide_true, Bool.and_true, Bool.and_self, decide_false, Bool.false_and, reduceCtorEq, not_false_eq_true] <;> fail)); cbv)
| (refine QC.fw ?_; cbv)
| (refine QC.mk (fun hc => ?_) (fun hc => ?_) <;> (try dsimp only at hc) <;> cbv)
| (refine br_mk2 (fun hb => ?_) (fun hb => ?_) <;> (try subst hb) <;> cbv)
| (refine callq (h0) rfl rfl ?_; cbv)
| (refine callq (gS) rfl rfl ?_; cbv)
| (refine callq (gC) rfl rfl ?_; cbv)))
  have ez : np = z := by (first | omega | (simp only [cst] at *; omega) | (simp only [sm] at *; omega))
  subst ez
  (repeat' (first
| (refine q1w (fun z hz => ?_); (try simp only at hz); cbv)
| (refine rqw ?_; cbv)
| (refine QC.tw ?_; cbv)
| (refine QC.tt ?_ ?_; (focus (simp only [decide_true, Bool.and_true, Bool.and_self] <;> fail)); cbv)
| (refine QC.ff ?_ ?_; (focus (simp only [decide_true, Bool.and_true, Bool.and_self, decide_false, Bool.false_and, reduceCtorEq, not_false_eq_true] <;> fail)); cbv)
| (refine QC.fw ?_; cbv)
| (refine QC.mk (fun hc => ?_) (fun hc => ?_) <;> (try dsimp only at hc) <;> cbv)
| (refine br_mk2 (fun hb => ?_) (fun hb => ?_) <;> (try subst hb) <;> cbv)
| (refine callq (g3) rfl rfl ?_; cbv)
| (refine callq (g4) rfl rfl ?_; cbv)
| (refine callq (g5) rfl rfl ?_; cbv)))
  (refine qv (n, _) ⟨hzn, hRn⟩ ?_; cbv; (repeat' (first
| (refine q1w (fun z hz => ?_); (try simp only at hz); cbv)
| (refine rqw ?_; cbv)
| (refine QC.tw ?_; cbv)
| (refine QC.tt ?_ ?_; (focus (simp only [decide_true, Bool.and_true, Bool.and_self] <;> fail)); cbv)
| (refine QC.ff ?_ ?_; (focus (simp only [decide_true, Bool.and_true, Bool.and_self, decide_false, Bool.false_and, reduceCtorEq, not_false_eq_true] <;> fail)); cbv)
| (refine QC.fw ?_; cbv)
| (refine QC.mk (fun hc => ?_) (fun hc => ?_) <;> (try dsimp only at hc) <;> cbv)
| (refine br_mk2 (fun hb => ?_) (fun hb => ?_) <;> (try subst hb) <;> cbv))))
  rename_i zc hzc qt hqt
  have hqtb : 0 ≤ qt ∧ qt ≤ 255 := by (first | omega | (simp only [cst] at *; omega) | (simp only [sm] at *; omega))
  have ez : np = z := by (first | omega | (simp only [cst] at *; omega) | (simp only [sm] at *; omega))
  subst ez
  (refine callq (g6) rfl rfl ?_; cbv; (repeat' (first
| (refine q1w (fun z hz => ?_); (try simp only at hz); cbv)
| (refine rqw ?_; cbv)
| (refine QC.tw ?_; cbv)
| (refine QC.tt ?_ ?_; (focus (simp only [decide_true, Bool.and_true, Bool.and_self] <;> fail)); cbv)
| (refine QC.ff ?_ ?_; (focus (simp only [decide_true, Bool.and_true, Bool.and_self, decide_false, Bool.false_and, reduceCtorEq, not_false_eq_true] <;> fail)); cbv)
| (refine QC.fw ?_; cbv)
| (refine QC.mk (fun hc => ?_) (fun hc => ?_) <;> (try dsimp only at hc) <;> cbv)
| (refine br_mk2 (fun hb => ?_) (fun hb => ?_) <;> (try subst hb) <;> cbv))))
  (refine callq (gB) rfl rfl ?_; cbv; (repeat' (first
| (refine q1w (fun z hz => ?_); (try simp only at hz); cbv)
| (refine rqw ?_; cbv)
| (refine QC.tw ?_; cbv)
| (refine QC.tt ?_ ?_; (focus (simp only [decide_true, Bool.and_true, Bool.and_self] <;> fail)); cbv)
| (refine QC.ff ?_ ?_; (focus (simp only [decide_true, Bool.and_true, Bool.and_self, decide_false, Bool.false_and, reduceCtorEq, not_false_eq_true] <;> fail)); cbv)
| (refine QC.fw ?_; cbv)
| (refine QC.mk (fun hc => ?_) (fun hc => ?_) <;> (try dsimp only at hc) <;> cbv)
| (refine br_mk2 (fun hb => ?_) (fun hb => ?_) <;> (try subst hb) <;> cbv))))
  (refine callq (g8) rfl rfl ?_; cbv; (repeat' (first
| (refine q1w (fun z hz => ?_); (try simp only at hz); cbv)
| (refine rqw ?_; cbv)
| (refine QC.tw ?_; cbv)
| (refine QC.tt ?_ ?_; (focus (simp only [decide_true, Bool.and_true, Bool.and_self] <;> fail)); cbv)
| (refine QC.ff ?_ ?_; (focus (simp only [decide_true, Bool.and_true, Bool.and_self, decide_false, Bool.false_and, reduceCtorEq, not_false_eq_true] <;> fail)); cbv)
| (refine QC.fw ?_; cbv)
| (refine QC.mk (fun hc => ?_) (fun hc => ?_) <;> (try dsimp only at hc) <;> cbv)
| (refine br_mk2 (fun hb => ?_) (fun hb => ?_) <;> (try subst hb) <;> cbv))))
  have hzb : 1 ≤ z ∧ z ≤ 33 := by (first | omega | (simp only [cst] at *; omega) | (simp only [sm] at *; omega))
  obtain ⟨sp, hsp⟩ : ∃ sp : Rcv, sp = ⟨rtg, z, rps, rhv, rdn⟩ := ⟨_, rfl⟩
  obtain ⟨q, hqd⟩ : ∃ q : Pce, q = ⟨qt, zn, np, qa, bs⟩ := ⟨_, rfl⟩
  have hnpb : 0 ≤ np ∧ np ≤ 32 := by (first | omega | (simp only [cst] at *; omega) | (simp only [sm] at *; omega))
  have hznb : 0 ≤ zn ∧ zn ≤ 32 := by (first | omega | (simp only [cst] at *; omega) | (simp only [sm] at *; omega))
  have hq : q.fits := by rw [hqd]; exact ⟨hqtb, by dsimp only; omega, by dsimp only; omega, by dsimp only; omega⟩
  obtain ⟨E, hE0⟩ : ∃ E, E = BS := ⟨_, rfl⟩
  have hE : E = u8l q.d := by rw [hE0, hqd]; exact hBS
  skip
  have hspf : sp.fits := by
    rw [hsp]
    exact ⟨by dsimp only; omega, by dsimp only; omega, by dsimp only; omega, hrf.n, hrf.b⟩
  obtain ⟨V, hV⟩ : ∃ V : List SV, V = [x0.w R0, (⟨rtg, rcn, rps, rhv, rdn⟩ : Rcv).w Q, sp.w Q, zRV] := ⟨_, rfl⟩
  have hVE := v3_e x0 R0 hR0 hf0 hl0 ⟨rtg, rcn, rps, rhv, rdn⟩ Q hQ hrf hfl sp Q (by rw [hsp]; exact hQ) hspf (by rw [hsp]; exact hfl)
  rw [← hV] at hVE
  have hV3 : V[3]? = some zRV := by rw [hV]; rfl
  have hVl : V.length = 4 := by rw [hV]; rfl
  rw [hsp] at hV
  obtain ⟨V2, hV2⟩ : ∃ V : List SV, V = [pceV p0 D0, pceV q E] := ⟨_, rfl⟩
  have hV2E := p2_e p0 q D0 E hD0 hE hp0 hq
  rw [← hV2] at hV2E
  have hV2l : V2.length = 2 := by rw [hV2]; rfl
  rw [hqd] at hV2
  clear hsp hspf hqd hq hE
  rw [hE0] at hV2
  skip
  refine loopQF [67] (A := Nat × Int) (fun p => p.2 = p.1 ∧ p.1 ≤ 4) (fun p => 4 - p.1) (fun p => [(14, .int .i64 p.2)]) (fun p => [(67, .frz none BS), (102, .row (some 5) 55 V)]) (0, 0) ⟨rfl, by omega⟩ ?_ ?_
  · cbv
    rw [hV]
    repeat' (first | exact rfl | exact trivial | apply And.intro)
  · intro ⟨i, j⟩ hh
    have hj : j = (i : Int) := hh.1
    have hi : i ≤ 4 := hh.2
    clear hh hV
    have hmq : True := trivial
    cbv
    (repeat' (first
| (refine q1w (fun z hz => ?_); (try simp only at hz); cbv)
| (refine rqw ?_; cbv)
| (refine QC.tw ?_; cbv)
| (refine QC.tt ?_ ?_; (focus (simp only [decide_true, Bool.and_true, Bool.and_self] <;> fail)); cbv)
| (refine QC.ff ?_ ?_; (focus (simp only [decide_true, Bool.and_true, Bool.and_self, decide_false, Bool.false_and, reduceCtorEq, not_false_eq_true] <;> fail)); cbv)
| (refine QC.fw ?_; cbv)
| (refine QC.mk (fun hc => ?_) (fun hc => ?_) <;> (try dsimp only at hc) <;> cbv)
| (refine br_mk2 (fun hb => ?_) (fun hb => ?_) <;> (try subst hb) <;> cbv)))
    · have hlt : i < 4 := by (first | omega | (simp only [cst] at *; omega) | (simp only [sm] at *; omega))
      cases Nat.lt_or_ge i 3 with
      | inl h3 =>
        obtain ⟨x, X, hVi, hX, hxf, hxl⟩ := hVE i h3
        have gRn := fun p D hD hp => rrnd_e x X hX hxf p D hD hp
        have gDg := dg_e x X hX hxf hxl
        clear hX hxf hxl
        skip
        refine loopQ (A := Nat × Int) (fun p => p.2 = p.1 ∧ p.1 ≤ 2) (fun p => 2 - p.1) (fun p => [(16, .int .i64 p.2)]) (fun p => [(111, .row (some 5) 51 V2)]) (0, 0) ⟨rfl, by omega⟩ ?_ ?_
        · cbv
          rw [hV2]
          repeat' (first | exact rfl | exact trivial | apply And.intro)
        · intro ⟨i2, j2⟩ hh
          have hj2 : j2 = (i2 : Int) := hh.1
          have hi2 : i2 ≤ 2 := hh.2
          clear hh hV2
          have hmz : True := trivial
          cbv
          (repeat' (first
| (refine q1w (fun z hz => ?_); (try simp only at hz); cbv)
| (refine rqw ?_; cbv)
| (refine QC.tw ?_; cbv)
| (refine QC.tt ?_ ?_; (focus (simp only [decide_true, Bool.and_true, Bool.and_self] <;> fail)); cbv)
| (refine QC.ff ?_ ?_; (focus (simp only [decide_true, Bool.and_true, Bool.and_self, decide_false, Bool.false_and, reduceCtorEq, not_false_eq_true] <;> fail)); cbv)
| (refine QC.fw ?_; cbv)
| (refine QC.mk (fun hc => ?_) (fun hc => ?_) <;> (try dsimp only at hc) <;> cbv)
| (refine br_mk2 (fun hb => ?_) (fun hb => ?_) <;> (try subst hb) <;> cbv)))
          · have hlt2 : i2 < 2 := by (first | omega | (simp only [cst] at *; omega) | (simp only [sm] at *; omega))
            obtain ⟨p, X2, hWi, hX2, hpf⟩ := hV2E i2 hlt2
            obtain ⟨y, Y, bm, e, ok, f1, f2, f3⟩ := gRn p X2 hX2 hpf
            clear gRn gDg hV2E hVE hk hX2 hpf
            skip
            (repeat' (first
| (refine QC.ff (fun h => h rfl) ?_; cbv)
| (refine q1w (fun z hz => ?_); (try simp only at hz); cbv)
| (refine rqw ?_; cbv)
| (refine QC.tw ?_; cbv)
| (refine QC.tt ?_ ?_; (focus (simp only [decide_true, Bool.and_true, Bool.and_self] <;> fail)); cbv)
| (refine QC.ff ?_ ?_; (focus (simp only [decide_true, Bool.and_true, Bool.and_self, decide_false, Bool.false_and, reduceCtorEq, not_false_eq_true] <;> fail)); cbv)
| (refine QC.fw ?_; cbv)
| (refine QC.mk (fun hc => ?_) (fun hc => ?_) <;> (try dsimp only at hc) <;> cbv)
| (refine br_mk2 (fun hb => ?_) (fun hb => ?_) <;> (try subst hb) <;> cbv)
| (refine qv (i) (by (first | omega | (simp only [cst] at *; omega) | (simp only [sm] at *; omega))) ?_; cbv)
| (refine qv _ (hVi) ?_; cbv)
| (refine qv (i2) (by (first | omega | (simp only [cst] at *; omega) | (simp only [sm] at *; omega))) ?_; cbv)
| (refine qv _ (hWi) ?_; cbv)
| (refine callq (f1) rfl rfl ?_; cbv)
| (refine callq (f2) rfl rfl ?_; cbv)
| (refine callq (f3) rfl rfl ?_; cbv)))
            all_goals
              refine ⟨(i2 + 1, z), ⟨by show z = ((i2 + 1 : Nat) : Int); (first | omega | (simp only [cst] at *; omega) | (simp only [sm] at *; omega)), by show i2 + 1 ≤ 2; omega⟩, by show 2 - (i2 + 1) < 2 - i2; omega, ?_⟩
              cbv
              repeat' (first | exact rfl | exact trivial | apply And.intro)
          · obtain ⟨L, ok, r, f1, f2, f3, f4, f5⟩ := gDg
            clear gRn hV2E hVE hk
            skip
            (repeat' (first
| (refine QC.ff (fun h => h rfl) ?_; cbv)
| (refine q1w (fun z hz => ?_); (try simp only at hz); cbv)
| (refine rqw ?_; cbv)
| (refine QC.tw ?_; cbv)
| (refine QC.tt ?_ ?_; (focus (simp only [decide_true, Bool.and_true, Bool.and_self] <;> fail)); cbv)
| (refine QC.ff ?_ ?_; (focus (simp only [decide_true, Bool.and_true, Bool.and_self, decide_false, Bool.false_and, reduceCtorEq, not_false_eq_true] <;> fail)); cbv)
| (refine QC.fw ?_; cbv)
| (refine QC.mk (fun hc => ?_) (fun hc => ?_) <;> (try dsimp only at hc) <;> cbv)
| (refine br_mk2 (fun hb => ?_) (fun hb => ?_) <;> (try subst hb) <;> cbv)
| (refine qv (i) (by (first | omega | (simp only [cst] at *; omega) | (simp only [sm] at *; omega))) ?_; cbv)
| (refine qv _ (hVi) ?_; cbv)
| (refine callq (f1) rfl rfl ?_; cbv)
| (refine callq (f2) rfl rfl ?_; cbv)
| (refine callq (f3) rfl rfl ?_; cbv)
| (refine callq (f4) rfl rfl ?_; cbv)
| (refine callq (f5) rfl rfl ?_; cbv)))
            all_goals
              refine ⟨(i + 1, z), ⟨by show z = ((i + 1 : Nat) : Int); (first | omega | (simp only [cst] at *; omega) | (simp only [sm] at *; omega)), by show i + 1 ≤ 4; omega⟩, by show 4 - (i + 1) < 4 - i; omega, ?_⟩
              cbv
              repeat' (first | exact rfl | exact trivial | apply And.intro)
      | inr h3 =>
        have hi3 : i = 3 := by omega
        have hVi : V[i]? = some zRV := by rw [hi3]; exact hV3
        have gRn := fun p D hD hp => zrnd_e p D hD hp
        have gDg := zdg_e
        skip
        refine loopQ (A := Nat × Int) (fun p => p.2 = p.1 ∧ p.1 ≤ 2) (fun p => 2 - p.1) (fun p => [(16, .int .i64 p.2)]) (fun p => [(111, .row (some 5) 51 V2)]) (0, 0) ⟨rfl, by omega⟩ ?_ ?_
        · cbv
          rw [hV2]
          repeat' (first | exact rfl | exact trivial | apply And.intro)
        · intro ⟨i2, j2⟩ hh
          have hj2 : j2 = (i2 : Int) := hh.1
          have hi2 : i2 ≤ 2 := hh.2
          clear hh hV2
          have hmz : True := trivial
          cbv
          (repeat' (first
| (refine q1w (fun z hz => ?_); (try simp only at hz); cbv)
| (refine rqw ?_; cbv)
| (refine QC.tw ?_; cbv)
| (refine QC.tt ?_ ?_; (focus (simp only [decide_true, Bool.and_true, Bool.and_self] <;> fail)); cbv)
| (refine QC.ff ?_ ?_; (focus (simp only [decide_true, Bool.and_true, Bool.and_self, decide_false, Bool.false_and, reduceCtorEq, not_false_eq_true] <;> fail)); cbv)
| (refine QC.fw ?_; cbv)
| (refine QC.mk (fun hc => ?_) (fun hc => ?_) <;> (try dsimp only at hc) <;> cbv)
| (refine br_mk2 (fun hb => ?_) (fun hb => ?_) <;> (try subst hb) <;> cbv)))
          · have hlt2 : i2 < 2 := by (first | omega | (simp only [cst] at *; omega) | (simp only [sm] at *; omega))
            obtain ⟨p, X2, hWi, hX2, hpf⟩ := hV2E i2 hlt2
            obtain ⟨y, Y, bm, e, ok, f1, f2, f3⟩ := gRn p X2 hX2 hpf
            clear gRn gDg hV2E hVE hk hX2 hpf
            skip
            (repeat' (first
| (refine QC.ff (fun h => h rfl) ?_; cbv)
| (refine q1w (fun z hz => ?_); (try simp only at hz); cbv)
| (refine rqw ?_; cbv)
| (refine QC.tw ?_; cbv)
| (refine QC.tt ?_ ?_; (focus (simp only [decide_true, Bool.and_true, Bool.and_self] <;> fail)); cbv)
| (refine QC.ff ?_ ?_; (focus (simp only [decide_true, Bool.and_true, Bool.and_self, decide_false, Bool.false_and, reduceCtorEq, not_false_eq_true] <;> fail)); cbv)
| (refine QC.fw ?_; cbv)
| (refine QC.mk (fun hc => ?_) (fun hc => ?_) <;> (try dsimp only at hc) <;> cbv)
| (refine br_mk2 (fun hb => ?_) (fun hb => ?_) <;> (try subst hb) <;> cbv)
| (refine qv (i) (by (first | omega | (simp only [cst] at *; omega) | (simp only [sm] at *; omega))) ?_; cbv)
| (refine qv _ (hVi) ?_; cbv)
| (refine qv (i2) (by (first | omega | (simp only [cst] at *; omega) | (simp only [sm] at *; omega))) ?_; cbv)
| (refine qv _ (hWi) ?_; cbv)
| (refine callq (f1) rfl rfl ?_; cbv)
| (refine callq (f2) rfl rfl ?_; cbv)
| (refine callq (f3) rfl rfl ?_; cbv)))
            all_goals
              refine ⟨(i2 + 1, z), ⟨by show z = ((i2 + 1 : Nat) : Int); (first | omega | (simp only [cst] at *; omega) | (simp only [sm] at *; omega)), by show i2 + 1 ≤ 2; omega⟩, by show 2 - (i2 + 1) < 2 - i2; omega, ?_⟩
              cbv
              repeat' (first | exact rfl | exact trivial | apply And.intro)
          · obtain ⟨L, ok, r, f1, f2, f3, f4, f5⟩ := gDg
            clear gRn hV2E hVE hk
            skip
            (repeat' (first
| (refine QC.ff (fun h => h rfl) ?_; cbv)
| (refine q1w (fun z hz => ?_); (try simp only at hz); cbv)
| (refine rqw ?_; cbv)
| (refine QC.tw ?_; cbv)
| (refine QC.tt ?_ ?_; (focus (simp only [decide_true, Bool.and_true, Bool.and_self] <;> fail)); cbv)
| (refine QC.ff ?_ ?_; (focus (simp only [decide_true, Bool.and_true, Bool.and_self, decide_false, Bool.false_and, reduceCtorEq, not_false_eq_true] <;> fail)); cbv)
| (refine QC.fw ?_; cbv)
| (refine QC.mk (fun hc => ?_) (fun hc => ?_) <;> (try dsimp only at hc) <;> cbv)
| (refine br_mk2 (fun hb => ?_) (fun hb => ?_) <;> (try subst hb) <;> cbv)
| (refine qv (i) (by (first | omega | (simp only [cst] at *; omega) | (simp only [sm] at *; omega))) ?_; cbv)
| (refine qv _ (hVi) ?_; cbv)
| (refine callq (f1) rfl rfl ?_; cbv)
| (refine callq (f2) rfl rfl ?_; cbv)
| (refine callq (f3) rfl rfl ?_; cbv)
| (refine callq (f4) rfl rfl ?_; cbv)
| (refine callq (f5) rfl rfl ?_; cbv)))
            all_goals
              refine ⟨(i + 1, z), ⟨by show z = ((i + 1 : Nat) : Int); (first | omega | (simp only [cst] at *; omega) | (simp only [sm] at *; omega)), by show i + 1 ≤ 4; omega⟩, by show 4 - (i + 1) < 4 - i; omega, ?_⟩
              cbv
              repeat' (first | exact rfl | exact trivial | apply And.intro)
    · (refine callq (hk) rfl rfl ?_; cbv; (repeat' (first
| (refine q1w (fun z hz => ?_); (try simp only at hz); cbv)
| (refine rqw ?_; cbv)
| (refine QC.tw ?_; cbv)
| (refine QC.tt ?_ ?_; (focus (simp only [decide_true, Bool.and_true, Bool.and_self] <;> fail)); cbv)
| (refine QC.ff ?_ ?_; (focus (simp only [decide_true, Bool.and_true, Bool.and_self, decide_false, Bool.false_and, reduceCtorEq, not_false_eq_true] <;> fail)); cbv)
| (refine QC.fw ?_; cbv)
| (refine QC.mk (fun hc => ?_) (fun hc => ?_) <;> (try dsimp only at hc) <;> cbv)
| (refine br_mk2 (fun hb => ?_) (fun hb => ?_) <;> (try subst hb) <;> cbv))))
      exact ⟨rfl, rfl, rfl⟩
end Go.Proofs.Ytjhicdoigllblaa
