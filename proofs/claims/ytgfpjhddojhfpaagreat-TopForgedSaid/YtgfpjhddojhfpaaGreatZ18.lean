/- Texts put together: JC. -/
import Derived.Test.YtgfpjhddojhfpaaGreatZ03
import Derived.Test.YtgfpjhddojhfpaaGreatZ04
import Derived.Test.YtgfpjhddojhfpaaGreatZ17
namespace Go.Proofs.YtgfpjhddojhfpaaGreat
set_option linter.unusedVariables false
set_option linter.unusedSimpArgs false
open Go.RowKit
set_option maxHeartbeats 4000000
set_option linter.unusedSimpArgs false
set_option linter.unusedVariables false
theorem rdn4 (s : Sp) : rdn 4 s = rd (rd (rd (rd s))) := rfl
abbrev keyA : SV := .agg [.int .u8 17, .int .u8 18, .int .u8 19, .int .u8 20, .int .u8 21, .int .u8 22, .int .u8 23, .int .u8 24, .int .u8 25, .int .u8 26, .int .u8 27, .int .u8 28, .int .u8 29, .int .u8 30, .int .u8 31, .int .u8 32]
theorem rsum_c (bs : List UInt8) (X : List SV) (r : Int) (hX : X = u8l bs) (hl : bs.length ≤ 100000) (hr : r = sumP bs) :
    Good 119 (pu [keyA, .lst none X] (.int .u64 r)) := by
  have hl' : X.length = bs.length := by rw [hX, u8l_len]
  obtain ⟨k0, hk0⟩ : ∃ y : Int, y = lsN (keyB.take 8) := ⟨_, rfl⟩
  obtain ⟨k1, hk1⟩ : ∃ y : Int, y = lsN (keyB.drop 8) := ⟨_, rfl⟩
  have u0 : u6 k0 := by rw [hk0]; exact lsN_u6 _ (by decide)
  have u1 : u6 k1 := by rw [hk1]; exact lsN_u6 _ (by decide)
  have v0 : 0 ≤ k0 ∧ k0 ≤ 18446744073709551615 := u0
  have v1 : 0 ≤ k1 ∧ k1 ≤ 18446744073709551615 := u1
  have l0 := number_c (keyB.take 8) (by decide) (O.tk 8 [.int .u8 17, .int .u8 18, .int .u8 19, .int .u8 20, .int .u8 21, .int .u8 22, .int .u8 23, .int .u8 24, .int .u8 25, .int .u8 26, .int .u8 27, .int .u8 28, .int .u8 29, .int .u8 30, .int .u8 31, .int .u8 32]) k0 (by rw [otk]; rfl) hk0
  have l1 := number_c (keyB.drop 8) (by decide) (O.dr 8 [.int .u8 17, .int .u8 18, .int .u8 19, .int .u8 20, .int .u8 21, .int .u8 22, .int .u8 23, .int .u8 24, .int .u8 25, .int .u8 26, .int .u8 27, .int .u8 28, .int .u8 29, .int .u8 30, .int .u8 31, .int .u8 32]) k1 (by rw [odr]; rfl) hk1
  obtain ⟨A, B, C, D, W, A0, B0, C0, D0, hm, hlw, An⟩ := rsumF bs (iniP k0 k1) (iniP_ok u0 u1)
  obtain ⟨lw, hlw0⟩ : ∃ y : Int, y = lsN (bs.drop (8 * (bs.length / 8))) := ⟨_, rfl⟩
  have ulw : u6 lw := by rw [hlw0]; exact lsN_u6 _ (by rw [List.length_drop]; omega)
  have hLW : (lw + ((bs.length : Int) % 256) * 2 ^ 56 % 18446744073709551616) % 18446744073709551616 = lastW bs := by rw [hlw0]; exact lastW_add bs
  have vlw : 0 ≤ lw ∧ lw ≤ 18446744073709551615 := ulw
  have hokw := stN_ok (iniP_ok u0 u1) bs (bs.length / 8)
  refine Good.of Tryz.func119 rfl (by rfl) (by kernel_rfl) ?_
  cbv
  (repeat' (first
| (refine q1w (fun z hz => ?_); (try simp only at hz); cbv)
| (refine rqw ?_; cbv)
| (refine rqk ?_; cbv)
| (refine chpA ?_; cbv)
| (refine QC.tw ?_; cbv)
| (refine QC.t3 ?_; cbv)
| (refine QC.f3 ?_; cbv)
| (refine QC.fw ?_; cbv)
| (refine QC.mk (fun hc => ?_) (fun hc => ?_) <;> (try dsimp only at hc) <;> cbv)
| (refine br_mk2 (fun hb => ?_) (fun hb => ?_) <;> (try subst hb) <;> cbv)
| ((refine qxArr (by decide) (by decide) ?_; cbv))
| (refine callq (l0) rfl rfl ?_; cbv)
| (refine callq (l1) rfl rfl ?_; cbv)))
  rename_i a0 ga b0 gb c0 gc
  have gd := hz
  obtain ⟨w, hwn⟩ : ∃ w, w = bs.length / 8 := ⟨_, rfl⟩
  rw [← hwn] at An
  refine loopQ (A := Nat × Int) (fun p => p.2 = 8 * p.1 ∧ p.1 ≤ w) (fun p => w - p.1) (fun p => [(8, .int .i64 p.2)]) (fun p => [(7, .chunk 270 (.agg [.int .u64 (A p.1), .int .u64 (B p.1), .int .u64 (C p.1), .int .u64 (D p.1)]))]) (0, 0) ⟨rfl, by omega⟩ ?_ ?_
  · cbv
    refine ⟨?_, trivial⟩
    show Blk.chunk 270 (.agg [.int .u64 a0, .int .u64 b0, .int .u64 c0, .int .u64 z]) = Blk.chunk 270 (.agg [.int .u64 (A 0), .int .u64 (B 0), .int .u64 (C 0), .int .u64 (D 0)])
    rw [A0, B0, C0, D0, ga, gb, gc, gd]
    rfl
  · intro ⟨i, j⟩ h
    have hj : j = 8 * (i : Int) := h.1
    have hi : i ≤ w := h.2
    clear h
    have hmi := hm i
    cbv
    (repeat' (first
| (refine q1w (fun z hz => ?_); (try simp only at hz); cbv)
| (refine rqw ?_; cbv)
| (refine rqk ?_; cbv)
| (refine chpA ?_; cbv)
| (refine QC.tw ?_; cbv)
| (refine QC.t3 ?_; cbv)
| (refine QC.f3 ?_; cbv)
| (refine QC.fw ?_; cbv)
| (refine QC.mk (fun hc => ?_) (fun hc => ?_) <;> (try dsimp only at hc) <;> cbv)
| (refine br_mk2 (fun hb => ?_) (fun hb => ?_) <;> (try subst hb) <;> cbv)))
    · have hiw : i < w := by (first | omega | (simp only [cst] at *; omega) | (simp only [sm] at *; omega))
      have e1 : j.toNat = 8 * i := by (first | omega | (simp only [cst] at *; omega) | (simp only [sm] at *; omega))
      have e2 : z.toNat - j.toNat = 8 := by (first | omega | (simp only [cst] at *; omega) | (simp only [sm] at *; omega))
      refine callq (hlw i (O.sg X (O.tn j) (O.si z j)) (by rw [osg, otn, osi, hX, u8l_drop, u8l_take, e2, e1])) rfl rfl ?_
      cbv
      (repeat' (first
| (refine q1w (fun z hz => ?_); (try simp only at hz); cbv)
| (refine rqw ?_; cbv)
| (refine rqk ?_; cbv)
| (refine chpA ?_; cbv)
| (refine QC.tw ?_; cbv)
| (refine QC.t3 ?_; cbv)
| (refine QC.f3 ?_; cbv)
| (refine QC.fw ?_; cbv)
| (refine QC.mk (fun hc => ?_) (fun hc => ?_) <;> (try dsimp only at hc) <;> cbv)
| (refine br_mk2 (fun hb => ?_) (fun hb => ?_) <;> (try subst hb) <;> cbv)))
      refine callq hmi rfl rfl ?_
      cbv
      (repeat' (first
| (refine q1w (fun z hz => ?_); (try simp only at hz); cbv)
| (refine rqw ?_; cbv)
| (refine rqk ?_; cbv)
| (refine chpA ?_; cbv)
| (refine QC.tw ?_; cbv)
| (refine QC.t3 ?_; cbv)
| (refine QC.f3 ?_; cbv)
| (refine QC.fw ?_; cbv)
| (refine QC.mk (fun hc => ?_) (fun hc => ?_) <;> (try dsimp only at hc) <;> cbv)
| (refine br_mk2 (fun hb => ?_) (fun hb => ?_) <;> (try subst hb) <;> cbv)))
      refine ⟨(i + 1, z), ⟨by (first | omega | (simp only [cst] at *; omega) | (simp only [sm] at *; omega)), by (first | omega | (simp only [cst] at *; omega) | (simp only [sm] at *; omega))⟩, by (first | omega | (simp only [cst] at *; omega) | (simp only [sm] at *; omega)), ?_⟩
      cbv
      exact ⟨rfl, trivial⟩
    · have e : i = w := by (first | omega | (simp only [cst] at *; omega) | (simp only [sm] at *; omega))
      subst e
      have e1 : j.toNat = 8 * (bs.length / 8) := by (first | omega | (simp only [cst] at *; omega) | (simp only [sm] at *; omega))
      refine callq (number_c (bs.drop (8 * (bs.length / 8))) (by rw [List.length_drop]; omega) (O.dr j X) lw (by rw [odr, hX, u8l_drop, e1]) hlw0) rfl rfl ?_
      cbv
      (repeat' (first
| (refine q1w (fun z hz => ?_); (try simp only at hz); cbv)
| (refine rqw ?_; cbv)
| (refine rqk ?_; cbv)
| (refine chpA ?_; cbv)
| (refine QC.tw ?_; cbv)
| (refine QC.t3 ?_; cbv)
| (refine QC.f3 ?_; cbv)
| (refine QC.fw ?_; cbv)
| (refine QC.mk (fun hc => ?_) (fun hc => ?_) <;> (try dsimp only at hc) <;> cbv)
| (refine br_mk2 (fun hb => ?_) (fun hb => ?_) <;> (try subst hb) <;> cbv)))
      rename_i y0 f0 y1 f1 y2 f2 y3 f3
      have ez : lastW bs = z := by
        have h56 : (2 : Int) ^ Int.toNat 56 = 2 ^ 56 := rfl
        have hy0 : y0 = (bs.length : Int) := by (first | omega | (simp only [cst] at *; omega) | (simp only [sm] at *; omega))
        have hy1 : y1 = (bs.length : Int) % 256 := by rw [f1.2 (by (first | omega | (simp only [cst] at *; omega) | (simp only [sm] at *; omega))), hy0]
        have hy2 : y2 = (bs.length : Int) % 256 := by omega
        rw [← hLW, hz, f3, h56, hy2]
      rw [← hwn] at hokw
      rw [An] at hokw
      have uz : u6 z := by rw [← ez]; exact lastW_u6 bs
      obtain ⟨t, ht⟩ : ∃ y, y = mixP ⟨A i, B i, C i, D i⟩ z := ⟨_, rfl⟩
      have htk : t.Ok := by rw [ht]; exact mixP_ok hokw uz
      obtain ⟨ta, hta⟩ : ∃ y, y = t.a := ⟨_, rfl⟩
      obtain ⟨tb, htb⟩ : ∃ y, y = t.b := ⟨_, rfl⟩
      obtain ⟨tc, htc⟩ : ∃ y, y = t.c := ⟨_, rfl⟩
      obtain ⟨td, htd⟩ : ∃ y, y = t.d := ⟨_, rfl⟩
      have vtc : 0 ≤ tc ∧ tc ≤ 18446744073709551615 := by rw [htc]; exact htk.c
      have hq := word_c ⟨A i, B i, C i, D i⟩ hokw z (A i) (B i) (C i) (D i) ta tb tc td uz rfl rfl rfl rfl (by rw [hta, ht]) (by rw [htb, ht]) (by rw [htc, ht]) (by rw [htd, ht])
      refine callq hq rfl rfl ?_
      clear hq
      cbv
      (repeat' (first
| (refine q1w (fun z hz => ?_); (try simp only at hz); cbv)
| (refine rqw ?_; cbv)
| (refine rqk ?_; cbv)
| (refine chpA ?_; cbv)
| (refine QC.tw ?_; cbv)
| (refine QC.t3 ?_; cbv)
| (refine QC.f3 ?_; cbv)
| (refine QC.fw ?_; cbv)
| (refine QC.mk (fun hc => ?_) (fun hc => ?_) <;> (try dsimp only at hc) <;> cbv)
| (refine br_mk2 (fun hb => ?_) (fun hb => ?_) <;> (try subst hb) <;> cbv)
| ((refine qxArr (by decide) (by decide) ?_; cbv))))
      obtain ⟨c2, hc2⟩ : ∃ y, y = xo tc 255 := ⟨_, rfl⟩
      have e9 : c2 = z := by rw [hc2, hz]; rfl
      subst e9
      clear hz
      have hk4 : (⟨ta, tb, c2, td⟩ : Sp).Ok := ⟨by rw [hta]; exact htk.a, by rw [htb]; exact htk.b, by rw [hc2]; exact xo_u6 vtc (by unfold u6; omega), by rw [htd]; exact htk.d⟩
      obtain ⟨q1', hq1⟩ : ∃ y, y = rd ⟨ta, tb, c2, td⟩ := ⟨_, rfl⟩
      have ok1 : q1'.Ok := by rw [hq1]; exact rd_ok hk4
      obtain ⟨q2', hq2⟩ : ∃ y, y = rd q1' := ⟨_, rfl⟩
      have ok2 : q2'.Ok := by rw [hq2]; exact rd_ok ok1
      obtain ⟨q3', hq3⟩ : ∃ y, y = rd q2' := ⟨_, rfl⟩
      have ok3 : q3'.Ok := by rw [hq3]; exact rd_ok ok2
      obtain ⟨q, hq4⟩ : ∃ y, y = rd q3' := ⟨_, rfl⟩
      have hqk : q.Ok := by rw [hq4]; exact rd_ok ok3
      have hq : q = rdn 4 ⟨ta, tb, c2, td⟩ := by rw [rdn4, ← hq1, ← hq2, ← hq3, ← hq4]
      obtain ⟨a1r, ha1r⟩ : ∃ y, y = q1'.a := ⟨_, rfl⟩
      obtain ⟨b1r, hb1r⟩ : ∃ y, y = q1'.b := ⟨_, rfl⟩
      obtain ⟨c1r, hc1r⟩ : ∃ y, y = q1'.c := ⟨_, rfl⟩
      obtain ⟨d1r, hd1r⟩ : ∃ y, y = q1'.d := ⟨_, rfl⟩
      have g1 := rround_c ⟨ta, tb, c2, td⟩ hk4 ta tb c2 td a1r b1r c1r d1r rfl rfl rfl rfl (by rw [ha1r, hq1]) (by rw [hb1r, hq1]) (by rw [hc1r, hq1]) (by rw [hd1r, hq1])
      obtain ⟨a2r, ha2r⟩ : ∃ y, y = q2'.a := ⟨_, rfl⟩
      obtain ⟨b2r, hb2r⟩ : ∃ y, y = q2'.b := ⟨_, rfl⟩
      obtain ⟨c2r, hc2r⟩ : ∃ y, y = q2'.c := ⟨_, rfl⟩
      obtain ⟨d2r, hd2r⟩ : ∃ y, y = q2'.d := ⟨_, rfl⟩
      have g2 := rround_c q1' ok1 a1r b1r c1r d1r a2r b2r c2r d2r ha1r hb1r hc1r hd1r (by rw [ha2r, hq2]) (by rw [hb2r, hq2]) (by rw [hc2r, hq2]) (by rw [hd2r, hq2])
      obtain ⟨a3r, ha3r⟩ : ∃ y, y = q3'.a := ⟨_, rfl⟩
      obtain ⟨b3r, hb3r⟩ : ∃ y, y = q3'.b := ⟨_, rfl⟩
      obtain ⟨c3r, hc3r⟩ : ∃ y, y = q3'.c := ⟨_, rfl⟩
      obtain ⟨d3r, hd3r⟩ : ∃ y, y = q3'.d := ⟨_, rfl⟩
      have g3 := rround_c q2' ok2 a2r b2r c2r d2r a3r b3r c3r d3r ha2r hb2r hc2r hd2r (by rw [ha3r, hq3]) (by rw [hb3r, hq3]) (by rw [hc3r, hq3]) (by rw [hd3r, hq3])
      obtain ⟨qa, hqa⟩ : ∃ y, y = q.a := ⟨_, rfl⟩
      obtain ⟨qb, hqb⟩ : ∃ y, y = q.b := ⟨_, rfl⟩
      obtain ⟨qc, hqc⟩ : ∃ y, y = q.c := ⟨_, rfl⟩
      obtain ⟨qd, hqd⟩ : ∃ y, y = q.d := ⟨_, rfl⟩
      have g4 := rround_c q3' ok3 a3r b3r c3r d3r qa qb qc qd ha3r hb3r hc3r hd3r (by rw [hqa, hq4]) (by rw [hqb, hq4]) (by rw [hqc, hq4]) (by rw [hqd, hq4])
      have va : u6 qa := by rw [hqa]; exact hqk.a
      have vb : u6 qb := by rw [hqb]; exact hqk.b
      have vc : u6 qc := by rw [hqc]; exact hqk.c
      have vd : u6 qd := by rw [hqd]; exact hqk.d
      have va' : 0 ≤ qa ∧ qa ≤ 18446744073709551615 := va
      have vb' : 0 ≤ qb ∧ qb ≤ 18446744073709551615 := vb
      have vc' : 0 ≤ qc ∧ qc ≤ 18446744073709551615 := vc
      have vd' : 0 ≤ qd ∧ qd ≤ 18446744073709551615 := vd
      (repeat' (first
| (refine q1w (fun z hz => ?_); (try simp only at hz); cbv)
| (refine rqw ?_; cbv)
| (refine rqk ?_; cbv)
| (refine chpA ?_; cbv)
| (refine QC.tw ?_; cbv)
| (refine QC.t3 ?_; cbv)
| (refine QC.f3 ?_; cbv)
| (refine QC.fw ?_; cbv)
| (refine QC.mk (fun hc => ?_) (fun hc => ?_) <;> (try dsimp only at hc) <;> cbv)
| (refine br_mk2 (fun hb => ?_) (fun hb => ?_) <;> (try subst hb) <;> cbv)
| ((refine qxArr (by decide) (by decide) ?_; cbv))
| (refine callq (g1) rfl rfl ?_; cbv)
| (refine callq (g2) rfl rfl ?_; cbv)
| (refine callq (g3) rfl rfl ?_; cbv)
| (refine callq (g4) rfl rfl ?_; cbv)))
      obtain ⟨x1, hx1⟩ : ∃ y, y = xo qa qb := ⟨_, rfl⟩
      have ux1 : u6 x1 := by rw [hx1]; exact xo_u6 va vb
      have e9 : x1 = z := by rw [hx1, hz]; rfl
      subst e9
      have vx1 : 0 ≤ x1 ∧ x1 ≤ 18446744073709551615 := ux1
      (repeat' (first
| (refine q1w (fun z hz => ?_); (try simp only at hz); cbv)
| (refine rqw ?_; cbv)
| (refine rqk ?_; cbv)
| (refine chpA ?_; cbv)
| (refine QC.tw ?_; cbv)
| (refine QC.t3 ?_; cbv)
| (refine QC.f3 ?_; cbv)
| (refine QC.fw ?_; cbv)
| (refine QC.mk (fun hc => ?_) (fun hc => ?_) <;> (try dsimp only at hc) <;> cbv)
| (refine br_mk2 (fun hb => ?_) (fun hb => ?_) <;> (try subst hb) <;> cbv)
| ((refine qxArr (by decide) (by decide) ?_; cbv))))
      obtain ⟨x2, hx2⟩ : ∃ y, y = xo x1 qc := ⟨_, rfl⟩
      have ux2 : u6 x2 := by rw [hx2]; exact xo_u6 ux1 vc
      have e9 : x2 = z := by rw [hx2, hz]; rfl
      subst e9
      have vx2 : 0 ≤ x2 ∧ x2 ≤ 18446744073709551615 := ux2
      (repeat' (first
| (refine q1w (fun z hz => ?_); (try simp only at hz); cbv)
| (refine rqw ?_; cbv)
| (refine rqk ?_; cbv)
| (refine chpA ?_; cbv)
| (refine QC.tw ?_; cbv)
| (refine QC.t3 ?_; cbv)
| (refine QC.f3 ?_; cbv)
| (refine QC.fw ?_; cbv)
| (refine QC.mk (fun hc => ?_) (fun hc => ?_) <;> (try dsimp only at hc) <;> cbv)
| (refine br_mk2 (fun hb => ?_) (fun hb => ?_) <;> (try subst hb) <;> cbv)
| ((refine qxArr (by decide) (by decide) ?_; cbv))))
      refine ⟨?_, rfl, rfl⟩
      show SV.int .u64 z = .int .u64 r
      have hfin : r = xo x2 qd := by
        rw [hr]
        exact sum_fin bs k0 k1 hk0 hk1 t (by rw [← hwn, An, ez, ht]) q (by rw [hq, hc2, hta, htb, htc, htd]) x1 x2 qd (by rw [hx1, hqa, hqb]) (by rw [hx2, hqc]) hqd
      rw [hfin, hz]
      rfl
theorem tag4 (v : Int) (b0 b1 b2 b3 v1 v2 v3 : Int) (h0 : b0 = v % 256) (h1 : v1 = v / 256) (g1 : b1 = v1 % 256) (h2 : v2 = v1 / 256) (g2 : b2 = v2 % 256) (h3 : v3 = v2 / 256) (g3 : b3 = v3 % 256) :
    [SV.int .u8 b0, .int .u8 b1, .int .u8 b2, .int .u8 b3] = u8l (tagN v 4) := by
  have e : tagN v 4 = [tagB v 0, tagB v 1, tagB v 2, tagB v 3] := rfl
  have p0 : (2 : Int) ^ (8 * 0) = 1 := rfl
  have p1 : (2 : Int) ^ (8 * 1) = 256 := rfl
  have p2 : (2 : Int) ^ (8 * 2) = 65536 := rfl
  have p3 : (2 : Int) ^ (8 * 3) = 16777216 := rfl
  rw [e]
  show _ = [SV.int .u8 ((tagB v 0).toNat : Nat), .int .u8 ((tagB v 1).toNat : Nat), .int .u8 ((tagB v 2).toNat : Nat), .int .u8 ((tagB v 3).toNat : Nat)]
  have t0 := tagB_val v 0
  have t1 := tagB_val v 1
  have t2 := tagB_val v 2
  have t3 := tagB_val v 3
  rw [p0] at t0
  rw [p1] at t1
  rw [p2] at t2
  rw [p3] at t3
  have e0 : b0 = ((tagB v 0).toNat : Int) := by omega
  have e1 : b1 = ((tagB v 1).toNat : Int) := by omega
  have e2 : b2 = ((tagB v 2).toNat : Int) := by omega
  have e3 : b3 = ((tagB v 3).toNat : Int) := by omega
  rw [e0, e1, e2, e3]
set_option maxRecDepth 20000 in
theorem rtag_c (bs : List UInt8) (X R : List SV) (hX : X = u8l bs) (hl : bs.length ≤ 100000) (hR : R = u8l (tagP bs 4)) :
    Good 58 (nu [keyA, .lst none X, .int .i64 4] (.tup [.row 1, .bool true]) (.row none 5 R)) := by
  obtain ⟨v, hv⟩ : ∃ v, v = sumP bs := ⟨_, rfl⟩
  have hvu : 0 ≤ v ∧ v ≤ 18446744073709551615 := by rw [hv]; exact sumP_u6 bs
  have hs := rsum_c bs X v hX hl hv
  have hRv : R = u8l (tagN v 4) := by rw [hR, hv]; rfl
  have p8 : (2 : Int) ^ Int.toNat 8 = 256 := rfl
  have p8' : (2 : Int) ^ (8 : Nat) = 256 := rfl
  clear hR
  refine Good.of Tryz.func58 rfl (by rfl) (by kernel_rfl) ?_
  cbv
  (repeat' (first
| (refine q1w (fun z hz => ?_); (try simp only at hz); cbv)
| (refine rqw ?_; cbv)
| (refine rqk ?_; cbv)
| (refine chpA ?_; cbv)
| (refine QC.tw ?_; cbv)
| (refine QC.t3 ?_; cbv)
| (refine QC.f3 ?_; cbv)
| (refine QC.fw ?_; cbv)
| (refine QC.mk (fun hc => ?_) (fun hc => ?_) <;> (try dsimp only at hc) <;> cbv)
| (refine br_mk2 (fun hb => ?_) (fun hb => ?_) <;> (try subst hb) <;> cbv)
| (refine callq (hs) rfl rfl ?_; cbv)))
  refine unrollq 5 ?_
  cbv
  (repeat' (first
| (refine q1w (fun z hz => ?_); (try simp only at hz); cbv)
| (refine rqw ?_; cbv)
| (refine rqk ?_; cbv)
| (refine chpA ?_; cbv)
| (refine QC.tw ?_; cbv)
| (refine QC.t3 ?_; cbv)
| (refine QC.f3 ?_; cbv)
| (refine QC.fw ?_; cbv)
| (refine QC.mk (fun hc => ?_) (fun hc => ?_) <;> (try dsimp only at hc) <;> cbv)
| (refine br_mk2 (fun hb => ?_) (fun hb => ?_) <;> (try subst hb) <;> cbv)
| ((simp only [cwn, List.cons_append, List.nil_append]; cbv))))
  rename_i b0 h0 v1 h1 i1 _ b1 g1 v2 h2 i2 _ b2 g2 v3 h3 i3 _ b3 g3 v4 h4
  rw [p8] at h1 h2 h3
  refine ⟨rfl, ?_, rfl⟩
  show Blk.row none _ [SV.int .u8 b0, .int .u8 b1, .int .u8 b2, .int .u8 b3] = .row none _ R
  rw [hRv, ← tag4 v b0 b1 b2 b3 v1 v2 v3 h0 h1 g1 h2 g2 h3 g3]
theorem rverify_c (bs tag : List UInt8) (X Y : List SV) (hX : X = u8l bs) (hl : bs.length ≤ 100000) (hY : Y = u8l tag) (ht : tag.length = 4) (r : Bool) (hr : r = decide (tagP bs 4 = tag)) :
    Good 15 (pu [keyA, .lst none X, .lst none Y] (.bool r)) := by
  have hyl : Y.length = tag.length := by rw [hY, u8l_len]
  obtain ⟨R, hR⟩ : ∃ R, R = u8l (tagP bs 4) := ⟨_, rfl⟩
  have h1 := rtag_c bs X R hX hl hR
  have h2 := same_c (tagP bs 4) tag R Y r hR hY (by rw [tagP_len]; omega) (by omega) hr
  clear hR hY hX hr
  refine Good.of Tryz.func15 rfl (by rfl) (by kernel_rfl) ?_
  cbv
  (repeat' (first
| (refine q1w (fun z hz => ?_); (try simp only at hz); cbv)
| (refine rqw ?_; cbv)
| (refine rqk ?_; cbv)
| (refine chpA ?_; cbv)
| (refine QC.tw ?_; cbv)
| (refine QC.t3 ?_; cbv)
| (refine QC.f3 ?_; cbv)
| (refine QC.fw ?_; cbv)
| (refine QC.mk (fun hc => ?_) (fun hc => ?_) <;> (try dsimp only at hc) <;> cbv)
| (refine br_mk2 (fun hb => ?_) (fun hb => ?_) <;> (try subst hb) <;> cbv)))
  have hz1 : (4 : Int) = z := by (first | omega | (simp only [cst] at *; omega) | (simp only [sm] at *; omega))
  subst hz1
  (repeat' (first
| (refine q1w (fun z hz => ?_); (try simp only at hz); cbv)
| (refine rqw ?_; cbv)
| (refine rqk ?_; cbv)
| (refine chpA ?_; cbv)
| (refine QC.tw ?_; cbv)
| (refine QC.t3 ?_; cbv)
| (refine QC.f3 ?_; cbv)
| (refine QC.fw ?_; cbv)
| (refine QC.mk (fun hc => ?_) (fun hc => ?_) <;> (try dsimp only at hc) <;> cbv)
| (refine br_mk2 (fun hb => ?_) (fun hb => ?_) <;> (try subst hb) <;> cbv)
| (refine callq (h1) rfl rfl ?_; cbv)
| (refine callq (h2) rfl rfl ?_; cbv)))
  exact ⟨rfl, rfl, rfl⟩
end Go.Proofs.YtgfpjhddojhfpaaGreat
