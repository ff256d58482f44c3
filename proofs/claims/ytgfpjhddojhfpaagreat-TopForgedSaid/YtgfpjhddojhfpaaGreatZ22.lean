/- Texts put together: JH. -/
import Derived.Test.YtgfpjhddojhfpaaGreatZ21
namespace Go.Proofs.YtgfpjhddojhfpaaGreat
set_option linter.unusedVariables false
set_option linter.unusedSimpArgs false
open Go.RowKit
set_option maxHeartbeats 4000000
set_option linter.unusedSimpArgs false
set_option linter.unusedVariables false
theorem xor8 {a b : Int} (ha : 0 ≤ a ∧ a ≤ 255) (hb : 0 ≤ b ∧ b ≤ 255) (z : Int) (hz : z = ((a.toNat ^^^ b.toNat : Nat) : Int)) : 0 ≤ z ∧ z ≤ 255 := by
  have := Nat.xor_lt_two_pow (x := a.toNat) (y := b.toNat) (n := 8) (by omega) (by omega)
  omega
theorem u8l_put (l : List UInt8) (i : Nat) (z : Int) (hz : 0 ≤ z ∧ z ≤ 255) : (u8l l).set i (.int .u8 z) = u8l (l.set i (b8 z)) := by
  rw [← u8l_set, b8_val hz]
set_option maxRecDepth 20000 in
theorem forged_c (zs : List Int) (hzs : ∀ v ∈ zs, -9223372036854775808 ≤ v ∧ v ≤ 9223372036854775807) (f : Fr) (hf : FrIn f) (a b : Int) (ha : -9223372036854775808 ≤ a ∧ a ≤ 9223372036854775807) (hb : 0 ≤ b ∧ b ≤ 255) :
    Good 3 (pu [.lst none (ints .i64 zs), .agg f.cells, .int .i64 a, .int .u8 b] (.bool true)) := by
  obtain ⟨k, ac, pe, se, q, pn, dm, ds, de, um, us, ue, ct, ky, p, m⟩ := f
  have ok1 : (Fr.mk k ac pe true q pn dm ds de 3 0 144115188075855873 ct 1 p m).Ok := ⟨hf.ok.q, hf.ok.pn, hf.ok.ds, hf.ok.de, by show (0 : Int) ≤ 0 ∧ (0 : Int) ≤ 65535; omega, by show u6 144115188075855873; unfold u6; omega, hf.ok.ct, by show (0 : Int) ≤ 1 ∧ (1 : Int) ≤ 255; omega⟩
  have hp : p.length ≤ 140737488351232 := hf.p
  have hm : m.length ≤ 140737488351232 := hf.m
  clear hf
  obtain ⟨P1, hP1⟩ : ∃ P1, P1 = u8l p := ⟨_, rfl⟩
  obtain ⟨M1, hM1⟩ : ∃ M1, M1 = u8l m := ⟨_, rfl⟩
  obtain ⟨Z, hZ⟩ : ∃ Z, Z = ints .i64 zs := ⟨_, rfl⟩
  show Good _ (pu [.lst none (ints .i64 zs), .agg [.int .i64 k, .bool ac, .bool pe, .bool se, .int .u8 q, .int .u16 pn, .int .i64 dm, .int .u16 ds, .int .u64 de, .int .i64 um, .int .u16 us, .int .u64 ue, .int .u32 ct, .int .u8 ky, .lst none (u8l p), .lst none (u8l m)], .int .i64 a, .int .u8 b] (.bool true))
  rw [← hZ, ← hP1, ← hM1]
  obtain ⟨R, hR⟩ : ∃ R, R = (ints .i64 zs).take 400 := ⟨_, rfl⟩
  have n1 := new_c (ints .i64 zs) R hR
  rw [← hZ] at n1
  have tp : Tp R 0 := ⟨⟨zs.take 400, by rw [hR]; simp [ints, List.map_take], fun v hv => hzs v (List.mem_of_mem_take hv), by rw [List.length_take]; omega⟩, by omega⟩
  obtain ⟨bs, t2, hbs, _, n2⟩ := bytes_e tp 60 (by omega)
  have hbs : bs.length ≤ 60 := by omega
  obtain ⟨B, hB⟩ : ∃ B, B = u8l bs := ⟨_, rfl⟩
  rw [← hB] at n2
  obtain ⟨T, hT⟩ : ∃ T, T = tagP (lawF true 1 1 bs []).hdr 4 := ⟨_, rfl⟩
  have hTl : T.length = 4 := by rw [hT, tagP_len]
  obtain ⟨E0, hE0⟩ : ∃ E0, E0 = u8l (lawF true 1 1 bs T).enc := ⟨_, rfl⟩
  have n3 := sealed_c bs B hB hbs T hT E0 hE0
  obtain ⟨TS, hTS⟩ : ∃ y, y = u8l T := ⟨_, rfl⟩
  have n4 := decode_own 1 true false 0 1 3 0 144115188075855874 3 0 144115188075855873 1 1 B TS bs T hB hTS (lawF_ok bs T true 1 1 (by omega) (by omega)) (lawF_valid bs T hbs hTl 1 1) (by omega) E0 hE0
  have n5 := decode_ownM 1 true false 0 1 3 0 144115188075855874 3 0 144115188075855873 1 1 B TS bs T hB hTS (lawF_ok bs T true 1 1 (by omega) (by omega)) (lawF_valid bs T hbs hTl 1 1) (by omega) E0 hE0
  have hBl : B.length = bs.length := by rw [hB, u8l_len]
  have hTSl : TS.length = 4 := by rw [hTS, u8l_len, hTl]
  have hB1 : O.ln B = bs.length := by rw [oln]; omega
  have hT1 : O.ln TS = 4 := by rw [oln]; omega
  obtain ⟨N4, hN4⟩ : ∃ y : Int, y = bs.length + 4 := ⟨_, rfl⟩
  have n6 := mod_c a N4 ha (by omega)
  obtain ⟨r, hr⟩ : ∃ r, r = a % N4 := ⟨_, rfl⟩
  have hr0 : 0 ≤ r ∧ r < N4 := by rw [hr]; exact ⟨Int.emod_nonneg _ (by omega), Int.emod_lt_of_pos _ (by omega)⟩
  rw [← hr] at n6
  clear hr hE0 hT hR tp hzs
  by_cases hc : r < bs.length
  · obtain ⟨j, hj⟩ : ∃ j : Nat, r = (j : Int) := Int.eq_ofNat_of_zero_le hr0.1
    have hjl : j < bs.length := by omega
    obtain ⟨e0, he0⟩ : ∃ y : Int, y = (bs.getD j 0).toNat := ⟨_, rfl⟩
    have be0 : 0 ≤ e0 ∧ e0 ≤ 255 := by have := (bs.getD j 0).toNat_lt; omega
    have hel : B[j]? = some (.int .u8 e0) := by rw [hB, he0]; exact u8l_at j hjl
    refine Good.of Tryz.func3 rfl (by rfl) (by kernel_rfl) ?_
    cbv
    (repeat' (first
| (refine q1w (fun z hz => ?_); (try simp only at hz); cbv)
| (refine rqw ?_; cbv)
| (refine rqk ?_; cbv)
| (refine chpA ?_; cbv)
| (refine QC.tw ?_; cbv)
| (refine QC.t3 ?_; cbv)
| (refine QC.f3 ?_; cbv)
| (refine QC.fw ?_; cbv)
| (refine QC.mk (fun hc => ?_) (fun hc => ?_) <;> (try dsimp only at hc) <;> cbv)
| (refine br_mk2 (fun hb => ?_) (fun hb => ?_) <;> (try subst hb) <;> cbv)
| ((refine qvIdx _ (by rfl) (by decide) ?_; cbv))
| (refine callq (w7_0) rfl rfl ?_; cbv)
| (refine callq (n1) rfl rfl ?_; cbv)
| (refine callq (n2) rfl rfl ?_; cbv)
| (refine callq (n3) rfl rfl ?_; cbv)
| (refine callq (n4) rfl rfl ?_; cbv)))
    have ez : N4 = z := by (first | omega | (simp only [cst] at *; omega) | (simp only [sm] at *; omega))
    subst ez
    (repeat' (first
| (refine q1w (fun z hz => ?_); (try simp only at hz); cbv)
| (refine rqw ?_; cbv)
| (refine rqk ?_; cbv)
| (refine chpA ?_; cbv)
| (refine QC.tw ?_; cbv)
| (refine QC.t3 ?_; cbv)
| (refine QC.f3 ?_; cbv)
| (refine QC.fw ?_; cbv)
| (refine QC.mk (fun hc => ?_) (fun hc => ?_) <;> (try dsimp only at hc) <;> cbv)
| (refine br_mk2 (fun hb => ?_) (fun hb => ?_) <;> (try subst hb) <;> cbv)
| (refine callq (n6) rfl rfl ?_; cbv)
| (refine callq (w13_0) rfl rfl ?_; cbv)))
    refine qv j ⟨hj, by rw [hB1]; exact hjl⟩ ?_
    cbv
    (repeat' (first
| (refine q1w (fun z hz => ?_); (try simp only at hz); cbv)
| (refine rqw ?_; cbv)
| (refine rqk ?_; cbv)
| (refine chpA ?_; cbv)
| (refine QC.tw ?_; cbv)
| (refine QC.t3 ?_; cbv)
| (refine QC.f3 ?_; cbv)
| (refine QC.fw ?_; cbv)
| (refine QC.mk (fun hc => ?_) (fun hc => ?_) <;> (try dsimp only at hc) <;> cbv)
| (refine br_mk2 (fun hb => ?_) (fun hb => ?_) <;> (try subst hb) <;> cbv)))
    refine qv _ hel ?_
    cbv
    (repeat' (first
| (refine q1w (fun z hz => ?_); (try simp only at hz); cbv)
| (refine rqw ?_; cbv)
| (refine rqk ?_; cbv)
| (refine chpA ?_; cbv)
| (refine QC.tw ?_; cbv)
| (refine QC.t3 ?_; cbv)
| (refine QC.f3 ?_; cbv)
| (refine QC.fw ?_; cbv)
| (refine QC.mk (fun hc => ?_) (fun hc => ?_) <;> (try dsimp only at hc) <;> cbv)
| (refine br_mk2 (fun hb => ?_) (fun hb => ?_) <;> (try subst hb) <;> cbv)))
    refine qv j ⟨hj, by rw [hB1]; exact hjl⟩ ?_
    cbv
    (repeat' (first
| (refine q1w (fun z hz => ?_); (try simp only at hz); cbv)
| (refine rqw ?_; cbv)
| (refine rqk ?_; cbv)
| (refine chpA ?_; cbv)
| (refine QC.tw ?_; cbv)
| (refine QC.t3 ?_; cbv)
| (refine QC.f3 ?_; cbv)
| (refine QC.fw ?_; cbv)
| (refine QC.mk (fun hc => ?_) (fun hc => ?_) <;> (try dsimp only at hc) <;> cbv)
| (refine br_mk2 (fun hb => ?_) (fun hb => ?_) <;> (try subst hb) <;> cbv)
| (refine callq (w13_0) rfl rfl ?_; cbv)))
    have hz8 := xor8 be0 hb z hz
    have hP0 : O.st B j (.int .u8 z) = u8l (bs.set j (b8 z)) := by rw [ost, hB, u8l_put bs j z hz8]
    obtain ⟨P0, hP0'⟩ : ∃ P0, P0 = u8l (bs.set j (b8 z)) := ⟨_, rfl⟩
    rw [← hP0'] at hP0
    obtain ⟨K, Q, N, D, S, A, C, W1, W2, AC, PE, V, RR, G, PP, MM, HH, EE, PB, hF1, hF2⟩ := ffacts2 k ac pe q pn dm ds de ct p m ok1 (by omega) (by omega) (bs.set j (b8 z)) T (by rw [List.length_set]; exact hbs) hTl P0 TS P1 M1 hP0' hTS hP1 hM1
    have hF3 : ∀ i, i < 2 → [frQ 1 true false 0 1 3 0 144115188075855874 1 (O.st B j (.int .u8 z)) TS, frQ k ac pe q pn dm ds de ct P1 M1][i]? = some (frQ (K i) (AC i) (PE i) (Q i) (N i) (D i) (S i) (A i) (C i) (PP i) (MM i)) := by rw [hP0]; exact hF1
    refine loopQF [111] (A := Nat × Int) (fun p => p.2 = p.1 ∧ p.1 ≤ 2) (fun p => 2 - p.1) (fun p => [(19, .int .i64 p.2)]) (fun p => []) (0, 0) ⟨rfl, by omega⟩ ?_ ?_
    · cbv
    · intro ⟨i, x⟩ h
      have hx : x = (i : Int) := h.1
      have hi : i ≤ 2 := h.2
      clear h
      have f1 := hF3 i
      have f2 := hF2 i
      cbv
      (repeat' (first
| (refine q1w (fun z hz => ?_); (try simp only at hz); cbv)
| (refine rqw ?_; cbv)
| (refine rqk ?_; cbv)
| (refine chpA ?_; cbv)
| (refine QC.tw ?_; cbv)
| (refine QC.t3 ?_; cbv)
| (refine QC.f3 ?_; cbv)
| (refine QC.fw ?_; cbv)
| (refine QC.mk (fun hc => ?_) (fun hc => ?_) <;> (try dsimp only at hc) <;> cbv)
| (refine br_mk2 (fun hb => ?_) (fun hb => ?_) <;> (try subst hb) <;> cbv)))
      · have hi2 : i < 2 := by (first | omega | (simp only [cst] at *; omega) | (simp only [sm] at *; omega))
        have g := f2 hi2
        have f1' := f1 hi2
        have g6 := g.c6
        cases hv : V i with
        | false =>
          rw [hv] at g
          have g1 := g.c1
          have g7 := g.c7 rfl
          clear g g6
          (repeat' (first
| (refine q1w (fun z hz => ?_); (try simp only at hz); cbv)
| (refine rqw ?_; cbv)
| (refine rqk ?_; cbv)
| (refine chpA ?_; cbv)
| (refine QC.tw ?_; cbv)
| (refine QC.t3 ?_; cbv)
| (refine QC.f3 ?_; cbv)
| (refine QC.fw ?_; cbv)
| (refine QC.mk (fun hc => ?_) (fun hc => ?_) <;> (try dsimp only at hc) <;> cbv)
| (refine br_mk2 (fun hb => ?_) (fun hb => ?_) <;> (try subst hb) <;> cbv)
| ((refine qv (i, _) ⟨by show x = (i : Int); (first | omega | (simp only [cst] at *; omega) | (simp only [sm] at *; omega)), f1'⟩ ?_; cbv))
| (refine callq (g1) rfl rfl ?_; cbv)
| (refine callq (g7) rfl rfl ?_; cbv)))
          refine ⟨(i + 1, z), ⟨by (first | omega | (simp only [cst] at *; omega) | (simp only [sm] at *; omega)), by (first | omega | (simp only [cst] at *; omega) | (simp only [sm] at *; omega))⟩, by (first | omega | (simp only [cst] at *; omega) | (simp only [sm] at *; omega)), ?_⟩
          cbv
        | true =>
          rw [hv] at g
          have g1 := g.c1
          have g2 := g.c2 rfl
          have g3 := g.c3 rfl
          have g4 := g.c4 rfl
          have g5 := g.c5 rfl
          have g6 := g6 hv
          clear g
          obtain ⟨gv, hgv⟩ : ∃ y, y = G i := ⟨_, rfl⟩
          obtain ⟨rv, hrv⟩ : ∃ y, y = RR i := ⟨_, rfl⟩
          rw [← hgv] at g5 g6
          rw [← hrv] at g3 g6
          clear hgv hrv
          (repeat' (first
| (refine q1w (fun z hz => ?_); (try simp only at hz); cbv)
| (refine rqw ?_; cbv)
| (refine rqk ?_; cbv)
| (refine chpA ?_; cbv)
| (refine QC.tw ?_; cbv)
| (refine QC.t3 ?_; cbv)
| (refine QC.f3 ?_; cbv)
| (refine QC.fw ?_; cbv)
| (refine QC.mk (fun hc => ?_) (fun hc => ?_) <;> (try dsimp only at hc) <;> cbv)
| (refine br_mk2 (fun hb => ?_) (fun hb => ?_) <;> (try subst hb) <;> cbv)
| ((refine qv (i, _) ⟨by show x = (i : Int); (first | omega | (simp only [cst] at *; omega) | (simp only [sm] at *; omega)), f1'⟩ ?_; cbv))
| (refine callq (g1) rfl rfl ?_; cbv)
| (refine callq (w16_0) rfl rfl ?_; cbv)
| (refine callq (g2) rfl rfl ?_; cbv)
| (refine callq (g3) rfl rfl ?_; cbv)
| (refine callq (g4) rfl rfl ?_; cbv)
| (refine callq (g5) rfl rfl ?_; cbv)))
          all_goals first
            | (have h6 := g6 rfl; cases h6; done)
            | (refine ⟨(i + 1, z), ⟨by (first | omega | (simp only [cst] at *; omega) | (simp only [sm] at *; omega)), by (first | omega | (simp only [cst] at *; omega) | (simp only [sm] at *; omega))⟩, by (first | omega | (simp only [cst] at *; omega) | (simp only [sm] at *; omega)), ?_⟩
               cbv)
      · (refine callq (w20_0) rfl rfl ?_; cbv; (repeat' (first
| (refine q1w (fun z hz => ?_); (try simp only at hz); cbv)
| (refine rqw ?_; cbv)
| (refine rqk ?_; cbv)
| (refine chpA ?_; cbv)
| (refine QC.tw ?_; cbv)
| (refine QC.t3 ?_; cbv)
| (refine QC.f3 ?_; cbv)
| (refine QC.fw ?_; cbv)
| (refine QC.mk (fun hc => ?_) (fun hc => ?_) <;> (try dsimp only at hc) <;> cbv)
| (refine br_mk2 (fun hb => ?_) (fun hb => ?_) <;> (try subst hb) <;> cbv))))
        exact ⟨rfl, rfl, rfl⟩
  · obtain ⟨j, hj⟩ : ∃ j : Nat, r - bs.length = (j : Int) := Int.eq_ofNat_of_zero_le (by omega)
    have hjl : j < 4 := by omega
    obtain ⟨e0, he0⟩ : ∃ y : Int, y = (T.getD j 0).toNat := ⟨_, rfl⟩
    have be0 : 0 ≤ e0 ∧ e0 ≤ 255 := by have := (T.getD j 0).toNat_lt; omega
    have hel : TS[j]? = some (.int .u8 e0) := by rw [hTS, he0]; exact u8l_at j (by omega)
    refine Good.of Tryz.func3 rfl (by rfl) (by kernel_rfl) ?_
    cbv
    (repeat' (first
| (refine q1w (fun z hz => ?_); (try simp only at hz); cbv)
| (refine rqw ?_; cbv)
| (refine rqk ?_; cbv)
| (refine chpA ?_; cbv)
| (refine QC.tw ?_; cbv)
| (refine QC.t3 ?_; cbv)
| (refine QC.f3 ?_; cbv)
| (refine QC.fw ?_; cbv)
| (refine QC.mk (fun hc => ?_) (fun hc => ?_) <;> (try dsimp only at hc) <;> cbv)
| (refine br_mk2 (fun hb => ?_) (fun hb => ?_) <;> (try subst hb) <;> cbv)
| ((refine qvIdx _ (by rfl) (by decide) ?_; cbv))
| (refine callq (w7_0) rfl rfl ?_; cbv)
| (refine callq (n1) rfl rfl ?_; cbv)
| (refine callq (n2) rfl rfl ?_; cbv)
| (refine callq (n3) rfl rfl ?_; cbv)
| (refine callq (n5) rfl rfl ?_; cbv)))
    have ez : N4 = z := by (first | omega | (simp only [cst] at *; omega) | (simp only [sm] at *; omega))
    subst ez
    (repeat' (first
| (refine q1w (fun z hz => ?_); (try simp only at hz); cbv)
| (refine rqw ?_; cbv)
| (refine rqk ?_; cbv)
| (refine chpA ?_; cbv)
| (refine QC.tw ?_; cbv)
| (refine QC.t3 ?_; cbv)
| (refine QC.f3 ?_; cbv)
| (refine QC.fw ?_; cbv)
| (refine QC.mk (fun hc => ?_) (fun hc => ?_) <;> (try dsimp only at hc) <;> cbv)
| (refine br_mk2 (fun hb => ?_) (fun hb => ?_) <;> (try subst hb) <;> cbv)
| (refine callq (n6) rfl rfl ?_; cbv)
| (refine callq (w13_0) rfl rfl ?_; cbv)))
    refine qv j ⟨by (first | omega | (simp only [cst] at *; omega) | (simp only [sm] at *; omega)), by rw [hT1]; exact hjl⟩ ?_
    cbv
    (repeat' (first
| (refine q1w (fun z hz => ?_); (try simp only at hz); cbv)
| (refine rqw ?_; cbv)
| (refine rqk ?_; cbv)
| (refine chpA ?_; cbv)
| (refine QC.tw ?_; cbv)
| (refine QC.t3 ?_; cbv)
| (refine QC.f3 ?_; cbv)
| (refine QC.fw ?_; cbv)
| (refine QC.mk (fun hc => ?_) (fun hc => ?_) <;> (try dsimp only at hc) <;> cbv)
| (refine br_mk2 (fun hb => ?_) (fun hb => ?_) <;> (try subst hb) <;> cbv)))
    refine qv _ hel ?_
    cbv
    (repeat' (first
| (refine q1w (fun z hz => ?_); (try simp only at hz); cbv)
| (refine rqw ?_; cbv)
| (refine rqk ?_; cbv)
| (refine chpA ?_; cbv)
| (refine QC.tw ?_; cbv)
| (refine QC.t3 ?_; cbv)
| (refine QC.f3 ?_; cbv)
| (refine QC.fw ?_; cbv)
| (refine QC.mk (fun hc => ?_) (fun hc => ?_) <;> (try dsimp only at hc) <;> cbv)
| (refine br_mk2 (fun hb => ?_) (fun hb => ?_) <;> (try subst hb) <;> cbv)))
    refine qv j ⟨by (first | omega | (simp only [cst] at *; omega) | (simp only [sm] at *; omega)), by rw [hT1]; exact hjl⟩ ?_
    cbv
    (repeat' (first
| (refine q1w (fun z hz => ?_); (try simp only at hz); cbv)
| (refine rqw ?_; cbv)
| (refine rqk ?_; cbv)
| (refine chpA ?_; cbv)
| (refine QC.tw ?_; cbv)
| (refine QC.t3 ?_; cbv)
| (refine QC.f3 ?_; cbv)
| (refine QC.fw ?_; cbv)
| (refine QC.mk (fun hc => ?_) (fun hc => ?_) <;> (try dsimp only at hc) <;> cbv)
| (refine br_mk2 (fun hb => ?_) (fun hb => ?_) <;> (try subst hb) <;> cbv)
| (refine callq (w13_0) rfl rfl ?_; cbv)))
    have hz8 := xor8 be0 hb z hz
    have hP0 : O.st TS j (.int .u8 z) = u8l (T.set j (b8 z)) := by rw [ost, hTS, u8l_put T j z hz8]
    obtain ⟨P0, hP0'⟩ : ∃ P0, P0 = u8l (T.set j (b8 z)) := ⟨_, rfl⟩
    rw [← hP0'] at hP0
    obtain ⟨K, Q, N, D, S, A, C, W1, W2, AC, PE, V, RR, G, PP, MM, HH, EE, PB, hF1, hF2⟩ := ffacts2 k ac pe q pn dm ds de ct p m ok1 (by omega) (by omega) bs (T.set j (b8 z)) hbs (by rw [List.length_set]; exact hTl) B P0 P1 M1 hB hP0' hP1 hM1
    have hF3 : ∀ i, i < 2 → [frQ 1 true false 0 1 3 0 144115188075855874 1 B (O.st TS j (.int .u8 z)), frQ k ac pe q pn dm ds de ct P1 M1][i]? = some (frQ (K i) (AC i) (PE i) (Q i) (N i) (D i) (S i) (A i) (C i) (PP i) (MM i)) := by rw [hP0]; exact hF1
    refine loopQF [111] (A := Nat × Int) (fun p => p.2 = p.1 ∧ p.1 ≤ 2) (fun p => 2 - p.1) (fun p => [(19, .int .i64 p.2)]) (fun p => []) (0, 0) ⟨rfl, by omega⟩ ?_ ?_
    · cbv
    · intro ⟨i, x⟩ h
      have hx : x = (i : Int) := h.1
      have hi : i ≤ 2 := h.2
      clear h
      have f1 := hF3 i
      have f2 := hF2 i
      cbv
      (repeat' (first
| (refine q1w (fun z hz => ?_); (try simp only at hz); cbv)
| (refine rqw ?_; cbv)
| (refine rqk ?_; cbv)
| (refine chpA ?_; cbv)
| (refine QC.tw ?_; cbv)
| (refine QC.t3 ?_; cbv)
| (refine QC.f3 ?_; cbv)
| (refine QC.fw ?_; cbv)
| (refine QC.mk (fun hc => ?_) (fun hc => ?_) <;> (try dsimp only at hc) <;> cbv)
| (refine br_mk2 (fun hb => ?_) (fun hb => ?_) <;> (try subst hb) <;> cbv)))
      · have hi2 : i < 2 := by (first | omega | (simp only [cst] at *; omega) | (simp only [sm] at *; omega))
        have g := f2 hi2
        have f1' := f1 hi2
        have g6 := g.c6
        cases hv : V i with
        | false =>
          rw [hv] at g
          have g1 := g.c1
          have g7 := g.c7 rfl
          clear g g6
          (repeat' (first
| (refine q1w (fun z hz => ?_); (try simp only at hz); cbv)
| (refine rqw ?_; cbv)
| (refine rqk ?_; cbv)
| (refine chpA ?_; cbv)
| (refine QC.tw ?_; cbv)
| (refine QC.t3 ?_; cbv)
| (refine QC.f3 ?_; cbv)
| (refine QC.fw ?_; cbv)
| (refine QC.mk (fun hc => ?_) (fun hc => ?_) <;> (try dsimp only at hc) <;> cbv)
| (refine br_mk2 (fun hb => ?_) (fun hb => ?_) <;> (try subst hb) <;> cbv)
| ((refine qv (i, _) ⟨by show x = (i : Int); (first | omega | (simp only [cst] at *; omega) | (simp only [sm] at *; omega)), f1'⟩ ?_; cbv))
| (refine callq (g1) rfl rfl ?_; cbv)
| (refine callq (g7) rfl rfl ?_; cbv)))
          refine ⟨(i + 1, z), ⟨by (first | omega | (simp only [cst] at *; omega) | (simp only [sm] at *; omega)), by (first | omega | (simp only [cst] at *; omega) | (simp only [sm] at *; omega))⟩, by (first | omega | (simp only [cst] at *; omega) | (simp only [sm] at *; omega)), ?_⟩
          cbv
        | true =>
          rw [hv] at g
          have g1 := g.c1
          have g2 := g.c2 rfl
          have g3 := g.c3 rfl
          have g4 := g.c4 rfl
          have g5 := g.c5 rfl
          have g6 := g6 hv
          clear g
          obtain ⟨gv, hgv⟩ : ∃ y, y = G i := ⟨_, rfl⟩
          obtain ⟨rv, hrv⟩ : ∃ y, y = RR i := ⟨_, rfl⟩
          rw [← hgv] at g5 g6
          rw [← hrv] at g3 g6
          clear hgv hrv
          (repeat' (first
| (refine q1w (fun z hz => ?_); (try simp only at hz); cbv)
| (refine rqw ?_; cbv)
| (refine rqk ?_; cbv)
| (refine chpA ?_; cbv)
| (refine QC.tw ?_; cbv)
| (refine QC.t3 ?_; cbv)
| (refine QC.f3 ?_; cbv)
| (refine QC.fw ?_; cbv)
| (refine QC.mk (fun hc => ?_) (fun hc => ?_) <;> (try dsimp only at hc) <;> cbv)
| (refine br_mk2 (fun hb => ?_) (fun hb => ?_) <;> (try subst hb) <;> cbv)
| ((refine qv (i, _) ⟨by show x = (i : Int); (first | omega | (simp only [cst] at *; omega) | (simp only [sm] at *; omega)), f1'⟩ ?_; cbv))
| (refine callq (g1) rfl rfl ?_; cbv)
| (refine callq (w16_0) rfl rfl ?_; cbv)
| (refine callq (g2) rfl rfl ?_; cbv)
| (refine callq (g3) rfl rfl ?_; cbv)
| (refine callq (g4) rfl rfl ?_; cbv)
| (refine callq (g5) rfl rfl ?_; cbv)))
          all_goals first
            | (have h6 := g6 rfl; cases h6; done)
            | (refine ⟨(i + 1, z), ⟨by (first | omega | (simp only [cst] at *; omega) | (simp only [sm] at *; omega)), by (first | omega | (simp only [cst] at *; omega) | (simp only [sm] at *; omega))⟩, by (first | omega | (simp only [cst] at *; omega) | (simp only [sm] at *; omega)), ?_⟩
               cbv)
      · (refine callq (w20_0) rfl rfl ?_; cbv; (repeat' (first
| (refine q1w (fun z hz => ?_); (try simp only at hz); cbv)
| (refine rqw ?_; cbv)
| (refine rqk ?_; cbv)
| (refine chpA ?_; cbv)
| (refine QC.tw ?_; cbv)
| (refine QC.t3 ?_; cbv)
| (refine QC.f3 ?_; cbv)
| (refine QC.fw ?_; cbv)
| (refine QC.mk (fun hc => ?_) (fun hc => ?_) <;> (try dsimp only at hc) <;> cbv)
| (refine br_mk2 (fun hb => ?_) (fun hb => ?_) <;> (try subst hb) <;> cbv))))
        exact ⟨rfl, rfl, rfl⟩
end Go.Proofs.YtgfpjhddojhfpaaGreat
