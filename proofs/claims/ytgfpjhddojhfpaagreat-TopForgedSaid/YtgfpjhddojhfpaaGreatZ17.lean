/- Texts put together: JA JB. -/
import Derived.Test.YtgfpjhddojhfpaaGreatZ06
namespace Go.Proofs.YtgfpjhddojhfpaaGreat
set_option linter.unusedVariables false
set_option linter.unusedSimpArgs false
open Go.RowKit
set_option maxHeartbeats 4000000
set_option linter.unusedSimpArgs false
set_option linter.unusedVariables false
theorem rrot_c (x : Int) (hx : u6 x) (K : Int) (k : Nat) (hK : K = k) (h1 : 1 ≤ k ∧ k ≤ 63) (r : Int) (hr : r = rotl x k) : Good 206 (pu [.int .u64 x, .int .u64 K] (.int .u64 r)) := by
  unfold u6 at hx
  have hK0 : 1 ≤ K ∧ K ≤ 63 := by omega
  have hK1 : K.toNat = k := by omega
  have hK2 : (64 - K).toNat = 64 - k := by omega
  have hb : u6 (x / 2 ^ (64 - k)) := div_u6 hx _
  unfold u6 at hb
  refine Good.of Tryz.func206 rfl (by rfl) (by kernel_rfl) ?_
  cbv
  (repeat' (first
| (refine q1w (fun z hz => ?_); (try simp only at hz); cbv)
| (refine rqw ?_; cbv)
| (refine rqk ?_; cbv)
| (refine chpA ?_; cbv)
| (refine QC.tw ?_; cbv)
| (refine QC.t3 ?_; cbv)
| (refine QC.f3 ?_; cbv)
| (refine QC.fw ?_; cbv)
| (refine QC.mk (fun hc => ?_) (fun hc => ?_) <;> (try dsimp only at hc) <;> cbv)
| (refine br_mk2 (fun hb => ?_) (fun hb => ?_) <;> (try subst hb) <;> cbv)))
  rename_i z6 h6 z7 h7
  have e7 : z7 = 64 - K := by omega
  rw [e7, hK2] at hz
  rw [hK1] at h6
  refine q1 ⟨by omega, by omega, by omega, by omega⟩ fun y hy => ?_
  cbv
  refine ⟨?_, rfl, rfl⟩
  show SV.int .u64 y = .int .u64 r
  rw [hr, hy, h6, hz]
  rfl
theorem rdE (s : Sp) : ∀ a1 b0 b1 c1 d0 d1 a0 a2 b2 b3 c2 c3 d2 d3, a1 = ad s.a s.b → b0 = rotl s.b 13 → b1 = xo b0 a1 → a0 = rotl a1 32 → c1 = ad s.c s.d → d0 = rotl s.d 16 → d1 = xo d0 c1 → a2 = ad a0 d1 → d2 = rotl d1 21 → d3 = xo d2 a2 → c2 = ad c1 b1 → b2 = rotl b1 17 → b3 = xo b2 c2 → c3 = rotl c2 32 →
      (rd s).a = a2 ∧ (rd s).b = b3 ∧ (rd s).c = c3 ∧ (rd s).d = d3 := by
  intros
  subst_vars
  exact ⟨rfl, rfl, rfl, rfl⟩
theorem rround_c (s : Sp) (h : s.Ok) (a b c d ra rb rc rd' : Int) (ha : a = s.a) (hb : b = s.b) (hc : c = s.c) (hd : d = s.d) (hra : ra = (rd s).a) (hrb : rb = (rd s).b) (hrc : rc = (rd s).c) (hrd : rd' = (rd s).d) :
    Good 175 (pu [.agg [.int .u64 a, .int .u64 b, .int .u64 c, .int .u64 d]] (.agg [.int .u64 ra, .int .u64 rb, .int .u64 rc, .int .u64 rd'])) := by
  have hs := rdE s
  have hA : u6 a := by rw [ha]; exact h.a
  have hB : u6 b := by rw [hb]; exact h.b
  have hC : u6 c := by rw [hc]; exact h.c
  have hD : u6 d := by rw [hd]; exact h.d
  rw [← ha, ← hb, ← hc, ← hd, ← hra, ← hrb, ← hrc, ← hrd] at hs
  clear hra hrb hrc hrd ha hb hc hd h
  have hA' : 0 ≤ a ∧ a ≤ 18446744073709551615 := hA
  have hB' : 0 ≤ b ∧ b ≤ 18446744073709551615 := hB
  have hC' : 0 ≤ c ∧ c ≤ 18446744073709551615 := hC
  have hD' : 0 ≤ d ∧ d ≤ 18446744073709551615 := hD
  refine Good.of Tryz.func175 rfl (by rfl) (by kernel_rfl) ?_
  cbv
  (repeat' (first
| (refine q1w (fun z hz => ?_); (try simp only at hz); cbv)
| (refine rqw ?_; cbv)
| (refine rqk ?_; cbv)
| (refine chpA ?_; cbv)
| (refine QC.tw ?_; cbv)
| (refine QC.t3 ?_; cbv)
| (refine QC.f3 ?_; cbv)
| (refine QC.fw ?_; cbv)
| (refine QC.mk (fun hc => ?_) (fun hc => ?_) <;> (try dsimp only at hc) <;> cbv)
| (refine br_mk2 (fun hb => ?_) (fun hb => ?_) <;> (try subst hb) <;> cbv)
| ((refine qxArr (by decide) (by decide) ?_; cbv))))
  revert z; intro a1 ha1
  have ua1 : u6 a1 := by rw [show a1 = ad a b from ha1]; exact ad_u6 _ _
  have va1 : 0 ≤ a1 ∧ a1 ≤ 18446744073709551615 := ua1
  obtain ⟨b0, gb0⟩ : ∃ y, y = rotl b 13 := ⟨_, rfl⟩
  have ub0 := rotl_u6 hB 13
  rw [← gb0] at ub0
  have vb0 : 0 ≤ b0 ∧ b0 ≤ 18446744073709551615 := ub0
  refine callq (rrot_c b hB 13 13 rfl (by omega) b0 gb0) rfl rfl ?_
  cbv
  (repeat' (first
| (refine q1w (fun z hz => ?_); (try simp only at hz); cbv)
| (refine rqw ?_; cbv)
| (refine rqk ?_; cbv)
| (refine chpA ?_; cbv)
| (refine QC.tw ?_; cbv)
| (refine QC.t3 ?_; cbv)
| (refine QC.f3 ?_; cbv)
| (refine QC.fw ?_; cbv)
| (refine QC.mk (fun hc => ?_) (fun hc => ?_) <;> (try dsimp only at hc) <;> cbv)
| (refine br_mk2 (fun hb => ?_) (fun hb => ?_) <;> (try subst hb) <;> cbv)
| ((refine qxArr (by decide) (by decide) ?_; cbv))))
  revert z; intro b1 hb1
  have ub1 : u6 b1 := by rw [show b1 = xo b0 a1 from hb1]; exact xo_u6 ub0 ua1
  have vb1 : 0 ≤ b1 ∧ b1 ≤ 18446744073709551615 := ub1
  obtain ⟨a0, ga0⟩ : ∃ y, y = rotl a1 32 := ⟨_, rfl⟩
  have ua0 := rotl_u6 ua1 32
  rw [← ga0] at ua0
  have va0 : 0 ≤ a0 ∧ a0 ≤ 18446744073709551615 := ua0
  refine callq (rrot_c a1 ua1 32 32 rfl (by omega) a0 ga0) rfl rfl ?_
  cbv
  (repeat' (first
| (refine q1w (fun z hz => ?_); (try simp only at hz); cbv)
| (refine rqw ?_; cbv)
| (refine rqk ?_; cbv)
| (refine chpA ?_; cbv)
| (refine QC.tw ?_; cbv)
| (refine QC.t3 ?_; cbv)
| (refine QC.f3 ?_; cbv)
| (refine QC.fw ?_; cbv)
| (refine QC.mk (fun hc => ?_) (fun hc => ?_) <;> (try dsimp only at hc) <;> cbv)
| (refine br_mk2 (fun hb => ?_) (fun hb => ?_) <;> (try subst hb) <;> cbv)
| ((refine qxArr (by decide) (by decide) ?_; cbv))))
  revert z; intro c1 hc1
  have uc1 : u6 c1 := by rw [show c1 = ad c d from hc1]; exact ad_u6 _ _
  have vc1 : 0 ≤ c1 ∧ c1 ≤ 18446744073709551615 := uc1
  obtain ⟨d0, gd0⟩ : ∃ y, y = rotl d 16 := ⟨_, rfl⟩
  have ud0 := rotl_u6 hD 16
  rw [← gd0] at ud0
  have vd0 : 0 ≤ d0 ∧ d0 ≤ 18446744073709551615 := ud0
  refine callq (rrot_c d hD 16 16 rfl (by omega) d0 gd0) rfl rfl ?_
  cbv
  (repeat' (first
| (refine q1w (fun z hz => ?_); (try simp only at hz); cbv)
| (refine rqw ?_; cbv)
| (refine rqk ?_; cbv)
| (refine chpA ?_; cbv)
| (refine QC.tw ?_; cbv)
| (refine QC.t3 ?_; cbv)
| (refine QC.f3 ?_; cbv)
| (refine QC.fw ?_; cbv)
| (refine QC.mk (fun hc => ?_) (fun hc => ?_) <;> (try dsimp only at hc) <;> cbv)
| (refine br_mk2 (fun hb => ?_) (fun hb => ?_) <;> (try subst hb) <;> cbv)
| ((refine qxArr (by decide) (by decide) ?_; cbv))))
  rename_i d1 hd1
  revert z; intro a2 ha2
  have ud1 : u6 d1 := by rw [show d1 = xo d0 c1 from hd1]; exact xo_u6 ud0 uc1
  have vd1 : 0 ≤ d1 ∧ d1 ≤ 18446744073709551615 := ud1
  have ua2 : u6 a2 := by rw [show a2 = ad a0 d1 from ha2]; exact ad_u6 _ _
  have va2 : 0 ≤ a2 ∧ a2 ≤ 18446744073709551615 := ua2
  obtain ⟨d2, gd2⟩ : ∃ y, y = rotl d1 21 := ⟨_, rfl⟩
  have ud2 := rotl_u6 ud1 21
  rw [← gd2] at ud2
  have vd2 : 0 ≤ d2 ∧ d2 ≤ 18446744073709551615 := ud2
  refine callq (rrot_c d1 ud1 21 21 rfl (by omega) d2 gd2) rfl rfl ?_
  cbv
  (repeat' (first
| (refine q1w (fun z hz => ?_); (try simp only at hz); cbv)
| (refine rqw ?_; cbv)
| (refine rqk ?_; cbv)
| (refine chpA ?_; cbv)
| (refine QC.tw ?_; cbv)
| (refine QC.t3 ?_; cbv)
| (refine QC.f3 ?_; cbv)
| (refine QC.fw ?_; cbv)
| (refine QC.mk (fun hc => ?_) (fun hc => ?_) <;> (try dsimp only at hc) <;> cbv)
| (refine br_mk2 (fun hb => ?_) (fun hb => ?_) <;> (try subst hb) <;> cbv)
| ((refine qxArr (by decide) (by decide) ?_; cbv))))
  rename_i d3 hd3
  revert z; intro c2 hc2
  have ud3 : u6 d3 := by rw [show d3 = xo d2 a2 from hd3]; exact xo_u6 ud2 ua2
  have vd3 : 0 ≤ d3 ∧ d3 ≤ 18446744073709551615 := ud3
  have uc2 : u6 c2 := by rw [show c2 = ad c1 b1 from hc2]; exact ad_u6 _ _
  have vc2 : 0 ≤ c2 ∧ c2 ≤ 18446744073709551615 := uc2
  obtain ⟨b2, gb2⟩ : ∃ y, y = rotl b1 17 := ⟨_, rfl⟩
  have ub2 := rotl_u6 ub1 17
  rw [← gb2] at ub2
  have vb2 : 0 ≤ b2 ∧ b2 ≤ 18446744073709551615 := ub2
  refine callq (rrot_c b1 ub1 17 17 rfl (by omega) b2 gb2) rfl rfl ?_
  cbv
  (repeat' (first
| (refine q1w (fun z hz => ?_); (try simp only at hz); cbv)
| (refine rqw ?_; cbv)
| (refine rqk ?_; cbv)
| (refine chpA ?_; cbv)
| (refine QC.tw ?_; cbv)
| (refine QC.t3 ?_; cbv)
| (refine QC.f3 ?_; cbv)
| (refine QC.fw ?_; cbv)
| (refine QC.mk (fun hc => ?_) (fun hc => ?_) <;> (try dsimp only at hc) <;> cbv)
| (refine br_mk2 (fun hb => ?_) (fun hb => ?_) <;> (try subst hb) <;> cbv)
| ((refine qxArr (by decide) (by decide) ?_; cbv))))
  revert z; intro b3 hb3
  have ub3 : u6 b3 := by rw [show b3 = xo b2 c2 from hb3]; exact xo_u6 ub2 uc2
  have vb3 : 0 ≤ b3 ∧ b3 ≤ 18446744073709551615 := ub3
  obtain ⟨c3, gc3⟩ : ∃ y, y = rotl c2 32 := ⟨_, rfl⟩
  have uc3 := rotl_u6 uc2 32
  rw [← gc3] at uc3
  have vc3 : 0 ≤ c3 ∧ c3 ≤ 18446744073709551615 := uc3
  refine callq (rrot_c c2 uc2 32 32 rfl (by omega) c3 gc3) rfl rfl ?_
  cbv
  (repeat' (first
| (refine q1w (fun z hz => ?_); (try simp only at hz); cbv)
| (refine rqw ?_; cbv)
| (refine rqk ?_; cbv)
| (refine chpA ?_; cbv)
| (refine QC.tw ?_; cbv)
| (refine QC.t3 ?_; cbv)
| (refine QC.f3 ?_; cbv)
| (refine QC.fw ?_; cbv)
| (refine QC.mk (fun hc => ?_) (fun hc => ?_) <;> (try dsimp only at hc) <;> cbv)
| (refine br_mk2 (fun hb => ?_) (fun hb => ?_) <;> (try subst hb) <;> cbv)
| ((refine qxArr (by decide) (by decide) ?_; cbv))))
  obtain ⟨e1, e2, e3, e4⟩ := hs a1 b0 b1 c1 d0 d1 a0 a2 b2 b3 c2 c3 d2 d3 ha1 gb0 hb1 ga0 hc1 gd0 hd1 ha2 gd2 hd3 hc2 gb2 hb3 gc3
  refine ⟨?_, rfl, rfl⟩
  show SV.agg [.int .u64 a2, .int .u64 b3, .int .u64 c3, .int .u64 d3] = _
  rw [e1, e2, e3, e4]
end Go.Proofs.YtgfpjhddojhfpaaGreat
namespace Go.Proofs.YtgfpjhddojhfpaaGreat
set_option linter.unusedVariables false
set_option linter.unusedSimpArgs false
open Go.RowKit
set_option maxHeartbeats 4000000
set_option linter.unusedSimpArgs false
set_option linter.unusedVariables false
theorem lsN_cons (bs : List UInt8) (i : Nat) (h : i < bs.length) : lsN (bs.drop i) = (bs.getD i 0).toNat + 256 * lsN (bs.drop (i + 1)) := by
  rw [List.drop_eq_getElem_cons h, lsN]
  simp [List.getD, h]
theorem numF (bs : List UInt8) (h8 : bs.length ≤ 8) : ∃ V B : Nat → Int, V bs.length = 0 ∧ V 0 = lsN bs ∧ (∀ i, u6 (V i)) ∧ ∀ i, i < bs.length → (u8l bs)[i]? = some (.int .u8 (B i)) ∧ (0 ≤ B i ∧ B i ≤ 255) ∧ V i = 256 * V (i + 1) + B i := by
  refine ⟨fun i => lsN (bs.drop i), fun i => (bs.getD i 0).toNat, by simp [lsN], by simp, fun i => ?_, fun i hi => ⟨u8l_at i hi, ?_, ?_⟩⟩
  · exact lsN_u6 _ (by rw [List.length_drop]; omega)
  · have := (bs.getD i 0).toNat_lt
    dsimp only
    omega
  · show ((lsN (bs.drop i) : Nat) : Int) = 256 * ((lsN (bs.drop (i + 1)) : Nat) : Int) + (((bs.getD i 0).toNat : Nat) : Int)
    rw [lsN_cons bs i hi]
    omega
structure WrapP (A : Prop) : Prop where
  h : A
theorem number_c (bs : List UInt8) (h8 : bs.length ≤ 8) (X : List SV) (r : Int) (hX : X = u8l bs) (hr : r = lsN bs) : Good 173 (pu [.lst none X] (.int .u64 r)) := by
  obtain ⟨V, B, V0, Vn, hV, hB⟩ := numF bs h8
  have hl : X.length = bs.length := by rw [hX, u8l_len]
  obtain ⟨M, hM⟩ : ∃ M : Nat → Nat, ∀ n, WrapP (n = 0 ∨ n = M n + 1) := ⟨fun n => n - 1, fun n => ⟨by show n = 0 ∨ n = (n - 1) + 1; omega⟩⟩
  refine Good.of Tryz.func173 rfl (by rfl) (by kernel_rfl) ?_
  cbv
  (repeat' (first
| (refine q1w (fun z hz => ?_); (try simp only at hz); cbv)
| (refine rqw ?_; cbv)
| (refine rqk ?_; cbv)
| (refine chpA ?_; cbv)
| (refine QC.tw ?_; cbv)
| (refine QC.t3 ?_; cbv)
| (refine QC.f3 ?_; cbv)
| (refine QC.fw ?_; cbv)
| (refine QC.mk (fun hc => ?_) (fun hc => ?_) <;> (try dsimp only at hc) <;> cbv)
| (refine br_mk2 (fun hb => ?_) (fun hb => ?_) <;> (try subst hb) <;> cbv)))
  have ez : z = (bs.length : Int) - 1 := by (first | omega | (simp only [cst] at *; omega) | (simp only [sm] at *; omega))
  clear hz
  refine loopQ (A := Nat × Int) (fun p => p.2 = p.1 - 1 ∧ p.1 ≤ bs.length) (fun p => p.1) (fun p => [(3, .int .u64 (V p.1)), (4, .int .i64 p.2)]) (fun p => []) (bs.length, z) ⟨ez, Nat.le_refl _⟩ ?_ ?_
  · cbv
    refine ⟨⟨?_, trivial⟩, trivial⟩
    show SV.int .u64 0 = SV.int .u64 (V bs.length)
    rw [V0]
  · intro ⟨n, j⟩ h
    have hj : j = (n : Int) - 1 := h.1
    have hn : n ≤ bs.length := h.2
    clear h
    have hvn : 0 ≤ V n ∧ V n ≤ 18446744073709551615 := hV n
    have hvm : 0 ≤ V (M n) ∧ V (M n) ≤ 18446744073709551615 := hV (M n)
    have hbi := hB (M n)
    have p8 : (2 : Int) ^ Int.toNat 8 = 256 := rfl
    cbv
    (repeat' (first
| (refine q1w (fun z hz => ?_); (try simp only at hz); cbv)
| (refine rqw ?_; cbv)
| (refine rqk ?_; cbv)
| (refine chpA ?_; cbv)
| (refine QC.tw ?_; cbv)
| (refine QC.t3 ?_; cbv)
| (refine QC.f3 ?_; cbv)
| (refine QC.fw ?_; cbv)
| (refine QC.mk (fun hc => ?_) (fun hc => ?_) <;> (try dsimp only at hc) <;> cbv)
| (refine br_mk2 (fun hb => ?_) (fun hb => ?_) <;> (try subst hb) <;> cbv)))
    · have hn0 : 0 < n := by (first | omega | (simp only [cst] at *; omega) | (simp only [sm] at *; omega))
      have hnm : n = M n + 1 := by
        have hm := (hM n).h
        omega
      have hml : M n < bs.length := by (first | omega | (simp only [cst] at *; omega) | (simp only [sm] at *; omega))
      have b1 := (hbi hml).1
      have b2 := (hbi hml).2.1
      have b3 := (hbi hml).2.2
      rw [← hnm] at b3
      refine qv ((M n), .int .u8 (B (M n))) ⟨by show j = ((M n) : Int); (first | omega | (simp only [cst] at *; omega) | (simp only [sm] at *; omega)), by rw [hX]; exact b1⟩ ?_
      cbv
      (repeat' (first
| (refine q1w (fun z hz => ?_); (try simp only at hz); cbv)
| (refine rqw ?_; cbv)
| (refine rqk ?_; cbv)
| (refine chpA ?_; cbv)
| (refine QC.tw ?_; cbv)
| (refine QC.t3 ?_; cbv)
| (refine QC.f3 ?_; cbv)
| (refine QC.fw ?_; cbv)
| (refine QC.mk (fun hc => ?_) (fun hc => ?_) <;> (try dsimp only at hc) <;> cbv)
| (refine br_mk2 (fun hb => ?_) (fun hb => ?_) <;> (try subst hb) <;> cbv)))
      rename_i z0 g0 z1 g1 z2 g2
      rw [p8] at g0
      have e2 : z2 = V (M n) := by omega
      refine ⟨((M n), z), ⟨by (first | omega | (simp only [cst] at *; omega) | (simp only [sm] at *; omega)), by (first | omega | (simp only [cst] at *; omega) | (simp only [sm] at *; omega))⟩, by (first | omega | (simp only [cst] at *; omega) | (simp only [sm] at *; omega)), ?_⟩
      cbv
      refine ⟨⟨?_, trivial⟩, trivial⟩
      show SV.int .u64 z2 = SV.int .u64 (V (M n))
      rw [e2]
    · have e : n = 0 := by (first | omega | (simp only [cst] at *; omega) | (simp only [sm] at *; omega))
      refine ⟨?_, rfl, rfl⟩
      show SV.int .u64 (V n) = .int .u64 r
      rw [e, Vn, hr]
theorem mixP_eq (s : Sp) (m : Int) : mixP s m = ⟨xo (rd (rd ⟨s.a, s.b, s.c, xo s.d m⟩)).a m, (rd (rd ⟨s.a, s.b, s.c, xo s.d m⟩)).b, (rd (rd ⟨s.a, s.b, s.c, xo s.d m⟩)).c, (rd (rd ⟨s.a, s.b, s.c, xo s.d m⟩)).d⟩ := rfl
theorem word_c (s : Sp) (h : s.Ok) (m a b c d ra rb rc rd' : Int) (hm : u6 m) (ha : a = s.a) (hb : b = s.b) (hc : c = s.c) (hd : d = s.d) (hra : ra = (mixP s m).a) (hrb : rb = (mixP s m).b) (hrc : rc = (mixP s m).c) (hrd : rd' = (mixP s m).d) :
    Good 174 (pu [.agg [.int .u64 a, .int .u64 b, .int .u64 c, .int .u64 d], .int .u64 m] (.agg [.int .u64 ra, .int .u64 rb, .int .u64 rc, .int .u64 rd'])) := by
  have hv : 0 ≤ m ∧ m ≤ 18446744073709551615 := hm
  have hdv : 0 ≤ d ∧ d ≤ 18446744073709551615 := by rw [hd]; exact h.d
  obtain ⟨d1, hd1⟩ : ∃ y, y = xo d m := ⟨_, rfl⟩
  have hok : (⟨s.a, s.b, s.c, d1⟩ : Sp).Ok := ⟨h.a, h.b, h.c, by rw [hd1]; exact xo_u6 hdv hm⟩
  obtain ⟨t1, ht1⟩ : ∃ y, y = rd ⟨s.a, s.b, s.c, d1⟩ := ⟨_, rfl⟩
  have hok1 := rd_ok hok
  rw [← ht1] at hok1
  obtain ⟨t, ht⟩ : ∃ y, y = rd t1 := ⟨_, rfl⟩
  have htk := rd_ok hok1
  rw [← ht] at htk
  obtain ⟨ta, hta⟩ : ∃ y, y = t.a := ⟨_, rfl⟩
  obtain ⟨tb, htb⟩ : ∃ y, y = t.b := ⟨_, rfl⟩
  obtain ⟨tc, htc⟩ : ∃ y, y = t.c := ⟨_, rfl⟩
  obtain ⟨td, htd⟩ : ∃ y, y = t.d := ⟨_, rfl⟩
  obtain ⟨ua, hua⟩ : ∃ y, y = t1.a := ⟨_, rfl⟩
  obtain ⟨ub, hub⟩ : ∃ y, y = t1.b := ⟨_, rfl⟩
  obtain ⟨uc, huc⟩ : ∃ y, y = t1.c := ⟨_, rfl⟩
  obtain ⟨ud, hud⟩ : ∃ y, y = t1.d := ⟨_, rfl⟩
  have hc1 := rround_c ⟨s.a, s.b, s.c, d1⟩ hok a b c d1 ua ub uc ud ha hb hc rfl (by rw [hua, ht1]) (by rw [hub, ht1]) (by rw [huc, ht1]) (by rw [hud, ht1])
  have hc2 := rround_c t1 hok1 ua ub uc ud ta tb tc td hua hub huc hud (by rw [hta, ht]) (by rw [htb, ht]) (by rw [htc, ht]) (by rw [htd, ht])
  have hav : 0 ≤ ta ∧ ta ≤ 18446744073709551615 := by rw [hta]; exact htk.a
  have em : mixP s m = ⟨xo ta m, tb, tc, td⟩ := by
    have e0 : xo s.d m = d1 := by rw [hd1, hd]
    rw [mixP_eq, e0, ← ht1, ← ht, ← hta, ← htb, ← htc, ← htd]
  rw [em] at hra hrb hrc hrd
  clear hua hub huc hud hta htb htc htd
  refine Good.of Tryz.func174 rfl (by rfl) (by kernel_rfl) ?_
  cbv
  (repeat' (first
| (refine q1w (fun z hz => ?_); (try simp only at hz); cbv)
| (refine rqw ?_; cbv)
| (refine rqk ?_; cbv)
| (refine chpA ?_; cbv)
| (refine QC.tw ?_; cbv)
| (refine QC.t3 ?_; cbv)
| (refine QC.f3 ?_; cbv)
| (refine QC.fw ?_; cbv)
| (refine QC.mk (fun hc => ?_) (fun hc => ?_) <;> (try dsimp only at hc) <;> cbv)
| (refine br_mk2 (fun hb => ?_) (fun hb => ?_) <;> (try subst hb) <;> cbv)
| ((refine qxArr (by decide) (by decide) ?_; cbv))))
  have e : d1 = z := by rw [hz, hd1]; rfl
  subst e
  clear hz
  refine callq hc1 rfl rfl ?_
  cbv
  (repeat' (first
| (refine q1w (fun z hz => ?_); (try simp only at hz); cbv)
| (refine rqw ?_; cbv)
| (refine rqk ?_; cbv)
| (refine chpA ?_; cbv)
| (refine QC.tw ?_; cbv)
| (refine QC.t3 ?_; cbv)
| (refine QC.f3 ?_; cbv)
| (refine QC.fw ?_; cbv)
| (refine QC.mk (fun hc => ?_) (fun hc => ?_) <;> (try dsimp only at hc) <;> cbv)
| (refine br_mk2 (fun hb => ?_) (fun hb => ?_) <;> (try subst hb) <;> cbv)
| ((refine qxArr (by decide) (by decide) ?_; cbv))))
  refine callq hc2 rfl rfl ?_
  cbv
  (repeat' (first
| (refine q1w (fun z hz => ?_); (try simp only at hz); cbv)
| (refine rqw ?_; cbv)
| (refine rqk ?_; cbv)
| (refine chpA ?_; cbv)
| (refine QC.tw ?_; cbv)
| (refine QC.t3 ?_; cbv)
| (refine QC.f3 ?_; cbv)
| (refine QC.fw ?_; cbv)
| (refine QC.mk (fun hc => ?_) (fun hc => ?_) <;> (try dsimp only at hc) <;> cbv)
| (refine br_mk2 (fun hb => ?_) (fun hb => ?_) <;> (try subst hb) <;> cbv)
| ((refine qxArr (by decide) (by decide) ?_; cbv))))
  refine ⟨?_, rfl, rfl⟩
  show SV.agg [.int .u64 z, .int .u64 tb, .int .u64 tc, .int .u64 td] = _
  rw [hz, hra, hrb, hrc, hrd]
  rfl
theorem lastW_add (bs : List UInt8) : ((lsN (bs.drop (8 * (bs.length / 8))) : Int) + ((bs.length : Int) % 256) * 2 ^ 56 % 18446744073709551616) % 18446744073709551616 = lastW bs := by
  have h1 := lsN_lt (bs.drop (8 * (bs.length / 8)))
  have h2 : 256 ^ (bs.drop (8 * (bs.length / 8))).length ≤ 256 ^ 7 := Nat.pow_le_pow_right (by omega) (by rw [List.length_drop]; omega)
  unfold lastW
  generalize lsN (bs.drop (8 * (bs.length / 8))) = a at *
  have ha : a < 2 ^ 56 := by
    have : (256 : Nat) ^ 7 = 2 ^ 56 := by rfl
    omega
  obtain ⟨k, hk⟩ : ∃ k : Nat, k = bs.length % 256 := ⟨_, rfl⟩
  have hk2 : k < 256 := by omega
  have e1 : (bs.length : Int) * 2 ^ 56 % 18446744073709551616 = ((2 ^ 56 * k : Nat) : Int) := by
    have : (2 : Int) ^ 56 = 72057594037927936 := by rfl
    have h3 : (2 : Nat) ^ 56 = 72057594037927936 := by rfl
    rw [this, h3]
    omega
  rw [e1]
  unfold oo
  rw [Int.toNat_natCast, Int.toNat_natCast, Nat.or_comm, ← Nat.two_pow_add_eq_or_of_lt ha]
  have h3 : (2 : Nat) ^ 56 = 72057594037927936 := by rfl
  have h4 : (2 : Int) ^ 56 = 72057594037927936 := by rfl
  rw [h4, h3]
  omega
theorem rsumF (bs : List UInt8) (s : Sp) (hs : s.Ok) : ∃ A B C D W : Nat → Int, A 0 = s.a ∧ B 0 = s.b ∧ C 0 = s.c ∧ D 0 = s.d ∧
    (∀ i, Good 174 (pu [.agg [.int .u64 (A i), .int .u64 (B i), .int .u64 (C i), .int .u64 (D i)], .int .u64 (W i)] (.agg [.int .u64 (A (i + 1)), .int .u64 (B (i + 1)), .int .u64 (C (i + 1)), .int .u64 (D (i + 1))]))) ∧
    (∀ i X, X = u8l ((bs.drop (8 * i)).take 8) → Good 173 (pu [.lst none X] (.int .u64 (W i)))) ∧
    (stN s bs (bs.length / 8) = ⟨A (bs.length / 8), B (bs.length / 8), C (bs.length / 8), D (bs.length / 8)⟩) := by
  refine ⟨fun i => (stN s bs i).a, fun i => (stN s bs i).b, fun i => (stN s bs i).c, fun i => (stN s bs i).d, fun i => wordN bs i, rfl, rfl, rfl, rfl, fun i => ?_, fun i X hX => ?_, rfl⟩
  · exact word_c (stN s bs i) (stN_ok hs bs i) _ _ _ _ _ _ _ _ _ (wordN_u6 bs i) rfl rfl rfl rfl rfl rfl rfl rfl
  · exact number_c _ (by rw [List.length_take]; omega) X _ hX rfl
end Go.Proofs.YtgfpjhddojhfpaaGreat
