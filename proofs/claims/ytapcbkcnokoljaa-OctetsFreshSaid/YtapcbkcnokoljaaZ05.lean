/- Texts put together: OI. -/
import Derived.Test.YtapcbkcnokoljaaZ04
namespace Go.Proofs.Ytapcbkcnokoljaa
set_option linter.unusedVariables false
set_option linter.unusedSimpArgs false
open Go.RowKit
set_option maxHeartbeats 4000000
theorem mask_bit (k : Nat) (hk : k < 8) : 128 / 2 ^ k = 2 ^ (7 - k) := by
  have hk : k = 0 ∨ k = 1 ∨ k = 2 ∨ k = 3 ∨ k = 4 ∨ k = 5 ∨ k = 6 ∨ k = 7 := by omega
  rcases hk with rfl | rfl | rfl | rfl | rfl | rfl | rfl | rfl <;> rfl
theorem apbG (bs : List UInt8) (len : Nat) (v : Int) (n : Nat) (hv : validB bs len = true) : ∃ (G : Nat → List SV) (Y V M : Nat → Int), G 0 = u8l (bs ++ List.replicate ((len + n + 7) / 8 - bs.length) 0) ∧ G n = u8l (appBits bs len v n) ∧ (∀ i, (G i).length = (len + n + 7) / 8) ∧
    (∀ i, i < n → (G i)[(len + i) / 8]? = some (.int .u8 (Y i))) ∧ (∀ i, 0 ≤ Y i ∧ Y i < 256) ∧ (∀ i, V i = v / 2 ^ (n - 1 - i) % 2) ∧ (∀ i, M i = 128 / 2 ^ ((len + i) % 8) ∧ 0 ≤ M i ∧ M i ≤ 128) ∧
    (∀ i, i < n → V i = 1 → O.st (G i) ((len + i) / 8) (.int .u8 (((Y i).toNat ||| (M i).toNat : Nat) : Int)) = G (i + 1)) ∧ (∀ i, V i = 0 → G (i + 1) = G i) := by
  obtain ⟨hbl, hz⟩ := (validB_iff bs len).1 hv
  have hlen : (bs ++ List.replicate ((len + n + 7) / 8 - bs.length) 0).length = (len + n + 7) / 8 := by simp; omega
  have hb : ∀ i, bitV v n i = (v / 2 ^ (n - 1 - i) % 2).toNat := fun _ => rfl
  have hM : ∀ i, (128 : Int) / 2 ^ ((len + i) % 8) = ((2 ^ (7 - (len + i) % 8) : Nat) : Int) := fun i => by
    rw [← mask_bit _ (by omega)]; simp
  have hM2 : ∀ i, 2 ^ (7 - (len + i) % 8) ≤ 2 ^ 7 := fun i => Nat.pow_le_pow_right (by omega) (by omega)
  refine ⟨fun i => u8l (rowP (bs ++ List.replicate ((len + n + 7) / 8 - bs.length) 0) len v n i), fun i => ((rowP (bs ++ List.replicate ((len + n + 7) / 8 - bs.length) 0) len v n i).getD ((len + i) / 8) 0).toNat, fun i => v / 2 ^ (n - 1 - i) % 2, fun i => 128 / 2 ^ ((len + i) % 8), rfl, rfl, ?_, ?_, ?_, fun _ => rfl, ?_, ?_, ?_⟩
  · intro i; simp only [u8l_len, rowP_length, hlen]
  · intro i hi
    exact u8l_at _ (by rw [rowP_length, hlen]; omega)
  · intro i
    have := ((rowP (bs ++ List.replicate ((len + n + 7) / 8 - bs.length) 0) len v n i).getD ((len + i) / 8) 0).toNat_lt
    dsimp only; omega
  · intro i
    refine ⟨rfl, ?_⟩
    have := hM2 i
    dsimp only
    rw [hM]
    generalize 2 ^ (7 - (len + i) % 8) = q at *
    omega
  · intro i hi h1
    dsimp only at h1 ⊢
    simp only [rowP]
    rw [if_pos (by rw [hb, h1]; rfl), hM, putBit, ← u8l_set, ost, Int.toNat_natCast, Int.toNat_natCast]
    congr 2
    have h2 := or_pow_lt ((rowP (bs ++ List.replicate ((len + n + 7) / 8 - bs.length) 0) len v n i).getD ((len + i) / 8) 0).toNat (7 - (len + i) % 8) (UInt8.toNat_lt _) (by omega)
    simp only [UInt8.toNat_ofNat']
    omega
  · intro i h0
    dsimp only at h0 ⊢
    simp only [rowP]
    rw [if_neg (by rw [hb, h0]; decide)]
theorem appendBits_yes (bs : List UInt8) (X R : List SV) (len v N m : Int) (l n : Nat) (hX : X = u8l bs) (hbl : bs.length ≤ 140737488351500) (hlen : len = l) (hv : validB bs len = true) (hN : N = n) (hn : n ≤ 64)
    (hv1 : 0 ≤ v ∧ v < 18446744073709551616) (hm : m = len + N) (hR : R = u8l (appBits bs l v n)) :
    Good 22 (pu [.agg [.lst none X, .int .i64 len], .int .u64 v, .int .i64 N] (.tup [.agg [.lst none R, .int .i64 m], .bool true])) := by
  have hvl : bs.length = (l + 7) / 8 := by
    rw [hlen] at hv; exact ((validB_iff bs l).1 hv).1
  have hvc := valid_c bs X len true hX (by omega) (by omega) hv.symm
  obtain ⟨m8, hm8⟩ : ∃ z : Int, z = ((l + n + 7) / 8 : Nat) := ⟨_, rfl⟩
  have hsz := size_c m m8 (l + n) (by omega) (by omega) hm8
  rw [hlen] at hv
  obtain ⟨G, Y, V, M, G0, Gn, Gl, GY, hY, hV, hM, Gs, Gz⟩ := apbG bs l v n hv
  have hl : X.length = bs.length := by rw [hX, u8l_len]
  refine Good.of Try.func22 rfl (by rfl) (by kernel_rfl) ?_
  cbv
  (repeat' (first
| (refine q1w (fun z hz => ?_); (try simp only at hz); cbv)
| (refine rqw ?_; cbv)
| (refine rq (show kfitQ _ _ from by simp [kfitQ, IntKind.min, IntKind.max, IntKind.signed, IntKind.bits]; omega) ?_; cbv)
| (refine chpA ?_; cbv)
| (refine QC.tw ?_; cbv)
| (refine QC.tt ?_ ?_; (focus (simp only [decide_true, Bool.and_true, Bool.and_self] <;> fail)); cbv)
| (refine QC.ff ?_ ?_; (focus (simp only [decide_true, Bool.and_true, Bool.and_self, decide_false, Bool.false_and, reduceCtorEq, not_false_eq_true] <;> fail)); cbv)
| (refine QC.fw ?_; cbv)
| (refine QC.mk (fun hc => ?_) (fun hc => ?_) <;> (try dsimp only at hc) <;> cbv)
| (refine br_mk2 (fun hb => ?_) (fun hb => ?_) <;> (try subst hb) <;> cbv)))
  (refine callq (hvc) rfl rfl ?_; cbv; (repeat' (first
| (refine q1w (fun z hz => ?_); (try simp only at hz); cbv)
| (refine rqw ?_; cbv)
| (refine rq (show kfitQ _ _ from by simp [kfitQ, IntKind.min, IntKind.max, IntKind.signed, IntKind.bits]; omega) ?_; cbv)
| (refine chpA ?_; cbv)
| (refine QC.tw ?_; cbv)
| (refine QC.tt ?_ ?_; (focus (simp only [decide_true, Bool.and_true, Bool.and_self] <;> fail)); cbv)
| (refine QC.ff ?_ ?_; (focus (simp only [decide_true, Bool.and_true, Bool.and_self, decide_false, Bool.false_and, reduceCtorEq, not_false_eq_true] <;> fail)); cbv)
| (refine QC.fw ?_; cbv)
| (refine QC.mk (fun hc => ?_) (fun hc => ?_) <;> (try dsimp only at hc) <;> cbv)
| (refine br_mk2 (fun hb => ?_) (fun hb => ?_) <;> (try subst hb) <;> cbv))))
  have e : z = m := by (first | omega | (simp only [cst] at *; omega) | (simp only [sm] at *; omega))
  subst e
  (refine callq (hsz) rfl rfl ?_; cbv; (repeat' (first
| (refine q1w (fun z hz => ?_); (try simp only at hz); cbv)
| (refine rqw ?_; cbv)
| (refine rq (show kfitQ _ _ from by simp [kfitQ, IntKind.min, IntKind.max, IntKind.signed, IntKind.bits]; omega) ?_; cbv)
| (refine chpA ?_; cbv)
| (refine QC.tw ?_; cbv)
| (refine QC.tt ?_ ?_; (focus (simp only [decide_true, Bool.and_true, Bool.and_self] <;> fail)); cbv)
| (refine QC.ff ?_ ?_; (focus (simp only [decide_true, Bool.and_true, Bool.and_self, decide_false, Bool.false_and, reduceCtorEq, not_false_eq_true] <;> fail)); cbv)
| (refine QC.fw ?_; cbv)
| (refine QC.mk (fun hc => ?_) (fun hc => ?_) <;> (try dsimp only at hc) <;> cbv)
| (refine br_mk2 (fun hb => ?_) (fun hb => ?_) <;> (try subst hb) <;> cbv))))
  refine loopQ (A := Nat × Int) (fun p => p.2 = p.1 ∧ p.1 ≤ n) (fun p => n - p.1) (fun p => [(40, .int .i64 p.2)]) (fun p => [(28, .row none 5 (G p.1))]) (0, 0) ⟨rfl, Nat.zero_le _⟩ ?_ ?_
  · cbv
    refine ⟨?_, trivial⟩
    show _ = Blk.row none 5 (G 0)
    rw [G0]
    simp only [pcp, prp, pln, u8l_len, List.length_replicate, u8l_rep, List.take_zero, List.nil_append]
    have e : m8.toNat = (l + n + 7) / 8 := by (first | omega | (simp only [cst] at *; omega) | (simp only [sm] at *; omega))
    rw [e, Nat.zero_add, hl, hX, Nat.min_eq_left (by omega), ← u8l_app]
    simp only [u8l_drop, u8l_take, List.drop_replicate]
    rw [List.take_of_length_le (by omega)]
  · intro ⟨i, j⟩ h
    have hj : j = (i : Int) := h.1
    have hi : i ≤ n := h.2
    clear h
    have hgl := Gl i
    have hgy := GY i
    have hy := hY i
    have hv2 := hV i
    have hm2 := hM i
    have hs := Gs i
    have hz2 := Gz i
    cbv
    (repeat' (first
| (refine q1w (fun z hz => ?_); (try simp only at hz); cbv)
| (refine rqw ?_; cbv)
| (refine rq (show kfitQ _ _ from by simp [kfitQ, IntKind.min, IntKind.max, IntKind.signed, IntKind.bits]; omega) ?_; cbv)
| (refine chpA ?_; cbv)
| (refine QC.tw ?_; cbv)
| (refine QC.tt ?_ ?_; (focus (simp only [decide_true, Bool.and_true, Bool.and_self] <;> fail)); cbv)
| (refine QC.ff ?_ ?_; (focus (simp only [decide_true, Bool.and_true, Bool.and_self, decide_false, Bool.false_and, reduceCtorEq, not_false_eq_true] <;> fail)); cbv)
| (refine QC.fw ?_; cbv)
| (refine QC.mk (fun hc => ?_) (fun hc => ?_) <;> (try dsimp only at hc) <;> cbv)
| (refine br_mk2 (fun hb => ?_) (fun hb => ?_) <;> (try subst hb) <;> cbv)))
    · have hlt : i < n := by (first | omega | (simp only [cst] at *; omega) | (simp only [sm] at *; omega))
      have hgy := hgy hlt
      have hs := hs hlt
      generalize Y i = y at hgy hy hs
      rename_i z3 h3 z4 h4
      have ek : z4.toNat = n - 1 - i := by (first | omega | (simp only [cst] at *; omega) | (simp only [sm] at *; omega))
      rw [← ek, ← hz] at hv2
      have hzb : 0 ≤ z ∧ z ≤ v := by
        rw [hz]
        exact ⟨Int.ediv_nonneg hv1.1 (Int.le_of_lt (Int.pow_pos (by omega))), Int.ediv_le_self _ hv1.1⟩
      clear hz
      refine q1 (by omega) (fun z9 hz9 => ?_)
      rw [show Int.toNat 1 = 1 from rfl, Nat.and_one_is_mod] at hz9
      cbv
      (repeat' (first
| (refine q1w (fun z hz => ?_); (try simp only at hz); cbv)
| (refine rqw ?_; cbv)
| (refine rq (show kfitQ _ _ from by simp [kfitQ, IntKind.min, IntKind.max, IntKind.signed, IntKind.bits]; omega) ?_; cbv)
| (refine chpA ?_; cbv)
| (refine QC.tw ?_; cbv)
| (refine QC.tt ?_ ?_; (focus (simp only [decide_true, Bool.and_true, Bool.and_self] <;> fail)); cbv)
| (refine QC.ff ?_ ?_; (focus (simp only [decide_true, Bool.and_true, Bool.and_self, decide_false, Bool.false_and, reduceCtorEq, not_false_eq_true] <;> fail)); cbv)
| (refine QC.fw ?_; cbv)
| (refine QC.mk (fun hc => ?_) (fun hc => ?_) <;> (try dsimp only at hc) <;> cbv)
| (refine br_mk2 (fun hb => ?_) (fun hb => ?_) <;> (try subst hb) <;> cbv)))
      · have hs := hs (by (first | omega | (simp only [cst] at *; omega) | (simp only [sm] at *; omega)))
        obtain ⟨q, hq⟩ : ∃ q, q = (l + i) / 8 := ⟨_, rfl⟩
        rw [← hq] at hs hgy
        refine qv q (by (first | omega | (simp only [cst] at *; omega) | (simp only [sm] at *; omega))) ?_
        cbv
        (repeat' (first
| (refine q1w (fun z hz => ?_); (try simp only at hz); cbv)
| (refine rqw ?_; cbv)
| (refine rq (show kfitQ _ _ from by simp [kfitQ, IntKind.min, IntKind.max, IntKind.signed, IntKind.bits]; omega) ?_; cbv)
| (refine chpA ?_; cbv)
| (refine QC.tw ?_; cbv)
| (refine QC.tt ?_ ?_; (focus (simp only [decide_true, Bool.and_true, Bool.and_self] <;> fail)); cbv)
| (refine QC.ff ?_ ?_; (focus (simp only [decide_true, Bool.and_true, Bool.and_self, decide_false, Bool.false_and, reduceCtorEq, not_false_eq_true] <;> fail)); cbv)
| (refine QC.fw ?_; cbv)
| (refine QC.mk (fun hc => ?_) (fun hc => ?_) <;> (try dsimp only at hc) <;> cbv)
| (refine br_mk2 (fun hb => ?_) (fun hb => ?_) <;> (try subst hb) <;> cbv)))
        refine qv (.int .u8 y) hgy ?_
        cbv
        (repeat' (first
| (refine q1w (fun z hz => ?_); (try simp only at hz); cbv)
| (refine rqw ?_; cbv)
| (refine rq (show kfitQ _ _ from by simp [kfitQ, IntKind.min, IntKind.max, IntKind.signed, IntKind.bits]; omega) ?_; cbv)
| (refine chpA ?_; cbv)
| (refine QC.tw ?_; cbv)
| (refine QC.tt ?_ ?_; (focus (simp only [decide_true, Bool.and_true, Bool.and_self] <;> fail)); cbv)
| (refine QC.ff ?_ ?_; (focus (simp only [decide_true, Bool.and_true, Bool.and_self, decide_false, Bool.false_and, reduceCtorEq, not_false_eq_true] <;> fail)); cbv)
| (refine QC.fw ?_; cbv)
| (refine QC.mk (fun hc => ?_) (fun hc => ?_) <;> (try dsimp only at hc) <;> cbv)
| (refine br_mk2 (fun hb => ?_) (fun hb => ?_) <;> (try subst hb) <;> cbv)))
        rename_i z5 h5
        have ek2 : z5.toNat = (l + i) % 8 := by (first | omega | (simp only [cst] at *; omega) | (simp only [sm] at *; omega))
        rw [← ek2, ← hz] at hm2
        refine q1 (by omega) (fun z8 hz8 => ?_)
        rw [show z.toNat = (M i).toNat by omega] at hz8
        rw [← hz8] at hs
        clear hz8
        cbv
        (repeat' (first
| (refine q1w (fun z hz => ?_); (try simp only at hz); cbv)
| (refine rqw ?_; cbv)
| (refine rq (show kfitQ _ _ from by simp [kfitQ, IntKind.min, IntKind.max, IntKind.signed, IntKind.bits]; omega) ?_; cbv)
| (refine chpA ?_; cbv)
| (refine QC.tw ?_; cbv)
| (refine QC.tt ?_ ?_; (focus (simp only [decide_true, Bool.and_true, Bool.and_self] <;> fail)); cbv)
| (refine QC.ff ?_ ?_; (focus (simp only [decide_true, Bool.and_true, Bool.and_self, decide_false, Bool.false_and, reduceCtorEq, not_false_eq_true] <;> fail)); cbv)
| (refine QC.fw ?_; cbv)
| (refine QC.mk (fun hc => ?_) (fun hc => ?_) <;> (try dsimp only at hc) <;> cbv)
| (refine br_mk2 (fun hb => ?_) (fun hb => ?_) <;> (try subst hb) <;> cbv)))
        refine qv q (by (first | omega | (simp only [cst] at *; omega) | (simp only [sm] at *; omega))) ?_
        cbv
        (repeat' (first
| (refine q1w (fun z hz => ?_); (try simp only at hz); cbv)
| (refine rqw ?_; cbv)
| (refine rq (show kfitQ _ _ from by simp [kfitQ, IntKind.min, IntKind.max, IntKind.signed, IntKind.bits]; omega) ?_; cbv)
| (refine chpA ?_; cbv)
| (refine QC.tw ?_; cbv)
| (refine QC.tt ?_ ?_; (focus (simp only [decide_true, Bool.and_true, Bool.and_self] <;> fail)); cbv)
| (refine QC.ff ?_ ?_; (focus (simp only [decide_true, Bool.and_true, Bool.and_self, decide_false, Bool.false_and, reduceCtorEq, not_false_eq_true] <;> fail)); cbv)
| (refine QC.fw ?_; cbv)
| (refine QC.mk (fun hc => ?_) (fun hc => ?_) <;> (try dsimp only at hc) <;> cbv)
| (refine br_mk2 (fun hb => ?_) (fun hb => ?_) <;> (try subst hb) <;> cbv)))
        refine ⟨(i + 1, z), ⟨by (first | omega | (simp only [cst] at *; omega) | (simp only [sm] at *; omega)), by omega⟩, by (first | omega | (simp only [cst] at *; omega) | (simp only [sm] at *; omega)), ?_⟩
        cbv
        refine ⟨?_, trivial⟩
        show Blk.row none 5 (O.st (G i) q (.int .u8 _)) = .row none 5 (G (i + 1))
        rw [← hs]
      · refine ⟨(i + 1, z), ⟨by (first | omega | (simp only [cst] at *; omega) | (simp only [sm] at *; omega)), by omega⟩, by (first | omega | (simp only [cst] at *; omega) | (simp only [sm] at *; omega)), ?_⟩
        cbv
        refine ⟨?_, trivial⟩
        show Blk.row none 5 (G i) = .row none 5 (G (i + 1))
        rw [hz2 (by (first | omega | (simp only [cst] at *; omega) | (simp only [sm] at *; omega)))]
    · have e : i = n := by (first | omega | (simp only [cst] at *; omega) | (simp only [sm] at *; omega))
      refine ⟨?_, rfl, rfl⟩
      show SV.tup [.agg [.lst none (G i), _], _] = _
      rw [e, Gn, hR]
      congr 6
      (first | omega | (simp only [cst] at *; omega) | (simp only [sm] at *; omega))
theorem appendBits_no (bs : List UInt8) (X : List SV) (len v N : Int) (hX : X = u8l bs) (hl : bs.length ≤ 140737488351500) (hlen : -9223372036854775808 ≤ len ∧ len ≤ 9223372036854775807)
    (hno : validB bs len = true → ¬ (0 ≤ N ∧ N ≤ 64)) (hN : -9223372036854775808 ≤ N ∧ N ≤ 9223372036854775807) :
    Good 22 (pu [.agg [.lst none X, .int .i64 len], .int .u64 v, .int .i64 N] (.tup [.agg [.nil, .int .i64 0], .bool false])) := by
  obtain ⟨vb, hvb⟩ : ∃ b, b = validB bs len := ⟨_, rfl⟩
  have hvc := valid_c bs X len vb hX (by omega) hlen hvb
  rw [← hvb] at hno
  cases vb
  · clear hno
    refine Good.of Try.func22 rfl (by rfl) (by kernel_rfl) ?_
    cbv
    (repeat' (first
| (refine q1w (fun z hz => ?_); (try simp only at hz); cbv)
| (refine rqw ?_; cbv)
| (refine rq (show kfitQ _ _ from by simp [kfitQ, IntKind.min, IntKind.max, IntKind.signed, IntKind.bits]; omega) ?_; cbv)
| (refine chpA ?_; cbv)
| (refine QC.tw ?_; cbv)
| (refine QC.tt ?_ ?_; (focus (simp only [decide_true, Bool.and_true, Bool.and_self] <;> fail)); cbv)
| (refine QC.ff ?_ ?_; (focus (simp only [decide_true, Bool.and_true, Bool.and_self, decide_false, Bool.false_and, reduceCtorEq, not_false_eq_true] <;> fail)); cbv)
| (refine QC.fw ?_; cbv)
| (refine QC.mk (fun hc => ?_) (fun hc => ?_) <;> (try dsimp only at hc) <;> cbv)
| (refine br_mk2 (fun hb => ?_) (fun hb => ?_) <;> (try subst hb) <;> cbv)))
    (refine callq (hvc) rfl rfl ?_; cbv; (repeat' (first
| (refine q1w (fun z hz => ?_); (try simp only at hz); cbv)
| (refine rqw ?_; cbv)
| (refine rq (show kfitQ _ _ from by simp [kfitQ, IntKind.min, IntKind.max, IntKind.signed, IntKind.bits]; omega) ?_; cbv)
| (refine chpA ?_; cbv)
| (refine QC.tw ?_; cbv)
| (refine QC.tt ?_ ?_; (focus (simp only [decide_true, Bool.and_true, Bool.and_self] <;> fail)); cbv)
| (refine QC.ff ?_ ?_; (focus (simp only [decide_true, Bool.and_true, Bool.and_self, decide_false, Bool.false_and, reduceCtorEq, not_false_eq_true] <;> fail)); cbv)
| (refine QC.fw ?_; cbv)
| (refine QC.mk (fun hc => ?_) (fun hc => ?_) <;> (try dsimp only at hc) <;> cbv)
| (refine br_mk2 (fun hb => ?_) (fun hb => ?_) <;> (try subst hb) <;> cbv))))
    all_goals exact ⟨rfl, rfl, rfl⟩
  · have hno := hno rfl
    refine Good.of Try.func22 rfl (by rfl) (by kernel_rfl) ?_
    cbv
    (repeat' (first
| (refine q1w (fun z hz => ?_); (try simp only at hz); cbv)
| (refine rqw ?_; cbv)
| (refine rq (show kfitQ _ _ from by simp [kfitQ, IntKind.min, IntKind.max, IntKind.signed, IntKind.bits]; omega) ?_; cbv)
| (refine chpA ?_; cbv)
| (refine QC.tw ?_; cbv)
| (refine QC.tt ?_ ?_; (focus (simp only [decide_true, Bool.and_true, Bool.and_self] <;> fail)); cbv)
| (refine QC.ff ?_ ?_; (focus (simp only [decide_true, Bool.and_true, Bool.and_self, decide_false, Bool.false_and, reduceCtorEq, not_false_eq_true] <;> fail)); cbv)
| (refine QC.fw ?_; cbv)
| (refine QC.mk (fun hc => ?_) (fun hc => ?_) <;> (try dsimp only at hc) <;> cbv)
| (refine br_mk2 (fun hb => ?_) (fun hb => ?_) <;> (try subst hb) <;> cbv)))
    (refine callq (hvc) rfl rfl ?_; cbv; (repeat' (first
| (refine q1w (fun z hz => ?_); (try simp only at hz); cbv)
| (refine rqw ?_; cbv)
| (refine rq (show kfitQ _ _ from by simp [kfitQ, IntKind.min, IntKind.max, IntKind.signed, IntKind.bits]; omega) ?_; cbv)
| (refine chpA ?_; cbv)
| (refine QC.tw ?_; cbv)
| (refine QC.tt ?_ ?_; (focus (simp only [decide_true, Bool.and_true, Bool.and_self] <;> fail)); cbv)
| (refine QC.ff ?_ ?_; (focus (simp only [decide_true, Bool.and_true, Bool.and_self, decide_false, Bool.false_and, reduceCtorEq, not_false_eq_true] <;> fail)); cbv)
| (refine QC.fw ?_; cbv)
| (refine QC.mk (fun hc => ?_) (fun hc => ?_) <;> (try dsimp only at hc) <;> cbv)
| (refine br_mk2 (fun hb => ?_) (fun hb => ?_) <;> (try subst hb) <;> cbv))))
    all_goals first | exact ⟨rfl, rfl, rfl⟩ | skip
    all_goals exfalso
    all_goals omega
theorem rappendBits_no (bs : List UInt8) (X : List SV) (len v N : Int) (hX : X = u8l bs) (hl : bs.length ≤ 140737488351500) (hlen : -9223372036854775808 ≤ len ∧ len ≤ 9223372036854775807)
    (hno : validB bs len = true → ¬ (0 ≤ N ∧ N ≤ 64)) (hN : -9223372036854775808 ≤ N ∧ N ≤ 9223372036854775807) :
    Good 23 (pu [.agg [.lst none X, .int .i64 len], .int .u64 v, .int .i64 N] (.tup [.agg [.nil, .int .i64 0], .bool false])) := by
  obtain ⟨vb, hvb⟩ : ∃ b, b = validB bs len := ⟨_, rfl⟩
  have hvc := rvalid_c bs X len vb hX (by omega) hlen hvb
  rw [← hvb] at hno
  cases vb
  · clear hno
    refine Good.of Try.func23 rfl (by rfl) (by kernel_rfl) ?_
    cbv
    (repeat' (first
| (refine q1w (fun z hz => ?_); (try simp only at hz); cbv)
| (refine rqw ?_; cbv)
| (refine rq (show kfitQ _ _ from by simp [kfitQ, IntKind.min, IntKind.max, IntKind.signed, IntKind.bits]; omega) ?_; cbv)
| (refine chpA ?_; cbv)
| (refine QC.tw ?_; cbv)
| (refine QC.tt ?_ ?_; (focus (simp only [decide_true, Bool.and_true, Bool.and_self] <;> fail)); cbv)
| (refine QC.ff ?_ ?_; (focus (simp only [decide_true, Bool.and_true, Bool.and_self, decide_false, Bool.false_and, reduceCtorEq, not_false_eq_true] <;> fail)); cbv)
| (refine QC.fw ?_; cbv)
| (refine QC.mk (fun hc => ?_) (fun hc => ?_) <;> (try dsimp only at hc) <;> cbv)
| (refine br_mk2 (fun hb => ?_) (fun hb => ?_) <;> (try subst hb) <;> cbv)))
    (refine callq (hvc) rfl rfl ?_; cbv; (repeat' (first
| (refine q1w (fun z hz => ?_); (try simp only at hz); cbv)
| (refine rqw ?_; cbv)
| (refine rq (show kfitQ _ _ from by simp [kfitQ, IntKind.min, IntKind.max, IntKind.signed, IntKind.bits]; omega) ?_; cbv)
| (refine chpA ?_; cbv)
| (refine QC.tw ?_; cbv)
| (refine QC.tt ?_ ?_; (focus (simp only [decide_true, Bool.and_true, Bool.and_self] <;> fail)); cbv)
| (refine QC.ff ?_ ?_; (focus (simp only [decide_true, Bool.and_true, Bool.and_self, decide_false, Bool.false_and, reduceCtorEq, not_false_eq_true] <;> fail)); cbv)
| (refine QC.fw ?_; cbv)
| (refine QC.mk (fun hc => ?_) (fun hc => ?_) <;> (try dsimp only at hc) <;> cbv)
| (refine br_mk2 (fun hb => ?_) (fun hb => ?_) <;> (try subst hb) <;> cbv))))
    all_goals exact ⟨rfl, rfl, rfl⟩
  · have hno := hno rfl
    refine Good.of Try.func23 rfl (by rfl) (by kernel_rfl) ?_
    cbv
    (repeat' (first
| (refine q1w (fun z hz => ?_); (try simp only at hz); cbv)
| (refine rqw ?_; cbv)
| (refine rq (show kfitQ _ _ from by simp [kfitQ, IntKind.min, IntKind.max, IntKind.signed, IntKind.bits]; omega) ?_; cbv)
| (refine chpA ?_; cbv)
| (refine QC.tw ?_; cbv)
| (refine QC.tt ?_ ?_; (focus (simp only [decide_true, Bool.and_true, Bool.and_self] <;> fail)); cbv)
| (refine QC.ff ?_ ?_; (focus (simp only [decide_true, Bool.and_true, Bool.and_self, decide_false, Bool.false_and, reduceCtorEq, not_false_eq_true] <;> fail)); cbv)
| (refine QC.fw ?_; cbv)
| (refine QC.mk (fun hc => ?_) (fun hc => ?_) <;> (try dsimp only at hc) <;> cbv)
| (refine br_mk2 (fun hb => ?_) (fun hb => ?_) <;> (try subst hb) <;> cbv)))
    (refine callq (hvc) rfl rfl ?_; cbv; (repeat' (first
| (refine q1w (fun z hz => ?_); (try simp only at hz); cbv)
| (refine rqw ?_; cbv)
| (refine rq (show kfitQ _ _ from by simp [kfitQ, IntKind.min, IntKind.max, IntKind.signed, IntKind.bits]; omega) ?_; cbv)
| (refine chpA ?_; cbv)
| (refine QC.tw ?_; cbv)
| (refine QC.tt ?_ ?_; (focus (simp only [decide_true, Bool.and_true, Bool.and_self] <;> fail)); cbv)
| (refine QC.ff ?_ ?_; (focus (simp only [decide_true, Bool.and_true, Bool.and_self, decide_false, Bool.false_and, reduceCtorEq, not_false_eq_true] <;> fail)); cbv)
| (refine QC.fw ?_; cbv)
| (refine QC.mk (fun hc => ?_) (fun hc => ?_) <;> (try dsimp only at hc) <;> cbv)
| (refine br_mk2 (fun hb => ?_) (fun hb => ?_) <;> (try subst hb) <;> cbv))))
    all_goals first | exact ⟨rfl, rfl, rfl⟩ | skip
    all_goals exfalso
    all_goals omega
end Go.Proofs.Ytapcbkcnokoljaa
