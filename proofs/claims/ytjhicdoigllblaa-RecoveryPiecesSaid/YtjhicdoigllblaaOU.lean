/- Contract of multihopref01.Uint. -/
import Derived.Test.YtjhicdoigllblaaOS
namespace Go.Proofs.Ytjhicdoigllblaa
set_option linter.unusedVariables false
set_option linter.unusedSimpArgs false
open Go.RowKit
set_option maxHeartbeats 4000000
theorem rbeG (bs : List UInt8) (X : List SV) (hX : X = u8l bs) (a n : Nat) (h : a + n ≤ bs.length) : ∃ H Y : Nat → Int, H 0 = 0 ∧ (∀ i, 0 ≤ H i ∧ (i < 8 → H i < 72057594037927936)) ∧ (∀ i, 0 ≤ Y i ∧ Y i < 256) ∧ H n = be ((bs.drop a).take n) ∧
    (∀ i, i < n → H i * 256 + Y i = H (i + 1)) ∧ (∀ i, i < n → X[a + i]? = some (.int .u8 (Y i))) := by
  refine ⟨fun i => (be ((bs.drop a).take i) : Int), fun i => (bs.getD (a + i) 0).toNat, by simp [be], ?_, ?_, rfl, ?_, ?_⟩
  · intro i
    refine ⟨by dsimp only; omega, fun hi => ?_⟩
    have h1 := be_lt ((bs.drop a).take i)
    have h2 : 256 ^ ((bs.drop a).take i).length ≤ 256 ^ 7 := Nat.pow_le_pow_right (by omega) (by simp; omega)
    dsimp only
    omega
  · intro i; have := (bs.getD (a + i) 0).toNat_lt; dsimp only; omega
  · intro i hi
    dsimp only
    rw [take_snoc_u8 _ i (by simp; omega), be_snoc]
    simp [show a + i < bs.length by omega]
  · intro i hi
    rw [hX]
    exact u8l_at (a + i) (by omega)
theorem ruint_c (bs : List UInt8) (X : List SV) (A N r : Int) (a n : Nat) (hX : X = u8l bs) (hA : A = a) (hN : N = n) (h1 : 1 ≤ n) (hn : n ≤ 8) (hl : bs.length ≤ 140737488352000) (hb : a + n ≤ bs.length) (hr : r = be ((bs.drop a).take n)) :
    Good 65 (pu [.lst none X, .int .i64 A, .int .i64 N] (.tup [.int .u64 r, .bool true])) := by
  have hl : X.length = bs.length := by rw [hX, u8l_len]
  obtain ⟨H, Y, H0, Hb, HY, Hn, Hs, Hy⟩ := rbeG bs X hX a n hb
  refine Good.of Try.func65 rfl (by rfl) (by kernel_rfl) ?_
  cbv
  (repeat' (first
    | (refine q1 (by first | exact trivial | omega | (dsimp only; omega) | exact pow62 _ (by omega) | exact mul9 (by omega) (by omega) | (simp only [sm] at *; omega)) (fun z hz => ?_); (try simp only at hz); cbv)
    | (refine rq (by first | exact trivial | omega | (dsimp only; omega) | (simp only [sm] at *; omega)) ?_; cbv)
    | (refine QC.tt (by first | omega | (dsimp only; omega) | exact rfl | (simp only [sm] at *; omega)) ?_; cbv)
    | (refine QC.tt ?_ ?_; (focus (simp only [decide_true, Bool.and_true, Bool.and_self] <;> fail)); cbv)
    | (refine QC.ff ?_ ?_; (focus (simp only [decide_true, Bool.and_true, Bool.and_self, decide_false, Bool.false_and, reduceCtorEq, not_false_eq_true] <;> fail)); cbv)
    | (refine QC.ff (by first | omega | (dsimp only; omega) | (simp only [sm] at *; omega)) ?_; cbv)
    | (refine QC.mk (fun hc => ?_) (fun hc => ?_) <;> (try dsimp only at hc) <;> cbv)
    | (refine br_mk2 (fun hb => ?_) (fun hb => ?_) <;> (try subst hb) <;> cbv)))
  refine loopQ (A := Nat × Int × Int) (fun p => p.2.1 = p.1 ∧ p.1 ≤ n ∧ p.2.2 = H p.1) (fun p => n - p.1) (fun p => [(8, .int .u64 p.2.2), (9, .int .i64 p.2.1)]) (fun p => []) (0, 0, 0) ⟨rfl, Nat.zero_le _, H0.symm⟩ ?_ ?_
  · cbv
  · intro ⟨i, j, x⟩ h
    have hj : j = (i : Int) := h.1
    have hi : i ≤ n := h.2.1
    have hx : x = H i := h.2.2
    clear h
    have hb1 := Hb i
    have hy1 := HY i
    have hs1 := Hs i
    have hy2 := Hy i
    generalize Y i = y at hy1 hs1 hy2
    generalize hq : a + i = q at hy2
    have hmk : True := trivial
    cbv
    (repeat' (first
    | (refine q1 (by first | exact trivial | omega | (dsimp only; omega) | exact pow62 _ (by omega) | exact mul9 (by omega) (by omega) | (simp only [sm] at *; omega)) (fun z hz => ?_); (try simp only at hz); cbv)
    | (refine rq (by first | exact trivial | omega | (dsimp only; omega) | (simp only [sm] at *; omega)) ?_; cbv)
    | (refine QC.tt (by first | omega | (dsimp only; omega) | exact rfl | (simp only [sm] at *; omega)) ?_; cbv)
    | (refine QC.tt ?_ ?_; (focus (simp only [decide_true, Bool.and_true, Bool.and_self] <;> fail)); cbv)
    | (refine QC.ff ?_ ?_; (focus (simp only [decide_true, Bool.and_true, Bool.and_self, decide_false, Bool.false_and, reduceCtorEq, not_false_eq_true] <;> fail)); cbv)
    | (refine QC.ff (by first | omega | (dsimp only; omega) | (simp only [sm] at *; omega)) ?_; cbv)
    | (refine QC.mk (fun hc => ?_) (fun hc => ?_) <;> (try dsimp only at hc) <;> cbv)
    | (refine br_mk2 (fun hb => ?_) (fun hb => ?_) <;> (try subst hb) <;> cbv)))
    · have hjm : i < n := by (first | omega | (simp only [cst] at *; omega) | (simp only [sm] at *; omega))
      have hy3 := hy2 hjm
      have hs3 := hs1 hjm
      have hb2 := hb1.2 (by omega)
      (refine qv (q, _) ⟨(by (first | omega | (simp only [cst] at *; omega) | (simp only [sm] at *; omega))), hy3⟩ ?_; cbv; (repeat' (first
    | (refine q1 (by first | exact trivial | omega | (dsimp only; omega) | exact pow62 _ (by omega) | exact mul9 (by omega) (by omega) | (simp only [sm] at *; omega)) (fun z hz => ?_); (try simp only at hz); cbv)
    | (refine rq (by first | exact trivial | omega | (dsimp only; omega) | (simp only [sm] at *; omega)) ?_; cbv)
    | (refine QC.tt (by first | omega | (dsimp only; omega) | exact rfl | (simp only [sm] at *; omega)) ?_; cbv)
    | (refine QC.tt ?_ ?_; (focus (simp only [decide_true, Bool.and_true, Bool.and_self] <;> fail)); cbv)
    | (refine QC.ff ?_ ?_; (focus (simp only [decide_true, Bool.and_true, Bool.and_self, decide_false, Bool.false_and, reduceCtorEq, not_false_eq_true] <;> fail)); cbv)
    | (refine QC.ff (by first | omega | (dsimp only; omega) | (simp only [sm] at *; omega)) ?_; cbv)
    | (refine QC.mk (fun hc => ?_) (fun hc => ?_) <;> (try dsimp only at hc) <;> cbv)
    | (refine br_mk2 (fun hb => ?_) (fun hb => ?_) <;> (try subst hb) <;> cbv))))
      rename_i z3 h3 z2 h2 z1 h1' z0 h0
      have e1 : (2 : Int) ^ Int.toNat 8 = 256 := rfl
      rw [e1] at h3
      refine ⟨(i + 1, z, z0), ⟨by show z = ((i + 1 : Nat) : Int); (first | omega | (simp only [cst] at *; omega) | (simp only [sm] at *; omega)), by show i + 1 ≤ n; omega, by show z0 = H (i + 1); (first | omega | (simp only [cst] at *; omega) | (simp only [sm] at *; omega))⟩, by show n - (i + 1) < n - i; omega, ?_⟩
      cbv
    · have e : i = n := by (first | omega | (simp only [cst] at *; omega) | (simp only [sm] at *; omega))
      refine ⟨?_, rfl, rfl⟩
      rw [hx, hr, e, Hn]
end Go.Proofs.Ytjhicdoigllblaa
