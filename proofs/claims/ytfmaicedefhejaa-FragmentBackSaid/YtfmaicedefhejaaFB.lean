/- Contract of multihopref16.Split. -/
import Derived.Test.YtfmaicedefhejaaFA
namespace Go.Proofs.Ytfmaicedefhejaa
set_option linter.unusedVariables false
set_option linter.unusedSimpArgs false
open Go.RowKit
set_option maxHeartbeats 4000000
theorem sgE (bs : List UInt8) (X : List SV) (n a z : Int) (hX : X = u8l bs) (hn : 0 ≤ n ∧ 0 ≤ a) (hz : z = a + n) : O.sg X (O.tn a) (O.si z a) = u8l ((bs.drop a.toNat).take n.toNat) := by
  rw [osg, otn, osi, hX, u8l_drop, u8l_take]
  congr 2
  omega
theorem rsplit_c (bs : List UInt8) (X W : List SV) (tag room : Int) (K : Nat) (hX : X = u8l bs) (hbl : 1 ≤ bs.length ∧ bs.length ≤ 2047) (hr : 13 ≤ room ∧ room ≤ 9223372036854775807) (ht : 0 ≤ tag ∧ tag ≤ 65535)
    (hK : atS bs.length room K = bs.length) (hK' : ∀ k, k < K → atS bs.length room k < bs.length) (hW : W = splitL bs tag room K) :
    Good 14 (pu [.lst none X, .int .u16 tag, .int .i64 room] (.tup [.lst (some 4) W, .int .i64 0])) := by
  have hl : X.length = bs.length := by rw [hX, u8l_len]
  obtain ⟨len, hlen⟩ : ∃ len : Int, len = bs.length := ⟨_, rfl⟩
  have hKb : K ≤ 2047 := by
    by_cases h : K = 0
    · omega
    · have h1 := hK' (K - 1) (by omega)
      have := atS_ok bs.length room hr.1 (by omega) (K - 1)
      omega
  obtain ⟨A, hA⟩ : ∃ A : Nat → Int, ∀ k, A k = atS bs.length room k := ⟨_, fun _ => rfl⟩
  obtain ⟨S, hS⟩ : ∃ A : Nat → Int, ∀ k, A k = spS room k := ⟨_, fun _ => rfl⟩
  obtain ⟨N, hN⟩ : ∃ A : Nat → Int, ∀ k, A k = lenS bs.length room (atS bs.length room k) k := ⟨_, fun _ => rfl⟩
  obtain ⟨L, hL⟩ : ∃ L : Nat → List SV, ∀ k, L k = splitL bs tag room k := ⟨_, fun _ => rfl⟩
  have hA1 : ∀ k, k ≠ 0 → 0 < A k := fun k hk => by rw [hA]; have := atS_ok bs.length room hr.1 (by omega) k; omega
  have hA0 : A 0 = 0 := by rw [hA]; rfl
  have hAs : ∀ k, A (k + 1) = A k + N k := fun k => by rw [hA, hA, hN]; rfl
  have hAb : ∀ k, 0 ≤ A k ∧ A k ≤ len := fun k => by rw [hA, hlen]; have := atS_ok bs.length room hr.1 (by omega) k; omega
  have hSb : ∀ k, 8 ≤ S k ∧ S k ≤ room ∧ (k = 0 → S k = room - 4) ∧ (k ≠ 0 → S k = room - 5) := fun k => by
    rw [hS]; have := spS_ge room k hr.1; unfold spS at *; split <;> simp_all <;> omega
  have hNb : ∀ k, N k = if len - A k > S k then S k - S k % 8 else len - A k := fun k => by rw [hN, hA, hS, hlen]; rfl
  have hKA : ∀ k, k < K → A k < len := fun k hk => by rw [hA, hlen]; exact hK' k hk
  have hKe : A K = len := by rw [hA, hlen]; exact hK
  have hLs : ∀ k, L (k + 1) = L k ++ [.agg [.int .i64 len, .int .u16 tag, .int .i64 (A k), .lst none (u8l ((bs.drop (A k).toNat).take (N k).toNat))]] := fun k => by
    rw [hL, hL, hA, hN, splitL_succ, hlen]; rfl
  have hLl : ∀ k, (L k).length = k := fun k => by rw [hL, splitL_len]
  have hWL : W = L K := by rw [hW, hL]
  have hL0 : L 0 = [] := by rw [hL]; rfl
  clear hW hL hA hS hN hK hK'
  refine Good.of Try.func14 rfl (by rfl) (by kernel_rfl) ?_
  cbv
  (repeat' (first
    | (refine q1 (by first | exact trivial | omega | (dsimp only; omega) | exact pow62 _ (by omega) | exact mul9 (by omega) (by omega) | (simp only [oln, otk, odr, oap, ost, orp, ocp, osg, otn, oad, osb, osi, oby, pln, ptk, pdr, pap, pst, prp, pcp, psg, ptn, pad, psb, psi, pby, cst, ints_len, List.length_take, List.length_drop, List.length_append, List.length_set, List.length_replicate, List.length_cons, List.length_nil] at *; omega)) (fun z hz => ?_); (try simp only at hz); cbv)
    | (refine rq (by first | exact trivial | omega | (dsimp only; omega) | (simp only [oln, otk, odr, oap, ost, orp, ocp, osg, otn, oad, osb, osi, oby, pln, ptk, pdr, pap, pst, prp, pcp, psg, ptn, pad, psb, psi, pby, cst, ints_len, List.length_take, List.length_drop, List.length_append, List.length_set, List.length_replicate, List.length_cons, List.length_nil] at *; omega)) ?_; cbv)
    | (refine QC.tt (by first | omega | (dsimp only; omega) | exact rfl | (simp only [oln, otk, odr, oap, ost, orp, ocp, osg, otn, oad, osb, osi, oby, pln, ptk, pdr, pap, pst, prp, pcp, psg, ptn, pad, psb, psi, pby, cst, ints_len, List.length_take, List.length_drop, List.length_append, List.length_set, List.length_replicate, List.length_cons, List.length_nil] at *; omega)) ?_; cbv)
    | (refine QC.tt ?_ ?_; (focus (simp only [decide_true, Bool.and_true, Bool.and_self] <;> fail)); cbv)
    | (refine QC.ff ?_ ?_; (focus (simp only [decide_true, Bool.and_true, Bool.and_self, decide_false, Bool.false_and, reduceCtorEq, not_false_eq_true] <;> fail)); cbv)
    | (refine QC.ff (by first | omega | (dsimp only; omega) | (simp only [oln, otk, odr, oap, ost, orp, ocp, osg, otn, oad, osb, osi, oby, pln, ptk, pdr, pap, pst, prp, pcp, psg, ptn, pad, psb, psi, pby, cst, ints_len, List.length_take, List.length_drop, List.length_append, List.length_set, List.length_replicate, List.length_cons, List.length_nil] at *; omega)) ?_; cbv)
    | (refine QC.mk (fun hc => ?_) (fun hc => ?_) <;> (try dsimp only at hc) <;> cbv)
    | (refine br_mk2 (fun hb => ?_) (fun hb => ?_) <;> (try subst hb) <;> cbv)))
  refine loopQ (A := Nat × Int) (fun p => p.1 ≤ K ∧ p.2 = A p.1) (fun p => K - p.1) (fun p => [(8, .row 8), (9, .int .i64 p.2)]) (fun p => [(8, .row (some 4) 45 (L p.1))]) (0, 0) ⟨Nat.zero_le _, hA0.symm⟩ ?_ ?_
  · cbv
    exact ⟨by rw [hL0], trivial⟩
  · intro ⟨k, a⟩ h
    have hk : k ≤ K := h.1
    have ha : a = A k := h.2
    clear h
    have h1 := hAb k
    have h2 := hSb k
    have h3 := hNb k
    have h4 := hKA k
    have h5 := hLs k
    have h6 := hAs k
    have h7 := hLl k
    have h8 := hA1 k
    have h9 : k = 0 → A k = 0 := fun h => by rw [h]; exact hA0
    cbv
    (repeat' (first
    | (refine q1 (by first | exact trivial | omega | (dsimp only; omega) | exact pow62 _ (by omega) | exact mul9 (by omega) (by omega) | (simp only [oln, otk, odr, oap, ost, orp, ocp, osg, otn, oad, osb, osi, oby, pln, ptk, pdr, pap, pst, prp, pcp, psg, ptn, pad, psb, psi, pby, cst, ints_len, List.length_take, List.length_drop, List.length_append, List.length_set, List.length_replicate, List.length_cons, List.length_nil] at *; omega)) (fun z hz => ?_); (try simp only at hz); cbv)
    | (refine rq (by first | exact trivial | omega | (dsimp only; omega) | (simp only [oln, otk, odr, oap, ost, orp, ocp, osg, otn, oad, osb, osi, oby, pln, ptk, pdr, pap, pst, prp, pcp, psg, ptn, pad, psb, psi, pby, cst, ints_len, List.length_take, List.length_drop, List.length_append, List.length_set, List.length_replicate, List.length_cons, List.length_nil] at *; omega)) ?_; cbv)
    | (refine QC.tt (by first | omega | (dsimp only; omega) | exact rfl | (simp only [oln, otk, odr, oap, ost, orp, ocp, osg, otn, oad, osb, osi, oby, pln, ptk, pdr, pap, pst, prp, pcp, psg, ptn, pad, psb, psi, pby, cst, ints_len, List.length_take, List.length_drop, List.length_append, List.length_set, List.length_replicate, List.length_cons, List.length_nil] at *; omega)) ?_; cbv)
    | (refine QC.tt ?_ ?_; (focus (simp only [decide_true, Bool.and_true, Bool.and_self] <;> fail)); cbv)
    | (refine QC.ff ?_ ?_; (focus (simp only [decide_true, Bool.and_true, Bool.and_self, decide_false, Bool.false_and, reduceCtorEq, not_false_eq_true] <;> fail)); cbv)
    | (refine QC.ff (by first | omega | (dsimp only; omega) | (simp only [oln, otk, odr, oap, ost, orp, ocp, osg, otn, oad, osb, osi, oby, pln, ptk, pdr, pap, pst, prp, pcp, psg, ptn, pad, psb, psi, pby, cst, ints_len, List.length_take, List.length_drop, List.length_append, List.length_set, List.length_replicate, List.length_cons, List.length_nil] at *; omega)) ?_; cbv)
    | (refine QC.mk (fun hc => ?_) (fun hc => ?_) <;> (try dsimp only at hc) <;> cbv)
    | (refine br_mk2 (fun hb => ?_) (fun hb => ?_) <;> (try subst hb) <;> cbv)))
    · skip
      rename_i n hn zl hzl z9 hz9
      have hkK : k < K := by
        rcases Nat.lt_or_ge k K with h | h
        · exact h
        · have e : k = K := by omega
          rw [← e] at hKe
          exfalso; (first | omega | (simp only [cst] at *; omega) | (simp only [oln, otk, odr, oap, ost, orp, ocp, osg, otn, oad, osb, osi, oby, pln, ptk, pdr, pap, pst, prp, pcp, psg, ptn, pad, psb, psi, pby, cst, ints_len, List.length_take, List.length_drop, List.length_append, List.length_set, List.length_replicate, List.length_cons, List.length_nil] at *; omega))
      have hNn : N k = n := by
        rw [h3]
        split <;> (first | omega | (simp only [cst] at *; omega) | (simp only [oln, otk, odr, oap, ost, orp, ocp, osg, otn, oad, osb, osi, oby, pln, ptk, pdr, pap, pst, prp, pcp, psg, ptn, pad, psb, psi, pby, cst, ints_len, List.length_take, List.length_drop, List.length_append, List.length_set, List.length_replicate, List.length_cons, List.length_nil] at *; omega))
      refine ⟨(k + 1, z), ⟨by omega, by show z = A (k + 1); omega⟩, by show K - (k + 1) < K - k; omega, ?_⟩
      cbv
      refine ⟨?_, trivial⟩
      have hc := sgE bs X n a z9 hX (by (first | omega | (simp only [cst] at *; omega) | (simp only [oln, otk, odr, oap, ost, orp, ocp, osg, otn, oad, osb, osi, oby, pln, ptk, pdr, pap, pst, prp, pcp, psg, ptn, pad, psb, psi, pby, cst, ints_len, List.length_take, List.length_drop, List.length_append, List.length_set, List.length_replicate, List.length_cons, List.length_nil] at *; omega))) hz9
      show Blk.row (some 4) 45 (apL (L k) [.agg [.int .i64 _, .int .u16 tag, .int .i64 a, .lst none (O.sg X (O.tn a) (O.si z9 a))]]) = .row (some 4) 45 (L (k + 1))
      rw [apL_eq, hc, h5, ← ha, hNn, show len = zl by (first | omega | (simp only [cst] at *; omega) | (simp only [oln, otk, odr, oap, ost, orp, ocp, osg, otn, oad, osb, osi, oby, pln, ptk, pdr, pap, pst, prp, pcp, psg, ptn, pad, psb, psi, pby, cst, ints_len, List.length_take, List.length_drop, List.length_append, List.length_set, List.length_replicate, List.length_cons, List.length_nil] at *; omega))]
    · skip
      rename_i n hn zl hzl z9 hz9
      have hkK : k < K := by
        rcases Nat.lt_or_ge k K with h | h
        · exact h
        · have e : k = K := by omega
          rw [← e] at hKe
          exfalso; (first | omega | (simp only [cst] at *; omega) | (simp only [oln, otk, odr, oap, ost, orp, ocp, osg, otn, oad, osb, osi, oby, pln, ptk, pdr, pap, pst, prp, pcp, psg, ptn, pad, psb, psi, pby, cst, ints_len, List.length_take, List.length_drop, List.length_append, List.length_set, List.length_replicate, List.length_cons, List.length_nil] at *; omega))
      have hNn : N k = n := by
        rw [h3]
        split <;> (first | omega | (simp only [cst] at *; omega) | (simp only [oln, otk, odr, oap, ost, orp, ocp, osg, otn, oad, osb, osi, oby, pln, ptk, pdr, pap, pst, prp, pcp, psg, ptn, pad, psb, psi, pby, cst, ints_len, List.length_take, List.length_drop, List.length_append, List.length_set, List.length_replicate, List.length_cons, List.length_nil] at *; omega))
      refine ⟨(k + 1, z), ⟨by omega, by show z = A (k + 1); omega⟩, by show K - (k + 1) < K - k; omega, ?_⟩
      cbv
      refine ⟨?_, trivial⟩
      have hc := sgE bs X n a z9 hX (by (first | omega | (simp only [cst] at *; omega) | (simp only [oln, otk, odr, oap, ost, orp, ocp, osg, otn, oad, osb, osi, oby, pln, ptk, pdr, pap, pst, prp, pcp, psg, ptn, pad, psb, psi, pby, cst, ints_len, List.length_take, List.length_drop, List.length_append, List.length_set, List.length_replicate, List.length_cons, List.length_nil] at *; omega))) hz9
      show Blk.row (some 4) 45 (apL (L k) [.agg [.int .i64 _, .int .u16 tag, .int .i64 a, .lst none (O.sg X (O.tn a) (O.si z9 a))]]) = .row (some 4) 45 (L (k + 1))
      rw [apL_eq, hc, h5, ← ha, hNn, show len = zl by (first | omega | (simp only [cst] at *; omega) | (simp only [oln, otk, odr, oap, ost, orp, ocp, osg, otn, oad, osb, osi, oby, pln, ptk, pdr, pap, pst, prp, pcp, psg, ptn, pad, psb, psi, pby, cst, ints_len, List.length_take, List.length_drop, List.length_append, List.length_set, List.length_replicate, List.length_cons, List.length_nil] at *; omega))]
    · skip
      rename_i n hn zl hzl z9 hz9
      have hkK : k < K := by
        rcases Nat.lt_or_ge k K with h | h
        · exact h
        · have e : k = K := by omega
          rw [← e] at hKe
          exfalso; (first | omega | (simp only [cst] at *; omega) | (simp only [oln, otk, odr, oap, ost, orp, ocp, osg, otn, oad, osb, osi, oby, pln, ptk, pdr, pap, pst, prp, pcp, psg, ptn, pad, psb, psi, pby, cst, ints_len, List.length_take, List.length_drop, List.length_append, List.length_set, List.length_replicate, List.length_cons, List.length_nil] at *; omega))
      have hNn : N k = n := by
        rw [h3]
        split <;> (first | omega | (simp only [cst] at *; omega) | (simp only [oln, otk, odr, oap, ost, orp, ocp, osg, otn, oad, osb, osi, oby, pln, ptk, pdr, pap, pst, prp, pcp, psg, ptn, pad, psb, psi, pby, cst, ints_len, List.length_take, List.length_drop, List.length_append, List.length_set, List.length_replicate, List.length_cons, List.length_nil] at *; omega))
      refine ⟨(k + 1, z), ⟨by omega, by show z = A (k + 1); omega⟩, by show K - (k + 1) < K - k; omega, ?_⟩
      cbv
      refine ⟨?_, trivial⟩
      have hc := sgE bs X n a z9 hX (by (first | omega | (simp only [cst] at *; omega) | (simp only [oln, otk, odr, oap, ost, orp, ocp, osg, otn, oad, osb, osi, oby, pln, ptk, pdr, pap, pst, prp, pcp, psg, ptn, pad, psb, psi, pby, cst, ints_len, List.length_take, List.length_drop, List.length_append, List.length_set, List.length_replicate, List.length_cons, List.length_nil] at *; omega))) hz9
      show Blk.row (some 4) 45 (apL (L k) [.agg [.int .i64 _, .int .u16 tag, .int .i64 a, .lst none (O.sg X (O.tn a) (O.si z9 a))]]) = .row (some 4) 45 (L (k + 1))
      rw [apL_eq, hc, h5, ← ha, hNn, show len = zl by (first | omega | (simp only [cst] at *; omega) | (simp only [oln, otk, odr, oap, ost, orp, ocp, osg, otn, oad, osb, osi, oby, pln, ptk, pdr, pap, pst, prp, pcp, psg, ptn, pad, psb, psi, pby, cst, ints_len, List.length_take, List.length_drop, List.length_append, List.length_set, List.length_replicate, List.length_cons, List.length_nil] at *; omega))]
    · skip
      rename_i n hn zl hzl z9 hz9
      have hkK : k < K := by
        rcases Nat.lt_or_ge k K with h | h
        · exact h
        · have e : k = K := by omega
          rw [← e] at hKe
          exfalso; (first | omega | (simp only [cst] at *; omega) | (simp only [oln, otk, odr, oap, ost, orp, ocp, osg, otn, oad, osb, osi, oby, pln, ptk, pdr, pap, pst, prp, pcp, psg, ptn, pad, psb, psi, pby, cst, ints_len, List.length_take, List.length_drop, List.length_append, List.length_set, List.length_replicate, List.length_cons, List.length_nil] at *; omega))
      have hNn : N k = n := by
        rw [h3]
        split <;> (first | omega | (simp only [cst] at *; omega) | (simp only [oln, otk, odr, oap, ost, orp, ocp, osg, otn, oad, osb, osi, oby, pln, ptk, pdr, pap, pst, prp, pcp, psg, ptn, pad, psb, psi, pby, cst, ints_len, List.length_take, List.length_drop, List.length_append, List.length_set, List.length_replicate, List.length_cons, List.length_nil] at *; omega))
      refine ⟨(k + 1, z), ⟨by omega, by show z = A (k + 1); omega⟩, by show K - (k + 1) < K - k; omega, ?_⟩
      cbv
      refine ⟨?_, trivial⟩
      have hc := sgE bs X n a z9 hX (by (first | omega | (simp only [cst] at *; omega) | (simp only [oln, otk, odr, oap, ost, orp, ocp, osg, otn, oad, osb, osi, oby, pln, ptk, pdr, pap, pst, prp, pcp, psg, ptn, pad, psb, psi, pby, cst, ints_len, List.length_take, List.length_drop, List.length_append, List.length_set, List.length_replicate, List.length_cons, List.length_nil] at *; omega))) hz9
      show Blk.row (some 4) 45 (apL (L k) [.agg [.int .i64 _, .int .u16 tag, .int .i64 a, .lst none (O.sg X (O.tn a) (O.si z9 a))]]) = .row (some 4) 45 (L (k + 1))
      rw [apL_eq, hc, h5, ← ha, hNn, show len = zl by (first | omega | (simp only [cst] at *; omega) | (simp only [oln, otk, odr, oap, ost, orp, ocp, osg, otn, oad, osb, osi, oby, pln, ptk, pdr, pap, pst, prp, pcp, psg, ptn, pad, psb, psi, pby, cst, ints_len, List.length_take, List.length_drop, List.length_append, List.length_set, List.length_replicate, List.length_cons, List.length_nil] at *; omega))]
    · have e : k = K := by
        by_cases h : k < K
        · have := h4 h; exfalso; (first | omega | (simp only [cst] at *; omega) | (simp only [oln, otk, odr, oap, ost, orp, ocp, osg, otn, oad, osb, osi, oby, pln, ptk, pdr, pap, pst, prp, pcp, psg, ptn, pad, psb, psi, pby, cst, ints_len, List.length_take, List.length_drop, List.length_append, List.length_set, List.length_replicate, List.length_cons, List.length_nil] at *; omega))
        · omega
      refine ⟨?_, rfl, rfl⟩
      rw [hWL, ← e]
end Go.Proofs.Ytfmaicedefhejaa
