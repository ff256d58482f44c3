/- Contract of the reference of octets.AppendBits. -/
import Derived.Test.YtapcbkcnokoljaaOI
namespace Go.Proofs.Ytapcbkcnokoljaa
set_option linter.unusedVariables false
set_option linter.unusedSimpArgs false
open Go.RowKit
set_option maxHeartbeats 4000000
theorem or_add : ∀ y, y < 256 → ∀ j, j < 8 → y / 2 ^ j % 2 = 0 → y ||| 2 ^ j = y + 2 ^ j := by decide +kernel
theorem rowP_app (r0 : List UInt8) (l : Nat) (v : Int) (n : Nat) : ∀ k, (l + k + 7) / 8 ≤ r0.length → rowP (r0 ++ [0]) l v n k = rowP r0 l v n k ++ [0]
  | 0, _ => rfl
  | k + 1, h => by
    simp only [rowP]
    rw [rowP_app r0 l v n k (by omega)]
    split
    · unfold putBit
      have hl : (l + k) / 8 < (rowP r0 l v n k).length := by rw [rowP_length]; omega
      rw [List.set_append_left _ _ hl]
      congr 3
      rw [List.getD, List.getD, List.getElem?_append_left hl]
    · rfl
theorem rpbG (bs : List UInt8) (l : Nat) (v : Int) (n : Nat) (hv : validB bs l = true) : ∃ (G E : Nat → List SV) (Y V : Nat → Int), G 0 = u8l bs ∧ G n = u8l (appBits bs l v n) ∧ (∀ k, (G k).length = (l + k + 7) / 8) ∧ (∀ k, (E k).length = (l + k + 8) / 8) ∧
    (∀ k, (l + k) % 8 = 0 → apL (G k) [.int .u8 0] = E k) ∧ (∀ k, (l + k) % 8 ≠ 0 → G k = E k) ∧
    (∀ k, (E k)[(l + k) / 8]? = some (.int .u8 (Y k))) ∧ (∀ k, 0 ≤ Y k ∧ Y k < 256) ∧ (∀ k, V k = v / 2 ^ (n - 1 - k) % 2) ∧
    (∀ k, V k = 1 → O.st (E k) ((l + k) / 8) (.int .u8 ((Y k + ((2 ^ (7 - (l + k) % 8) : Nat) : Int)) % 256)) = G (k + 1)) ∧ (∀ k, V k = 0 → E k = G (k + 1)) := by
  obtain ⟨hbl, hz⟩ := (validB_iff bs l).1 hv
  have hb : ∀ i, bitV v n i = (v / 2 ^ (n - 1 - i) % 2).toNat := fun _ => rfl
  refine ⟨fun k => u8l (rowP (bs ++ List.replicate ((l + k + 7) / 8 - bs.length) 0) l v n k), fun k => u8l (rowP (bs ++ List.replicate ((l + k + 8) / 8 - bs.length) 0) l v n k),
    fun k => ((rowP (bs ++ List.replicate ((l + k + 8) / 8 - bs.length) 0) l v n k).getD ((l + k) / 8) 0).toNat, fun i => v / 2 ^ (n - 1 - i) % 2, ?_, ?_, ?_, ?_, ?_, ?_, ?_, ?_, fun _ => rfl, ?_, ?_⟩
  · simp [rowP, hbl]
  · rfl
  · intro k; simp [u8l_len, hbl]; omega
  · intro k; simp [u8l_len, hbl]; omega
  · intro k hk
    dsimp only
    rw [apL_eq, show [SV.int .u8 0] = u8l [0] from rfl, u8l_app, ← rowP_app _ _ _ _ _ (by simp; omega), List.append_assoc, show [(0 : UInt8)] = List.replicate 1 0 from rfl, List.replicate_append_replicate]
    congr 4
    omega
  · intro k hk
    dsimp only
    congr 4
    omega
  · intro k
    exact u8l_at _ (by rw [rowP_length]; simp [hbl]; omega)
  · intro k
    have := ((rowP (bs ++ List.replicate ((l + k + 8) / 8 - bs.length) 0) l v n k).getD ((l + k) / 8) 0).toNat_lt
    dsimp only; omega
  · intro k h1
    dsimp only at h1 ⊢
    have hlt := ((rowP (bs ++ List.replicate ((l + k + 8) / 8 - bs.length) 0) l v n k).getD ((l + k) / 8) 0).toNat_lt
    have h0 := bitAt_rowP (bs ++ List.replicate ((l + k + 8) / 8 - bs.length) 0) l v n k (l + k) (by simp; omega) (fun j hj => by rw [bitAt_append_zeros]; exact hz j hj)
    rw [if_neg (by omega), if_neg (by omega)] at h0
    unfold bitAt at h0
    have h2 := or_add _ hlt (7 - (l + k) % 8) (by omega) h0
    have h3 := or_pow_lt _ (7 - (l + k) % 8) hlt (by omega)
    rw [show l + (k + 1) + 7 = l + k + 8 by omega]
    simp only [rowP]
    rw [if_pos (by rw [hb, h1]; rfl), putBit, ← u8l_set, ost]
    congr 2
    rw [h2] at h3 ⊢
    simp only [UInt8.toNat_ofNat']
    omega
  · intro k h0
    dsimp only at h0 ⊢
    rw [show l + (k + 1) + 7 = l + k + 8 by omega]
    simp only [rowP]
    rw [if_neg (by rw [hb, h0]; decide)]
theorem rappendBits_yes (bs : List UInt8) (X R : List SV) (len v N m : Int) (l n : Nat) (hX : X = u8l bs) (hbl : bs.length ≤ 140737488351500) (hlen : len = l) (hv : validB bs len = true) (hN : N = n) (hn : n ≤ 64)
    (hv1 : 0 ≤ v ∧ v < 18446744073709551616) (hm : m = len + N) (hR : R = u8l (appBits bs l v n)) :
    Good 23 (pu [.agg [.lst none X, .int .i64 len], .int .u64 v, .int .i64 N] (.tup [.agg [.lst none R, .int .i64 m], .bool true])) := by
  have hvl : bs.length = (l + 7) / 8 := by
    rw [hlen] at hv; exact ((validB_iff bs l).1 hv).1
  have hvc := rvalid_c bs X len true hX (by omega) (by omega) hv.symm
  rw [hlen] at hv
  obtain ⟨G, E, Y, V, G0, Gn, Gl, El, Ga, Gb, EY, hY, hV, Es, Ez⟩ := rpbG bs l v n hv
  have hl : X.length = bs.length := by rw [hX, u8l_len]
  refine Good.of Try.func23 rfl (by rfl) (by kernel_rfl) ?_
  cbv
  (repeat' (first
    | (refine q1 (by first | exact trivial | omega | (dsimp only; omega) | exact pow62 _ (by omega) | exact mul9 (by omega) (by omega) | (simp only [oln, otk, odr, oap, ost, orp, ocp, osg, otn, oad, osb, osi, oby, pln, ptk, pdr, pap, pst, prp, pcp, psg, ptn, pad, psb, psi, pby, cst, ints_len, List.length_take, List.length_drop, List.length_append, List.length_set, List.length_replicate, List.length_cons, List.length_nil] at *; omega)) (fun z hz => ?_); (try simp only at hz); cbv)
    | (refine rq (by first | exact trivial | omega | (dsimp only; omega) | (simp only [oln, otk, odr, oap, ost, orp, ocp, osg, otn, oad, osb, osi, oby, pln, ptk, pdr, pap, pst, prp, pcp, psg, ptn, pad, psb, psi, pby, cst, ints_len, List.length_take, List.length_drop, List.length_append, List.length_set, List.length_replicate, List.length_cons, List.length_nil] at *; omega)) ?_; cbv)
    | (refine QC.tt (by first | omega | (dsimp only; omega) | exact rfl | (simp only [oln, otk, odr, oap, ost, orp, ocp, osg, otn, oad, osb, osi, oby, pln, ptk, pdr, pap, pst, prp, pcp, psg, ptn, pad, psb, psi, pby, cst, ints_len, List.length_take, List.length_drop, List.length_append, List.length_set, List.length_replicate, List.length_cons, List.length_nil] at *; omega)) ?_; cbv)
    | (refine QC.tt ?_ ?_; (focus (simp only [decide_true, Bool.and_true, Bool.and_self] <;> fail)); cbv)
    | (refine QC.ff ?_ ?_; (focus (simp only [decide_true, Bool.and_true, Bool.and_self, decide_false, Bool.false_and, reduceCtorEq, not_false_eq_true] <;> fail)); cbv)
    | (refine QC.ff (by first | omega | (dsimp only; omega) | (simp only [oln, otk, odr, oap, ost, orp, ocp, osg, otn, oad, osb, osi, oby, pln, ptk, pdr, pap, pst, prp, pcp, psg, ptn, pad, psb, psi, pby, cst, ints_len, List.length_take, List.length_drop, List.length_append, List.length_set, List.length_replicate, List.length_cons, List.length_nil] at *; omega)) ?_; cbv)
    | (refine QC.mk (fun hc => ?_) (fun hc => ?_) <;> (try dsimp only at hc) <;> cbv)
    | (refine br_mk2 (fun hb => ?_) (fun hb => ?_) <;> (try subst hb) <;> cbv)))
  (refine callq (hvc) rfl rfl ?_; cbv; (repeat' (first
    | (refine q1 (by first | exact trivial | omega | (dsimp only; omega) | exact pow62 _ (by omega) | exact mul9 (by omega) (by omega) | (simp only [oln, otk, odr, oap, ost, orp, ocp, osg, otn, oad, osb, osi, oby, pln, ptk, pdr, pap, pst, prp, pcp, psg, ptn, pad, psb, psi, pby, cst, ints_len, List.length_take, List.length_drop, List.length_append, List.length_set, List.length_replicate, List.length_cons, List.length_nil] at *; omega)) (fun z hz => ?_); (try simp only at hz); cbv)
    | (refine rq (by first | exact trivial | omega | (dsimp only; omega) | (simp only [oln, otk, odr, oap, ost, orp, ocp, osg, otn, oad, osb, osi, oby, pln, ptk, pdr, pap, pst, prp, pcp, psg, ptn, pad, psb, psi, pby, cst, ints_len, List.length_take, List.length_drop, List.length_append, List.length_set, List.length_replicate, List.length_cons, List.length_nil] at *; omega)) ?_; cbv)
    | (refine QC.tt (by first | omega | (dsimp only; omega) | exact rfl | (simp only [oln, otk, odr, oap, ost, orp, ocp, osg, otn, oad, osb, osi, oby, pln, ptk, pdr, pap, pst, prp, pcp, psg, ptn, pad, psb, psi, pby, cst, ints_len, List.length_take, List.length_drop, List.length_append, List.length_set, List.length_replicate, List.length_cons, List.length_nil] at *; omega)) ?_; cbv)
    | (refine QC.tt ?_ ?_; (focus (simp only [decide_true, Bool.and_true, Bool.and_self] <;> fail)); cbv)
    | (refine QC.ff ?_ ?_; (focus (simp only [decide_true, Bool.and_true, Bool.and_self, decide_false, Bool.false_and, reduceCtorEq, not_false_eq_true] <;> fail)); cbv)
    | (refine QC.ff (by first | omega | (dsimp only; omega) | (simp only [oln, otk, odr, oap, ost, orp, ocp, osg, otn, oad, osb, osi, oby, pln, ptk, pdr, pap, pst, prp, pcp, psg, ptn, pad, psb, psi, pby, cst, ints_len, List.length_take, List.length_drop, List.length_append, List.length_set, List.length_replicate, List.length_cons, List.length_nil] at *; omega)) ?_; cbv)
    | (refine QC.mk (fun hc => ?_) (fun hc => ?_) <;> (try dsimp only at hc) <;> cbv)
    | (refine br_mk2 (fun hb => ?_) (fun hb => ?_) <;> (try subst hb) <;> cbv))))
  refine loopQ (A := Nat × Int × Int) (fun p => p.2.1 = n - 1 - p.1 ∧ p.1 ≤ n ∧ p.2.2 = l + p.1) (fun p => n - p.1) (fun p => [(9, .int .i64 p.2.1), (22, .any), (25, .any), (28, .any)]) (fun p => [(8, .chunk 34 (.agg [.row 25, .int .i64 p.2.2])), (25, .row none 5 (G p.1))]) (0, z, len) ⟨by show z = (n : Int) - 1 - (0 : Nat); (first | omega | (simp only [cst] at *; omega) | (simp only [oln, otk, odr, oap, ost, orp, ocp, osg, otn, oad, osb, osi, oby, pln, ptk, pdr, pap, pst, prp, pcp, psg, ptn, pad, psb, psi, pby, cst, ints_len, List.length_take, List.length_drop, List.length_append, List.length_set, List.length_replicate, List.length_cons, List.length_nil] at *; omega)), Nat.zero_le _, by show len = (l : Int) + (0 : Nat); (first | omega | (simp only [cst] at *; omega) | (simp only [oln, otk, odr, oap, ost, orp, ocp, osg, otn, oad, osb, osi, oby, pln, ptk, pdr, pap, pst, prp, pcp, psg, ptn, pad, psb, psi, pby, cst, ints_len, List.length_take, List.length_drop, List.length_append, List.length_set, List.length_replicate, List.length_cons, List.length_nil] at *; omega))⟩ ?_ ?_
  · cbv
    refine ⟨?_, trivial⟩
    show _ = Blk.row none 5 (G 0)
    rw [G0, hX]
  · intro ⟨i, j, x⟩ h
    have hj : j = (n : Int) - 1 - (i : Int) := h.1
    have hi : i ≤ n := h.2.1
    have hx : x = (l : Int) + i := h.2.2
    clear h
    have hga := Ga i
    have hgb := Gb i
    have hey := EY i
    have hy := hY i
    have hv2 := hV i
    have hes := Es i
    have hez := Ez i
    have hgl := Gl i
    have hel := El i
    cbv
    (repeat' (first
    | (refine q1 (by first | exact trivial | omega | (dsimp only; omega) | exact pow62 _ (by omega) | exact mul9 (by omega) (by omega) | (simp only [oln, otk, odr, oap, ost, orp, ocp, osg, otn, oad, osb, osi, oby, pln, ptk, pdr, pap, pst, prp, pcp, psg, ptn, pad, psb, psi, pby, cst, ints_len, List.length_take, List.length_drop, List.length_append, List.length_set, List.length_replicate, List.length_cons, List.length_nil] at *; omega)) (fun z hz => ?_); (try simp only at hz); cbv)
    | (refine rq (by first | exact trivial | omega | (dsimp only; omega) | (simp only [oln, otk, odr, oap, ost, orp, ocp, osg, otn, oad, osb, osi, oby, pln, ptk, pdr, pap, pst, prp, pcp, psg, ptn, pad, psb, psi, pby, cst, ints_len, List.length_take, List.length_drop, List.length_append, List.length_set, List.length_replicate, List.length_cons, List.length_nil] at *; omega)) ?_; cbv)
    | (refine QC.tt (by first | omega | (dsimp only; omega) | exact rfl | (simp only [oln, otk, odr, oap, ost, orp, ocp, osg, otn, oad, osb, osi, oby, pln, ptk, pdr, pap, pst, prp, pcp, psg, ptn, pad, psb, psi, pby, cst, ints_len, List.length_take, List.length_drop, List.length_append, List.length_set, List.length_replicate, List.length_cons, List.length_nil] at *; omega)) ?_; cbv)
    | (refine QC.tt ?_ ?_; (focus (simp only [decide_true, Bool.and_true, Bool.and_self] <;> fail)); cbv)
    | (refine QC.ff ?_ ?_; (focus (simp only [decide_true, Bool.and_true, Bool.and_self, decide_false, Bool.false_and, reduceCtorEq, not_false_eq_true] <;> fail)); cbv)
    | (refine QC.ff (by first | omega | (dsimp only; omega) | (simp only [oln, otk, odr, oap, ost, orp, ocp, osg, otn, oad, osb, osi, oby, pln, ptk, pdr, pap, pst, prp, pcp, psg, ptn, pad, psb, psi, pby, cst, ints_len, List.length_take, List.length_drop, List.length_append, List.length_set, List.length_replicate, List.length_cons, List.length_nil] at *; omega)) ?_; cbv)
    | (refine QC.mk (fun hc => ?_) (fun hc => ?_) <;> (try dsimp only at hc) <;> cbv)
    | (refine br_mk2 (fun hb => ?_) (fun hb => ?_) <;> (try subst hb) <;> cbv)))
    · have hga := hga (by (first | omega | (simp only [cst] at *; omega) | (simp only [oln, otk, odr, oap, ost, orp, ocp, osg, otn, oad, osb, osi, oby, pln, ptk, pdr, pap, pst, prp, pcp, psg, ptn, pad, psb, psi, pby, cst, ints_len, List.length_take, List.length_drop, List.length_append, List.length_set, List.length_replicate, List.length_cons, List.length_nil] at *; omega)))
      rw [← hga] at hey hes hez hel
      have hlt : i < n := by (first | omega | (simp only [cst] at *; omega) | (simp only [oln, otk, odr, oap, ost, orp, ocp, osg, otn, oad, osb, osi, oby, pln, ptk, pdr, pap, pst, prp, pcp, psg, ptn, pad, psb, psi, pby, cst, ints_len, List.length_take, List.length_drop, List.length_append, List.length_set, List.length_replicate, List.length_cons, List.length_nil] at *; omega))
      rename_i z4 h4
      have ek : z4.toNat = n - 1 - i := by (first | omega | (simp only [cst] at *; omega) | (simp only [oln, otk, odr, oap, ost, orp, ocp, osg, otn, oad, osb, osi, oby, pln, ptk, pdr, pap, pst, prp, pcp, psg, ptn, pad, psb, psi, pby, cst, ints_len, List.length_take, List.length_drop, List.length_append, List.length_set, List.length_replicate, List.length_cons, List.length_nil] at *; omega))
      rw [← ek, ← hz] at hv2
      have hzb : 0 ≤ z ∧ z ≤ v := by
        rw [hz]
        exact ⟨Int.ediv_nonneg hv1.1 (Int.le_of_lt (Int.pow_pos (by omega))), Int.ediv_le_self _ hv1.1⟩
      clear hz
      refine q1 (by omega) (fun z9 hz9 => ?_)
      rw [show Int.toNat 1 = 1 from rfl, Nat.and_one_is_mod] at hz9
      cbv
      (repeat' (first
    | (refine q1 (by first | exact trivial | omega | (dsimp only; omega) | exact pow62 _ (by omega) | exact mul9 (by omega) (by omega) | (simp only [oln, otk, odr, oap, ost, orp, ocp, osg, otn, oad, osb, osi, oby, pln, ptk, pdr, pap, pst, prp, pcp, psg, ptn, pad, psb, psi, pby, cst, ints_len, List.length_take, List.length_drop, List.length_append, List.length_set, List.length_replicate, List.length_cons, List.length_nil] at *; omega)) (fun z hz => ?_); (try simp only at hz); cbv)
    | (refine rq (by first | exact trivial | omega | (dsimp only; omega) | (simp only [oln, otk, odr, oap, ost, orp, ocp, osg, otn, oad, osb, osi, oby, pln, ptk, pdr, pap, pst, prp, pcp, psg, ptn, pad, psb, psi, pby, cst, ints_len, List.length_take, List.length_drop, List.length_append, List.length_set, List.length_replicate, List.length_cons, List.length_nil] at *; omega)) ?_; cbv)
    | (refine QC.tt (by first | omega | (dsimp only; omega) | exact rfl | (simp only [oln, otk, odr, oap, ost, orp, ocp, osg, otn, oad, osb, osi, oby, pln, ptk, pdr, pap, pst, prp, pcp, psg, ptn, pad, psb, psi, pby, cst, ints_len, List.length_take, List.length_drop, List.length_append, List.length_set, List.length_replicate, List.length_cons, List.length_nil] at *; omega)) ?_; cbv)
    | (refine QC.tt ?_ ?_; (focus (simp only [decide_true, Bool.and_true, Bool.and_self] <;> fail)); cbv)
    | (refine QC.ff ?_ ?_; (focus (simp only [decide_true, Bool.and_true, Bool.and_self, decide_false, Bool.false_and, reduceCtorEq, not_false_eq_true] <;> fail)); cbv)
    | (refine QC.ff (by first | omega | (dsimp only; omega) | (simp only [oln, otk, odr, oap, ost, orp, ocp, osg, otn, oad, osb, osi, oby, pln, ptk, pdr, pap, pst, prp, pcp, psg, ptn, pad, psb, psi, pby, cst, ints_len, List.length_take, List.length_drop, List.length_append, List.length_set, List.length_replicate, List.length_cons, List.length_nil] at *; omega)) ?_; cbv)
    | (refine QC.mk (fun hc => ?_) (fun hc => ?_) <;> (try dsimp only at hc) <;> cbv)
    | (refine br_mk2 (fun hb => ?_) (fun hb => ?_) <;> (try subst hb) <;> cbv)))
      · have hes := hes (by (first | omega | (simp only [cst] at *; omega) | (simp only [oln, otk, odr, oap, ost, orp, ocp, osg, otn, oad, osb, osi, oby, pln, ptk, pdr, pap, pst, prp, pcp, psg, ptn, pad, psb, psi, pby, cst, ints_len, List.length_take, List.length_drop, List.length_append, List.length_set, List.length_replicate, List.length_cons, List.length_nil] at *; omega)))
        obtain ⟨q, hq⟩ : ∃ q, q = (l + i) / 8 := ⟨_, rfl⟩
        rw [← hq] at hes hey
        have hel2 := (oln _).trans hel
        have hq8 : q < (l + i + 8) / 8 := by omega
        generalize Y i = y at hes hey hy
        obtain ⟨pw, hpw⟩ : ∃ p, p = 2 ^ (7 - (l + i) % 8) := ⟨_, rfl⟩
        rw [← hpw] at hes
        obtain ⟨w, hw⟩ : ∃ w : Int, w = (y + (pw : Int)) % 256 := ⟨_, rfl⟩
        rw [← hw] at hes
        have hpb : pw ≤ 2 ^ 7 := by rw [hpw]; exact Nat.pow_le_pow_right (by omega) (by omega)
        refine qv q ⟨by (first | omega | (simp only [cst] at *; omega) | (simp only [oln, otk, odr, oap, ost, orp, ocp, osg, otn, oad, osb, osi, oby, pln, ptk, pdr, pap, pst, prp, pcp, psg, ptn, pad, psb, psi, pby, cst, ints_len, List.length_take, List.length_drop, List.length_append, List.length_set, List.length_replicate, List.length_cons, List.length_nil] at *; omega)), Nat.lt_of_lt_of_eq hq8 hel2.symm⟩ ?_
        cbv
        (repeat' (first
    | (refine q1 (by first | exact trivial | omega | (dsimp only; omega) | exact pow62 _ (by omega) | exact mul9 (by omega) (by omega) | (simp only [oln, otk, odr, oap, ost, orp, ocp, osg, otn, oad, osb, osi, oby, pln, ptk, pdr, pap, pst, prp, pcp, psg, ptn, pad, psb, psi, pby, cst, ints_len, List.length_take, List.length_drop, List.length_append, List.length_set, List.length_replicate, List.length_cons, List.length_nil] at *; omega)) (fun z hz => ?_); (try simp only at hz); cbv)
    | (refine rq (by first | exact trivial | omega | (dsimp only; omega) | (simp only [oln, otk, odr, oap, ost, orp, ocp, osg, otn, oad, osb, osi, oby, pln, ptk, pdr, pap, pst, prp, pcp, psg, ptn, pad, psb, psi, pby, cst, ints_len, List.length_take, List.length_drop, List.length_append, List.length_set, List.length_replicate, List.length_cons, List.length_nil] at *; omega)) ?_; cbv)
    | (refine QC.tt (by first | omega | (dsimp only; omega) | exact rfl | (simp only [oln, otk, odr, oap, ost, orp, ocp, osg, otn, oad, osb, osi, oby, pln, ptk, pdr, pap, pst, prp, pcp, psg, ptn, pad, psb, psi, pby, cst, ints_len, List.length_take, List.length_drop, List.length_append, List.length_set, List.length_replicate, List.length_cons, List.length_nil] at *; omega)) ?_; cbv)
    | (refine QC.tt ?_ ?_; (focus (simp only [decide_true, Bool.and_true, Bool.and_self] <;> fail)); cbv)
    | (refine QC.ff ?_ ?_; (focus (simp only [decide_true, Bool.and_true, Bool.and_self, decide_false, Bool.false_and, reduceCtorEq, not_false_eq_true] <;> fail)); cbv)
    | (refine QC.ff (by first | omega | (dsimp only; omega) | (simp only [oln, otk, odr, oap, ost, orp, ocp, osg, otn, oad, osb, osi, oby, pln, ptk, pdr, pap, pst, prp, pcp, psg, ptn, pad, psb, psi, pby, cst, ints_len, List.length_take, List.length_drop, List.length_append, List.length_set, List.length_replicate, List.length_cons, List.length_nil] at *; omega)) ?_; cbv)
    | (refine QC.mk (fun hc => ?_) (fun hc => ?_) <;> (try dsimp only at hc) <;> cbv)
    | (refine br_mk2 (fun hb => ?_) (fun hb => ?_) <;> (try subst hb) <;> cbv)))
        refine qv (.int .u8 y) hey ?_
        cbv
        (repeat' (first
    | (refine q1 (by first | exact trivial | omega | (dsimp only; omega) | exact pow62 _ (by omega) | exact mul9 (by omega) (by omega) | (simp only [oln, otk, odr, oap, ost, orp, ocp, osg, otn, oad, osb, osi, oby, pln, ptk, pdr, pap, pst, prp, pcp, psg, ptn, pad, psb, psi, pby, cst, ints_len, List.length_take, List.length_drop, List.length_append, List.length_set, List.length_replicate, List.length_cons, List.length_nil] at *; omega)) (fun z hz => ?_); (try simp only at hz); cbv)
    | (refine rq (by first | exact trivial | omega | (dsimp only; omega) | (simp only [oln, otk, odr, oap, ost, orp, ocp, osg, otn, oad, osb, osi, oby, pln, ptk, pdr, pap, pst, prp, pcp, psg, ptn, pad, psb, psi, pby, cst, ints_len, List.length_take, List.length_drop, List.length_append, List.length_set, List.length_replicate, List.length_cons, List.length_nil] at *; omega)) ?_; cbv)
    | (refine QC.tt (by first | omega | (dsimp only; omega) | exact rfl | (simp only [oln, otk, odr, oap, ost, orp, ocp, osg, otn, oad, osb, osi, oby, pln, ptk, pdr, pap, pst, prp, pcp, psg, ptn, pad, psb, psi, pby, cst, ints_len, List.length_take, List.length_drop, List.length_append, List.length_set, List.length_replicate, List.length_cons, List.length_nil] at *; omega)) ?_; cbv)
    | (refine QC.tt ?_ ?_; (focus (simp only [decide_true, Bool.and_true, Bool.and_self] <;> fail)); cbv)
    | (refine QC.ff ?_ ?_; (focus (simp only [decide_true, Bool.and_true, Bool.and_self, decide_false, Bool.false_and, reduceCtorEq, not_false_eq_true] <;> fail)); cbv)
    | (refine QC.ff (by first | omega | (dsimp only; omega) | (simp only [oln, otk, odr, oap, ost, orp, ocp, osg, otn, oad, osb, osi, oby, pln, ptk, pdr, pap, pst, prp, pcp, psg, ptn, pad, psb, psi, pby, cst, ints_len, List.length_take, List.length_drop, List.length_append, List.length_set, List.length_replicate, List.length_cons, List.length_nil] at *; omega)) ?_; cbv)
    | (refine QC.mk (fun hc => ?_) (fun hc => ?_) <;> (try dsimp only at hc) <;> cbv)
    | (refine br_mk2 (fun hb => ?_) (fun hb => ?_) <;> (try subst hb) <;> cbv)))
        refine qv q ⟨by (first | omega | (simp only [cst] at *; omega) | (simp only [oln, otk, odr, oap, ost, orp, ocp, osg, otn, oad, osb, osi, oby, pln, ptk, pdr, pap, pst, prp, pcp, psg, ptn, pad, psb, psi, pby, cst, ints_len, List.length_take, List.length_drop, List.length_append, List.length_set, List.length_replicate, List.length_cons, List.length_nil] at *; omega)), Nat.lt_of_lt_of_eq hq8 hel2.symm⟩ ?_
        rename_i z5 h5 z6 h6 z7 h7 z8 h8
        have ek2 : z7.toNat = 7 - (l + i) % 8 := by (first | omega | (simp only [cst] at *; omega) | (simp only [oln, otk, odr, oap, ost, orp, ocp, osg, otn, oad, osb, osi, oby, pln, ptk, pdr, pap, pst, prp, pcp, psg, ptn, pad, psb, psi, pby, cst, ints_len, List.length_take, List.length_drop, List.length_append, List.length_set, List.length_replicate, List.length_cons, List.length_nil] at *; omega))
        have e8 : z8 = (pw : Int) := by
          rw [h8, ek2]
          have : (2 : Int) ^ (7 - (l + i) % 8) = (pw : Int) := by rw [hpw]; simp
          rw [this]
          omega
        have ew : z = w := by (first | omega | (simp only [cst] at *; omega) | (simp only [oln, otk, odr, oap, ost, orp, ocp, osg, otn, oad, osb, osi, oby, pln, ptk, pdr, pap, pst, prp, pcp, psg, ptn, pad, psb, psi, pby, cst, ints_len, List.length_take, List.length_drop, List.length_append, List.length_set, List.length_replicate, List.length_cons, List.length_nil] at *; omega))
        clear hw hz h8
        subst ew
        cbv
        (repeat' (first
    | (refine q1 (by first | exact trivial | omega | (dsimp only; omega) | exact pow62 _ (by omega) | exact mul9 (by omega) (by omega) | (simp only [oln, otk, odr, oap, ost, orp, ocp, osg, otn, oad, osb, osi, oby, pln, ptk, pdr, pap, pst, prp, pcp, psg, ptn, pad, psb, psi, pby, cst, ints_len, List.length_take, List.length_drop, List.length_append, List.length_set, List.length_replicate, List.length_cons, List.length_nil] at *; omega)) (fun z hz => ?_); (try simp only at hz); cbv)
    | (refine rq (by first | exact trivial | omega | (dsimp only; omega) | (simp only [oln, otk, odr, oap, ost, orp, ocp, osg, otn, oad, osb, osi, oby, pln, ptk, pdr, pap, pst, prp, pcp, psg, ptn, pad, psb, psi, pby, cst, ints_len, List.length_take, List.length_drop, List.length_append, List.length_set, List.length_replicate, List.length_cons, List.length_nil] at *; omega)) ?_; cbv)
    | (refine QC.tt (by first | omega | (dsimp only; omega) | exact rfl | (simp only [oln, otk, odr, oap, ost, orp, ocp, osg, otn, oad, osb, osi, oby, pln, ptk, pdr, pap, pst, prp, pcp, psg, ptn, pad, psb, psi, pby, cst, ints_len, List.length_take, List.length_drop, List.length_append, List.length_set, List.length_replicate, List.length_cons, List.length_nil] at *; omega)) ?_; cbv)
    | (refine QC.tt ?_ ?_; (focus (simp only [decide_true, Bool.and_true, Bool.and_self] <;> fail)); cbv)
    | (refine QC.ff ?_ ?_; (focus (simp only [decide_true, Bool.and_true, Bool.and_self, decide_false, Bool.false_and, reduceCtorEq, not_false_eq_true] <;> fail)); cbv)
    | (refine QC.ff (by first | omega | (dsimp only; omega) | (simp only [oln, otk, odr, oap, ost, orp, ocp, osg, otn, oad, osb, osi, oby, pln, ptk, pdr, pap, pst, prp, pcp, psg, ptn, pad, psb, psi, pby, cst, ints_len, List.length_take, List.length_drop, List.length_append, List.length_set, List.length_replicate, List.length_cons, List.length_nil] at *; omega)) ?_; cbv)
    | (refine QC.mk (fun hc => ?_) (fun hc => ?_) <;> (try dsimp only at hc) <;> cbv)
    | (refine br_mk2 (fun hb => ?_) (fun hb => ?_) <;> (try subst hb) <;> cbv)))
        try (refine rq (Nat.lt_of_lt_of_eq hq8 hel2.symm) ?_; cbv; (repeat' (first
    | (refine q1 (by first | exact trivial | omega | (dsimp only; omega) | exact pow62 _ (by omega) | exact mul9 (by omega) (by omega) | (simp only [oln, otk, odr, oap, ost, orp, ocp, osg, otn, oad, osb, osi, oby, pln, ptk, pdr, pap, pst, prp, pcp, psg, ptn, pad, psb, psi, pby, cst, ints_len, List.length_take, List.length_drop, List.length_append, List.length_set, List.length_replicate, List.length_cons, List.length_nil] at *; omega)) (fun z hz => ?_); (try simp only at hz); cbv)
    | (refine rq (by first | exact trivial | omega | (dsimp only; omega) | (simp only [oln, otk, odr, oap, ost, orp, ocp, osg, otn, oad, osb, osi, oby, pln, ptk, pdr, pap, pst, prp, pcp, psg, ptn, pad, psb, psi, pby, cst, ints_len, List.length_take, List.length_drop, List.length_append, List.length_set, List.length_replicate, List.length_cons, List.length_nil] at *; omega)) ?_; cbv)
    | (refine QC.tt (by first | omega | (dsimp only; omega) | exact rfl | (simp only [oln, otk, odr, oap, ost, orp, ocp, osg, otn, oad, osb, osi, oby, pln, ptk, pdr, pap, pst, prp, pcp, psg, ptn, pad, psb, psi, pby, cst, ints_len, List.length_take, List.length_drop, List.length_append, List.length_set, List.length_replicate, List.length_cons, List.length_nil] at *; omega)) ?_; cbv)
    | (refine QC.tt ?_ ?_; (focus (simp only [decide_true, Bool.and_true, Bool.and_self] <;> fail)); cbv)
    | (refine QC.ff ?_ ?_; (focus (simp only [decide_true, Bool.and_true, Bool.and_self, decide_false, Bool.false_and, reduceCtorEq, not_false_eq_true] <;> fail)); cbv)
    | (refine QC.ff (by first | omega | (dsimp only; omega) | (simp only [oln, otk, odr, oap, ost, orp, ocp, osg, otn, oad, osb, osi, oby, pln, ptk, pdr, pap, pst, prp, pcp, psg, ptn, pad, psb, psi, pby, cst, ints_len, List.length_take, List.length_drop, List.length_append, List.length_set, List.length_replicate, List.length_cons, List.length_nil] at *; omega)) ?_; cbv)
    | (refine QC.mk (fun hc => ?_) (fun hc => ?_) <;> (try dsimp only at hc) <;> cbv)
    | (refine br_mk2 (fun hb => ?_) (fun hb => ?_) <;> (try subst hb) <;> cbv))))
        rename_i zx hzx
        refine ⟨(i + 1, z, zx), ⟨by (first | omega | (simp only [cst] at *; omega) | (simp only [oln, otk, odr, oap, ost, orp, ocp, osg, otn, oad, osb, osi, oby, pln, ptk, pdr, pap, pst, prp, pcp, psg, ptn, pad, psb, psi, pby, cst, ints_len, List.length_take, List.length_drop, List.length_append, List.length_set, List.length_replicate, List.length_cons, List.length_nil] at *; omega)), by omega, by (first | omega | (simp only [cst] at *; omega) | (simp only [oln, otk, odr, oap, ost, orp, ocp, osg, otn, oad, osb, osi, oby, pln, ptk, pdr, pap, pst, prp, pcp, psg, ptn, pad, psb, psi, pby, cst, ints_len, List.length_take, List.length_drop, List.length_append, List.length_set, List.length_replicate, List.length_cons, List.length_nil] at *; omega))⟩, by (first | omega | (simp only [cst] at *; omega) | (simp only [oln, otk, odr, oap, ost, orp, ocp, osg, otn, oad, osb, osi, oby, pln, ptk, pdr, pap, pst, prp, pcp, psg, ptn, pad, psb, psi, pby, cst, ints_len, List.length_take, List.length_drop, List.length_append, List.length_set, List.length_replicate, List.length_cons, List.length_nil] at *; omega)), ?_⟩
        cbv
        refine ⟨?_, trivial⟩
        exact congrArg (Blk.row none 5) hes
      · rename_i zx hzx
        refine ⟨(i + 1, z, zx), ⟨by (first | omega | (simp only [cst] at *; omega) | (simp only [oln, otk, odr, oap, ost, orp, ocp, osg, otn, oad, osb, osi, oby, pln, ptk, pdr, pap, pst, prp, pcp, psg, ptn, pad, psb, psi, pby, cst, ints_len, List.length_take, List.length_drop, List.length_append, List.length_set, List.length_replicate, List.length_cons, List.length_nil] at *; omega)), by omega, by (first | omega | (simp only [cst] at *; omega) | (simp only [oln, otk, odr, oap, ost, orp, ocp, osg, otn, oad, osb, osi, oby, pln, ptk, pdr, pap, pst, prp, pcp, psg, ptn, pad, psb, psi, pby, cst, ints_len, List.length_take, List.length_drop, List.length_append, List.length_set, List.length_replicate, List.length_cons, List.length_nil] at *; omega))⟩, by (first | omega | (simp only [cst] at *; omega) | (simp only [oln, otk, odr, oap, ost, orp, ocp, osg, otn, oad, osb, osi, oby, pln, ptk, pdr, pap, pst, prp, pcp, psg, ptn, pad, psb, psi, pby, cst, ints_len, List.length_take, List.length_drop, List.length_append, List.length_set, List.length_replicate, List.length_cons, List.length_nil] at *; omega)), ?_⟩
        cbv
        refine ⟨?_, trivial⟩
        exact congrArg (Blk.row none 5) (hez (by (first | omega | (simp only [cst] at *; omega) | (simp only [oln, otk, odr, oap, ost, orp, ocp, osg, otn, oad, osb, osi, oby, pln, ptk, pdr, pap, pst, prp, pcp, psg, ptn, pad, psb, psi, pby, cst, ints_len, List.length_take, List.length_drop, List.length_append, List.length_set, List.length_replicate, List.length_cons, List.length_nil] at *; omega))))
    · have hgb := hgb (by (first | omega | (simp only [cst] at *; omega) | (simp only [oln, otk, odr, oap, ost, orp, ocp, osg, otn, oad, osb, osi, oby, pln, ptk, pdr, pap, pst, prp, pcp, psg, ptn, pad, psb, psi, pby, cst, ints_len, List.length_take, List.length_drop, List.length_append, List.length_set, List.length_replicate, List.length_cons, List.length_nil] at *; omega)))
      rw [← hgb] at hey hes hez hel
      have hlt : i < n := by (first | omega | (simp only [cst] at *; omega) | (simp only [oln, otk, odr, oap, ost, orp, ocp, osg, otn, oad, osb, osi, oby, pln, ptk, pdr, pap, pst, prp, pcp, psg, ptn, pad, psb, psi, pby, cst, ints_len, List.length_take, List.length_drop, List.length_append, List.length_set, List.length_replicate, List.length_cons, List.length_nil] at *; omega))
      rename_i z4 h4
      have ek : z4.toNat = n - 1 - i := by (first | omega | (simp only [cst] at *; omega) | (simp only [oln, otk, odr, oap, ost, orp, ocp, osg, otn, oad, osb, osi, oby, pln, ptk, pdr, pap, pst, prp, pcp, psg, ptn, pad, psb, psi, pby, cst, ints_len, List.length_take, List.length_drop, List.length_append, List.length_set, List.length_replicate, List.length_cons, List.length_nil] at *; omega))
      rw [← ek, ← hz] at hv2
      have hzb : 0 ≤ z ∧ z ≤ v := by
        rw [hz]
        exact ⟨Int.ediv_nonneg hv1.1 (Int.le_of_lt (Int.pow_pos (by omega))), Int.ediv_le_self _ hv1.1⟩
      clear hz
      refine q1 (by omega) (fun z9 hz9 => ?_)
      rw [show Int.toNat 1 = 1 from rfl, Nat.and_one_is_mod] at hz9
      cbv
      (repeat' (first
    | (refine q1 (by first | exact trivial | omega | (dsimp only; omega) | exact pow62 _ (by omega) | exact mul9 (by omega) (by omega) | (simp only [oln, otk, odr, oap, ost, orp, ocp, osg, otn, oad, osb, osi, oby, pln, ptk, pdr, pap, pst, prp, pcp, psg, ptn, pad, psb, psi, pby, cst, ints_len, List.length_take, List.length_drop, List.length_append, List.length_set, List.length_replicate, List.length_cons, List.length_nil] at *; omega)) (fun z hz => ?_); (try simp only at hz); cbv)
    | (refine rq (by first | exact trivial | omega | (dsimp only; omega) | (simp only [oln, otk, odr, oap, ost, orp, ocp, osg, otn, oad, osb, osi, oby, pln, ptk, pdr, pap, pst, prp, pcp, psg, ptn, pad, psb, psi, pby, cst, ints_len, List.length_take, List.length_drop, List.length_append, List.length_set, List.length_replicate, List.length_cons, List.length_nil] at *; omega)) ?_; cbv)
    | (refine QC.tt (by first | omega | (dsimp only; omega) | exact rfl | (simp only [oln, otk, odr, oap, ost, orp, ocp, osg, otn, oad, osb, osi, oby, pln, ptk, pdr, pap, pst, prp, pcp, psg, ptn, pad, psb, psi, pby, cst, ints_len, List.length_take, List.length_drop, List.length_append, List.length_set, List.length_replicate, List.length_cons, List.length_nil] at *; omega)) ?_; cbv)
    | (refine QC.tt ?_ ?_; (focus (simp only [decide_true, Bool.and_true, Bool.and_self] <;> fail)); cbv)
    | (refine QC.ff ?_ ?_; (focus (simp only [decide_true, Bool.and_true, Bool.and_self, decide_false, Bool.false_and, reduceCtorEq, not_false_eq_true] <;> fail)); cbv)
    | (refine QC.ff (by first | omega | (dsimp only; omega) | (simp only [oln, otk, odr, oap, ost, orp, ocp, osg, otn, oad, osb, osi, oby, pln, ptk, pdr, pap, pst, prp, pcp, psg, ptn, pad, psb, psi, pby, cst, ints_len, List.length_take, List.length_drop, List.length_append, List.length_set, List.length_replicate, List.length_cons, List.length_nil] at *; omega)) ?_; cbv)
    | (refine QC.mk (fun hc => ?_) (fun hc => ?_) <;> (try dsimp only at hc) <;> cbv)
    | (refine br_mk2 (fun hb => ?_) (fun hb => ?_) <;> (try subst hb) <;> cbv)))
      · have hes := hes (by (first | omega | (simp only [cst] at *; omega) | (simp only [oln, otk, odr, oap, ost, orp, ocp, osg, otn, oad, osb, osi, oby, pln, ptk, pdr, pap, pst, prp, pcp, psg, ptn, pad, psb, psi, pby, cst, ints_len, List.length_take, List.length_drop, List.length_append, List.length_set, List.length_replicate, List.length_cons, List.length_nil] at *; omega)))
        obtain ⟨q, hq⟩ : ∃ q, q = (l + i) / 8 := ⟨_, rfl⟩
        rw [← hq] at hes hey
        have hel2 := (oln _).trans hel
        have hq8 : q < (l + i + 8) / 8 := by omega
        generalize Y i = y at hes hey hy
        obtain ⟨pw, hpw⟩ : ∃ p, p = 2 ^ (7 - (l + i) % 8) := ⟨_, rfl⟩
        rw [← hpw] at hes
        obtain ⟨w, hw⟩ : ∃ w : Int, w = (y + (pw : Int)) % 256 := ⟨_, rfl⟩
        rw [← hw] at hes
        have hpb : pw ≤ 2 ^ 7 := by rw [hpw]; exact Nat.pow_le_pow_right (by omega) (by omega)
        refine qv q ⟨by (first | omega | (simp only [cst] at *; omega) | (simp only [oln, otk, odr, oap, ost, orp, ocp, osg, otn, oad, osb, osi, oby, pln, ptk, pdr, pap, pst, prp, pcp, psg, ptn, pad, psb, psi, pby, cst, ints_len, List.length_take, List.length_drop, List.length_append, List.length_set, List.length_replicate, List.length_cons, List.length_nil] at *; omega)), Nat.lt_of_lt_of_eq hq8 hel2.symm⟩ ?_
        cbv
        (repeat' (first
    | (refine q1 (by first | exact trivial | omega | (dsimp only; omega) | exact pow62 _ (by omega) | exact mul9 (by omega) (by omega) | (simp only [oln, otk, odr, oap, ost, orp, ocp, osg, otn, oad, osb, osi, oby, pln, ptk, pdr, pap, pst, prp, pcp, psg, ptn, pad, psb, psi, pby, cst, ints_len, List.length_take, List.length_drop, List.length_append, List.length_set, List.length_replicate, List.length_cons, List.length_nil] at *; omega)) (fun z hz => ?_); (try simp only at hz); cbv)
    | (refine rq (by first | exact trivial | omega | (dsimp only; omega) | (simp only [oln, otk, odr, oap, ost, orp, ocp, osg, otn, oad, osb, osi, oby, pln, ptk, pdr, pap, pst, prp, pcp, psg, ptn, pad, psb, psi, pby, cst, ints_len, List.length_take, List.length_drop, List.length_append, List.length_set, List.length_replicate, List.length_cons, List.length_nil] at *; omega)) ?_; cbv)
    | (refine QC.tt (by first | omega | (dsimp only; omega) | exact rfl | (simp only [oln, otk, odr, oap, ost, orp, ocp, osg, otn, oad, osb, osi, oby, pln, ptk, pdr, pap, pst, prp, pcp, psg, ptn, pad, psb, psi, pby, cst, ints_len, List.length_take, List.length_drop, List.length_append, List.length_set, List.length_replicate, List.length_cons, List.length_nil] at *; omega)) ?_; cbv)
    | (refine QC.tt ?_ ?_; (focus (simp only [decide_true, Bool.and_true, Bool.and_self] <;> fail)); cbv)
    | (refine QC.ff ?_ ?_; (focus (simp only [decide_true, Bool.and_true, Bool.and_self, decide_false, Bool.false_and, reduceCtorEq, not_false_eq_true] <;> fail)); cbv)
    | (refine QC.ff (by first | omega | (dsimp only; omega) | (simp only [oln, otk, odr, oap, ost, orp, ocp, osg, otn, oad, osb, osi, oby, pln, ptk, pdr, pap, pst, prp, pcp, psg, ptn, pad, psb, psi, pby, cst, ints_len, List.length_take, List.length_drop, List.length_append, List.length_set, List.length_replicate, List.length_cons, List.length_nil] at *; omega)) ?_; cbv)
    | (refine QC.mk (fun hc => ?_) (fun hc => ?_) <;> (try dsimp only at hc) <;> cbv)
    | (refine br_mk2 (fun hb => ?_) (fun hb => ?_) <;> (try subst hb) <;> cbv)))
        refine qv (.int .u8 y) hey ?_
        cbv
        (repeat' (first
    | (refine q1 (by first | exact trivial | omega | (dsimp only; omega) | exact pow62 _ (by omega) | exact mul9 (by omega) (by omega) | (simp only [oln, otk, odr, oap, ost, orp, ocp, osg, otn, oad, osb, osi, oby, pln, ptk, pdr, pap, pst, prp, pcp, psg, ptn, pad, psb, psi, pby, cst, ints_len, List.length_take, List.length_drop, List.length_append, List.length_set, List.length_replicate, List.length_cons, List.length_nil] at *; omega)) (fun z hz => ?_); (try simp only at hz); cbv)
    | (refine rq (by first | exact trivial | omega | (dsimp only; omega) | (simp only [oln, otk, odr, oap, ost, orp, ocp, osg, otn, oad, osb, osi, oby, pln, ptk, pdr, pap, pst, prp, pcp, psg, ptn, pad, psb, psi, pby, cst, ints_len, List.length_take, List.length_drop, List.length_append, List.length_set, List.length_replicate, List.length_cons, List.length_nil] at *; omega)) ?_; cbv)
    | (refine QC.tt (by first | omega | (dsimp only; omega) | exact rfl | (simp only [oln, otk, odr, oap, ost, orp, ocp, osg, otn, oad, osb, osi, oby, pln, ptk, pdr, pap, pst, prp, pcp, psg, ptn, pad, psb, psi, pby, cst, ints_len, List.length_take, List.length_drop, List.length_append, List.length_set, List.length_replicate, List.length_cons, List.length_nil] at *; omega)) ?_; cbv)
    | (refine QC.tt ?_ ?_; (focus (simp only [decide_true, Bool.and_true, Bool.and_self] <;> fail)); cbv)
    | (refine QC.ff ?_ ?_; (focus (simp only [decide_true, Bool.and_true, Bool.and_self, decide_false, Bool.false_and, reduceCtorEq, not_false_eq_true] <;> fail)); cbv)
    | (refine QC.ff (by first | omega | (dsimp only; omega) | (simp only [oln, otk, odr, oap, ost, orp, ocp, osg, otn, oad, osb, osi, oby, pln, ptk, pdr, pap, pst, prp, pcp, psg, ptn, pad, psb, psi, pby, cst, ints_len, List.length_take, List.length_drop, List.length_append, List.length_set, List.length_replicate, List.length_cons, List.length_nil] at *; omega)) ?_; cbv)
    | (refine QC.mk (fun hc => ?_) (fun hc => ?_) <;> (try dsimp only at hc) <;> cbv)
    | (refine br_mk2 (fun hb => ?_) (fun hb => ?_) <;> (try subst hb) <;> cbv)))
        refine qv q ⟨by (first | omega | (simp only [cst] at *; omega) | (simp only [oln, otk, odr, oap, ost, orp, ocp, osg, otn, oad, osb, osi, oby, pln, ptk, pdr, pap, pst, prp, pcp, psg, ptn, pad, psb, psi, pby, cst, ints_len, List.length_take, List.length_drop, List.length_append, List.length_set, List.length_replicate, List.length_cons, List.length_nil] at *; omega)), Nat.lt_of_lt_of_eq hq8 hel2.symm⟩ ?_
        rename_i z5 h5 z6 h6 z7 h7 z8 h8
        have ek2 : z7.toNat = 7 - (l + i) % 8 := by (first | omega | (simp only [cst] at *; omega) | (simp only [oln, otk, odr, oap, ost, orp, ocp, osg, otn, oad, osb, osi, oby, pln, ptk, pdr, pap, pst, prp, pcp, psg, ptn, pad, psb, psi, pby, cst, ints_len, List.length_take, List.length_drop, List.length_append, List.length_set, List.length_replicate, List.length_cons, List.length_nil] at *; omega))
        have e8 : z8 = (pw : Int) := by
          rw [h8, ek2]
          have : (2 : Int) ^ (7 - (l + i) % 8) = (pw : Int) := by rw [hpw]; simp
          rw [this]
          omega
        have ew : z = w := by (first | omega | (simp only [cst] at *; omega) | (simp only [oln, otk, odr, oap, ost, orp, ocp, osg, otn, oad, osb, osi, oby, pln, ptk, pdr, pap, pst, prp, pcp, psg, ptn, pad, psb, psi, pby, cst, ints_len, List.length_take, List.length_drop, List.length_append, List.length_set, List.length_replicate, List.length_cons, List.length_nil] at *; omega))
        clear hw hz h8
        subst ew
        cbv
        (repeat' (first
    | (refine q1 (by first | exact trivial | omega | (dsimp only; omega) | exact pow62 _ (by omega) | exact mul9 (by omega) (by omega) | (simp only [oln, otk, odr, oap, ost, orp, ocp, osg, otn, oad, osb, osi, oby, pln, ptk, pdr, pap, pst, prp, pcp, psg, ptn, pad, psb, psi, pby, cst, ints_len, List.length_take, List.length_drop, List.length_append, List.length_set, List.length_replicate, List.length_cons, List.length_nil] at *; omega)) (fun z hz => ?_); (try simp only at hz); cbv)
    | (refine rq (by first | exact trivial | omega | (dsimp only; omega) | (simp only [oln, otk, odr, oap, ost, orp, ocp, osg, otn, oad, osb, osi, oby, pln, ptk, pdr, pap, pst, prp, pcp, psg, ptn, pad, psb, psi, pby, cst, ints_len, List.length_take, List.length_drop, List.length_append, List.length_set, List.length_replicate, List.length_cons, List.length_nil] at *; omega)) ?_; cbv)
    | (refine QC.tt (by first | omega | (dsimp only; omega) | exact rfl | (simp only [oln, otk, odr, oap, ost, orp, ocp, osg, otn, oad, osb, osi, oby, pln, ptk, pdr, pap, pst, prp, pcp, psg, ptn, pad, psb, psi, pby, cst, ints_len, List.length_take, List.length_drop, List.length_append, List.length_set, List.length_replicate, List.length_cons, List.length_nil] at *; omega)) ?_; cbv)
    | (refine QC.tt ?_ ?_; (focus (simp only [decide_true, Bool.and_true, Bool.and_self] <;> fail)); cbv)
    | (refine QC.ff ?_ ?_; (focus (simp only [decide_true, Bool.and_true, Bool.and_self, decide_false, Bool.false_and, reduceCtorEq, not_false_eq_true] <;> fail)); cbv)
    | (refine QC.ff (by first | omega | (dsimp only; omega) | (simp only [oln, otk, odr, oap, ost, orp, ocp, osg, otn, oad, osb, osi, oby, pln, ptk, pdr, pap, pst, prp, pcp, psg, ptn, pad, psb, psi, pby, cst, ints_len, List.length_take, List.length_drop, List.length_append, List.length_set, List.length_replicate, List.length_cons, List.length_nil] at *; omega)) ?_; cbv)
    | (refine QC.mk (fun hc => ?_) (fun hc => ?_) <;> (try dsimp only at hc) <;> cbv)
    | (refine br_mk2 (fun hb => ?_) (fun hb => ?_) <;> (try subst hb) <;> cbv)))
        try (refine rq (Nat.lt_of_lt_of_eq hq8 hel2.symm) ?_; cbv; (repeat' (first
    | (refine q1 (by first | exact trivial | omega | (dsimp only; omega) | exact pow62 _ (by omega) | exact mul9 (by omega) (by omega) | (simp only [oln, otk, odr, oap, ost, orp, ocp, osg, otn, oad, osb, osi, oby, pln, ptk, pdr, pap, pst, prp, pcp, psg, ptn, pad, psb, psi, pby, cst, ints_len, List.length_take, List.length_drop, List.length_append, List.length_set, List.length_replicate, List.length_cons, List.length_nil] at *; omega)) (fun z hz => ?_); (try simp only at hz); cbv)
    | (refine rq (by first | exact trivial | omega | (dsimp only; omega) | (simp only [oln, otk, odr, oap, ost, orp, ocp, osg, otn, oad, osb, osi, oby, pln, ptk, pdr, pap, pst, prp, pcp, psg, ptn, pad, psb, psi, pby, cst, ints_len, List.length_take, List.length_drop, List.length_append, List.length_set, List.length_replicate, List.length_cons, List.length_nil] at *; omega)) ?_; cbv)
    | (refine QC.tt (by first | omega | (dsimp only; omega) | exact rfl | (simp only [oln, otk, odr, oap, ost, orp, ocp, osg, otn, oad, osb, osi, oby, pln, ptk, pdr, pap, pst, prp, pcp, psg, ptn, pad, psb, psi, pby, cst, ints_len, List.length_take, List.length_drop, List.length_append, List.length_set, List.length_replicate, List.length_cons, List.length_nil] at *; omega)) ?_; cbv)
    | (refine QC.tt ?_ ?_; (focus (simp only [decide_true, Bool.and_true, Bool.and_self] <;> fail)); cbv)
    | (refine QC.ff ?_ ?_; (focus (simp only [decide_true, Bool.and_true, Bool.and_self, decide_false, Bool.false_and, reduceCtorEq, not_false_eq_true] <;> fail)); cbv)
    | (refine QC.ff (by first | omega | (dsimp only; omega) | (simp only [oln, otk, odr, oap, ost, orp, ocp, osg, otn, oad, osb, osi, oby, pln, ptk, pdr, pap, pst, prp, pcp, psg, ptn, pad, psb, psi, pby, cst, ints_len, List.length_take, List.length_drop, List.length_append, List.length_set, List.length_replicate, List.length_cons, List.length_nil] at *; omega)) ?_; cbv)
    | (refine QC.mk (fun hc => ?_) (fun hc => ?_) <;> (try dsimp only at hc) <;> cbv)
    | (refine br_mk2 (fun hb => ?_) (fun hb => ?_) <;> (try subst hb) <;> cbv))))
        rename_i zx hzx
        refine ⟨(i + 1, z, zx), ⟨by (first | omega | (simp only [cst] at *; omega) | (simp only [oln, otk, odr, oap, ost, orp, ocp, osg, otn, oad, osb, osi, oby, pln, ptk, pdr, pap, pst, prp, pcp, psg, ptn, pad, psb, psi, pby, cst, ints_len, List.length_take, List.length_drop, List.length_append, List.length_set, List.length_replicate, List.length_cons, List.length_nil] at *; omega)), by omega, by (first | omega | (simp only [cst] at *; omega) | (simp only [oln, otk, odr, oap, ost, orp, ocp, osg, otn, oad, osb, osi, oby, pln, ptk, pdr, pap, pst, prp, pcp, psg, ptn, pad, psb, psi, pby, cst, ints_len, List.length_take, List.length_drop, List.length_append, List.length_set, List.length_replicate, List.length_cons, List.length_nil] at *; omega))⟩, by (first | omega | (simp only [cst] at *; omega) | (simp only [oln, otk, odr, oap, ost, orp, ocp, osg, otn, oad, osb, osi, oby, pln, ptk, pdr, pap, pst, prp, pcp, psg, ptn, pad, psb, psi, pby, cst, ints_len, List.length_take, List.length_drop, List.length_append, List.length_set, List.length_replicate, List.length_cons, List.length_nil] at *; omega)), ?_⟩
        cbv
        refine ⟨?_, trivial⟩
        exact congrArg (Blk.row none 5) hes
      · rename_i zx hzx
        refine ⟨(i + 1, z, zx), ⟨by (first | omega | (simp only [cst] at *; omega) | (simp only [oln, otk, odr, oap, ost, orp, ocp, osg, otn, oad, osb, osi, oby, pln, ptk, pdr, pap, pst, prp, pcp, psg, ptn, pad, psb, psi, pby, cst, ints_len, List.length_take, List.length_drop, List.length_append, List.length_set, List.length_replicate, List.length_cons, List.length_nil] at *; omega)), by omega, by (first | omega | (simp only [cst] at *; omega) | (simp only [oln, otk, odr, oap, ost, orp, ocp, osg, otn, oad, osb, osi, oby, pln, ptk, pdr, pap, pst, prp, pcp, psg, ptn, pad, psb, psi, pby, cst, ints_len, List.length_take, List.length_drop, List.length_append, List.length_set, List.length_replicate, List.length_cons, List.length_nil] at *; omega))⟩, by (first | omega | (simp only [cst] at *; omega) | (simp only [oln, otk, odr, oap, ost, orp, ocp, osg, otn, oad, osb, osi, oby, pln, ptk, pdr, pap, pst, prp, pcp, psg, ptn, pad, psb, psi, pby, cst, ints_len, List.length_take, List.length_drop, List.length_append, List.length_set, List.length_replicate, List.length_cons, List.length_nil] at *; omega)), ?_⟩
        cbv
        refine ⟨?_, trivial⟩
        exact congrArg (Blk.row none 5) (hez (by (first | omega | (simp only [cst] at *; omega) | (simp only [oln, otk, odr, oap, ost, orp, ocp, osg, otn, oad, osb, osi, oby, pln, ptk, pdr, pap, pst, prp, pcp, psg, ptn, pad, psb, psi, pby, cst, ints_len, List.length_take, List.length_drop, List.length_append, List.length_set, List.length_replicate, List.length_cons, List.length_nil] at *; omega))))
    · have e : i = n := by (first | omega | (simp only [cst] at *; omega) | (simp only [oln, otk, odr, oap, ost, orp, ocp, osg, otn, oad, osb, osi, oby, pln, ptk, pdr, pap, pst, prp, pcp, psg, ptn, pad, psb, psi, pby, cst, ints_len, List.length_take, List.length_drop, List.length_append, List.length_set, List.length_replicate, List.length_cons, List.length_nil] at *; omega))
      refine ⟨?_, rfl, rfl⟩
      show SV.tup [.agg [.lst none (G i), _], _] = _
      rw [e, Gn, hR]
      congr 6
      (first | omega | (simp only [cst] at *; omega) | (simp only [oln, otk, odr, oap, ost, orp, ocp, osg, otn, oad, osb, osi, oby, pln, ptk, pdr, pap, pst, prp, pcp, psg, ptn, pad, psb, psi, pby, cst, ints_len, List.length_take, List.length_drop, List.length_append, List.length_set, List.length_replicate, List.length_cons, List.length_nil] at *; omega))
end Go.Proofs.Ytapcbkcnokoljaa
