/- What both Joins give; the tape's fragments; the sanity check. -/
import Derived.Test.YtfmaicedefhejaaFJ
namespace Go.Proofs.Ytfmaicedefhejaa
set_option linter.unusedVariables false
set_option linter.unusedSimpArgs false
open Go.RowKit
set_option maxHeartbeats 8000000
theorem goF_len {n t : Int} : ∀ {fs : List Fr} {s s1 : Jo}, goF n t fs s = some s1 → s.o.length = n.toNat ∧ s.h.length = n.toNat → s1.o.length = n.toNat ∧ s1.h.length = n.toNat
  | [], s, s1, h, hl => by simp only [goF] at h; injection h with h; subst h; exact hl
  | f :: fs, s, s1, h, hl => by
    simp only [goF] at h
    cases h1 : stepF n t s f with
    | none => rw [h1] at h; cases h
    | some s2 => rw [h1] at h; exact goF_len (fs := fs) h (stepF_len h1 hl)
theorem joinF_len (fs : List Fr) : (joinF fs).1.length ≤ 2047 := by
  cases fs with
  | nil => simp [joinF]
  | cons f fs =>
    simp only [joinF]
    split
    · rename_i s h1 h2
      have hv := of_decide_eq_true (show validF f.n f.a f.b.length = true from h1)
      have := goF_len h2 (by simp [jo0])
      split
      · dsimp only; omega
      · simp
    · simp
theorem join_e (fs : List Fr) (W : List SV) (hf : ∀ f ∈ fs, f.fits) (hW : W = frL fs) (hl : fs.length ≤ 3000000000000) : ∃ (rs : List UInt8) (ok : Bool) (R : List SV), joinF fs = (rs, ok) ∧ R = u8l rs ∧ rs.length ≤ 2047 ∧
    Good 19 (pu [.lst (some 4) W] (.tup [.lst none R, .bool ok])) ∧ Good 20 (pu [.lst (some 4) W] (.tup [.lst none R, .bool ok])) := by
  have hlen := joinF_len fs
  refine ⟨(joinF fs).1, (joinF fs).2, _, rfl, rfl, hlen, ?_⟩
  have hWl : W.length = fs.length := by rw [hW]; simp [frL]
  cases fs with
  | nil =>
    have e : joinF [] = ([], false) := rfl
    rw [e]
    exact ⟨join_no W 0 hWl (by omega) (fun h => absurd h (by omega)), rjoin_no W 0 hWl (by omega) (fun h => absurd h (by omega))⟩
  | cons f fs =>
    have hf0 := hf f (by simp)
    have hW0 : W[0]? = some (.agg [.int .i64 f.n, .int .u16 f.t, .int .i64 f.a, .lst none (u8l f.b)]) := by rw [hW]; simp [frL, Fr.v]
    cases hv : validF f.n f.a f.b.length with
    | true =>
      exact ⟨join_yes (f :: fs) f.n f.t f.a f.b W _ _ _ hf hW (by simpa using hl) rfl hv rfl rfl, rjoin_yes (f :: fs) f.n f.t f.a f.b W _ _ _ hf hW (by simpa using hl) rfl hv rfl rfl⟩
    | false =>
      have e : joinF (f :: fs) = ([], false) := by
        have : f.ok = false := hv
        simp only [joinF, this]
      rw [e]
      have hb := hf0.b
      exact ⟨join_no W _ hWl hl (fun _ => ⟨_, _, _, _, hW0, valid_c _ _ _ _ f.b.length _ (u8l_len _) (by omega) hf0.n hf0.a hv.symm⟩), rjoin_no W _ hWl hl (fun _ => ⟨_, _, _, _, hW0, rvalid_c _ _ _ _ f.b.length _ (u8l_len _) (by omega) hf0.n hf0.a hv.symm⟩)⟩

/-- The fragments of Split. -/
def splitF (bs : List UInt8) (tag room : Int) (k : Nat) : Fr := ⟨bs.length, tag, atS bs.length room k, (bs.drop (atS bs.length room k).toNat).take (lenS bs.length room (atS bs.length room k) k).toNat⟩
theorem splitL_frL (bs : List UInt8) (tag room : Int) (K : Nat) : splitL bs tag room K = frL ((List.range K).map (splitF bs tag room)) := by
  simp only [splitL, frL, List.map_map]
  rfl
theorem splitF_fits (bs : List UInt8) (tag room : Int) (k : Nat) (hb : bs.length ≤ 2047) (hr : 13 ≤ room) (ht : 0 ≤ tag ∧ tag ≤ 65535) : (splitF bs tag room k).fits := by
  have := atS_ok bs.length room hr (by omega) k
  refine ⟨?_, ht, ?_, ?_⟩ <;> simp only [splitF]
  · omega
  · omega
  · simp; omega

theorem known_c : Good 16 (pu [] (.bool true)) := by
  obtain ⟨bs, hbs⟩ : ∃ bs : List UInt8, bs = List.replicate 20 0 := ⟨_, rfl⟩
  obtain ⟨X, hX⟩ : ∃ X : List SV, X = O.rp 20 (.int .u8 0) := ⟨_, rfl⟩
  have hXb : X = u8l bs := by rw [hX, orp, hbs, ← u8l_rep]; rfl
  obtain ⟨W, hW⟩ : ∃ W, W = splitL bs 1 13 3 := ⟨_, rfl⟩
  have hWl : W.length = 3 := by rw [hW, splitL_len]
  have hs := split_c bs X W 1 13 3 hXb (by rw [hbs]; simp) (by omega) (by omega) (by rw [hbs]; decide) (by rw [hbs]; decide) hW
  have hj : joinF ((List.range 3).map (splitF bs 1 13)) = (bs, true) := by rw [hbs]; decide +kernel
  obtain ⟨rs, ok, R, e1, e2, e3, h1, h2⟩ := join_e ((List.range 3).map (splitF bs 1 13)) W (fun f hf => by
    obtain ⟨k, _, rfl⟩ := List.mem_map.1 hf
    exact splitF_fits bs 1 13 k (by rw [hbs]; simp) (by omega) (by omega)) (by rw [hW, splitL_frL]) (by simp)
  rw [hj] at e1
  injection e1 with e4 e5
  have hR : R.length = 20 := by rw [e2, u8l_len, ← e4, hbs]; simp
  subst e5
  clear hj e2 e3 h2
  refine Good.of Try.func16 rfl (by rfl) (by kernel_rfl) ?_
  cbv
  (repeat' (first
    | (refine q1 (by first | exact trivial | omega | (dsimp only; omega) | exact pow62 _ (by omega) | exact mul9 (by omega) (by omega) | (simp only [oln, otk, odr, oap, ost, orp, ocp, osg, otn, oad, osb, osi, oby, pln, ptk, pdr, pap, pst, prp, pcp, psg, ptn, pad, psb, psi, pby, cst, ints_len, List.length_take, List.length_drop, List.length_append, List.length_set, List.length_replicate, List.length_cons, List.length_nil] at *; omega)) (fun z hz => ?_); (try simp only at hz); cbv)
    | (refine rq (by first | exact trivial | omega | (dsimp only; omega) | (simp only [oln, otk, odr, oap, ost, orp, ocp, osg, otn, oad, osb, osi, oby, pln, ptk, pdr, pap, pst, prp, pcp, psg, ptn, pad, psb, psi, pby, cst, ints_len, List.length_take, List.length_drop, List.length_append, List.length_set, List.length_replicate, List.length_cons, List.length_nil] at *; omega)) ?_; cbv)
    | (refine QC.tt (by first | omega | (dsimp only; omega) | exact rfl | (simp only [oln, otk, odr, oap, ost, orp, ocp, osg, otn, oad, osb, osi, oby, pln, ptk, pdr, pap, pst, prp, pcp, psg, ptn, pad, psb, psi, pby, cst, ints_len, List.length_take, List.length_drop, List.length_append, List.length_set, List.length_replicate, List.length_cons, List.length_nil] at *; omega)) ?_; cbv)
    | (refine QC.tt ?_ ?_; (focus (simp only [decide_true, Bool.and_true, Bool.and_self] <;> fail)); cbv)
    | (refine QC.ff ?_ ?_; (focus (simp only [decide_true, Bool.and_true, Bool.and_self, decide_false, Bool.false_and, reduceCtorEq, not_false_eq_true] <;> fail)); cbv)
    | (refine QC.ff (by first | omega | (dsimp only; omega) | (simp only [oln, otk, odr, oap, ost, orp, ocp, osg, otn, oad, osb, osi, oby, pln, ptk, pdr, pap, pst, prp, pcp, psg, ptn, pad, psb, psi, pby, cst, ints_len, List.length_take, List.length_drop, List.length_append, List.length_set, List.length_replicate, List.length_cons, List.length_nil] at *; omega)) ?_; cbv)
    | (refine QC.mk (fun hc => ?_) (fun hc => ?_) <;> (try dsimp only at hc) <;> cbv)
    | (refine br_mk2 (fun hb => ?_) (fun hb => ?_) <;> (try subst hb) <;> cbv)))
  have hs' : Good 13 (pu [.lst none (O.rp 20 (.int .u8 0)), .int .u16 1, .int .i64 13] (.tup [.lst (some 4) W, .int .i64 0])) := hX ▸ hs
  (refine callq (hs') rfl rfl ?_; cbv; (repeat' (first
    | (refine q1 (by first | exact trivial | omega | (dsimp only; omega) | exact pow62 _ (by omega) | exact mul9 (by omega) (by omega) | (simp only [oln, otk, odr, oap, ost, orp, ocp, osg, otn, oad, osb, osi, oby, pln, ptk, pdr, pap, pst, prp, pcp, psg, ptn, pad, psb, psi, pby, cst, ints_len, List.length_take, List.length_drop, List.length_append, List.length_set, List.length_replicate, List.length_cons, List.length_nil] at *; omega)) (fun z hz => ?_); (try simp only at hz); cbv)
    | (refine rq (by first | exact trivial | omega | (dsimp only; omega) | (simp only [oln, otk, odr, oap, ost, orp, ocp, osg, otn, oad, osb, osi, oby, pln, ptk, pdr, pap, pst, prp, pcp, psg, ptn, pad, psb, psi, pby, cst, ints_len, List.length_take, List.length_drop, List.length_append, List.length_set, List.length_replicate, List.length_cons, List.length_nil] at *; omega)) ?_; cbv)
    | (refine QC.tt (by first | omega | (dsimp only; omega) | exact rfl | (simp only [oln, otk, odr, oap, ost, orp, ocp, osg, otn, oad, osb, osi, oby, pln, ptk, pdr, pap, pst, prp, pcp, psg, ptn, pad, psb, psi, pby, cst, ints_len, List.length_take, List.length_drop, List.length_append, List.length_set, List.length_replicate, List.length_cons, List.length_nil] at *; omega)) ?_; cbv)
    | (refine QC.tt ?_ ?_; (focus (simp only [decide_true, Bool.and_true, Bool.and_self] <;> fail)); cbv)
    | (refine QC.ff ?_ ?_; (focus (simp only [decide_true, Bool.and_true, Bool.and_self, decide_false, Bool.false_and, reduceCtorEq, not_false_eq_true] <;> fail)); cbv)
    | (refine QC.ff (by first | omega | (dsimp only; omega) | (simp only [oln, otk, odr, oap, ost, orp, ocp, osg, otn, oad, osb, osi, oby, pln, ptk, pdr, pap, pst, prp, pcp, psg, ptn, pad, psb, psi, pby, cst, ints_len, List.length_take, List.length_drop, List.length_append, List.length_set, List.length_replicate, List.length_cons, List.length_nil] at *; omega)) ?_; cbv)
    | (refine QC.mk (fun hc => ?_) (fun hc => ?_) <;> (try dsimp only at hc) <;> cbv)
    | (refine br_mk2 (fun hb => ?_) (fun hb => ?_) <;> (try subst hb) <;> cbv))))
  (refine callq (h1) rfl rfl ?_; cbv; (repeat' (first
    | (refine q1 (by first | exact trivial | omega | (dsimp only; omega) | exact pow62 _ (by omega) | exact mul9 (by omega) (by omega) | (simp only [oln, otk, odr, oap, ost, orp, ocp, osg, otn, oad, osb, osi, oby, pln, ptk, pdr, pap, pst, prp, pcp, psg, ptn, pad, psb, psi, pby, cst, ints_len, List.length_take, List.length_drop, List.length_append, List.length_set, List.length_replicate, List.length_cons, List.length_nil] at *; omega)) (fun z hz => ?_); (try simp only at hz); cbv)
    | (refine rq (by first | exact trivial | omega | (dsimp only; omega) | (simp only [oln, otk, odr, oap, ost, orp, ocp, osg, otn, oad, osb, osi, oby, pln, ptk, pdr, pap, pst, prp, pcp, psg, ptn, pad, psb, psi, pby, cst, ints_len, List.length_take, List.length_drop, List.length_append, List.length_set, List.length_replicate, List.length_cons, List.length_nil] at *; omega)) ?_; cbv)
    | (refine QC.tt (by first | omega | (dsimp only; omega) | exact rfl | (simp only [oln, otk, odr, oap, ost, orp, ocp, osg, otn, oad, osb, osi, oby, pln, ptk, pdr, pap, pst, prp, pcp, psg, ptn, pad, psb, psi, pby, cst, ints_len, List.length_take, List.length_drop, List.length_append, List.length_set, List.length_replicate, List.length_cons, List.length_nil] at *; omega)) ?_; cbv)
    | (refine QC.tt ?_ ?_; (focus (simp only [decide_true, Bool.and_true, Bool.and_self] <;> fail)); cbv)
    | (refine QC.ff ?_ ?_; (focus (simp only [decide_true, Bool.and_true, Bool.and_self, decide_false, Bool.false_and, reduceCtorEq, not_false_eq_true] <;> fail)); cbv)
    | (refine QC.ff (by first | omega | (dsimp only; omega) | (simp only [oln, otk, odr, oap, ost, orp, ocp, osg, otn, oad, osb, osi, oby, pln, ptk, pdr, pap, pst, prp, pcp, psg, ptn, pad, psb, psi, pby, cst, ints_len, List.length_take, List.length_drop, List.length_append, List.length_set, List.length_replicate, List.length_cons, List.length_nil] at *; omega)) ?_; cbv)
    | (refine QC.mk (fun hc => ?_) (fun hc => ?_) <;> (try dsimp only at hc) <;> cbv)
    | (refine br_mk2 (fun hb => ?_) (fun hb => ?_) <;> (try subst hb) <;> cbv))))
  exact ⟨rfl, rfl, rfl⟩
end Go.Proofs.Ytfmaicedefhejaa
