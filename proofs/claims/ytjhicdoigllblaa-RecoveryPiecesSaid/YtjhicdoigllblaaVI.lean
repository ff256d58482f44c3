/- Contracts of Acknowledge, both sides. -/
import Derived.Test.YtjhicdoigllblaaVD
namespace Go.Proofs.Ytjhicdoigllblaa
set_option linter.unusedVariables false
set_option linter.unusedSimpArgs false
open Go.RowKit
set_option maxHeartbeats 16000000
def zeroV : SV := .agg [.int .i64 0, .int .u8 0, .nil, .int .u32 0, .int .i64 0, .int .i64 0]
/-- The acknowledged bits that count. -/
def ackW (m : Int) (n : Nat) : Int := ((m.toNat &&& (allI n).toNat : Nat) : Int)
def ackD (w ak : Int) : Int := ((w.toNat ^^^ (w.toNat &&& ak.toNat) : Nat) : Int)
def ackO (w ak : Int) : Int := ((ak.toNat ||| w.toNat : Nat) : Int)
/-- The sender after an acknowledgement. -/
def ackS (s : Snd) (m : Int) : Snd :=
  let w := ackW m s.ps.length
  if w = 0 then { s with st := 3 }
  else { s with st := if ackO w s.ak = allI s.ps.length then 2 else s.st, ak := ackO w s.ak, rd := if ackD w s.ak = 0 then s.rd else 0, un := 0 }
def ackX (s : Snd) (b : Bool) (t m : Int) : SV × Int :=
  if b = false then (zeroV, 1) else if s.tag ≠ t then (zeroV, 9) else if s.st ≠ 1 then (s.v, 0) else ((ackS s m).v, 0)
theorem ackW_b (m : Int) (n : Nat) (hn : n ≤ 32) : 0 ≤ ackW m n ∧ ackW m n ≤ 4294967295 := by
  have := (allI_b hn).2
  have h := Nat.and_le_right (n := m.toNat) (m := (allI n).toNat)
  rw [ackW]; omega
theorem ackO_b (w ak : Int) (hw : 0 ≤ w ∧ w ≤ 4294967295) (ha : 0 ≤ ak ∧ ak ≤ 4294967295) : 0 ≤ ackO w ak ∧ ackO w ak ≤ 4294967295 := by
  have h := Nat.or_lt_two_pow (show ak.toNat < 2 ^ 32 by omega) (show w.toNat < 2 ^ 32 by omega)
  rw [ackO]; omega
theorem ack_c (st tag ak rd un : Int) (ps : List (List UInt8)) (R : List SV) (hR : R = rowsB ps) (hf : Snd.fits ⟨st, tag, ps, ak, rd, un⟩) (b : Bool) (hb : b = true ↔ VS ⟨st, tag, ps, ak, rd, un⟩)
    (t m : Int) (ht : 0 ≤ t ∧ t ≤ 255) (hm : 0 ≤ m ∧ m ≤ 4294967295) (X : SV) (e : Int) (hX : ackX ⟨st, tag, ps, ak, rd, un⟩ b t m = (X, e)) :
    Good 17 (pu [.agg [.int .i64 st, .int .u8 tag, .lst none R, .int .u32 ak, .int .i64 rd, .int .i64 un], .int .u8 t, .int .u32 m] (.tup [X, .int .i64 e])) := by
  have g1 := vsender_c st tag ak rd un ps R hR hf b hb
  have g2 := clonedPieces_c ps R hR hf.n hf.b
  have g3 : ∀ N : Int, N = ps.length → ps.length ≤ 32 → Good 57 (pu [.int .i64 N] (.int .u32 (allI ps.length))) := fun N hN hn => all_c ps.length N _ hN hn rfl
  skip
  have hRl : R.length = ps.length := by rw [hR, rowsB_len]
  have hfb := hf.b
  have hfn := hf.n
  have hak := hf.ak
  have hv := fun h : b = true => hb.1 h
  have hn32 : b = true → ps.length ≤ 32 := fun h => (hv h).n2
  have hWb := fun h : b = true => ackW_b m ps.length (hn32 h)
  obtain ⟨w, hw⟩ : ∃ w, w = ackW m ps.length := ⟨_, rfl⟩
  obtain ⟨d, hd⟩ : ∃ d, d = ackD w ak := ⟨_, rfl⟩
  obtain ⟨o, ho⟩ : ∃ o, o = ackO w ak := ⟨_, rfl⟩
  obtain ⟨A, hA⟩ : ∃ A, A = allI ps.length := ⟨_, rfl⟩
  have hAb := fun h : b = true => allI_b (hn32 h)
  have hob := fun h : 0 ≤ w ∧ w ≤ 4294967295 => ackO_b w ak h hf.ak
  rw [← hw] at hWb
  rw [← hA] at hAb
  rw [← ho] at hob
  have x1 : b = false → X = .agg [.int .i64 0, .int .u8 0, .nil, .int .u32 0, .int .i64 0, .int .i64 0] ∧ e = 1 := fun h => by
    unfold ackX at hX; rw [if_pos h] at hX; obtain ⟨a1, a2⟩ := Prod.mk.inj hX; exact ⟨a1.symm, a2.symm⟩
  have x2 : b = true → tag ≠ t → X = .agg [.int .i64 0, .int .u8 0, .nil, .int .u32 0, .int .i64 0, .int .i64 0] ∧ e = 9 := fun h h2 => by
    unfold ackX at hX; rw [if_neg (by rw [h]; simp), if_pos h2] at hX; obtain ⟨a1, a2⟩ := Prod.mk.inj hX; exact ⟨a1.symm, a2.symm⟩
  have x3 : b = true → ¬ tag ≠ t → st ≠ 1 → X = .agg [.int .i64 st, .int .u8 tag, .lst none R, .int .u32 ak, .int .i64 rd, .int .i64 un] ∧ e = 0 := fun h h2 h3 => by
    unfold ackX at hX; rw [if_neg (by rw [h]; simp), if_neg h2, if_pos h3] at hX; obtain ⟨a1, a2⟩ := Prod.mk.inj hX; exact ⟨by rw [← a1, hR]; rfl, a2.symm⟩
  have x4 : b = true → ¬ tag ≠ t → ¬ st ≠ 1 → w = 0 → X = .agg [.int .i64 3, .int .u8 tag, .lst none R, .int .u32 ak, .int .i64 rd, .int .i64 un] ∧ e = 0 := fun h h2 h3 h4 => by
    unfold ackX ackS at hX; rw [if_neg (by rw [h]; simp), if_neg h2, if_neg h3] at hX; obtain ⟨a1, a2⟩ := Prod.mk.inj hX
    refine ⟨?_, a2.symm⟩
    rw [← a1, hR, if_pos (by rw [← hw]; exact h4)]; rfl
  have x5 : b = true → ¬ tag ≠ t → ¬ st ≠ 1 → ¬ w = 0 → X = .agg [.int .i64 (if o = A then 2 else st), .int .u8 tag, .lst none R, .int .u32 o, .int .i64 (if d = 0 then rd else 0), .int .i64 0] ∧ e = 0 := fun h h2 h3 h4 => by
    unfold ackX ackS at hX; rw [if_neg (by rw [h]; simp), if_neg h2, if_neg h3] at hX; obtain ⟨a1, a2⟩ := Prod.mk.inj hX
    refine ⟨?_, a2.symm⟩
    rw [← a1, hR, if_neg (by rw [← hw]; exact h4), hA, ho, hd, hw]; rfl
  have hw : w = ((m.toNat &&& A.toNat : Nat) : Int) := by rw [hw, hA]; rfl
  have hd : d = ((w.toNat ^^^ (w.toNat &&& ak.toNat) : Nat) : Int) := hd
  have ho : o = ((ak.toNat ||| w.toNat : Nat) : Int) := ho
  clear hX hb hv
  rw [← hA] at g3
  refine Good.of Try.func17 rfl (by rfl) (by kernel_rfl) ?_
  cbv
  have hmk : True := trivial
  (repeat' (first
    | (refine q1 (by first | exact trivial | omega | (dsimp only; omega) | exact pow62 _ (by omega) | exact mul9 (by omega) (by omega) | (simp only [sm] at *; omega)) (fun z hz => ?_); (try simp only at hz); cbv)
    | (refine rq (by first | exact trivial | omega | (dsimp only; omega) | (simp only [sm] at *; omega)) ?_; cbv)
    | (refine QC.tt (by first | omega | (dsimp only; omega) | exact rfl | (simp only [sm] at *; omega)) ?_; cbv)
    | (refine QC.tt ?_ ?_; (focus (simp only [decide_true, Bool.and_true, Bool.and_self] <;> fail)); cbv)
    | (refine QC.ff ?_ ?_; (focus (simp only [decide_true, Bool.and_true, Bool.and_self, decide_false, Bool.false_and, reduceCtorEq, not_false_eq_true] <;> fail)); cbv)
    | (refine QC.ff (by first | omega | (dsimp only; omega) | (simp only [sm] at *; omega)) ?_; cbv)
    | (refine QC.mk (fun hc => ?_) (fun hc => ?_) <;> (try dsimp only at hc) <;> cbv)
    | (refine br_mk2 (fun hb => ?_) (fun hb => ?_) <;> (try subst hb) <;> cbv)))
  (refine callq (g1) rfl rfl ?_; cbv; (repeat' (first
    | (refine q1 (by first | exact trivial | omega | (dsimp only; omega) | exact pow62 _ (by omega) | exact mul9 (by omega) (by omega) | (simp only [sm] at *; omega)) (fun z hz => ?_); (try simp only at hz); cbv)
    | (refine rq (by first | exact trivial | omega | (dsimp only; omega) | (simp only [sm] at *; omega)) ?_; cbv)
    | (refine QC.tt (by first | omega | (dsimp only; omega) | exact rfl | (simp only [sm] at *; omega)) ?_; cbv)
    | (refine QC.tt ?_ ?_; (focus (simp only [decide_true, Bool.and_true, Bool.and_self] <;> fail)); cbv)
    | (refine QC.ff ?_ ?_; (focus (simp only [decide_true, Bool.and_true, Bool.and_self, decide_false, Bool.false_and, reduceCtorEq, not_false_eq_true] <;> fail)); cbv)
    | (refine QC.ff (by first | omega | (dsimp only; omega) | (simp only [sm] at *; omega)) ?_; cbv)
    | (refine QC.mk (fun hc => ?_) (fun hc => ?_) <;> (try dsimp only at hc) <;> cbv)
    | (refine br_mk2 (fun hb => ?_) (fun hb => ?_) <;> (try subst hb) <;> cbv))))
  · obtain ⟨e1, e2⟩ := x2 rfl hc
    refine Fin.mk ?_ rfl rfl
    rw [e1, e2]
  · have x3 := x3 rfl hc
    have x4 := x4 rfl hc
    have x5 := x5 rfl hc
    have hWb := hWb rfl
    have hAb := hAb rfl
    have hob := hob hWb
    have hn32 := hn32 rfl
    have hm0 : True := trivial
    clear x1 x2
    (refine callq (g2) rfl rfl ?_; cbv; (repeat' (first
    | (refine q1 (by first | exact trivial | omega | (dsimp only; omega) | exact pow62 _ (by omega) | exact mul9 (by omega) (by omega) | (simp only [sm] at *; omega)) (fun z hz => ?_); (try simp only at hz); cbv)
    | (refine rq (by first | exact trivial | omega | (dsimp only; omega) | (simp only [sm] at *; omega)) ?_; cbv)
    | (refine QC.tt (by first | omega | (dsimp only; omega) | exact rfl | (simp only [sm] at *; omega)) ?_; cbv)
    | (refine QC.tt ?_ ?_; (focus (simp only [decide_true, Bool.and_true, Bool.and_self] <;> fail)); cbv)
    | (refine QC.ff ?_ ?_; (focus (simp only [decide_true, Bool.and_true, Bool.and_self, decide_false, Bool.false_and, reduceCtorEq, not_false_eq_true] <;> fail)); cbv)
    | (refine QC.ff (by first | omega | (dsimp only; omega) | (simp only [sm] at *; omega)) ?_; cbv)
    | (refine QC.mk (fun hc => ?_) (fun hc => ?_) <;> (try dsimp only at hc) <;> cbv)
    | (refine br_mk2 (fun hb => ?_) (fun hb => ?_) <;> (try subst hb) <;> cbv))))
    · obtain ⟨e1, e2⟩ := x3 hc
      refine Fin.mk ?_ rfl rfl
      rw [e1, e2]
    · have x4 := x4 hc
      have x5 := x5 hc
      have g3 := g3 z (by (first | omega | (simp only [cst] at *; omega) | (simp only [sm] at *; omega))) hn32
      clear x3 g2 g1 hfb hR hn32
      (refine callq (g3) rfl rfl ?_; cbv; (repeat' (first
    | (refine q1 (by first | exact trivial | omega | (dsimp only; omega) | exact pow62 _ (by omega) | exact mul9 (by omega) (by omega) | (simp only [sm] at *; omega)) (fun z hz => ?_); (try simp only at hz); cbv)
    | (refine rq (by first | exact trivial | omega | (dsimp only; omega) | (simp only [sm] at *; omega)) ?_; cbv)
    | (refine QC.tt (by first | omega | (dsimp only; omega) | exact rfl | (simp only [sm] at *; omega)) ?_; cbv)
    | (refine QC.tt ?_ ?_; (focus (simp only [decide_true, Bool.and_true, Bool.and_self] <;> fail)); cbv)
    | (refine QC.ff ?_ ?_; (focus (simp only [decide_true, Bool.and_true, Bool.and_self, decide_false, Bool.false_and, reduceCtorEq, not_false_eq_true] <;> fail)); cbv)
    | (refine QC.ff (by first | omega | (dsimp only; omega) | (simp only [sm] at *; omega)) ?_; cbv)
    | (refine QC.mk (fun hc => ?_) (fun hc => ?_) <;> (try dsimp only at hc) <;> cbv)
    | (refine br_mk2 (fun hb => ?_) (fun hb => ?_) <;> (try subst hb) <;> cbv))))
      · obtain ⟨e1, e2⟩ := x4 (hw.trans (hz.symm.trans hc))
        refine Fin.mk ?_ rfl rfl
        rw [e1, e2]
      · skip
        rename_i zw hzw h1 zd hzd h2
        have ew : zw = w := hzw.trans hw.symm
        have ed : zd = d := hzd.trans (by rw [ew]; exact hd.symm)
        have eo : z = o := hz.trans (by rw [ew]; exact ho.symm)
        obtain ⟨e1, e2⟩ := x5 (fun h => h1 (ew.trans h))
        refine Fin.mk ?_ rfl rfl
        rw [e1, e2, if_pos (eo.symm.trans hc), if_neg (fun h => h2 (ed.trans h)), eo]
      · skip
        rename_i zw hzw h1 zd hzd h2
        have ew : zw = w := hzw.trans hw.symm
        have ed : zd = d := hzd.trans (by rw [ew]; exact hd.symm)
        have eo : z = o := hz.trans (by rw [ew]; exact ho.symm)
        obtain ⟨e1, e2⟩ := x5 (fun h => h1 (ew.trans h))
        refine Fin.mk ?_ rfl rfl
        rw [e1, e2, if_neg (fun h => hc (eo.trans h)), if_neg (fun h => h2 (ed.trans h)), eo]
      · skip
        rename_i zw hzw h1 zd hzd h2
        have ew : zw = w := hzw.trans hw.symm
        have ed : zd = d := hzd.trans (by rw [ew]; exact hd.symm)
        have eo : z = o := hz.trans (by rw [ew]; exact ho.symm)
        obtain ⟨e1, e2⟩ := x5 (fun h => h1 (ew.trans h))
        refine Fin.mk ?_ rfl rfl
        rw [e1, e2, if_pos (eo.symm.trans hc), if_pos (ed.symm.trans (Classical.not_not.1 h2)), eo]
      · skip
        rename_i zw hzw h1 zd hzd h2
        have ew : zw = w := hzw.trans hw.symm
        have ed : zd = d := hzd.trans (by rw [ew]; exact hd.symm)
        have eo : z = o := hz.trans (by rw [ew]; exact ho.symm)
        obtain ⟨e1, e2⟩ := x5 (fun h => h1 (ew.trans h))
        refine Fin.mk ?_ rfl rfl
        rw [e1, e2, if_neg (fun h => hc (eo.trans h)), if_pos (ed.symm.trans (Classical.not_not.1 h2)), eo]
  · obtain ⟨e1, e2⟩ := x1 rfl
    refine Fin.mk ?_ rfl rfl
    rw [e1, e2]
theorem rack_c (st tag ak rd un : Int) (ps : List (List UInt8)) (R : List SV) (hR : R = rowsB ps) (hf : Snd.fits ⟨st, tag, ps, ak, rd, un⟩) (b : Bool) (hb : b = true ↔ VS ⟨st, tag, ps, ak, rd, un⟩)
    (t m : Int) (ht : 0 ≤ t ∧ t ≤ 255) (hm : 0 ≤ m ∧ m ≤ 4294967295) (X : SV) (e : Int) (hX : ackX ⟨st, tag, ps, ak, rd, un⟩ b t m = (X, e)) :
    Good 18 (pu [.agg [.int .i64 st, .int .u8 tag, .lst none R, .int .u32 ak, .int .i64 rd, .int .i64 un], .int .u8 t, .int .u32 m] (.tup [X, .int .i64 e])) := by
  have g1 := rvsender_c st tag ak rd un ps R hR hf b hb
  have g2 := copied_c ps R hR hf.n hf.b
  have g3 : ∀ N : Int, N = ps.length → ps.length ≤ 32 → Good 58 (pu [.int .i64 N] (.int .u32 (allI ps.length))) := fun N hN hn => rall_c ps.length N _ hN hn rfl
  skip
  have hRl : R.length = ps.length := by rw [hR, rowsB_len]
  have hfb := hf.b
  have hfn := hf.n
  have hak := hf.ak
  have hv := fun h : b = true => hb.1 h
  have hn32 : b = true → ps.length ≤ 32 := fun h => (hv h).n2
  have hWb := fun h : b = true => ackW_b m ps.length (hn32 h)
  obtain ⟨w, hw⟩ : ∃ w, w = ackW m ps.length := ⟨_, rfl⟩
  obtain ⟨d, hd⟩ : ∃ d, d = ackD w ak := ⟨_, rfl⟩
  obtain ⟨o, ho⟩ : ∃ o, o = ackO w ak := ⟨_, rfl⟩
  obtain ⟨A, hA⟩ : ∃ A, A = allI ps.length := ⟨_, rfl⟩
  have hAb := fun h : b = true => allI_b (hn32 h)
  have hob := fun h : 0 ≤ w ∧ w ≤ 4294967295 => ackO_b w ak h hf.ak
  rw [← hw] at hWb
  rw [← hA] at hAb
  rw [← ho] at hob
  have x1 : b = false → X = .agg [.int .i64 0, .int .u8 0, .nil, .int .u32 0, .int .i64 0, .int .i64 0] ∧ e = 1 := fun h => by
    unfold ackX at hX; rw [if_pos h] at hX; obtain ⟨a1, a2⟩ := Prod.mk.inj hX; exact ⟨a1.symm, a2.symm⟩
  have x2 : b = true → tag ≠ t → X = .agg [.int .i64 0, .int .u8 0, .nil, .int .u32 0, .int .i64 0, .int .i64 0] ∧ e = 9 := fun h h2 => by
    unfold ackX at hX; rw [if_neg (by rw [h]; simp), if_pos h2] at hX; obtain ⟨a1, a2⟩ := Prod.mk.inj hX; exact ⟨a1.symm, a2.symm⟩
  have x3 : b = true → ¬ tag ≠ t → st ≠ 1 → X = .agg [.int .i64 st, .int .u8 tag, .lst none R, .int .u32 ak, .int .i64 rd, .int .i64 un] ∧ e = 0 := fun h h2 h3 => by
    unfold ackX at hX; rw [if_neg (by rw [h]; simp), if_neg h2, if_pos h3] at hX; obtain ⟨a1, a2⟩ := Prod.mk.inj hX; exact ⟨by rw [← a1, hR]; rfl, a2.symm⟩
  have x4 : b = true → ¬ tag ≠ t → ¬ st ≠ 1 → w = 0 → X = .agg [.int .i64 3, .int .u8 tag, .lst none R, .int .u32 ak, .int .i64 rd, .int .i64 un] ∧ e = 0 := fun h h2 h3 h4 => by
    unfold ackX ackS at hX; rw [if_neg (by rw [h]; simp), if_neg h2, if_neg h3] at hX; obtain ⟨a1, a2⟩ := Prod.mk.inj hX
    refine ⟨?_, a2.symm⟩
    rw [← a1, hR, if_pos (by rw [← hw]; exact h4)]; rfl
  have x5 : b = true → ¬ tag ≠ t → ¬ st ≠ 1 → ¬ w = 0 → X = .agg [.int .i64 (if o = A then 2 else st), .int .u8 tag, .lst none R, .int .u32 o, .int .i64 (if d = 0 then rd else 0), .int .i64 0] ∧ e = 0 := fun h h2 h3 h4 => by
    unfold ackX ackS at hX; rw [if_neg (by rw [h]; simp), if_neg h2, if_neg h3] at hX; obtain ⟨a1, a2⟩ := Prod.mk.inj hX
    refine ⟨?_, a2.symm⟩
    rw [← a1, hR, if_neg (by rw [← hw]; exact h4), hA, ho, hd, hw]; rfl
  have hw : w = ((m.toNat &&& A.toNat : Nat) : Int) := by rw [hw, hA]; rfl
  have hd : d = ((w.toNat ^^^ (w.toNat &&& ak.toNat) : Nat) : Int) := hd
  have ho : o = ((ak.toNat ||| w.toNat : Nat) : Int) := ho
  clear hX hb hv
  rw [← hA] at g3
  refine Good.of Try.func18 rfl (by rfl) (by kernel_rfl) ?_
  cbv
  have hmk : True := trivial
  (repeat' (first
    | (refine q1 (by first | exact trivial | omega | (dsimp only; omega) | exact pow62 _ (by omega) | exact mul9 (by omega) (by omega) | (simp only [sm] at *; omega)) (fun z hz => ?_); (try simp only at hz); cbv)
    | (refine rq (by first | exact trivial | omega | (dsimp only; omega) | (simp only [sm] at *; omega)) ?_; cbv)
    | (refine QC.tt (by first | omega | (dsimp only; omega) | exact rfl | (simp only [sm] at *; omega)) ?_; cbv)
    | (refine QC.tt ?_ ?_; (focus (simp only [decide_true, Bool.and_true, Bool.and_self] <;> fail)); cbv)
    | (refine QC.ff ?_ ?_; (focus (simp only [decide_true, Bool.and_true, Bool.and_self, decide_false, Bool.false_and, reduceCtorEq, not_false_eq_true] <;> fail)); cbv)
    | (refine QC.ff (by first | omega | (dsimp only; omega) | (simp only [sm] at *; omega)) ?_; cbv)
    | (refine QC.mk (fun hc => ?_) (fun hc => ?_) <;> (try dsimp only at hc) <;> cbv)
    | (refine br_mk2 (fun hb => ?_) (fun hb => ?_) <;> (try subst hb) <;> cbv)))
  (refine callq (g1) rfl rfl ?_; cbv; (repeat' (first
    | (refine q1 (by first | exact trivial | omega | (dsimp only; omega) | exact pow62 _ (by omega) | exact mul9 (by omega) (by omega) | (simp only [sm] at *; omega)) (fun z hz => ?_); (try simp only at hz); cbv)
    | (refine rq (by first | exact trivial | omega | (dsimp only; omega) | (simp only [sm] at *; omega)) ?_; cbv)
    | (refine QC.tt (by first | omega | (dsimp only; omega) | exact rfl | (simp only [sm] at *; omega)) ?_; cbv)
    | (refine QC.tt ?_ ?_; (focus (simp only [decide_true, Bool.and_true, Bool.and_self] <;> fail)); cbv)
    | (refine QC.ff ?_ ?_; (focus (simp only [decide_true, Bool.and_true, Bool.and_self, decide_false, Bool.false_and, reduceCtorEq, not_false_eq_true] <;> fail)); cbv)
    | (refine QC.ff (by first | omega | (dsimp only; omega) | (simp only [sm] at *; omega)) ?_; cbv)
    | (refine QC.mk (fun hc => ?_) (fun hc => ?_) <;> (try dsimp only at hc) <;> cbv)
    | (refine br_mk2 (fun hb => ?_) (fun hb => ?_) <;> (try subst hb) <;> cbv))))
  · obtain ⟨e1, e2⟩ := x2 rfl hc
    refine Fin.mk ?_ rfl rfl
    rw [e1, e2]
  · have x3 := x3 rfl hc
    have x4 := x4 rfl hc
    have x5 := x5 rfl hc
    have hWb := hWb rfl
    have hAb := hAb rfl
    have hob := hob hWb
    have hn32 := hn32 rfl
    have hm0 : True := trivial
    clear x1 x2
    (refine callq (g2) rfl rfl ?_; cbv; (repeat' (first
    | (refine q1 (by first | exact trivial | omega | (dsimp only; omega) | exact pow62 _ (by omega) | exact mul9 (by omega) (by omega) | (simp only [sm] at *; omega)) (fun z hz => ?_); (try simp only at hz); cbv)
    | (refine rq (by first | exact trivial | omega | (dsimp only; omega) | (simp only [sm] at *; omega)) ?_; cbv)
    | (refine QC.tt (by first | omega | (dsimp only; omega) | exact rfl | (simp only [sm] at *; omega)) ?_; cbv)
    | (refine QC.tt ?_ ?_; (focus (simp only [decide_true, Bool.and_true, Bool.and_self] <;> fail)); cbv)
    | (refine QC.ff ?_ ?_; (focus (simp only [decide_true, Bool.and_true, Bool.and_self, decide_false, Bool.false_and, reduceCtorEq, not_false_eq_true] <;> fail)); cbv)
    | (refine QC.ff (by first | omega | (dsimp only; omega) | (simp only [sm] at *; omega)) ?_; cbv)
    | (refine QC.mk (fun hc => ?_) (fun hc => ?_) <;> (try dsimp only at hc) <;> cbv)
    | (refine br_mk2 (fun hb => ?_) (fun hb => ?_) <;> (try subst hb) <;> cbv))))
    · obtain ⟨e1, e2⟩ := x3 hc
      refine Fin.mk ?_ rfl rfl
      rw [e1, e2]
    · have x4 := x4 hc
      have x5 := x5 hc
      have g3 := g3 z (by (first | omega | (simp only [cst] at *; omega) | (simp only [sm] at *; omega))) hn32
      clear x3 g2 g1 hfb hR hn32
      (refine callq (g3) rfl rfl ?_; cbv; (repeat' (first
    | (refine q1 (by first | exact trivial | omega | (dsimp only; omega) | exact pow62 _ (by omega) | exact mul9 (by omega) (by omega) | (simp only [sm] at *; omega)) (fun z hz => ?_); (try simp only at hz); cbv)
    | (refine rq (by first | exact trivial | omega | (dsimp only; omega) | (simp only [sm] at *; omega)) ?_; cbv)
    | (refine QC.tt (by first | omega | (dsimp only; omega) | exact rfl | (simp only [sm] at *; omega)) ?_; cbv)
    | (refine QC.tt ?_ ?_; (focus (simp only [decide_true, Bool.and_true, Bool.and_self] <;> fail)); cbv)
    | (refine QC.ff ?_ ?_; (focus (simp only [decide_true, Bool.and_true, Bool.and_self, decide_false, Bool.false_and, reduceCtorEq, not_false_eq_true] <;> fail)); cbv)
    | (refine QC.ff (by first | omega | (dsimp only; omega) | (simp only [sm] at *; omega)) ?_; cbv)
    | (refine QC.mk (fun hc => ?_) (fun hc => ?_) <;> (try dsimp only at hc) <;> cbv)
    | (refine br_mk2 (fun hb => ?_) (fun hb => ?_) <;> (try subst hb) <;> cbv))))
      · obtain ⟨e1, e2⟩ := x4 (hw.trans (hz.symm.trans hc))
        refine Fin.mk ?_ rfl rfl
        rw [e1, e2]
      · (refine callq (g3) rfl rfl ?_; cbv; (repeat' (first
    | (refine q1 (by first | exact trivial | omega | (dsimp only; omega) | exact pow62 _ (by omega) | exact mul9 (by omega) (by omega) | (simp only [sm] at *; omega)) (fun z hz => ?_); (try simp only at hz); cbv)
    | (refine rq (by first | exact trivial | omega | (dsimp only; omega) | (simp only [sm] at *; omega)) ?_; cbv)
    | (refine QC.tt (by first | omega | (dsimp only; omega) | exact rfl | (simp only [sm] at *; omega)) ?_; cbv)
    | (refine QC.tt ?_ ?_; (focus (simp only [decide_true, Bool.and_true, Bool.and_self] <;> fail)); cbv)
    | (refine QC.ff ?_ ?_; (focus (simp only [decide_true, Bool.and_true, Bool.and_self, decide_false, Bool.false_and, reduceCtorEq, not_false_eq_true] <;> fail)); cbv)
    | (refine QC.ff (by first | omega | (dsimp only; omega) | (simp only [sm] at *; omega)) ?_; cbv)
    | (refine QC.mk (fun hc => ?_) (fun hc => ?_) <;> (try dsimp only at hc) <;> cbv)
    | (refine br_mk2 (fun hb => ?_) (fun hb => ?_) <;> (try subst hb) <;> cbv))))
        · skip
          rename_i zw hzw h1 zd hzd h2
          have ew : zw = w := hzw.trans hw.symm
          have ed : zd = d := hzd.trans (by rw [ew]; exact hd.symm)
          have eo : z = o := hz.trans (by rw [ew]; exact ho.symm)
          obtain ⟨e1, e2⟩ := x5 (fun h => h1 (ew.trans h))
          refine Fin.mk ?_ rfl rfl
          rw [e1, e2, if_pos (eo.symm.trans hc), if_neg (fun h => h2 (ed.trans h)), eo]
        · skip
          rename_i zw hzw h1 zd hzd h2
          have ew : zw = w := hzw.trans hw.symm
          have ed : zd = d := hzd.trans (by rw [ew]; exact hd.symm)
          have eo : z = o := hz.trans (by rw [ew]; exact ho.symm)
          obtain ⟨e1, e2⟩ := x5 (fun h => h1 (ew.trans h))
          refine Fin.mk ?_ rfl rfl
          rw [e1, e2, if_neg (fun h => hc (eo.trans h)), if_neg (fun h => h2 (ed.trans h)), eo]
      · (refine callq (g3) rfl rfl ?_; cbv; (repeat' (first
    | (refine q1 (by first | exact trivial | omega | (dsimp only; omega) | exact pow62 _ (by omega) | exact mul9 (by omega) (by omega) | (simp only [sm] at *; omega)) (fun z hz => ?_); (try simp only at hz); cbv)
    | (refine rq (by first | exact trivial | omega | (dsimp only; omega) | (simp only [sm] at *; omega)) ?_; cbv)
    | (refine QC.tt (by first | omega | (dsimp only; omega) | exact rfl | (simp only [sm] at *; omega)) ?_; cbv)
    | (refine QC.tt ?_ ?_; (focus (simp only [decide_true, Bool.and_true, Bool.and_self] <;> fail)); cbv)
    | (refine QC.ff ?_ ?_; (focus (simp only [decide_true, Bool.and_true, Bool.and_self, decide_false, Bool.false_and, reduceCtorEq, not_false_eq_true] <;> fail)); cbv)
    | (refine QC.ff (by first | omega | (dsimp only; omega) | (simp only [sm] at *; omega)) ?_; cbv)
    | (refine QC.mk (fun hc => ?_) (fun hc => ?_) <;> (try dsimp only at hc) <;> cbv)
    | (refine br_mk2 (fun hb => ?_) (fun hb => ?_) <;> (try subst hb) <;> cbv))))
        · skip
          rename_i zw hzw h1 zd hzd h2
          have ew : zw = w := hzw.trans hw.symm
          have ed : zd = d := hzd.trans (by rw [ew]; exact hd.symm)
          have eo : z = o := hz.trans (by rw [ew]; exact ho.symm)
          obtain ⟨e1, e2⟩ := x5 (fun h => h1 (ew.trans h))
          refine Fin.mk ?_ rfl rfl
          rw [e1, e2, if_pos (eo.symm.trans hc), if_pos (ed.symm.trans (Classical.not_not.1 h2)), eo]
        · skip
          rename_i zw hzw h1 zd hzd h2
          have ew : zw = w := hzw.trans hw.symm
          have ed : zd = d := hzd.trans (by rw [ew]; exact hd.symm)
          have eo : z = o := hz.trans (by rw [ew]; exact ho.symm)
          obtain ⟨e1, e2⟩ := x5 (fun h => h1 (ew.trans h))
          refine Fin.mk ?_ rfl rfl
          rw [e1, e2, if_neg (fun h => hc (eo.trans h)), if_pos (ed.symm.trans (Classical.not_not.1 h2)), eo]
  · obtain ⟨e1, e2⟩ := x1 rfl
    refine Fin.mk ?_ rfl rfl
    rw [e1, e2]
end Go.Proofs.Ytjhicdoigllblaa
