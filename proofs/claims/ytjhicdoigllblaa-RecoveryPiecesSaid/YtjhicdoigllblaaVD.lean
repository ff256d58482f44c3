/- Contracts: ValidSender of the program and of the document. -/
import Derived.Test.YtjhicdoigllblaaVC
namespace Go.Proofs.Ytjhicdoigllblaa
set_option linter.unusedVariables false
set_option linter.unusedSimpArgs false
open Go.RowKit
set_option maxHeartbeats 8000000
theorem xor_zero (a b : Nat) : a ^^^ b = 0 ↔ a = b := by
  constructor
  · intro h
    apply Nat.eq_of_testBit_eq
    intro i
    have h1 : (a ^^^ b).testBit i = false := by rw [h]; simp
    rw [Nat.testBit_xor] at h1
    cases h2 : a.testBit i <;> cases h3 : b.testBit i <;> simp_all
  · rintro rfl; exact Nat.xor_self a
theorem andNot_all (a : Int) (n : Nat) (h0 : 0 ≤ a) : (a.toNat ^^^ (a.toNat &&& (allI n).toNat) = 0 ↔ a ≤ allI n) := by
  have e : (allI n).toNat = 2 ^ n - 1 := by rw [allI_nat, Int.toNat_natCast]
  have h1 : 1 ≤ 2 ^ n := Nat.one_le_two_pow
  rw [e, Nat.and_two_pow_sub_one_eq_mod, xor_zero, allI_nat]
  constructor
  · intro h
    have := Nat.mod_lt a.toNat (show 0 < 2 ^ n by omega)
    omega
  · intro h
    exact (Nat.mod_eq_of_lt (by omega)).symm
theorem hasN_full (ps : List (List UInt8)) : ((hasN ps ps.length : Nat) : Int) = allI ps.length ↔ ∀ p ∈ ps, p ≠ [] := by
  rw [allI_nat]
  constructor
  · intro h p hp
    obtain ⟨i, hi, rfl⟩ := List.mem_iff_getElem.1 hp
    have := (bm_full _ _).1 (show hasN ps ps.length = 2 ^ ps.length - 1 by omega) i hi
    simp only [List.getD_eq_getElem?_getD, List.getElem?_eq_getElem hi, Option.getD_some, decide_eq_true_eq] at this
    intro e; rw [e] at this; simp at this
  · intro h
    have := (bm_full (fun i => decide (0 < (ps.getD i []).length)) ps.length).2 (fun i hi => by
      simp only [List.getD_eq_getElem?_getD, List.getElem?_eq_getElem hi, Option.getD_some, decide_eq_true_eq]
      have := h ps[i] (List.getElem_mem hi)
      cases hq : ps[i] with
      | nil => exact absurd hq this
      | cons a l => simp)
    exact congrArg _ this
theorem vsender_c (st tag ak rd un : Int) (ps : List (List UInt8)) (R : List SV) (hR : R = rowsB ps) (hf : Snd.fits ⟨st, tag, ps, ak, rd, un⟩) (b : Bool) (hb : b = true ↔ VS ⟨st, tag, ps, ak, rd, un⟩) :
    Good 19 (pu [.agg [.int .i64 st, .int .u8 tag, .lst none R, .int .u32 ak, .int .i64 rd, .int .i64 un]] (.bool b)) := by
  have hRl : R.length = ps.length := by rw [hR, rowsB_len]
  have hfb := hf.b
  have hak := hf.ak
  have hfull := hasN_full ps
  have han := andNot_all ak ps.length hf.ak.1
  have g1 : ps.length ≤ 32 → Good 59 (pu [.lst none R] (.int .u32 (hasN ps ps.length))) := fun hn => has_c ps R hR hn hfb _ rfl
  have g2 : ∀ N : Int, N = ps.length → ps.length ≤ 32 → Good 57 (pu [.int .i64 N] (.int .u32 (allI ps.length))) := fun N hN hn => all_c ps.length N _ hN hn rfl
  have hAb := fun hn => allI_b (n := ps.length) hn
  obtain ⟨h, hh⟩ : ∃ h : Int, h = hasN ps ps.length := ⟨_, rfl⟩
  obtain ⟨A, hA⟩ : ∃ A : Int, A = allI ps.length := ⟨_, rfl⟩
  rw [← hh] at hfull g1
  rw [← hA] at hfull han hAb g2
  refine Good.of Try.func19 rfl (by rfl) (by kernel_rfl) ?_
  cbv
  have hmk : True := trivial
  (repeat' (first
    | (refine q1 (by first | exact trivial | omega | (dsimp only; omega) | exact pow62 _ (by omega) | exact mul9 (by omega) (by omega) | (simp only [sm] at *; omega)) (fun z hz => ?_); (try simp only at hz); cbv)
    | (refine rq (by first | exact trivial | omega | (dsimp only; omega) | (simp only [sm] at *; omega)) ?_; cbv)
    | (refine QC.tt (by first | omega | (dsimp only; omega) | exact rfl | (simp only [sm] at *; omega)) ?_; cbv)
    | (refine QC.tt ?_ ?_; (focus (simp only [decide_true, Bool.and_true, Bool.and_self] <;> fail)); cbv)
    | (refine QC.ff ?_ ?_; (focus (simp only [decide_true, Bool.and_true, Bool.and_self, decide_false, Bool.false_and, reduceCtorEq, not_false_eq_true] <;> fail)); cbv)
    | (refine QC.ff (by first | omega | (dsimp only; omega) | (simp only [sm] at *; omega)) ?_; cbv)
    | (refine QC.mk (fun hc => ?_) (fun hc => ?_) <;> (try dsimp only at hc) <;> cbv)
    | (refine br_mk2 (fun hb => ?_) (fun hb => ?_) <;> (try subst hb) <;> cbv)))
  all_goals first
    | (refine Fin.mk ?_ rfl rfl
       have : b = false := by
         cases hb0 : b
         · rfl
         · exfalso
           have v := hb.1 hb0
           have n1 := v.n1
           have n2 := v.n2
           have ne := hfull.2 v.ne
           have ak := v.ak
           have r1 := v.r1
           have r2 := v.r2
           have u1 := v.u1
           have u2 := v.u2
           have d := v.d
           have a := v.a
           clear hb v
           dsimp only at *
           (first | omega | (simp only [cst] at *; omega) | (simp only [sm] at *; omega))
       rw [this]; done)
    | (refine Fin.mk ?_ rfl rfl
       have : b = true := hb.2 ⟨by dsimp only; (first | omega | (simp only [cst] at *; omega) | (simp only [sm] at *; omega)), by dsimp only; (first | omega | (simp only [cst] at *; omega) | (simp only [sm] at *; omega)), hfull.1 (by (first | omega | (simp only [cst] at *; omega) | (simp only [sm] at *; omega))), by dsimp only; (first | omega | (simp only [cst] at *; omega) | (simp only [sm] at *; omega)), by dsimp only; (first | omega | (simp only [cst] at *; omega) | (simp only [sm] at *; omega)), by dsimp only; (first | omega | (simp only [cst] at *; omega) | (simp only [sm] at *; omega)), by dsimp only; (first | omega | (simp only [cst] at *; omega) | (simp only [sm] at *; omega)), by dsimp only; (first | omega | (simp only [cst] at *; omega) | (simp only [sm] at *; omega)), by dsimp only; intro h0; (first | omega | (simp only [cst] at *; omega) | (simp only [sm] at *; omega)), by dsimp only; intro h0; (first | omega | (simp only [cst] at *; omega) | (simp only [sm] at *; omega))⟩
       rw [this]; done)
    | skip
  have hn : ps.length ≤ 32 := by (first | omega | (simp only [cst] at *; omega) | (simp only [sm] at *; omega))
  have hAb := hAb hn
  have g1 := g1 hn
  (refine callq (g1) rfl rfl ?_; cbv; (repeat' (first
    | (refine q1 (by first | exact trivial | omega | (dsimp only; omega) | exact pow62 _ (by omega) | exact mul9 (by omega) (by omega) | (simp only [sm] at *; omega)) (fun z hz => ?_); (try simp only at hz); cbv)
    | (refine rq (by first | exact trivial | omega | (dsimp only; omega) | (simp only [sm] at *; omega)) ?_; cbv)
    | (refine QC.tt (by first | omega | (dsimp only; omega) | exact rfl | (simp only [sm] at *; omega)) ?_; cbv)
    | (refine QC.tt ?_ ?_; (focus (simp only [decide_true, Bool.and_true, Bool.and_self] <;> fail)); cbv)
    | (refine QC.ff ?_ ?_; (focus (simp only [decide_true, Bool.and_true, Bool.and_self, decide_false, Bool.false_and, reduceCtorEq, not_false_eq_true] <;> fail)); cbv)
    | (refine QC.ff (by first | omega | (dsimp only; omega) | (simp only [sm] at *; omega)) ?_; cbv)
    | (refine QC.mk (fun hc => ?_) (fun hc => ?_) <;> (try dsimp only at hc) <;> cbv)
    | (refine br_mk2 (fun hb => ?_) (fun hb => ?_) <;> (try subst hb) <;> cbv))))
  have g2 := g2 z (by (first | omega | (simp only [cst] at *; omega) | (simp only [sm] at *; omega))) hn
  (refine callq (g2) rfl rfl ?_; cbv; (repeat' (first
    | (refine q1 (by first | exact trivial | omega | (dsimp only; omega) | exact pow62 _ (by omega) | exact mul9 (by omega) (by omega) | (simp only [sm] at *; omega)) (fun z hz => ?_); (try simp only at hz); cbv)
    | (refine rq (by first | exact trivial | omega | (dsimp only; omega) | (simp only [sm] at *; omega)) ?_; cbv)
    | (refine QC.tt (by first | omega | (dsimp only; omega) | exact rfl | (simp only [sm] at *; omega)) ?_; cbv)
    | (refine QC.tt ?_ ?_; (focus (simp only [decide_true, Bool.and_true, Bool.and_self] <;> fail)); cbv)
    | (refine QC.ff ?_ ?_; (focus (simp only [decide_true, Bool.and_true, Bool.and_self, decide_false, Bool.false_and, reduceCtorEq, not_false_eq_true] <;> fail)); cbv)
    | (refine QC.ff (by first | omega | (dsimp only; omega) | (simp only [sm] at *; omega)) ?_; cbv)
    | (refine QC.mk (fun hc => ?_) (fun hc => ?_) <;> (try dsimp only at hc) <;> cbv)
    | (refine br_mk2 (fun hb => ?_) (fun hb => ?_) <;> (try subst hb) <;> cbv))))
  all_goals first
    | (refine Fin.mk ?_ rfl rfl
       have : b = false := by
         cases hb0 : b
         · rfl
         · exfalso
           have v := hb.1 hb0
           have n1 := v.n1
           have n2 := v.n2
           have ne := hfull.2 v.ne
           have ak := v.ak
           have r1 := v.r1
           have r2 := v.r2
           have u1 := v.u1
           have u2 := v.u2
           have d := v.d
           have a := v.a
           clear hb v
           dsimp only at *
           (first | omega | (simp only [cst] at *; omega) | (simp only [sm] at *; omega))
       rw [this]; done)
    | (refine Fin.mk ?_ rfl rfl
       have : b = true := hb.2 ⟨by dsimp only; (first | omega | (simp only [cst] at *; omega) | (simp only [sm] at *; omega)), by dsimp only; (first | omega | (simp only [cst] at *; omega) | (simp only [sm] at *; omega)), hfull.1 (by (first | omega | (simp only [cst] at *; omega) | (simp only [sm] at *; omega))), by dsimp only; (first | omega | (simp only [cst] at *; omega) | (simp only [sm] at *; omega)), by dsimp only; (first | omega | (simp only [cst] at *; omega) | (simp only [sm] at *; omega)), by dsimp only; (first | omega | (simp only [cst] at *; omega) | (simp only [sm] at *; omega)), by dsimp only; (first | omega | (simp only [cst] at *; omega) | (simp only [sm] at *; omega)), by dsimp only; (first | omega | (simp only [cst] at *; omega) | (simp only [sm] at *; omega)), by dsimp only; intro h0; (first | omega | (simp only [cst] at *; omega) | (simp only [sm] at *; omega)), by dsimp only; intro h0; (first | omega | (simp only [cst] at *; omega) | (simp only [sm] at *; omega))⟩
       rw [this]; done)
    | skip
  (refine callq (g2) rfl rfl ?_; cbv; (repeat' (first
    | (refine q1 (by first | exact trivial | omega | (dsimp only; omega) | exact pow62 _ (by omega) | exact mul9 (by omega) (by omega) | (simp only [sm] at *; omega)) (fun z hz => ?_); (try simp only at hz); cbv)
    | (refine rq (by first | exact trivial | omega | (dsimp only; omega) | (simp only [sm] at *; omega)) ?_; cbv)
    | (refine QC.tt (by first | omega | (dsimp only; omega) | exact rfl | (simp only [sm] at *; omega)) ?_; cbv)
    | (refine QC.tt ?_ ?_; (focus (simp only [decide_true, Bool.and_true, Bool.and_self] <;> fail)); cbv)
    | (refine QC.ff ?_ ?_; (focus (simp only [decide_true, Bool.and_true, Bool.and_self, decide_false, Bool.false_and, reduceCtorEq, not_false_eq_true] <;> fail)); cbv)
    | (refine QC.ff (by first | omega | (dsimp only; omega) | (simp only [sm] at *; omega)) ?_; cbv)
    | (refine QC.mk (fun hc => ?_) (fun hc => ?_) <;> (try dsimp only at hc) <;> cbv)
    | (refine br_mk2 (fun hb => ?_) (fun hb => ?_) <;> (try subst hb) <;> cbv))))
  all_goals first
    | (refine Fin.mk ?_ rfl rfl
       have : b = false := by
         cases hb0 : b
         · rfl
         · exfalso
           have v := hb.1 hb0
           have n1 := v.n1
           have n2 := v.n2
           have ne := hfull.2 v.ne
           have ak := v.ak
           have r1 := v.r1
           have r2 := v.r2
           have u1 := v.u1
           have u2 := v.u2
           have d := v.d
           have a := v.a
           clear hb v
           dsimp only at *
           (first | omega | (simp only [cst] at *; omega) | (simp only [sm] at *; omega))
       rw [this]; done)
    | (refine Fin.mk ?_ rfl rfl
       have : b = true := hb.2 ⟨by dsimp only; (first | omega | (simp only [cst] at *; omega) | (simp only [sm] at *; omega)), by dsimp only; (first | omega | (simp only [cst] at *; omega) | (simp only [sm] at *; omega)), hfull.1 (by (first | omega | (simp only [cst] at *; omega) | (simp only [sm] at *; omega))), by dsimp only; (first | omega | (simp only [cst] at *; omega) | (simp only [sm] at *; omega)), by dsimp only; (first | omega | (simp only [cst] at *; omega) | (simp only [sm] at *; omega)), by dsimp only; (first | omega | (simp only [cst] at *; omega) | (simp only [sm] at *; omega)), by dsimp only; (first | omega | (simp only [cst] at *; omega) | (simp only [sm] at *; omega)), by dsimp only; (first | omega | (simp only [cst] at *; omega) | (simp only [sm] at *; omega)), by dsimp only; intro h0; (first | omega | (simp only [cst] at *; omega) | (simp only [sm] at *; omega)), by dsimp only; intro h0; (first | omega | (simp only [cst] at *; omega) | (simp only [sm] at *; omega))⟩
       rw [this]; done)
    | skip
  (refine callq (g2) rfl rfl ?_; cbv; (repeat' (first
    | (refine q1 (by first | exact trivial | omega | (dsimp only; omega) | exact pow62 _ (by omega) | exact mul9 (by omega) (by omega) | (simp only [sm] at *; omega)) (fun z hz => ?_); (try simp only at hz); cbv)
    | (refine rq (by first | exact trivial | omega | (dsimp only; omega) | (simp only [sm] at *; omega)) ?_; cbv)
    | (refine QC.tt (by first | omega | (dsimp only; omega) | exact rfl | (simp only [sm] at *; omega)) ?_; cbv)
    | (refine QC.tt ?_ ?_; (focus (simp only [decide_true, Bool.and_true, Bool.and_self] <;> fail)); cbv)
    | (refine QC.ff ?_ ?_; (focus (simp only [decide_true, Bool.and_true, Bool.and_self, decide_false, Bool.false_and, reduceCtorEq, not_false_eq_true] <;> fail)); cbv)
    | (refine QC.ff (by first | omega | (dsimp only; omega) | (simp only [sm] at *; omega)) ?_; cbv)
    | (refine QC.mk (fun hc => ?_) (fun hc => ?_) <;> (try dsimp only at hc) <;> cbv)
    | (refine br_mk2 (fun hb => ?_) (fun hb => ?_) <;> (try subst hb) <;> cbv))))
  all_goals first
    | (refine Fin.mk ?_ rfl rfl
       have : b = false := by
         cases hb0 : b
         · rfl
         · exfalso
           have v := hb.1 hb0
           have n1 := v.n1
           have n2 := v.n2
           have ne := hfull.2 v.ne
           have ak := v.ak
           have r1 := v.r1
           have r2 := v.r2
           have u1 := v.u1
           have u2 := v.u2
           have d := v.d
           have a := v.a
           clear hb v
           dsimp only at *
           (first | omega | (simp only [cst] at *; omega) | (simp only [sm] at *; omega))
       rw [this]; done)
    | (refine Fin.mk ?_ rfl rfl
       have : b = true := hb.2 ⟨by dsimp only; (first | omega | (simp only [cst] at *; omega) | (simp only [sm] at *; omega)), by dsimp only; (first | omega | (simp only [cst] at *; omega) | (simp only [sm] at *; omega)), hfull.1 (by (first | omega | (simp only [cst] at *; omega) | (simp only [sm] at *; omega))), by dsimp only; (first | omega | (simp only [cst] at *; omega) | (simp only [sm] at *; omega)), by dsimp only; (first | omega | (simp only [cst] at *; omega) | (simp only [sm] at *; omega)), by dsimp only; (first | omega | (simp only [cst] at *; omega) | (simp only [sm] at *; omega)), by dsimp only; (first | omega | (simp only [cst] at *; omega) | (simp only [sm] at *; omega)), by dsimp only; (first | omega | (simp only [cst] at *; omega) | (simp only [sm] at *; omega)), by dsimp only; intro h0; (first | omega | (simp only [cst] at *; omega) | (simp only [sm] at *; omega)), by dsimp only; intro h0; (first | omega | (simp only [cst] at *; omega) | (simp only [sm] at *; omega))⟩
       rw [this]; done)
    | skip
def timeT (t : Int) : Bool := decide (0 ≤ t ∧ t ≤ 1099511627776)
theorem rtime_c (t : Int) (r : Bool) (hr : r = timeT t) : Good 54 (pu [.int .i64 t] (.bool r)) := by
  unfold timeT at hr
  refine Good.of Try.func54 rfl (by rfl) (by kernel_rfl) ?_
  cbv
  (repeat' (first
    | (refine q1 (by first | exact trivial | omega | (dsimp only; omega) | exact pow62 _ (by omega) | exact mul9 (by omega) (by omega) | (simp only [sm] at *; omega)) (fun z hz => ?_); (try simp only at hz); cbv)
    | (refine rq (by first | exact trivial | omega | (dsimp only; omega) | (simp only [sm] at *; omega)) ?_; cbv)
    | (refine QC.tt (by first | omega | (dsimp only; omega) | exact rfl | (simp only [sm] at *; omega)) ?_; cbv)
    | (refine QC.tt ?_ ?_; (focus (simp only [decide_true, Bool.and_true, Bool.and_self] <;> fail)); cbv)
    | (refine QC.ff ?_ ?_; (focus (simp only [decide_true, Bool.and_true, Bool.and_self, decide_false, Bool.false_and, reduceCtorEq, not_false_eq_true] <;> fail)); cbv)
    | (refine QC.ff (by first | omega | (dsimp only; omega) | (simp only [sm] at *; omega)) ?_; cbv)
    | (refine QC.mk (fun hc => ?_) (fun hc => ?_) <;> (try dsimp only at hc) <;> cbv)
    | (refine br_mk2 (fun hb => ?_) (fun hb => ?_) <;> (try subst hb) <;> cbv)))
  all_goals refine ⟨?_, rfl, rfl⟩
  all_goals rw [hr]
  all_goals first | (rw [decide_eq_true (by omega)]) | (rw [decide_eq_false (by omega)])
theorem rlater_c (t r : Int) (ht : 0 ≤ t ∧ t ≤ 1099511627776) (hr : r = min (t + 8) 1099511627776) : Good 56 (pu [.int .i64 t, .int .i64 8] (.int .i64 r)) := by
  refine Good.of Try.func56 rfl (by rfl) (by kernel_rfl) ?_
  cbv
  (repeat' (first
    | (refine q1 (by first | exact trivial | omega | (dsimp only; omega) | exact pow62 _ (by omega) | exact mul9 (by omega) (by omega) | (simp only [sm] at *; omega)) (fun z hz => ?_); (try simp only at hz); cbv)
    | (refine rq (by first | exact trivial | omega | (dsimp only; omega) | (simp only [sm] at *; omega)) ?_; cbv)
    | (refine QC.tt (by first | omega | (dsimp only; omega) | exact rfl | (simp only [sm] at *; omega)) ?_; cbv)
    | (refine QC.tt ?_ ?_; (focus (simp only [decide_true, Bool.and_true, Bool.and_self] <;> fail)); cbv)
    | (refine QC.ff ?_ ?_; (focus (simp only [decide_true, Bool.and_true, Bool.and_self, decide_false, Bool.false_and, reduceCtorEq, not_false_eq_true] <;> fail)); cbv)
    | (refine QC.ff (by first | omega | (dsimp only; omega) | (simp only [sm] at *; omega)) ?_; cbv)
    | (refine QC.mk (fun hc => ?_) (fun hc => ?_) <;> (try dsimp only at hc) <;> cbv)
    | (refine br_mk2 (fun hb => ?_) (fun hb => ?_) <;> (try subst hb) <;> cbv)))
  refine Fin.mk ?_ rfl rfl
  have : z = r := by omega
  rw [this]
theorem rvsender_c (st tag ak rd un : Int) (ps : List (List UInt8)) (R : List SV) (hR : R = rowsB ps) (hf : Snd.fits ⟨st, tag, ps, ak, rd, un⟩) (b : Bool) (hb : b = true ↔ VS ⟨st, tag, ps, ak, rd, un⟩) :
    Good 20 (pu [.agg [.int .i64 st, .int .u8 tag, .lst none R, .int .u32 ak, .int .i64 rd, .int .i64 un]] (.bool b)) := by
  have hRl : R.length = ps.length := by rw [hR, rowsB_len]
  have hE := fun i hi => rowsB_at hR i hi
  have hfb := hf.b
  have hak := hf.ak
  have han := andNot_all ak ps.length hf.ak.1
  have g2 : ∀ N : Int, N = ps.length → ps.length ≤ 32 → Good 58 (pu [.int .i64 N] (.int .u32 (allI ps.length))) := fun N hN hn => rall_c ps.length N _ hN hn rfl
  have g3 := rtime_c un _ rfl
  have hAb := fun hn => allI_b (n := ps.length) hn
  obtain ⟨A, hA⟩ : ∃ A : Int, A = allI ps.length := ⟨_, rfl⟩
  obtain ⟨h, hfull⟩ : ∃ h : Int, (h = A ↔ ∀ p ∈ ps, p ≠ []) := ⟨_, by rw [hA]; exact hasN_full ps⟩
  obtain ⟨tb, htb⟩ : ∃ tb, tb = timeT un := ⟨_, rfl⟩
  have htb1 : tb = true → 0 ≤ un ∧ un ≤ 1099511627776 := fun h => by rw [htb, timeT] at h; simpa using h
  have htb0 : tb = false → un < 0 ∨ 1099511627776 < un := fun h => by rw [htb, timeT] at h; simp at h; omega
  rw [← htb] at g3
  rw [← hA] at han hAb g2
  have hne : ∀ (i : Nat) (p : List UInt8), ps[i]? = some p → p.length = 0 → h ≠ A := fun i p hip hp e => by
    have := hfull.1 e p (List.mem_of_getElem? hip)
    exact this (List.length_eq_zero_iff.1 hp)
  have hall : (∀ (i : Nat) (p : List UInt8), ps[i]? = some p → p.length ≠ 0) → h = A := fun hh => hfull.2 (fun p hp e => by
    obtain ⟨i, hi, rfl⟩ := List.mem_iff_getElem.1 hp
    exact hh i _ (List.getElem?_eq_getElem hi) (by rw [e]; rfl))
  clear htb
  refine Good.of Try.func20 rfl (by rfl) (by kernel_rfl) ?_
  cbv
  have hmk : True := trivial
  (repeat' (first
    | (refine q1 (by first | exact trivial | omega | (dsimp only; omega) | exact pow62 _ (by omega) | exact mul9 (by omega) (by omega) | (simp only [sm] at *; omega)) (fun z hz => ?_); (try simp only at hz); cbv)
    | (refine rq (by first | exact trivial | omega | (dsimp only; omega) | (simp only [sm] at *; omega)) ?_; cbv)
    | (refine QC.tt (by first | omega | (dsimp only; omega) | exact rfl | (simp only [sm] at *; omega)) ?_; cbv)
    | (refine QC.tt ?_ ?_; (focus (simp only [decide_true, Bool.and_true, Bool.and_self] <;> fail)); cbv)
    | (refine QC.ff ?_ ?_; (focus (simp only [decide_true, Bool.and_true, Bool.and_self, decide_false, Bool.false_and, reduceCtorEq, not_false_eq_true] <;> fail)); cbv)
    | (refine QC.ff (by first | omega | (dsimp only; omega) | (simp only [sm] at *; omega)) ?_; cbv)
    | (refine QC.mk (fun hc => ?_) (fun hc => ?_) <;> (try dsimp only at hc) <;> cbv)
    | (refine br_mk2 (fun hb => ?_) (fun hb => ?_) <;> (try subst hb) <;> cbv)))
  all_goals first
    | (refine Fin.mk ?_ rfl rfl
       have : b = false := by
         cases hb0 : b
         · rfl
         · exfalso
           have v := hb.1 hb0
           have n1 := v.n1
           have n2 := v.n2
           have ne := hfull.2 v.ne
           have ak := v.ak
           have r1 := v.r1
           have r2 := v.r2
           have u1 := v.u1
           have u2 := v.u2
           have d := v.d
           have a := v.a
           clear hb v
           dsimp only at *
           (first | omega | (simp only [cst] at *; omega) | (simp only [sm] at *; omega))
       rw [this]; done)
    | (refine Fin.mk ?_ rfl rfl
       have : b = true := hb.2 ⟨by dsimp only; (first | omega | (simp only [cst] at *; omega) | (simp only [sm] at *; omega)), by dsimp only; (first | omega | (simp only [cst] at *; omega) | (simp only [sm] at *; omega)), hfull.1 (by (first | omega | (simp only [cst] at *; omega) | (simp only [sm] at *; omega))), by dsimp only; (first | omega | (simp only [cst] at *; omega) | (simp only [sm] at *; omega)), by dsimp only; (first | omega | (simp only [cst] at *; omega) | (simp only [sm] at *; omega)), by dsimp only; (first | omega | (simp only [cst] at *; omega) | (simp only [sm] at *; omega)), by dsimp only; (first | omega | (simp only [cst] at *; omega) | (simp only [sm] at *; omega)), by dsimp only; (first | omega | (simp only [cst] at *; omega) | (simp only [sm] at *; omega)), by dsimp only; intro h0; (first | omega | (simp only [cst] at *; omega) | (simp only [sm] at *; omega)), by dsimp only; intro h0; (first | omega | (simp only [cst] at *; omega) | (simp only [sm] at *; omega))⟩
       rw [this]; done)
    | skip
  have hn : ps.length ≤ 32 := by (first | omega | (simp only [cst] at *; omega) | (simp only [sm] at *; omega))
  have hAb := hAb hn
  have g2 := g2 z (by (first | omega | (simp only [cst] at *; omega) | (simp only [sm] at *; omega))) hn
  (refine callq (g2) rfl rfl ?_; cbv; (repeat' (first
    | (refine q1 (by first | exact trivial | omega | (dsimp only; omega) | exact pow62 _ (by omega) | exact mul9 (by omega) (by omega) | (simp only [sm] at *; omega)) (fun z hz => ?_); (try simp only at hz); cbv)
    | (refine rq (by first | exact trivial | omega | (dsimp only; omega) | (simp only [sm] at *; omega)) ?_; cbv)
    | (refine QC.tt (by first | omega | (dsimp only; omega) | exact rfl | (simp only [sm] at *; omega)) ?_; cbv)
    | (refine QC.tt ?_ ?_; (focus (simp only [decide_true, Bool.and_true, Bool.and_self] <;> fail)); cbv)
    | (refine QC.ff ?_ ?_; (focus (simp only [decide_true, Bool.and_true, Bool.and_self, decide_false, Bool.false_and, reduceCtorEq, not_false_eq_true] <;> fail)); cbv)
    | (refine QC.ff (by first | omega | (dsimp only; omega) | (simp only [sm] at *; omega)) ?_; cbv)
    | (refine QC.mk (fun hc => ?_) (fun hc => ?_) <;> (try dsimp only at hc) <;> cbv)
    | (refine br_mk2 (fun hb => ?_) (fun hb => ?_) <;> (try subst hb) <;> cbv))))
  all_goals first
    | (refine Fin.mk ?_ rfl rfl
       have : b = false := by
         cases hb0 : b
         · rfl
         · exfalso
           have v := hb.1 hb0
           have n1 := v.n1
           have n2 := v.n2
           have ne := hfull.2 v.ne
           have ak := v.ak
           have r1 := v.r1
           have r2 := v.r2
           have u1 := v.u1
           have u2 := v.u2
           have d := v.d
           have a := v.a
           clear hb v
           dsimp only at *
           (first | omega | (simp only [cst] at *; omega) | (simp only [sm] at *; omega))
       rw [this]; done)
    | (refine Fin.mk ?_ rfl rfl
       have : b = true := hb.2 ⟨by dsimp only; (first | omega | (simp only [cst] at *; omega) | (simp only [sm] at *; omega)), by dsimp only; (first | omega | (simp only [cst] at *; omega) | (simp only [sm] at *; omega)), hfull.1 (by (first | omega | (simp only [cst] at *; omega) | (simp only [sm] at *; omega))), by dsimp only; (first | omega | (simp only [cst] at *; omega) | (simp only [sm] at *; omega)), by dsimp only; (first | omega | (simp only [cst] at *; omega) | (simp only [sm] at *; omega)), by dsimp only; (first | omega | (simp only [cst] at *; omega) | (simp only [sm] at *; omega)), by dsimp only; (first | omega | (simp only [cst] at *; omega) | (simp only [sm] at *; omega)), by dsimp only; (first | omega | (simp only [cst] at *; omega) | (simp only [sm] at *; omega)), by dsimp only; intro h0; (first | omega | (simp only [cst] at *; omega) | (simp only [sm] at *; omega)), by dsimp only; intro h0; (first | omega | (simp only [cst] at *; omega) | (simp only [sm] at *; omega))⟩
       rw [this]; done)
    | skip
  (refine callq (g3) rfl rfl ?_; cbv; (repeat' (first
    | (refine q1 (by first | exact trivial | omega | (dsimp only; omega) | exact pow62 _ (by omega) | exact mul9 (by omega) (by omega) | (simp only [sm] at *; omega)) (fun z hz => ?_); (try simp only at hz); cbv)
    | (refine rq (by first | exact trivial | omega | (dsimp only; omega) | (simp only [sm] at *; omega)) ?_; cbv)
    | (refine QC.tt (by first | omega | (dsimp only; omega) | exact rfl | (simp only [sm] at *; omega)) ?_; cbv)
    | (refine QC.tt ?_ ?_; (focus (simp only [decide_true, Bool.and_true, Bool.and_self] <;> fail)); cbv)
    | (refine QC.ff ?_ ?_; (focus (simp only [decide_true, Bool.and_true, Bool.and_self, decide_false, Bool.false_and, reduceCtorEq, not_false_eq_true] <;> fail)); cbv)
    | (refine QC.ff (by first | omega | (dsimp only; omega) | (simp only [sm] at *; omega)) ?_; cbv)
    | (refine QC.mk (fun hc => ?_) (fun hc => ?_) <;> (try dsimp only at hc) <;> cbv)
    | (refine br_mk2 (fun hb => ?_) (fun hb => ?_) <;> (try subst hb) <;> cbv))))
  rotate_left
  · have hub := htb0 rfl
    clear htb0 htb1
    skip
    all_goals first
      | (refine Fin.mk ?_ rfl rfl
         have : b = false := by
           cases hb0 : b
           · rfl
           · exfalso
             have v := hb.1 hb0
             have n1 := v.n1
             have n2 := v.n2
             have ne := hfull.2 v.ne
             have ak := v.ak
             have r1 := v.r1
             have r2 := v.r2
             have u1 := v.u1
             have u2 := v.u2
             have d := v.d
             have a := v.a
             clear hb v
             dsimp only at *
             (first | omega | (simp only [cst] at *; omega) | (simp only [sm] at *; omega))
         rw [this]; done)
      | (refine Fin.mk ?_ rfl rfl
         have : b = true := hb.2 ⟨by dsimp only; (first | omega | (simp only [cst] at *; omega) | (simp only [sm] at *; omega)), by dsimp only; (first | omega | (simp only [cst] at *; omega) | (simp only [sm] at *; omega)), hfull.1 (by (first | omega | (simp only [cst] at *; omega) | (simp only [sm] at *; omega))), by dsimp only; (first | omega | (simp only [cst] at *; omega) | (simp only [sm] at *; omega)), by dsimp only; (first | omega | (simp only [cst] at *; omega) | (simp only [sm] at *; omega)), by dsimp only; (first | omega | (simp only [cst] at *; omega) | (simp only [sm] at *; omega)), by dsimp only; (first | omega | (simp only [cst] at *; omega) | (simp only [sm] at *; omega)), by dsimp only; (first | omega | (simp only [cst] at *; omega) | (simp only [sm] at *; omega)), by dsimp only; intro h0; (first | omega | (simp only [cst] at *; omega) | (simp only [sm] at *; omega)), by dsimp only; intro h0; (first | omega | (simp only [cst] at *; omega) | (simp only [sm] at *; omega))⟩
         rw [this]; done)
      | skip
  have hub := htb1 rfl
  clear htb0 htb1
  refine loopQ (A := Nat × Int) (fun p => p.2 = p.1 ∧ p.1 ≤ ps.length ∧ ∀ (i : Nat) (q : List UInt8), i < p.1 → ps[i]? = some q → q.length ≠ 0) (fun p => ps.length - p.1) (fun p => [(4, .int .i64 p.2)]) (fun p => []) (0, 0) ⟨rfl, Nat.zero_le _, fun i q h => absurd h (Nat.not_lt_zero _)⟩ ?_ ?_
  · cbv
  · intro ⟨i, j⟩ hi0
    have hj : j = (i : Int) := hi0.1
    have hi : i ≤ ps.length := hi0.2.1
    have hki : ∀ (k : Nat) (q : List UInt8), k < i → ps[k]? = some q → q.length ≠ 0 := hi0.2.2
    clear hi0
    have hmk : True := trivial
    cbv
    (repeat' (first
    | (refine q1 (by first | exact trivial | omega | (dsimp only; omega) | exact pow62 _ (by omega) | exact mul9 (by omega) (by omega) | (simp only [sm] at *; omega)) (fun z hz => ?_); (try simp only at hz); cbv)
    | (refine rq (by first | exact trivial | omega | (dsimp only; omega) | (simp only [sm] at *; omega)) ?_; cbv)
    | (refine QC.tt (by first | omega | (dsimp only; omega) | exact rfl | (simp only [sm] at *; omega)) ?_; cbv)
    | (refine QC.tt ?_ ?_; (focus (simp only [decide_true, Bool.and_true, Bool.and_self] <;> fail)); cbv)
    | (refine QC.ff ?_ ?_; (focus (simp only [decide_true, Bool.and_true, Bool.and_self, decide_false, Bool.false_and, reduceCtorEq, not_false_eq_true] <;> fail)); cbv)
    | (refine QC.ff (by first | omega | (dsimp only; omega) | (simp only [sm] at *; omega)) ?_; cbv)
    | (refine QC.mk (fun hc => ?_) (fun hc => ?_) <;> (try dsimp only at hc) <;> cbv)
    | (refine br_mk2 (fun hb => ?_) (fun hb => ?_) <;> (try subst hb) <;> cbv)))
    · have hlt : i < ps.length := by (first | omega | (simp only [cst] at *; omega) | (simp only [sm] at *; omega))
      obtain ⟨p, B, hbi, hB, hEi⟩ := hE i hlt
      have hbl := hfb p (List.mem_of_getElem? hbi)
      have hBl : B.length = p.length := by rw [hB, u8l_len]
      have hne := hne i p hbi
      (refine qv (i, _) ⟨hj, hEi⟩ ?_; cbv; (repeat' (first
    | (refine q1 (by first | exact trivial | omega | (dsimp only; omega) | exact pow62 _ (by omega) | exact mul9 (by omega) (by omega) | (simp only [sm] at *; omega)) (fun z hz => ?_); (try simp only at hz); cbv)
    | (refine rq (by first | exact trivial | omega | (dsimp only; omega) | (simp only [sm] at *; omega)) ?_; cbv)
    | (refine QC.tt (by first | omega | (dsimp only; omega) | exact rfl | (simp only [sm] at *; omega)) ?_; cbv)
    | (refine QC.tt ?_ ?_; (focus (simp only [decide_true, Bool.and_true, Bool.and_self] <;> fail)); cbv)
    | (refine QC.ff ?_ ?_; (focus (simp only [decide_true, Bool.and_true, Bool.and_self, decide_false, Bool.false_and, reduceCtorEq, not_false_eq_true] <;> fail)); cbv)
    | (refine QC.ff (by first | omega | (dsimp only; omega) | (simp only [sm] at *; omega)) ?_; cbv)
    | (refine QC.mk (fun hc => ?_) (fun hc => ?_) <;> (try dsimp only at hc) <;> cbv)
    | (refine br_mk2 (fun hb => ?_) (fun hb => ?_) <;> (try subst hb) <;> cbv))))
      · have hh := hne (by (first | omega | (simp only [cst] at *; omega) | (simp only [sm] at *; omega)))
        clear hne hki
        skip
        all_goals first
          | (refine Fin.mk ?_ rfl rfl
             have : b = false := by
               cases hb0 : b
               · rfl
               · exfalso
                 have v := hb.1 hb0
                 have n1 := v.n1
                 have n2 := v.n2
                 have ne := hfull.2 v.ne
                 have ak := v.ak
                 have r1 := v.r1
                 have r2 := v.r2
                 have u1 := v.u1
                 have u2 := v.u2
                 have d := v.d
                 have a := v.a
                 clear hb v
                 dsimp only at *
                 (first | omega | (simp only [cst] at *; omega) | (simp only [sm] at *; omega))
             rw [this]; done)
          | (refine Fin.mk ?_ rfl rfl
             have : b = true := hb.2 ⟨by dsimp only; (first | omega | (simp only [cst] at *; omega) | (simp only [sm] at *; omega)), by dsimp only; (first | omega | (simp only [cst] at *; omega) | (simp only [sm] at *; omega)), hfull.1 (by (first | omega | (simp only [cst] at *; omega) | (simp only [sm] at *; omega))), by dsimp only; (first | omega | (simp only [cst] at *; omega) | (simp only [sm] at *; omega)), by dsimp only; (first | omega | (simp only [cst] at *; omega) | (simp only [sm] at *; omega)), by dsimp only; (first | omega | (simp only [cst] at *; omega) | (simp only [sm] at *; omega)), by dsimp only; (first | omega | (simp only [cst] at *; omega) | (simp only [sm] at *; omega)), by dsimp only; (first | omega | (simp only [cst] at *; omega) | (simp only [sm] at *; omega)), by dsimp only; intro h0; (first | omega | (simp only [cst] at *; omega) | (simp only [sm] at *; omega)), by dsimp only; intro h0; (first | omega | (simp only [cst] at *; omega) | (simp only [sm] at *; omega))⟩
             rw [this]; done)
          | skip
      · have hp : p.length ≠ 0 := by (first | omega | (simp only [cst] at *; omega) | (simp only [sm] at *; omega))
        refine ⟨(i + 1, z), ⟨by show z = ((i + 1 : Nat) : Int); (first | omega | (simp only [cst] at *; omega) | (simp only [sm] at *; omega)), by show i + 1 ≤ ps.length; omega, fun k q hk hq => ?_⟩, by show ps.length - (i + 1) < ps.length - i; omega, ?_⟩
        · by_cases e : k = i
          · subst e
            rw [hbi] at hq
            injection hq with hq
            rw [← hq]; exact hp
          · exact hki k q (by have : k < i + 1 := hk; omega) hq
        · cbv
    · have e : i = ps.length := by (first | omega | (simp only [cst] at *; omega) | (simp only [sm] at *; omega))
      have hh := hall fun k q hq => hki k q (by rw [e]; exact (List.getElem?_eq_some_iff.1 hq).1) hq
      clear hall hki hne
      (refine callq (g2) rfl rfl ?_; cbv; (repeat' (first
    | (refine q1 (by first | exact trivial | omega | (dsimp only; omega) | exact pow62 _ (by omega) | exact mul9 (by omega) (by omega) | (simp only [sm] at *; omega)) (fun z hz => ?_); (try simp only at hz); cbv)
    | (refine rq (by first | exact trivial | omega | (dsimp only; omega) | (simp only [sm] at *; omega)) ?_; cbv)
    | (refine QC.tt (by first | omega | (dsimp only; omega) | exact rfl | (simp only [sm] at *; omega)) ?_; cbv)
    | (refine QC.tt ?_ ?_; (focus (simp only [decide_true, Bool.and_true, Bool.and_self] <;> fail)); cbv)
    | (refine QC.ff ?_ ?_; (focus (simp only [decide_true, Bool.and_true, Bool.and_self, decide_false, Bool.false_and, reduceCtorEq, not_false_eq_true] <;> fail)); cbv)
    | (refine QC.ff (by first | omega | (dsimp only; omega) | (simp only [sm] at *; omega)) ?_; cbv)
    | (refine QC.mk (fun hc => ?_) (fun hc => ?_) <;> (try dsimp only at hc) <;> cbv)
    | (refine br_mk2 (fun hb => ?_) (fun hb => ?_) <;> (try subst hb) <;> cbv))))
      all_goals first
        | (refine Fin.mk ?_ rfl rfl
           have : b = false := by
             cases hb0 : b
             · rfl
             · exfalso
               have v := hb.1 hb0
               have n1 := v.n1
               have n2 := v.n2
               have ne := hfull.2 v.ne
               have ak := v.ak
               have r1 := v.r1
               have r2 := v.r2
               have u1 := v.u1
               have u2 := v.u2
               have d := v.d
               have a := v.a
               clear hb v
               dsimp only at *
               (first | omega | (simp only [cst] at *; omega) | (simp only [sm] at *; omega))
           rw [this]; done)
        | (refine Fin.mk ?_ rfl rfl
           have : b = true := hb.2 ⟨by dsimp only; (first | omega | (simp only [cst] at *; omega) | (simp only [sm] at *; omega)), by dsimp only; (first | omega | (simp only [cst] at *; omega) | (simp only [sm] at *; omega)), hfull.1 (by (first | omega | (simp only [cst] at *; omega) | (simp only [sm] at *; omega))), by dsimp only; (first | omega | (simp only [cst] at *; omega) | (simp only [sm] at *; omega)), by dsimp only; (first | omega | (simp only [cst] at *; omega) | (simp only [sm] at *; omega)), by dsimp only; (first | omega | (simp only [cst] at *; omega) | (simp only [sm] at *; omega)), by dsimp only; (first | omega | (simp only [cst] at *; omega) | (simp only [sm] at *; omega)), by dsimp only; (first | omega | (simp only [cst] at *; omega) | (simp only [sm] at *; omega)), by dsimp only; intro h0; (first | omega | (simp only [cst] at *; omega) | (simp only [sm] at *; omega)), by dsimp only; intro h0; (first | omega | (simp only [cst] at *; omega) | (simp only [sm] at *; omega))⟩
           rw [this]; done)
        | skip
end Go.Proofs.Ytjhicdoigllblaa
