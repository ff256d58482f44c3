/- Texts put together: LQ. -/
import Derived.Test.YtplcajgoigpneaaZ22
namespace Go.Proofs.Ytplcajgoigpneaa
set_option linter.unusedVariables false
set_option linter.unusedSimpArgs false
open Go.RowKit
set_option maxHeartbeats 8000000
theorem device_c (n : Int) (h : 0 ≤ n ∧ n ≤ 65535) : Good 17 (pu [.int .i64 n] (.agg [.int .i64 2, .int .u16 n, .int .u64 0])) := by
  refine Good.of Try.func17 rfl (by rfl) (by kernel_rfl) ?_
  cbv
  (repeat' (first
| (refine q1w (fun z hz => ?_); (try simp only at hz); cbv)
| (refine rqw ?_; cbv)
| (refine rq (show kfitQ _ _ from by simp [kfitQ, IntKind.min, IntKind.max, IntKind.signed, IntKind.bits]; omega) ?_; cbv)
| (refine chpA ?_; cbv)
| (refine QC.tw ?_; cbv)
| (refine QC.tt ?_ ?_; (focus (simp only [decide_true, Bool.and_true, Bool.and_self] <;> fail)); cbv)
| (refine QC.ff ?_ ?_; (focus (simp only [decide_true, Bool.and_true, Bool.and_self, decide_false, Bool.false_and, reduceCtorEq, not_false_eq_true] <;> fail)); cbv)
| (refine QC.fw ?_; cbv)
| (refine QC.mk (fun hc => ?_) (fun hc => ?_) <;> (try dsimp only at hc) <;> cbv)
| (refine br_mk2 (fun hb => ?_) (fun hb => ?_) <;> (try subst hb) <;> cbv)))
  have e : z = n := by omega
  subst e
  exact ⟨rfl, rfl, rfl⟩
theorem fwdF_eq {l : List Sw} {a b c n t o : Int} {len : Nat} {d e f u now : Int} (h : ForV l a b c n o len d e f) (ht : timeT now = true) : fwdF l a b c n t o len d e f u now = fwdG (expF l now) a b c n t o len d e f u now := by
  unfold fwdF
  rw [if_pos h, if_pos ht]
theorem cut_c (bs : List UInt8) (X W : List SV) (tag : Int) (K : Nat) (hX : X = u8l bs) (hl : 1 ≤ bs.length ∧ bs.length ≤ 2047) (htag : 0 ≤ tag ∧ tag ≤ 65535) (hK : atS bs.length 13 K = bs.length) (hK' : ∀ k, k < K → atS bs.length 13 k < bs.length) (hW : W = splitL bs tag 13 K) : Good 24 (pu [.lst none X, .int .u16 tag] (.lst (some 4) W)) := by
  have g := rsplit_c bs X W tag 13 K hX hl (by omega) htag hK hK' hW
  refine Good.of Try.func24 rfl (by rfl) (by kernel_rfl) ?_
  cbv
  (repeat' (first
| (refine q1w (fun z hz => ?_); (try simp only at hz); cbv)
| (refine rqw ?_; cbv)
| (refine rq (show kfitQ _ _ from by simp [kfitQ, IntKind.min, IntKind.max, IntKind.signed, IntKind.bits]; omega) ?_; cbv)
| (refine chpA ?_; cbv)
| (refine QC.tw ?_; cbv)
| (refine QC.tt ?_ ?_; (focus (simp only [decide_true, Bool.and_true, Bool.and_self] <;> fail)); cbv)
| (refine QC.ff ?_ ?_; (focus (simp only [decide_true, Bool.and_true, Bool.and_self, decide_false, Bool.false_and, reduceCtorEq, not_false_eq_true] <;> fail)); cbv)
| (refine QC.fw ?_; cbv)
| (refine QC.mk (fun hc => ?_) (fun hc => ?_) <;> (try dsimp only at hc) <;> cbv)
| (refine br_mk2 (fun hb => ?_) (fun hb => ?_) <;> (try subst hb) <;> cbv)))
  (refine callq (g) rfl rfl ?_; cbv; (repeat' (first
| (refine q1w (fun z hz => ?_); (try simp only at hz); cbv)
| (refine rqw ?_; cbv)
| (refine rq (show kfitQ _ _ from by simp [kfitQ, IntKind.min, IntKind.max, IntKind.signed, IntKind.bits]; omega) ?_; cbv)
| (refine chpA ?_; cbv)
| (refine QC.tw ?_; cbv)
| (refine QC.tt ?_ ?_; (focus (simp only [decide_true, Bool.and_true, Bool.and_self] <;> fail)); cbv)
| (refine QC.ff ?_ ?_; (focus (simp only [decide_true, Bool.and_true, Bool.and_self, decide_false, Bool.false_and, reduceCtorEq, not_false_eq_true] <;> fail)); cbv)
| (refine QC.fw ?_; cbv)
| (refine QC.mk (fun hc => ?_) (fun hc => ?_) <;> (try dsimp only at hc) <;> cbv)
| (refine br_mk2 (fun hb => ?_) (fun hb => ?_) <;> (try subst hb) <;> cbv))))
  exact ⟨rfl, rfl, rfl⟩
theorem known_c : Good 15 (pu [] (.bool true)) := by
  obtain ⟨bs, hbs⟩ : ∃ bs : List UInt8, bs = List.replicate 10 0 := ⟨_, rfl⟩
  obtain ⟨X, hX⟩ : ∃ X : List SV, X = O.rp 10 (.int .u8 0) := ⟨_, rfl⟩
  have hXb : X = u8l bs := by rw [hX, orp, hbs, ← u8l_rep]; rfl
  obtain ⟨W, hW⟩ : ∃ W, W = splitL bs 7 13 2 := ⟨_, rfl⟩
  have g1 := cut_c bs X W 7 2 hXb (by rw [hbs]; simp) (by omega) (by rw [hbs]; decide) (by rw [hbs]; decide) hW
  obtain ⟨b0, hb0⟩ : ∃ b0 : List UInt8, b0 = List.replicate 8 0 := ⟨_, rfl⟩
  obtain ⟨b1, hb1⟩ : ∃ b0 : List UInt8, b0 = List.replicate 2 0 := ⟨_, rfl⟩
  obtain ⟨X0, hX0⟩ : ∃ X, X = u8l b0 := ⟨_, rfl⟩
  obtain ⟨X1, hX1⟩ : ∃ X, X = u8l b1 := ⟨_, rfl⟩
  have hW0 : W[0]? = some (.agg [.int .i64 10, .int .u16 7, .int .i64 0, .lst none X0]) := by rw [hW, splitL_frL, hX0, hb0, hbs]; rfl
  have hW1 : W[1]? = some (.agg [.int .i64 10, .int .u16 7, .int .i64 8, .lst none X1]) := by rw [hW, splitL_frL, hX1, hb1, hbs]; rfl
  have d5 := device_c 5 (by omega)
  have d9 := device_c 9 (by omega)
  obtain ⟨l1, hl1⟩ : ∃ l : List Sw, l = [⟨2, 5, 0, 7, 2, 9, 0, 3, 10, 2, 12⟩] := ⟨_, rfl⟩
  obtain ⟨L1, hL1⟩ : ∃ L, L = swL l1 := ⟨_, rfl⟩
  have hv1 : VS l1 := by rw [hl1]; exact VS_snoc (k := []) VS_nil (by simp) ⟨by decide, by decide, by decide, by decide⟩ (by simp) (by simp)
  have hf1 : ∀ x ∈ l1, x.fits := by
    rw [hl1]; intro x hx; simp only [List.mem_singleton] at hx; subst hx
    exact ⟨by decide, by decide, by decide, by decide, by decide, by decide, by decide, by decide, by decide, by decide, by decide⟩
  have e1 : fwdF [] 2 5 0 10 7 0 8 2 9 0 3 0 = ⟨l1, 10, 3, 0, true, 2, 9, 0, 0⟩ := by
    rw [fwdF_eq ⟨VS_nil, by decide, by decide, fun _ => by decide⟩ (by decide), hl1]; rfl
  have e2 : fwdF l1 2 5 0 10 7 8 2 0 0 0 0 1 = ⟨[], 10, 3, 8, true, 2, 9, 0, 0⟩ := by
    rw [fwdF_eq ⟨hv1, by decide, by decide, fun h => absurd h (by decide)⟩ (by decide), hl1]; rfl
  have f1 := (forward_p [] [] rfl (by simp) (by simp) 2 5 0 10 7 0 X0 8 (by rw [hX0, u8l_len, hb0]; simp) (by omega) (by omega) (by omega) 2 9 0 3 0 _ e1.symm).1
  have f2 := (forward_p l1 L1 hL1 (by rw [hl1]; simp) hf1 2 5 0 10 7 8 X1 2 (by rw [hX1, u8l_len, hb1]; simp) (by omega) (by omega) (by omega) 0 0 0 0 1 _ e2.symm).1
  have hnil : swL [] = [] := rfl
  simp only [FwR.v, ← hL1, if_true, hnil] at f1 f2
  have hLl : L1.length = 1 := by rw [hL1, swL_len, hl1]; rfl
  clear e1 e2 hl1 hL1
  have g1 : Good 24 (pu [.lst none (O.rp 10 (.int .u8 0)), .int .u16 7] (.lst (some 4) W)) := hX ▸ g1
  refine Good.of Try.func15 rfl (by rfl) (by kernel_rfl) ?_
  cbv
  (repeat' (first
| (refine q1w (fun z hz => ?_); (try simp only at hz); cbv)
| (refine rqw ?_; cbv)
| (refine rq (show kfitQ _ _ from by simp [kfitQ, IntKind.min, IntKind.max, IntKind.signed, IntKind.bits]; omega) ?_; cbv)
| (refine chpA ?_; cbv)
| (refine QC.tw ?_; cbv)
| (refine QC.tt ?_ ?_; (focus (simp only [decide_true, Bool.and_true, Bool.and_self] <;> fail)); cbv)
| (refine QC.ff ?_ ?_; (focus (simp only [decide_true, Bool.and_true, Bool.and_self, decide_false, Bool.false_and, reduceCtorEq, not_false_eq_true] <;> fail)); cbv)
| (refine QC.fw ?_; cbv)
| (refine QC.mk (fun hc => ?_) (fun hc => ?_) <;> (try dsimp only at hc) <;> cbv)
| (refine br_mk2 (fun hb => ?_) (fun hb => ?_) <;> (try subst hb) <;> cbv)))
  (refine callq (g1) rfl rfl ?_; cbv; (repeat' (first
| (refine q1w (fun z hz => ?_); (try simp only at hz); cbv)
| (refine rqw ?_; cbv)
| (refine rq (show kfitQ _ _ from by simp [kfitQ, IntKind.min, IntKind.max, IntKind.signed, IntKind.bits]; omega) ?_; cbv)
| (refine chpA ?_; cbv)
| (refine QC.tw ?_; cbv)
| (refine QC.tt ?_ ?_; (focus (simp only [decide_true, Bool.and_true, Bool.and_self] <;> fail)); cbv)
| (refine QC.ff ?_ ?_; (focus (simp only [decide_true, Bool.and_true, Bool.and_self, decide_false, Bool.false_and, reduceCtorEq, not_false_eq_true] <;> fail)); cbv)
| (refine QC.fw ?_; cbv)
| (refine QC.mk (fun hc => ?_) (fun hc => ?_) <;> (try dsimp only at hc) <;> cbv)
| (refine br_mk2 (fun hb => ?_) (fun hb => ?_) <;> (try subst hb) <;> cbv))))
  (repeat' (first
| (refine q1w (fun z hz => ?_); (try simp only at hz); cbv)
| (refine rqw ?_; cbv)
| (refine rq (show kfitQ _ _ from by simp [kfitQ, IntKind.min, IntKind.max, IntKind.signed, IntKind.bits]; omega) ?_; cbv)
| (refine chpA ?_; cbv)
| (refine QC.tw ?_; cbv)
| (refine QC.tt ?_ ?_; (focus (simp only [decide_true, Bool.and_true, Bool.and_self] <;> fail)); cbv)
| (refine QC.ff ?_ ?_; (focus (simp only [decide_true, Bool.and_true, Bool.and_self, decide_false, Bool.false_and, reduceCtorEq, not_false_eq_true] <;> fail)); cbv)
| (refine QC.fw ?_; cbv)
| (refine QC.mk (fun hc => ?_) (fun hc => ?_) <;> (try dsimp only at hc) <;> cbv)
| (refine br_mk2 (fun hb => ?_) (fun hb => ?_) <;> (try subst hb) <;> cbv)
| (refine callq (d5) rfl rfl ?_; cbv)
| (refine callq (d9) rfl rfl ?_; cbv)
| (refine callq (f1) rfl rfl ?_; cbv)
| (refine callq (f2) rfl rfl ?_; cbv)
| (refine qv (0, _) ⟨rfl, hW0⟩ ?_; cbv)
| (refine qv (1, _) ⟨rfl, hW1⟩ ?_; cbv)))
  exact ⟨rfl, rfl, rfl⟩
end Go.Proofs.Ytplcajgoigpneaa
