/- Texts put together: LW. -/
import Derived.Test.YtplcajgoigpneaaZ23
namespace Go.Proofs.Ytplcajgoigpneaa
set_option linter.unusedVariables false
set_option linter.unusedSimpArgs false
open Go.RowKit
set_option maxHeartbeats 16000000
def ent1 (n z : Int) : List Sw := [⟨2, 1, 0, 5, 2, 2, 0, 3, n, z, 12⟩]
theorem ent1_ok {n z : Int} (h : 1 ≤ z ∧ z ≤ n ∧ n ≤ 2047) : VS (ent1 n z) ∧ ∀ x ∈ ent1 n z, x.fits := by
  refine ⟨VS_snoc (k := []) VS_nil (by simp) ⟨show someA 2 1 0 = true from by decide, show someA 2 2 0 = true from by decide, decide_eq_true (by dsimp only; omega), show timeT 12 = true from by decide⟩ (by simp) (by simp), fun x hx => ?_⟩
  simp only [ent1, List.mem_singleton] at hx
  subst hx
  exact ⟨by dsimp only; omega, by dsimp only; omega, by dsimp only; omega, by dsimp only; omega, by dsimp only; omega, by dsimp only; omega, by dsimp only; omega, by dsimp only; omega, by dsimp only; omega, by dsimp only; omega, by dsimp only; omega⟩
theorem fm_none {n o : Int} {len : Nat} (hok : validF n o len = true) (ho : o ≠ 0) : fwdF [] 2 1 0 n 5 o len 2 2 0 3 0 = errR 9 := by
  rw [fwdF_eq ⟨VS_nil, by decide, hok, fun h => absurd h ho⟩ (by decide)]
  simp [fwdG, ho, expF]
theorem fm_first {n : Int} {len : Nat} (hok : validF n 0 len = true) (hl : (len : Int) < n) : fwdF [] 2 1 0 n 5 0 len 2 2 0 3 0 = ⟨ent1 n (n - len), n, 3, 0, true, 2, 2, 0, 0⟩ := by
  rw [fwdF_eq ⟨VS_nil, by decide, hok, fun _ => by decide⟩ (by decide)]
  have h1 : ¬ n - (len : Int) ≤ 0 := by omega
  simp [fwdG, expF, fwd1, ent1, h1]
  omega
theorem fm_src {n z o : Int} {len : Nat} (h : 1 ≤ z ∧ z ≤ n ∧ n ≤ 2047) (hok : validF n o len = true) (ho : o ≠ 0) (e : Int) : fwdF (ent1 n z) 2 4 0 n 5 o len 2 2 0 3 0 = errR 9 := by
  rw [fwdF_eq ⟨(ent1_ok h).1, by decide, hok, fun h => absurd h ho⟩ (by decide)]
  simp [fwdG, ho, expF, ent1, hitI, List.findIdx?_cons]
theorem fm_tag {n z o : Int} {len : Nat} (h : 1 ≤ z ∧ z ≤ n ∧ n ≤ 2047) (hok : validF n o len = true) (ho : o ≠ 0) : fwdF (ent1 n z) 2 1 0 n 6 o len 2 2 0 3 0 = errR 9 := by
  rw [fwdF_eq ⟨(ent1_ok h).1, by decide, hok, fun h => absurd h ho⟩ (by decide)]
  simp [fwdG, ho, expF, ent1, hitI, List.findIdx?_cons]
theorem fm_hit {n z o : Int} {len : Nat} (h : 1 ≤ z ∧ z ≤ n ∧ n ≤ 2047) (hok : validF n o len = true) (ho : o ≠ 0) : ∃ R, fwdF (ent1 n z) 2 1 0 n 5 o len 2 8 0 9 11 = ⟨R, n, 3, o, true, 2, 2, 0, 0⟩ := by
  rw [fwdF_eq ⟨(ent1_ok h).1, by decide, hok, fun h => absurd h ho⟩ (by decide)]
  simp [fwdG, ho, expF, ent1, hitI, List.findIdx?_cons, fwd2]
theorem fm_late {n z o : Int} {len : Nat} (h : 1 ≤ z ∧ z ≤ n ∧ n ≤ 2047) (hok : validF n o len = true) (ho : o ≠ 0) : fwdF (ent1 n z) 2 1 0 n 5 o len 2 8 0 9 12 = errR 9 := by
  rw [fwdF_eq ⟨(ent1_ok h).1, by decide, hok, fun h => absurd h ho⟩ (by decide)]
  simp [fwdG, ho, expF, ent1, hitI, List.findIdx?_cons, fwd2]
set_option maxRecDepth 6000 in
theorem missing_c (zs : List Int) (v w : Int) (hz : ∀ v ∈ zs, -9223372036854775808 ≤ v ∧ v ≤ 9223372036854775807) (hv : -9223372036854775808 ≤ v ∧ v ≤ 9223372036854775807) (hw : -9223372036854775808 ≤ w ∧ w ≤ 9223372036854775807) :
    Good 6 (pu [.lst none (ints .i64 zs), .int .i64 v, .int .i64 w] (.bool true)) := by
  obtain ⟨L, hL⟩ : ∃ L, L = (ints .i64 zs).take 400 := ⟨_, rfl⟩
  have g0 := new_c (ints .i64 zs) L hL
  have t0 : Tp L 0 := hL ▸ tape0 zs hz
  obtain ⟨m1, p1, u1, g1⟩ := mod_e v 40 hv (by omega)
  obtain ⟨n, hn⟩ : ∃ n : Int, n = 20 + m1 := ⟨_, rfl⟩
  obtain ⟨R, ys, b2, hR, hyl, hy, t2, g2⟩ := fill_e t0 n (by omega)
  obtain ⟨bs, hbs, hbl⟩ := u8l_of ys hy
  have hRb : R = u8l bs := hR.trans hbs
  have hn' : (bs.length : Int) = n := by omega
  obtain ⟨K, hK, hK'⟩ := atS_end bs.length 13 (by omega) (by omega)
  have hA1 : atS bs.length 13 1 = 8 := by
    simp only [atS, lenS, spS, if_true]
    rw [if_pos (by omega)]
    omega
  have hK2 : 2 ≤ K := by
    rcases (show K = 0 ∨ K = 1 ∨ 2 ≤ K by omega) with e | e | e
    · subst e; simp only [atS] at hK; omega
    · subst e; omega
    · exact e
  have hK60 : K ≤ 60 := by
    have h1 := hK' (K - 1) (by omega)
    have := atS_ok bs.length 13 (by omega) (by omega) (K - 1)
    omega
  obtain ⟨W, hW⟩ : ∃ W, W = splitL bs 5 13 K := ⟨_, rfl⟩
  have hWl : W.length = K := by rw [hW, splitL_len]
  have g3 := cut_c bs R W 5 K hRb (by omega) (by omega) hK hK' hW
  obtain ⟨kk, hkk⟩ : ∃ kk : Int, kk = (K : Int) - 1 := ⟨_, rfl⟩
  obtain ⟨m4, p4, u4, g4⟩ := mod_e w kk hw (by omega)
  obtain ⟨i, hi⟩ : ∃ i : Nat, (i : Int) = 1 + m4 := ⟨(1 + m4).toNat, by omega⟩
  have hiK : i < K := by omega
  have v0 := splitF_ok bs 5 13 K 0 (by omega) (by omega) (by omega) hK'
  have vi := splitF_ok bs 5 13 K i (by omega) (by omega) hiK hK'
  have hWf : ∀ k, k < K → W[k]? = some (splitF bs 5 13 k).v := fun k hk => by rw [hW, splitL_frL, frL, List.getElem?_map, List.getElem?_map, List.getElem?_range hk]; rfl
  have hW0 := hWf 0 (by omega)
  have hWi := hWf i hiK
  have ho0 : (splitF bs 5 13 0).a = 0 := rfl
  have hl0 : ((splitF bs 5 13 0).b.length : Int) = 8 := by
    simp only [splitF, List.length_take, List.length_drop, atS, lenS, spS, if_true]
    rw [if_pos (by omega)]
    omega
  have hoi : (splitF bs 5 13 i).a ≠ 0 := by
    have := atS_ok bs.length 13 (by omega) (by omega) i
    show atS bs.length 13 i ≠ 0
    omega
  have fi0 := splitF_fits bs 5 13 0 (by omega) (by omega) (by omega)
  have fi := splitF_fits bs 5 13 i (by omega) (by omega) (by omega)
  have e0 : (splitF bs 5 13 0).n = n ∧ (splitF bs 5 13 0).t = 5 := ⟨hn', rfl⟩
  have ei : (splitF bs 5 13 i).n = n ∧ (splitF bs 5 13 i).t = 5 := ⟨hn', rfl⟩
  clear hWf
  generalize splitF bs 5 13 0 = f0 at *
  generalize splitF bs 5 13 i = f at *
  obtain ⟨n0, t0', o0, b0⟩ := f0
  obtain ⟨n1, t1', o1, b1⟩ := f
  have e01 : n0 = n := e0.1
  have e02 : t0' = 5 := e0.2
  have ei1 : n1 = n := ei.1
  have ei2 : t1' = 5 := ei.2
  clear e0 ei
  subst e02; subst ei2; subst e01; subst ei1
  have ho0 : o0 = 0 := ho0
  subst ho0
  have hl0 : (b0.length : Int) = 8 := hl0
  have hoi : o1 ≠ 0 := hoi
  have v0 : validF n1 0 b0.length = true := v0
  have vi : validF n1 o1 b1.length = true := vi
  obtain ⟨X0, hX0⟩ : ∃ X, X = u8l b0 := ⟨_, rfl⟩
  obtain ⟨X, hX⟩ : ∃ X, X = u8l b1 := ⟨_, rfl⟩
  have hW0 : W[0]? = some (.agg [.int .i64 n1, .int .u16 5, .int .i64 0, .lst none X0]) := by rw [hX0]; exact hW0
  have hWi : W[i]? = some (.agg [.int .i64 n1, .int .u16 5, .int .i64 o1, .lst none X]) := by rw [hX]; exact hWi
  have hz1 : 1 ≤ n1 - (b0.length : Int) ∧ n1 - (b0.length : Int) ≤ n1 ∧ n1 ≤ 2047 := by omega
  obtain ⟨l1, hl1⟩ : ∃ l, l = ent1 n1 (n1 - b0.length) := ⟨_, rfl⟩
  have hlf : ∀ x ∈ l1, x.fits := by rw [hl1]; exact (ent1_ok hz1).2
  obtain ⟨L1, hL1⟩ : ∃ L, L = swL l1 := ⟨_, rfl⟩
  have hb1 := fi.b
  have hb0 := fi0.b
  have ha1 := fi.a
  dsimp only at hb1 hb0 ha1
  have d1 := device_c 1 (by omega)
  have d2 := device_c 2 (by omega)
  have d4 := device_c 4 (by omega)
  have d8 := device_c 8 (by omega)
  have c1 := (forward_p [] [] rfl (by simp) (by simp) 2 1 0 n1 5 o1 X b1.length (by rw [hX, u8l_len]) (by omega) (by omega) ha1 2 2 0 3 0 (errR 9) (fm_none vi hoi).symm).1
  have c2 := (forward_p [] [] rfl (by simp) (by simp) 2 1 0 n1 5 0 X0 b0.length (by rw [hX0, u8l_len]) (by omega) (by omega) (by omega) 2 2 0 3 0 ⟨ent1 n1 (n1 - b0.length), n1, 3, 0, true, 2, 2, 0, 0⟩ (fm_first v0 (by omega)).symm).1
  have c3 := (forward_p l1 L1 hL1 (by rw [hl1]; simp [ent1]) hlf 2 4 0 n1 5 o1 X b1.length (by rw [hX, u8l_len]) (by omega) (by omega) ha1 2 2 0 3 0 (errR 9) (by rw [hl1]; exact (fm_src hz1 vi hoi 0).symm)).1
  have c4 := (forward_p l1 L1 hL1 (by rw [hl1]; simp [ent1]) hlf 2 1 0 n1 6 o1 X b1.length (by rw [hX, u8l_len]) (by omega) (by omega) ha1 2 2 0 3 0 (errR 9) (by rw [hl1]; exact (fm_tag hz1 vi hoi).symm)).1
  obtain ⟨R5, hR5⟩ := fm_hit hz1 vi hoi
  have c5 := (forward_p l1 L1 hL1 (by rw [hl1]; simp [ent1]) hlf 2 1 0 n1 5 o1 X b1.length (by rw [hX, u8l_len]) (by omega) (by omega) ha1 2 8 0 9 11 ⟨R5, n1, 3, o1, true, 2, 2, 0, 0⟩ (by rw [hl1]; exact hR5.symm)).1
  have c6 := (forward_p l1 L1 hL1 (by rw [hl1]; simp [ent1]) hlf 2 1 0 n1 5 o1 X b1.length (by rw [hX, u8l_len]) (by omega) (by omega) ha1 2 8 0 9 12 (errR 9) (by rw [hl1]; exact (fm_late hz1 vi hoi).symm)).1
  have hnil : swL [] = [] := rfl
  simp only [FwR.v, errR, ← hl1, ← hL1, if_true, Bool.false_eq_true, if_false, hnil] at c1 c2 c3 c4 c5 c6
  obtain ⟨S5, hS5⟩ : ∃ S, S = swL R5 := ⟨_, rfl⟩
  rw [← hS5] at c5
  have gk := known_c
  generalize ints .i64 zs = Z at g0 ⊢
  clear hR5 hlf hL1 hl1 hX hX0 hW hK' hRb hbs hR hy
  refine Good.of Try.func6 rfl (by rfl) (by kernel_rfl) ?_
  cbv
  (repeat' (first
| (refine q1w (fun z hz => ?_); (try simp only at hz); cbv)
| (refine rqw ?_; cbv)
| (refine rq (show kfitQ _ _ from by simp [kfitQ, IntKind.min, IntKind.max, IntKind.signed, IntKind.bits]; omega) ?_; cbv)
| (refine chpA ?_; cbv)
| (refine QC.tw ?_; cbv)
| (refine QC.tt ?_ ?_; (focus (simp only [decide_true, Bool.and_true, Bool.and_self] <;> fail)); cbv)
| (refine QC.ff ?_ ?_; (focus (simp only [decide_true, Bool.and_true, Bool.and_self, decide_false, Bool.false_and, reduceCtorEq, not_false_eq_true] <;> fail)); cbv)
| (refine QC.fw ?_; cbv)
| (refine QC.mk (fun hc => ?_) (fun hc => ?_) <;> (try dsimp only at hc) <;> cbv)
| (refine br_mk2 (fun hb => ?_) (fun hb => ?_) <;> (try subst hb) <;> cbv)))
  (refine callq (g0) rfl rfl ?_; cbv; (repeat' (first
| (refine q1w (fun z hz => ?_); (try simp only at hz); cbv)
| (refine rqw ?_; cbv)
| (refine rq (show kfitQ _ _ from by simp [kfitQ, IntKind.min, IntKind.max, IntKind.signed, IntKind.bits]; omega) ?_; cbv)
| (refine chpA ?_; cbv)
| (refine QC.tw ?_; cbv)
| (refine QC.tt ?_ ?_; (focus (simp only [decide_true, Bool.and_true, Bool.and_self] <;> fail)); cbv)
| (refine QC.ff ?_ ?_; (focus (simp only [decide_true, Bool.and_true, Bool.and_self, decide_false, Bool.false_and, reduceCtorEq, not_false_eq_true] <;> fail)); cbv)
| (refine QC.fw ?_; cbv)
| (refine QC.mk (fun hc => ?_) (fun hc => ?_) <;> (try dsimp only at hc) <;> cbv)
| (refine br_mk2 (fun hb => ?_) (fun hb => ?_) <;> (try subst hb) <;> cbv))))
  (refine callq (g1) rfl rfl ?_; cbv; (repeat' (first
| (refine q1w (fun z hz => ?_); (try simp only at hz); cbv)
| (refine rqw ?_; cbv)
| (refine rq (show kfitQ _ _ from by simp [kfitQ, IntKind.min, IntKind.max, IntKind.signed, IntKind.bits]; omega) ?_; cbv)
| (refine chpA ?_; cbv)
| (refine QC.tw ?_; cbv)
| (refine QC.tt ?_ ?_; (focus (simp only [decide_true, Bool.and_true, Bool.and_self] <;> fail)); cbv)
| (refine QC.ff ?_ ?_; (focus (simp only [decide_true, Bool.and_true, Bool.and_self, decide_false, Bool.false_and, reduceCtorEq, not_false_eq_true] <;> fail)); cbv)
| (refine QC.fw ?_; cbv)
| (refine QC.mk (fun hc => ?_) (fun hc => ?_) <;> (try dsimp only at hc) <;> cbv)
| (refine br_mk2 (fun hb => ?_) (fun hb => ?_) <;> (try subst hb) <;> cbv))))
  have e : z = n1 := by (first | omega | (simp only [cst] at *; omega) | (simp only [sm] at *; omega))
  subst e
  (refine callq (g2) rfl rfl ?_; cbv; (repeat' (first
| (refine q1w (fun z hz => ?_); (try simp only at hz); cbv)
| (refine rqw ?_; cbv)
| (refine rq (show kfitQ _ _ from by simp [kfitQ, IntKind.min, IntKind.max, IntKind.signed, IntKind.bits]; omega) ?_; cbv)
| (refine chpA ?_; cbv)
| (refine QC.tw ?_; cbv)
| (refine QC.tt ?_ ?_; (focus (simp only [decide_true, Bool.and_true, Bool.and_self] <;> fail)); cbv)
| (refine QC.ff ?_ ?_; (focus (simp only [decide_true, Bool.and_true, Bool.and_self, decide_false, Bool.false_and, reduceCtorEq, not_false_eq_true] <;> fail)); cbv)
| (refine QC.fw ?_; cbv)
| (refine QC.mk (fun hc => ?_) (fun hc => ?_) <;> (try dsimp only at hc) <;> cbv)
| (refine br_mk2 (fun hb => ?_) (fun hb => ?_) <;> (try subst hb) <;> cbv))))
  (refine callq (g3) rfl rfl ?_; cbv; (repeat' (first
| (refine q1w (fun z hz => ?_); (try simp only at hz); cbv)
| (refine rqw ?_; cbv)
| (refine rq (show kfitQ _ _ from by simp [kfitQ, IntKind.min, IntKind.max, IntKind.signed, IntKind.bits]; omega) ?_; cbv)
| (refine chpA ?_; cbv)
| (refine QC.tw ?_; cbv)
| (refine QC.tt ?_ ?_; (focus (simp only [decide_true, Bool.and_true, Bool.and_self] <;> fail)); cbv)
| (refine QC.ff ?_ ?_; (focus (simp only [decide_true, Bool.and_true, Bool.and_self, decide_false, Bool.false_and, reduceCtorEq, not_false_eq_true] <;> fail)); cbv)
| (refine QC.fw ?_; cbv)
| (refine QC.mk (fun hc => ?_) (fun hc => ?_) <;> (try dsimp only at hc) <;> cbv)
| (refine br_mk2 (fun hb => ?_) (fun hb => ?_) <;> (try subst hb) <;> cbv))))
  have e : z = kk := by (first | omega | (simp only [cst] at *; omega) | (simp only [sm] at *; omega))
  subst e
  (refine callq (g4) rfl rfl ?_; cbv; (repeat' (first
| (refine q1w (fun z hz => ?_); (try simp only at hz); cbv)
| (refine rqw ?_; cbv)
| (refine rq (show kfitQ _ _ from by simp [kfitQ, IntKind.min, IntKind.max, IntKind.signed, IntKind.bits]; omega) ?_; cbv)
| (refine chpA ?_; cbv)
| (refine QC.tw ?_; cbv)
| (refine QC.tt ?_ ?_; (focus (simp only [decide_true, Bool.and_true, Bool.and_self] <;> fail)); cbv)
| (refine QC.ff ?_ ?_; (focus (simp only [decide_true, Bool.and_true, Bool.and_self, decide_false, Bool.false_and, reduceCtorEq, not_false_eq_true] <;> fail)); cbv)
| (refine QC.fw ?_; cbv)
| (refine QC.mk (fun hc => ?_) (fun hc => ?_) <;> (try dsimp only at hc) <;> cbv)
| (refine br_mk2 (fun hb => ?_) (fun hb => ?_) <;> (try subst hb) <;> cbv))))
  (repeat' (first
| (refine q1w (fun z hz => ?_); (try simp only at hz); cbv)
| (refine rqw ?_; cbv)
| (refine rq (show kfitQ _ _ from by simp [kfitQ, IntKind.min, IntKind.max, IntKind.signed, IntKind.bits]; omega) ?_; cbv)
| (refine chpA ?_; cbv)
| (refine QC.tw ?_; cbv)
| (refine QC.tt ?_ ?_; (focus (simp only [decide_true, Bool.and_true, Bool.and_self] <;> fail)); cbv)
| (refine QC.ff ?_ ?_; (focus (simp only [decide_true, Bool.and_true, Bool.and_self, decide_false, Bool.false_and, reduceCtorEq, not_false_eq_true] <;> fail)); cbv)
| (refine QC.fw ?_; cbv)
| (refine QC.mk (fun hc => ?_) (fun hc => ?_) <;> (try dsimp only at hc) <;> cbv)
| (refine br_mk2 (fun hb => ?_) (fun hb => ?_) <;> (try subst hb) <;> cbv)
| (refine callq (d1) rfl rfl ?_; cbv)
| (refine callq (d2) rfl rfl ?_; cbv)
| (refine callq (d4) rfl rfl ?_; cbv)
| (refine callq (d8) rfl rfl ?_; cbv)
| (refine callq (c1) rfl rfl ?_; cbv)
| (refine callq (c2) rfl rfl ?_; cbv)
| (refine callq (c3) rfl rfl ?_; cbv)
| (refine callq (c5) rfl rfl ?_; cbv)
| (refine callq (c6) rfl rfl ?_; cbv)
| (refine qv (0, _) ⟨rfl, hW0⟩ ?_; cbv)
| (refine qv (i, _) ⟨(by (first | omega | (simp only [cst] at *; omega) | (simp only [sm] at *; omega))), hWi⟩ ?_; cbv)))
  have e6 : z = 6 := by omega
  subst e6
  (refine callq (c4) rfl rfl ?_; cbv; (repeat' (first
| (refine q1w (fun z hz => ?_); (try simp only at hz); cbv)
| (refine rqw ?_; cbv)
| (refine rq (show kfitQ _ _ from by simp [kfitQ, IntKind.min, IntKind.max, IntKind.signed, IntKind.bits]; omega) ?_; cbv)
| (refine chpA ?_; cbv)
| (refine QC.tw ?_; cbv)
| (refine QC.tt ?_ ?_; (focus (simp only [decide_true, Bool.and_true, Bool.and_self] <;> fail)); cbv)
| (refine QC.ff ?_ ?_; (focus (simp only [decide_true, Bool.and_true, Bool.and_self, decide_false, Bool.false_and, reduceCtorEq, not_false_eq_true] <;> fail)); cbv)
| (refine QC.fw ?_; cbv)
| (refine QC.mk (fun hc => ?_) (fun hc => ?_) <;> (try dsimp only at hc) <;> cbv)
| (refine br_mk2 (fun hb => ?_) (fun hb => ?_) <;> (try subst hb) <;> cbv))))
  (repeat' (first
| (refine q1w (fun z hz => ?_); (try simp only at hz); cbv)
| (refine rqw ?_; cbv)
| (refine rq (show kfitQ _ _ from by simp [kfitQ, IntKind.min, IntKind.max, IntKind.signed, IntKind.bits]; omega) ?_; cbv)
| (refine chpA ?_; cbv)
| (refine QC.tw ?_; cbv)
| (refine QC.tt ?_ ?_; (focus (simp only [decide_true, Bool.and_true, Bool.and_self] <;> fail)); cbv)
| (refine QC.ff ?_ ?_; (focus (simp only [decide_true, Bool.and_true, Bool.and_self, decide_false, Bool.false_and, reduceCtorEq, not_false_eq_true] <;> fail)); cbv)
| (refine QC.fw ?_; cbv)
| (refine QC.mk (fun hc => ?_) (fun hc => ?_) <;> (try dsimp only at hc) <;> cbv)
| (refine br_mk2 (fun hb => ?_) (fun hb => ?_) <;> (try subst hb) <;> cbv)
| (refine callq (gk) rfl rfl ?_; cbv)
| (refine callq (d1) rfl rfl ?_; cbv)
| (refine callq (d2) rfl rfl ?_; cbv)
| (refine callq (d4) rfl rfl ?_; cbv)
| (refine callq (d8) rfl rfl ?_; cbv)
| (refine callq (c1) rfl rfl ?_; cbv)
| (refine callq (c2) rfl rfl ?_; cbv)
| (refine callq (c3) rfl rfl ?_; cbv)
| (refine callq (c5) rfl rfl ?_; cbv)
| (refine callq (c6) rfl rfl ?_; cbv)
| (refine qv (0, _) ⟨rfl, hW0⟩ ?_; cbv)
| (refine qv (i, _) ⟨(by (first | omega | (simp only [cst] at *; omega) | (simp only [sm] at *; omega))), hWi⟩ ?_; cbv)))
  exact ⟨rfl, rfl, rfl⟩
end Go.Proofs.Ytplcajgoigpneaa
