/- Texts put together: JD. -/
import Derived.Test.YtgfpjhddojhfpaaGreatZ04
import Derived.Test.YtgfpjhddojhfpaaGreatZ10
namespace Go.Proofs.YtgfpjhddojhfpaaGreat
set_option linter.unusedVariables false
set_option linter.unusedSimpArgs false
open Go.RowKit
set_option maxHeartbeats 4000000
set_option linter.unusedSimpArgs false
set_option linter.unusedVariables false
theorem rbcast_c (m s e : Int) (r : Bool) (hr : r = bcA m s e) : Good 56 (pu [.agg [.int .i64 m, .int .u16 s, .int .u64 e]] (.bool r)) := by
  obtain ⟨b, hb⟩ : ∃ b, b = decide ((m = 0 ∧ s = 0 ∧ e = 0) ∨ (m = 2 ∧ e = 0) ∨ (m = 3 ∧ s = 0)) := ⟨_, rfl⟩
  have h1 := rvalidA_c m s e b hb
  unfold bcA at hr
  refine Good.of Tryz.func56 rfl (by rfl) (by kernel_rfl) ?_
  cbv
  (repeat' (first
| (refine q1w (fun z hz => ?_); (try simp only at hz); cbv)
| (refine rqw ?_; cbv)
| (refine rqk ?_; cbv)
| (refine chpA ?_; cbv)
| (refine QC.tw ?_; cbv)
| (refine QC.t3 ?_; cbv)
| (refine QC.f3 ?_; cbv)
| (refine QC.fw ?_; cbv)
| (refine QC.mk (fun hc => ?_) (fun hc => ?_) <;> (try dsimp only at hc) <;> cbv)
| (refine br_mk2 (fun hb => ?_) (fun hb => ?_) <;> (try subst hb) <;> cbv)))
  (refine callq (h1) rfl rfl ?_; cbv; (repeat' (first
| (refine q1w (fun z hz => ?_); (try simp only at hz); cbv)
| (refine rqw ?_; cbv)
| (refine rqk ?_; cbv)
| (refine chpA ?_; cbv)
| (refine QC.tw ?_; cbv)
| (refine QC.t3 ?_; cbv)
| (refine QC.f3 ?_; cbv)
| (refine QC.fw ?_; cbv)
| (refine QC.mk (fun hc => ?_) (fun hc => ?_) <;> (try dsimp only at hc) <;> cbv)
| (refine br_mk2 (fun hb => ?_) (fun hb => ?_) <;> (try subst hb) <;> cbv))))
  all_goals (first | have hb := of_decide_eq_true hb.symm | have hb := of_decide_eq_false hb.symm)
  all_goals (try simp only [Bool.and_eq_true, decide_eq_true_eq, and_true] at hc)
  all_goals refine ⟨?_, rfl, rfl⟩
  all_goals rw [hr]
  all_goals first | (rw [decide_eq_true (by omega)]) | (rw [decide_eq_false (by omega)])
theorem one_c (m s e : Int) (r : Bool) (hr : r = decide (someA m s e = true ∧ bcA m s e = false)) : Good 55 (pu [.agg [.int .i64 m, .int .u16 s, .int .u64 e]] (.bool r)) := by
  obtain ⟨x, hx⟩ : ∃ b, b = someA m s e := ⟨_, rfl⟩
  obtain ⟨y, hy⟩ : ∃ b, b = bcA m s e := ⟨_, rfl⟩
  have h1 := some_c m s e x hx
  have h2 := rbcast_c m s e y hy
  rw [← hx, ← hy] at hr
  clear hx hy
  refine Good.of Tryz.func55 rfl (by rfl) (by kernel_rfl) ?_
  cbv
  (repeat' (first
| (refine q1w (fun z hz => ?_); (try simp only at hz); cbv)
| (refine rqw ?_; cbv)
| (refine rqk ?_; cbv)
| (refine chpA ?_; cbv)
| (refine QC.tw ?_; cbv)
| (refine QC.t3 ?_; cbv)
| (refine QC.f3 ?_; cbv)
| (refine QC.fw ?_; cbv)
| (refine QC.mk (fun hc => ?_) (fun hc => ?_) <;> (try dsimp only at hc) <;> cbv)
| (refine br_mk2 (fun hb => ?_) (fun hb => ?_) <;> (try subst hb) <;> cbv)
| (refine callq (h1) rfl rfl ?_; cbv)
| (refine callq (h2) rfl rfl ?_; cbv)))
  all_goals refine ⟨?_, rfl, rfl⟩
  all_goals rw [hr]
  all_goals first | rfl | (cases x <;> cases y <;> rfl)
theorem rflag_c (b : Bool) (n r : Int) (hr : r = if b = true then n else 0) : Good 117 (pu [.bool b, .int .i64 n] (.int .i64 r)) := by
  refine Good.of Tryz.func117 rfl (by rfl) (by kernel_rfl) ?_
  cbv
  (repeat' (first
| (refine q1w (fun z hz => ?_); (try simp only at hz); cbv)
| (refine rqw ?_; cbv)
| (refine rqk ?_; cbv)
| (refine chpA ?_; cbv)
| (refine QC.tw ?_; cbv)
| (refine QC.t3 ?_; cbv)
| (refine QC.f3 ?_; cbv)
| (refine QC.fw ?_; cbv)
| (refine QC.mk (fun hc => ?_) (fun hc => ?_) <;> (try dsimp only at hc) <;> cbv)
| (refine br_mk2 (fun hb => ?_) (fun hb => ?_) <;> (try subst hb) <;> cbv)))
  all_goals (refine ⟨?_, rfl, rfl⟩; rw [hr]; rfl)
theorem raddr_c (bs : List UInt8) (X R : List SV) (m s e : Int) (hm : m = 2 ∨ m = 3) (hs : 0 ≤ s ∧ s ≤ 65535) (he : u6 e) (hX : X = u8l bs) (hl : bs.length ≤ 1000) (hR : R = u8l (bs ++ adrB m s e)) :
    Good 118 (nu [.lst none X, .agg [.int .i64 m, .int .u16 s, .int .u64 e]] (.row 1) (.row none 5 R)) := by
  unfold u6 at he
  obtain ⟨R1, hR1⟩ : ∃ R1, R1 = u8l (bs ++ bytesOf s 2) := ⟨_, rfl⟩
  obtain ⟨R2, hR2⟩ : ∃ R1, R1 = u8l (bs ++ bytesOf e 8) := ⟨_, rfl⟩
  have h1 := rappend_c bs X R1 s 2 2 hX rfl (by omega) (by omega) (by omega) hR1
  have h2 := rappend_c bs X R2 e 8 8 hX rfl (by omega) (by omega) (by omega) hR2
  have hr : R = if m = 2 then R1 else R2 := by
    rw [hR, hR1, hR2, adrB]
    split <;> rfl
  clear hR
  refine Good.of Tryz.func118 rfl (by rfl) (by kernel_rfl) ?_
  cbv
  (repeat' (first
| (refine q1w (fun z hz => ?_); (try simp only at hz); cbv)
| (refine rqw ?_; cbv)
| (refine rqk ?_; cbv)
| (refine chpA ?_; cbv)
| (refine QC.tw ?_; cbv)
| (refine QC.t3 ?_; cbv)
| (refine QC.f3 ?_; cbv)
| (refine QC.fw ?_; cbv)
| (refine QC.mk (fun hc => ?_) (fun hc => ?_) <;> (try dsimp only at hc) <;> cbv)
| (refine br_mk2 (fun hb => ?_) (fun hb => ?_) <;> (try subst hb) <;> cbv)))
  · have e1 : s = z := by omega
    subst e1
    refine callq h1 rfl rfl ?_
    cbv
    (repeat' (first
| (refine q1w (fun z hz => ?_); (try simp only at hz); cbv)
| (refine rqw ?_; cbv)
| (refine rqk ?_; cbv)
| (refine chpA ?_; cbv)
| (refine QC.tw ?_; cbv)
| (refine QC.t3 ?_; cbv)
| (refine QC.f3 ?_; cbv)
| (refine QC.fw ?_; cbv)
| (refine QC.mk (fun hc => ?_) (fun hc => ?_) <;> (try dsimp only at hc) <;> cbv)
| (refine br_mk2 (fun hb => ?_) (fun hb => ?_) <;> (try subst hb) <;> cbv)))
    refine ⟨rfl, ?_, rfl⟩
    rw [hr, if_pos hc]
  · (refine callq (h2) rfl rfl ?_; cbv; (repeat' (first
| (refine q1w (fun z hz => ?_); (try simp only at hz); cbv)
| (refine rqw ?_; cbv)
| (refine rqk ?_; cbv)
| (refine chpA ?_; cbv)
| (refine QC.tw ?_; cbv)
| (refine QC.t3 ?_; cbv)
| (refine QC.f3 ?_; cbv)
| (refine QC.fw ?_; cbv)
| (refine QC.mk (fun hc => ?_) (fun hc => ?_) <;> (try dsimp only at hc) <;> cbv)
| (refine br_mk2 (fun hb => ?_) (fun hb => ?_) <;> (try subst hb) <;> cbv))))
    refine ⟨rfl, ?_, rfl⟩
    rw [hr, if_neg (by omega)]
set_option maxRecDepth 20000 in
theorem rheader_c (k : Int) (ac pe : Bool) (q pn dm ds de um us ue ct ky : Int) (P M : List SV) (p m : List UInt8) (hP : P = u8l p) (hpl : p.length ≤ 140737488355000) (ok : (Fr.mk k ac pe true q pn dm ds de um us ue ct ky p m).Ok)
    (fk : k = 1 ∨ k = 3) (fd : dm = 2 ∨ dm = 3) (fu : um = 2 ∨ um = 3) (R : List SV) (hR : R = u8l (Fr.mk k ac pe true q pn dm ds de um us ue ct ky p m).hdr) :
    Good 57 (nu [frS k ac pe true q pn dm ds de um us ue ct ky P M] (.row 1) (.row none 5 R)) := by
  obtain ⟨fa, hfa⟩ : ∃ y : Int, y = if ac = true then 32 else 0 := ⟨_, rfl⟩
  obtain ⟨fb, hfb⟩ : ∃ y : Int, y = if pe = true then 16 else 0 := ⟨_, rfl⟩
  have ba : 0 ≤ fa ∧ fa ≤ 32 := by rw [hfa]; split <;> omega
  have bb : 0 ≤ fb ∧ fb ≤ 16 := by rw [hfb]; split <;> omega
  have g1 := rflag_c ac 32 fa hfa
  have g2 := rflag_c pe 16 fb hfb
  have g3 := rflag_c true 8 8 rfl
  have hmo := mb_or dm um (by omega) (by omega)
  obtain ⟨w1, hw1⟩ : ∃ y : Int, y = fbI k ac pe true := ⟨_, rfl⟩
  have hw1' : w1 = 64 * k + fa + fb + 8 := by rw [hw1, hfa, hfb]; rfl
  obtain ⟨w2, hw2⟩ : ∃ y : Int, y = 64 * dm + 16 * um := ⟨_, rfl⟩
  have r1 : 0 ≤ w1 ∧ w1 ≤ 255 := by omega
  have r2 : 0 ≤ w2 ∧ w2 ≤ 255 := by omega
  clear hmo
  have okq : 0 ≤ q ∧ q ≤ 255 := ok.q
  have okpn : 0 ≤ pn ∧ pn ≤ 65535 := ok.pn
  have okds : 0 ≤ ds ∧ ds ≤ 65535 := ok.ds
  have okde : u6 de := ok.de
  have okus : 0 ≤ us ∧ us ≤ 65535 := ok.us
  have okue : u6 ue := ok.ue
  have okct : 0 ≤ ct ∧ ct ≤ 4294967295 := ok.ct
  have okky : 0 ≤ ky ∧ ky ≤ 255 := ok.ky
  clear ok
  have hPl : P.length = p.length := by rw [hP, u8l_len]
  obtain ⟨t0, ht0⟩ : ∃ y, y = Fr.head ⟨k, ac, pe, true, q, pn, dm, ds, de, um, us, ue, ct, ky, p, m⟩ := ⟨_, rfl⟩
  have hx0 : [SV.int .u8 w1, .int .u8 w2, .int .u8 q] = u8l t0 := by
    rw [ht0]
    show _ = [SV.int .u8 (b8 (fbI k ac pe true)).toNat, SV.int .u8 (b8 (64 * dm + 16 * um)).toNat, SV.int .u8 (b8 q).toNat]
    rw [b8_val (by rw [← hw1]; exact r1), b8_val (by rw [← hw2]; exact r2), b8_val okq, hw1, hw2]
  have l0 : t0.length = 3 := by rw [ht0]; rfl
  obtain ⟨t1, ht1⟩ : ∃ y, y = t0 ++ bytesOf pn 2 := ⟨_, rfl⟩
  obtain ⟨R1, hR1⟩ : ∃ y, y = u8l t1 := ⟨_, rfl⟩
  have l1 : t1.length = 5 := by rw [ht1, List.length_append, l0, bytesOf_length]
  have d1 := rappend_c t0 [SV.int .u8 w1, .int .u8 w2, .int .u8 q] R1 pn 2 2 hx0 rfl (by omega) (by omega) (by omega) (by rw [hR1, ht1])
  obtain ⟨t2, ht2⟩ : ∃ y, y = t1 ++ adrB dm ds de := ⟨_, rfl⟩
  obtain ⟨R2, hR2⟩ : ∃ y, y = u8l t2 := ⟨_, rfl⟩
  have n2 := adrB_len dm ds de
  have l2 : t2.length ≤ 13 := by rw [ht2, List.length_append, l1]; omega
  have d2 := raddr_c t1 R1 R2 dm ds de fd okds okde hR1 (by omega) (by rw [hR2, ht2])
  obtain ⟨t3, ht3⟩ : ∃ y, y = t2 ++ adrB um us ue := ⟨_, rfl⟩
  obtain ⟨R3, hR3⟩ : ∃ y, y = u8l t3 := ⟨_, rfl⟩
  have n3 := adrB_len um us ue
  have l3 : t3.length ≤ 21 := by rw [ht3, List.length_append]; omega
  have d3 := raddr_c t2 R2 R3 um us ue fu okus okue hR2 (by omega) (by rw [hR3, ht3])
  obtain ⟨t4, ht4⟩ : ∃ y, y = t3 ++ bytesOf ct 4 := ⟨_, rfl⟩
  obtain ⟨R4, hR4⟩ : ∃ y, y = u8l t4 := ⟨_, rfl⟩
  have l4 : t4.length ≤ 25 := by rw [ht4, List.length_append, bytesOf_length]; omega
  have d4 := rappend_c t3 R3 R4 ct 4 4 hR3 rfl (by omega) (by omega) (by omega) (by rw [hR4, ht4])
  have hfin : R = R4 ++ [.int .u8 ky] ++ P := by
    rw [hR, Fr.hdr, Fr.mid, ← ht0, hR4, hP]
    have hky : [SV.int .u8 ky] = u8l [b8 ky] := by
      show _ = [SV.int .u8 (b8 ky).toNat]
      rw [b8_val okky]
    rw [hky]
    show u8l (t0 ++ ((if k = 2 then [] else bytesOf pn 2 ++ adrB dm ds de ++ adrB um us ue) ++ (bytesOf ct 4 ++ [b8 ky])) ++ p) = _
    rw [if_neg (by omega), ht4, ht3, ht2, ht1]
    simp only [u8l_app, List.append_assoc]
  obtain ⟨R5, hR5⟩ : ∃ y, y = R4 ++ [SV.int .u8 ky] := ⟨_, rfl⟩
  have m5 : R5.length ≤ 26 := by rw [hR5, List.length_append, hR4, u8l_len, List.length_cons, List.length_nil]; omega
  have m4 : R4.length ≤ 25 := by rw [hR4, u8l_len]; exact l4
  clear hR hx0 ht0 l0 hw1
  refine Good.of Tryz.func57 rfl (by rfl) (by kernel_rfl) ?_
  cbv
  (repeat' (first
| (refine q1w (fun z hz => ?_); (try simp only at hz); cbv)
| (refine rqw ?_; cbv)
| (refine rqk ?_; cbv)
| (refine chpA ?_; cbv)
| (refine QC.tw ?_; cbv)
| (refine QC.t3 ?_; cbv)
| (refine QC.f3 ?_; cbv)
| (refine QC.fw ?_; cbv)
| (refine QC.mk (fun hc => ?_) (fun hc => ?_) <;> (try dsimp only at hc) <;> cbv)
| (refine br_mk2 (fun hb => ?_) (fun hb => ?_) <;> (try subst hb) <;> cbv)
| (refine callq (g1) rfl rfl ?_; cbv)
| (refine callq (g2) rfl rfl ?_; cbv)
| (refine callq (g3) rfl rfl ?_; cbv)))
  rename_i b1 f1 b2 f2 b3 f3 b4 f4 b5 f5 b6 f6 b7 f7 b8' f8 b9 f9
  have e5 : w1 = b5 := by omega
  have e9 : w2 = b9 := by omega
  subst e5
  subst e9
  have ez : pn = z := by omega
  subst ez
  (repeat' (first
| (refine q1w (fun z hz => ?_); (try simp only at hz); cbv)
| (refine rqw ?_; cbv)
| (refine rqk ?_; cbv)
| (refine chpA ?_; cbv)
| (refine QC.tw ?_; cbv)
| (refine QC.t3 ?_; cbv)
| (refine QC.f3 ?_; cbv)
| (refine QC.fw ?_; cbv)
| (refine QC.mk (fun hc => ?_) (fun hc => ?_) <;> (try dsimp only at hc) <;> cbv)
| (refine br_mk2 (fun hb => ?_) (fun hb => ?_) <;> (try subst hb) <;> cbv)
| (refine callq (d1) rfl rfl ?_; cbv)
| (refine callq (d2) rfl rfl ?_; cbv)
| (refine callq (d3) rfl rfl ?_; cbv)))
  have ez : ct = z := by omega
  subst ez
  (repeat' (first
| (refine q1w (fun z hz => ?_); (try simp only at hz); cbv)
| (refine rqw ?_; cbv)
| (refine rqk ?_; cbv)
| (refine chpA ?_; cbv)
| (refine QC.tw ?_; cbv)
| (refine QC.t3 ?_; cbv)
| (refine QC.f3 ?_; cbv)
| (refine QC.fw ?_; cbv)
| (refine QC.mk (fun hc => ?_) (fun hc => ?_) <;> (try dsimp only at hc) <;> cbv)
| (refine br_mk2 (fun hb => ?_) (fun hb => ?_) <;> (try subst hb) <;> cbv)
| (refine callq (d4) rfl rfl ?_; cbv)))
  have hM : apL R4 [SV.int .u8 ky] = R5 := by rw [apL_eq, hR5]
  unfold apL at hM
  rw [hM]
  refine rq (by show (((O.ln R5 : Nat) : Int) + ((O.ln P : Nat) : Int)) * 1 ≤ _; simp only [oln]; omega) ?_
  cbv
  (repeat' (first
| (refine q1w (fun z hz => ?_); (try simp only at hz); cbv)
| (refine rqw ?_; cbv)
| (refine rqk ?_; cbv)
| (refine chpA ?_; cbv)
| (refine QC.tw ?_; cbv)
| (refine QC.t3 ?_; cbv)
| (refine QC.f3 ?_; cbv)
| (refine QC.fw ?_; cbv)
| (refine QC.mk (fun hc => ?_) (fun hc => ?_) <;> (try dsimp only at hc) <;> cbv)
| (refine br_mk2 (fun hb => ?_) (fun hb => ?_) <;> (try subst hb) <;> cbv)))
  refine ⟨rfl, ?_, rfl⟩
  show Blk.row none 5 (apL R5 P) = _
  rw [apL_eq, hfin, hR5]
theorem hdr_len (k : Int) (ac pe : Bool) (q pn dm ds de um us ue ct ky : Int) (p m : List UInt8) (fk : k = 1 ∨ k = 3) (fd : dm = 2 ∨ dm = 3) (fu : um = 2 ∨ um = 3) :
    ((Fr.mk k ac pe true q pn dm ds de um us ue ct ky p m).hdr.length : Int) + m.length + 2 = frL k true dm um p.length m.length := by
  show ((([_, _, _] : List UInt8) ++ ((if k = 2 then [] else bytesOf pn 2 ++ adrB dm ds de ++ adrB um us ue) ++ (bytesOf ct 4 ++ [b8 ky])) ++ p).length : Int) + m.length + 2 = _
  have a1 : ((adrB dm ds de).length : Int) = abL dm := by
    unfold adrB abL
    rcases fd with rfl | rfl <;> simp [bytesOf_length]
  have a2 : ((adrB um us ue).length : Int) = abL um := by
    unfold adrB abL
    rcases fu with rfl | rfl <;> simp [bytesOf_length]
  rw [if_neg (by omega)]
  simp only [List.length_append, bytesOf_length, List.length_cons, List.length_nil, frL]
  rw [if_neg (by omega), if_pos trivial]
  omega
set_option maxRecDepth 20000 in
theorem rvalid_c (k : Int) (ac pe : Bool) (q pn dm ds de um us ue ct ky : Int) (P M : List SV) (p m : List UInt8) (hP : P = u8l p) (hM : M.length = m.length) (hml : m.length ≤ 140737488355328) (hpl : p.length ≤ 140737488355000) (ok : (Fr.mk k ac pe true q pn dm ds de um us ue ct ky p m).Ok)
    (r : Bool) (hr : r = (Fr.mk k ac pe true q pn dm ds de um us ue ct ky p m).valid) :
    Good 14 (pu [frS k ac pe true q pn dm ds de um us ue ct ky P M] (.bool r)) := by
  have hM1 : O.ln M = m.length := by rw [oln]; omega
  obtain ⟨H, hH⟩ : ∃ H, H = u8l (Fr.mk k ac pe true q pn dm ds de um us ue ct ky p m).hdr := ⟨_, rfl⟩
  have c0 := fun fk fd fu => rheader_c k ac pe q pn dm ds de um us ue ct ky P M p m hP hpl ok fk fd fu H hH
  have hlen := fun fk fd fu => hdr_len k ac pe q pn dm ds de um us ue ct ky p m fk fd fu
  have hHl : H.length = (Fr.mk k ac pe true q pn dm ds de um us ue ct ky p m).hdr.length := by rw [hH, u8l_len]
  rw [← hHl] at hlen
  clear hH hHl
  obtain ⟨x, hx⟩ : ∃ b, b = someA dm ds de := ⟨_, rfl⟩
  obtain ⟨y, hy⟩ : ∃ b, b = decide (someA um us ue = true ∧ bcA um us ue = false) := ⟨_, rfl⟩
  obtain ⟨b, hb⟩ : ∃ b, b = bcA dm ds de := ⟨_, rfl⟩
  have c1 := some_c dm ds de x hx
  have c2 := one_c um us ue y hy
  have c3 := rbcast_c dm ds de b hb
  have hd : x = true → dm = 2 ∨ dm = 3 := by
    intro h; rw [hx, someA, decide_eq_true_eq] at h; omega
  have hu : y = true → um = 2 ∨ um = 3 := by
    intro h; rw [hy, decide_eq_true_eq, someA, decide_eq_true_eq] at h; omega
  obtain ⟨l, hl⟩ : ∃ l, l = frL k true dm um p.length m.length := ⟨_, rfl⟩
  rw [← hl] at hlen
  have hH1 : O.ln H = H.length := oln H
  have hlb : l ≤ 300000000000000 := by
    have b1 := abL_le dm
    have b2 := abL_le um
    rw [hl, frL]
    split <;> split <;> omega
  have hr : r = decide ((k = 1 ∨ k = 3) ∧ x = true ∧ y = true ∧ (ac = true → b = false) ∧ m.length = 4 ∧ l ≤ 127) := by
    rw [hr]
    show (if k = 2 then ackV ac true pn dm ds de um us ue ct ky p.length m.length else if k = 1 ∨ k = 3 then dataV ac true dm ds de um us ue ct ky m.length (frL k true dm um p.length m.length) else false) = _
    rw [← hl]
    by_cases k2 : k = 2
    · rw [if_pos k2, ackV, decide_eq_false (by simp), decide_eq_false (by omega)]
    · rw [if_neg k2]
      by_cases k1 : k = 1 ∨ k = 3
      · rw [if_pos k1, dataV]
        apply decide_eq_decide.2
        rw [hx, hy, hb, decide_eq_true_eq]
        constructor
        · rintro ⟨⟨h1, h2⟩, ⟨h3, h4⟩, h5, _, h7⟩
          exact ⟨k1, h1, ⟨h2, h3⟩, h4, h5 rfl, h7⟩
        · rintro ⟨_, h1, ⟨h2, h3⟩, h4, h5, h7⟩
          exact ⟨⟨h1, h2⟩, ⟨h3, h4⟩, fun _ => h5, (fun h => by cases h), h7⟩
      · rw [if_neg k1, decide_eq_false (by rintro ⟨h, _⟩; exact k1 h)]
  clear hx hy hb hl
  obtain ⟨F, hF⟩ : ∃ F : Prop, F ↔ (r = decide ((k = 1 ∨ k = 3) ∧ x = true ∧ y = true ∧ (ac = true → b = false) ∧ m.length = 4 ∧ l ≤ 127)) := ⟨_, Iff.rfl⟩
  have hf : F := hF.2 hr
  clear hr
  refine Good.of Tryz.func14 rfl (by rfl) (by kernel_rfl) ?_
  cbv
  (repeat' (first
| (refine q1w (fun z hz => ?_); (try simp only at hz); cbv)
| (refine rqw ?_; cbv)
| (refine rqk ?_; cbv)
| (refine chpA ?_; cbv)
| (refine QC.tw ?_; cbv)
| (refine QC.t3 ?_; cbv)
| (refine QC.f3 ?_; cbv)
| (refine QC.fw ?_; cbv)
| (refine QC.mk (fun hc => ?_) (fun hc => ?_) <;> (try dsimp only at hc) <;> cbv)
| (refine br_mk2 (fun hb => ?_) (fun hb => ?_) <;> (try subst hb) <;> cbv)
| (refine callq (c1) rfl rfl ?_; cbv)
| (refine callq (c2) rfl rfl ?_; cbv)
| (refine callq (c3) rfl rfl ?_; cbv)
| ((have hlq := hlen (by omega) (hd rfl) (hu rfl); refine callq (c0 (by omega) (hd rfl) (hu rfl)) rfl rfl ?_; cbv))))
  all_goals refine ⟨?_, rfl, rfl⟩
  all_goals rw [hF.1 hf]
  all_goals clear hF hf c1 c2 c3 c0
  all_goals (try simp only [oln] at *)
  all_goals (try simp only [Bool.and_eq_true, decide_eq_true_eq, and_true, true_and, false_and, and_false, reduceCtorEq, decide_false, forall_const, true_implies, false_implies, imp_false, not_true_eq_false, not_false_eq_true] at *)
  all_goals first
    | rfl
    | (rw [decide_eq_true (by (first | omega | (simp only [cst] at *; omega) | (simp only [sm] at *; omega)))]; done)
    | (rw [decide_eq_false (by (first | omega | (simp only [cst] at *; omega) | (simp only [sm] at *; omega)))]; done)
    | trace_state
set_option maxRecDepth 20000 in
theorem rHeader_c (k : Int) (ac pe : Bool) (q pn dm ds de um us ue ct ky : Int) (P M : List SV) (p m : List UInt8) (hP : P = u8l p) (hM : M.length = m.length) (hml : m.length ≤ 140737488355328) (hpl : p.length ≤ 140737488355000) (ok : (Fr.mk k ac pe true q pn dm ds de um us ue ct ky p m).Ok)
    (hv : (Fr.mk k ac pe true q pn dm ds de um us ue ct ky p m).valid = true) (fk : k = 1 ∨ k = 3) (fd : dm = 2 ∨ dm = 3) (fu : um = 2 ∨ um = 3) (R : List SV) (hR : R = u8l (Fr.mk k ac pe true q pn dm ds de um us ue ct ky p m).hdr) :
    Good 17 (nu [frS k ac pe true q pn dm ds de um us ue ct ky P M] (.row 1) (.row none 5 R)) := by
  have c1 := rvalid_c k ac pe q pn dm ds de um us ue ct ky P M p m hP hM hml hpl ok true hv.symm
  have c2 := rheader_c k ac pe q pn dm ds de um us ue ct ky P M p m hP hpl ok fk fd fu R hR
  clear hv hR ok
  refine Good.of Tryz.func17 rfl (by rfl) (by kernel_rfl) ?_
  cbv
  (repeat' (first
| (refine q1w (fun z hz => ?_); (try simp only at hz); cbv)
| (refine rqw ?_; cbv)
| (refine rqk ?_; cbv)
| (refine chpA ?_; cbv)
| (refine QC.tw ?_; cbv)
| (refine QC.t3 ?_; cbv)
| (refine QC.f3 ?_; cbv)
| (refine QC.fw ?_; cbv)
| (refine QC.mk (fun hc => ?_) (fun hc => ?_) <;> (try dsimp only at hc) <;> cbv)
| (refine br_mk2 (fun hb => ?_) (fun hb => ?_) <;> (try subst hb) <;> cbv)
| (refine callq (c1) rfl rfl ?_; cbv)
| (refine callq (c2) rfl rfl ?_; cbv)))
  exact ⟨rfl, rfl, rfl⟩
end Go.Proofs.YtgfpjhddojhfpaaGreat
