/- The walk of the law RecoveryWindow. -/
import Derived.Test.YtjhicdoigllblaaVL
namespace Go.Proofs.Ytjhicdoigllblaa
set_option linter.unusedVariables false
set_option linter.unusedSimpArgs false
open Go.RowKit
set_option maxHeartbeats 16000000
theorem mark_get : ∀ (l : List Pce) (i : Nat) (p : Pce), l[i]? = some p → (mark l)[i]? = some { p with ack := if i + 1 = l.length then true else p.ack }
  | [], _, _, h => by cases h
  | [q], i, p, h => by
    cases i with
    | zero => injection h with h; subst h; rfl
    | succ i => cases h
  | q :: r :: l, i, p, h => by
    cases i with
    | zero =>
      injection h with h; subst h
      rw [mark, List.getElem?_cons_zero, if_neg (by simp)]
    | succ i =>
      rw [mark]
      have := mark_get (r :: l) i p h
      rw [List.getElem?_cons_succ, this]
      simp
theorem pre_get {tag : Int} {ps : List (List UInt8)} {ak : Int} {k i j : Nat} (hi : i < k) (h : (opn ak ps.length)[i]? = some j) : (pre tag ps ak k)[i]? = some ⟨tag, j, ps.length, false, ps.getD j []⟩ := by
  rw [pre, List.getElem?_map, List.getElem?_take, if_pos hi, h]; rfl
/-- The sender of the law Window after the acknowledgement. -/
theorem ackS_win {ps : List (List UInt8)} (h : Pcs ps) (m : Int) : ∃ st ak rd un : Int, ackS ⟨1, 9, ps, 0, 0, 0⟩ m = ⟨st, 9, ps, ak, rd, un⟩ ∧ (st = 1 → 0 ≤ ak ∧ ak < allI ps.length ∧ rd = 0 ∧ un = 0) := by
  unfold ackS
  dsimp only
  have hw := ackW_b m ps.length h.n2
  have hw2 : ackW m ps.length ≤ allI ps.length := by
    have h1 := Nat.and_le_right (n := m.toNat) (m := (allI ps.length).toNat)
    have := allI_pos h.n1
    rw [ackW]; omega
  have ho : ackO (ackW m ps.length) 0 = ackW m ps.length := by
    rw [ackO, show Int.toNat 0 = 0 from rfl, Nat.zero_or]; omega
  split
  · exact ⟨_, _, _, _, rfl, fun h => by omega⟩
  · refine ⟨_, _, _, _, rfl, fun h => ?_⟩
    rw [ho] at h
    rw [ho]
    split at h
    · omega
    · exact ⟨hw.1, by omega, by split <;> rfl, rfl⟩
set_option maxRecDepth 4000 in
theorem window_c (zs : List Int) (m : Int) (hz : ∀ v ∈ zs, -9223372036854775808 ≤ v ∧ v ≤ 9223372036854775807) (hm : 0 ≤ m ∧ m ≤ 4294967295) :
    Good 5 (pu [.lst none (ints .i64 zs), .int .u32 m] (.bool true)) := by
  obtain ⟨T, hT⟩ : ∃ T, T = (ints .i64 zs).take 400 := ⟨_, rfl⟩
  have h0 := new_c (ints .i64 zs) T hT
  have t0 : Tp T 0 := hT ▸ tape1 zs hz
  obtain ⟨N0, a0, hN1, hN2, t1, g0⟩ := next_e t0 300 (by omega)
  obtain ⟨N, hN⟩ : ∃ N, N = 1 + N0 := ⟨_, rfl⟩
  obtain ⟨R0, ys, a1, hR0, hyl, hy, t2, g1⟩ := fill_e t1 N (by omega)
  obtain ⟨bs, hbs, hbl⟩ := u8l_of ys hy
  have hRb : R0 = u8l bs := hR0.trans hbs
  have hRl : R0.length = bs.length := by rw [hRb, u8l_len]
  obtain ⟨sz, hsz⟩ : ∃ sz, sz = (bs.length + 31) / 32 := ⟨_, rfl⟩
  obtain ⟨q1', P0⟩ := beg_ok bs 9 sz (by omega) (by omega) (by omega) (by rw [Nat.div_lt_iff_lt_mul (by omega)]; omega)
  obtain ⟨ps, hps⟩ : ∃ ps, ps = chk sz bs (nPc bs.length sz) := ⟨_, rfl⟩
  rw [← hps] at q1' P0
  obtain ⟨R, hR⟩ : ∃ R, R = rowsB ps := ⟨_, rfl⟩
  have hRn : R.length = ps.length := by rw [hR, rowsB_len]
  obtain ⟨rm, hrm⟩ : ∃ rm : Int, rm = 4 + sz := ⟨_, rfl⟩
  have g2 := begin_p bs R0 hRb (by omega) 9 (4 + sz) (by omega) ⟨1, 9, ps, 0, 0, 0⟩ R hR 0 q1'
  rw [← hrm] at g2
  have ha : (0 : Int) ≤ 0 ∧ 0 < allI ps.length := ⟨by omega, by have := allI_pos P0.n1; omega⟩
  have hv0 := P0.vs (st := 1) (tag := 9) (ak := 0) (rd := 0) (un := 0) (.inl rfl) ha.2 (by omega) (by omega)
  obtain ⟨st, ak, rd, un, k1, k2⟩ := ackS_win P0 m
  have hack : ackP ⟨1, 9, ps, 0, 0, 0⟩ 9 m = (⟨st, 9, ps, ak, rd, un⟩, 0) := by
    rw [ackP, if_neg (by rw [hv0]; simp), if_neg (by simp), if_neg (by simp), k1]
  have g3 := ack_p ⟨1, 9, ps, 0, 0, 0⟩ R hR (P0.fits (by omega) (by omega) (by omega) (by omega) (by omega)) 9 m (by omega) hm _ R hR 0 hack
  have hf1 := ack_fits ⟨1, 9, ps, 0, 0, 0⟩ 9 m (P0.fits (by omega) (by omega) (by omega) (by omega) (by omega))
  rw [hack] at hf1
  have hk := known_c
  clear hz hack k1 hv0 q1' hps t0 t1 t2 hR0 hbs hT
  have hE := fun i hi => rowsB_at hR i hi
  have hfb := P0.b
  have main : st = 1 → ∃ (k W : Nat) (L : List SV) (cn : Nat → Nat) (bt : Nat → Int) (s2 : SV), k = min W 8 ∧ L.length = k ∧ cn 0 = 0 ∧ cn ps.length = W ∧ (∀ i, i < ps.length → cn (i + 1) = cn i + (if bt i = 0 then 1 else 0)) ∧
      (∀ i, bt i = (((ak / 2 ^ i).toNat &&& 1 : Nat) : Int)) ∧ (∀ i, bt i = 0 ∨ bt i = 1) ∧
      (∀ i B, i < ps.length → bt i = 0 → cn i < k → R[i]? = some (.lst none B) → ∃ κ : Bool, (κ = true ↔ cn i + 1 = k) ∧ L[cn i]? = some (.agg [.int .u8 9, .int .i64 (i : Int), .int .i64 (ps.length : Int), .bool κ, .lst none B])) ∧
      Good 15 (pu [.agg [.int .i64 1, .int .u8 9, .lst none R, .int .u32 ak, .int .i64 rd, .int .i64 un], .int .i64 0] (.tup [.agg [.int .i64 1, .int .u8 9, .lst none R, .int .u32 ak, .int .i64 1, .int .i64 8], .lst (some 5) L, .int .i64 0])) := fun hst => by
    obtain ⟨y1, y2, rfl, rfl⟩ := k2 hst
    subst hst
    obtain ⟨x1, x2⟩ := nextP_send P0 (tag := 9) (ak := ak) (rd := 0) (un := 0) (now := 0) ⟨y1, y2⟩ (by omega) (by omega) (by omega)
    have hw1 := fun i => and1n ak y1 i
    refine ⟨_, (opn ak ps.length).length, _, cntF ak 0, fun i => (((ak / 2 ^ i).toNat &&& 1 : Nat) : Int), .nil, rfl, ?_, rfl, opn_cnt ak _, fun i hi => ?_, fun _ => rfl, fun i => ?_, fun i B hi hb hik hRi => ?_, next_p _ R hR hf1 0 (by omega) _ R hR _ _ rfl 0 x1⟩
    · rw [pcL_len, sent_len]
    · show cntF ak 0 (i + 1) = cntF ak 0 i + (if (((ak / 2 ^ i).toNat &&& 1 : Nat) : Int) = 0 then 1 else 0)
      rw [hw1, cntF_succ, Nat.zero_add]
    · show (((ak / 2 ^ i).toNat &&& 1 : Nat) : Int) = 0 ∨ (((ak / 2 ^ i).toNat &&& 1 : Nat) : Int) = 1
      rw [hw1]; omega
    · have hb : (((ak / 2 ^ i).toNat &&& 1 : Nat) : Int) = 0 := hb
      rw [hw1] at hb
      have h1 := pre_get (tag := 9) (ps := ps) (ak := ak) hik (opn_at hi hb)
      have h2 := mark_get _ _ _ h1
      refine ⟨if cntF ak 0 i + 1 = (pre 9 ps ak (min (opn ak ps.length).length 8)).length then true else false, ?_, ?_⟩
      · rw [pre_len _ _ _ _ (by omega)]
        split <;> simp_all
      · obtain ⟨b, B', e1, e2, e3⟩ := hE i hi
        rw [hRi] at e3
        injection e3 with e3
        injection e3 with _ e3
        rw [pcL, List.getElem?_map, h2, e3, e2]
        have : ps.getD i [] = b := by rw [List.getD_eq_getElem?_getD, e1]; rfl
        rw [this]
        rfl
  obtain ⟨n, hn⟩ : ∃ n, n = ps.length := ⟨_, rfl⟩
  have hn32 := P0.n2
  rw [← hn] at main hRn hn32
  simp only [← hn] at hE
  have hakb : 0 ≤ ak ∧ ak ≤ 4294967295 := by have := hf1.ak; dsimp only at this; omega
  clear P0 hR ha hf1
  generalize ints .i64 zs = Z at *
  refine Good.of Try.func5 rfl (by rfl) (by kernel_rfl) ?_
  cbv
  have hmk : True := trivial
  (repeat' (first
    | (refine q1 (by first | exact trivial | omega | (dsimp only; omega) | exact pow62 _ (by omega) | exact mul9 (by omega) (by omega) | (simp only [sm] at *; omega)) (fun z hz => ?_); (try simp only at hz); cbv)
    | (refine rq (by first | exact trivial | omega | (dsimp only; omega) | (simp only [sm] at *; omega)) ?_; cbv)
    | (refine QC.tt (by first | omega | (dsimp only; omega) | exact rfl | (simp only [sm] at *; omega)) ?_; cbv)
    | (refine QC.tt ?_ ?_; (focus (simp only [decide_true, Bool.and_true, Bool.and_self] <;> fail)); cbv)
    | (refine QC.ff ?_ ?_; (focus (simp only [decide_true, Bool.and_true, Bool.and_self, decide_false, Bool.false_and, reduceCtorEq, not_false_eq_true] <;> fail)); cbv)
    | (refine QC.ff (by first | omega | (dsimp only; omega) | (simp only [sm] at *; omega)) ?_; cbv)
    | (refine QC.mk (fun hc => ?_) (fun hc => ?_) <;> (try dsimp only at hc) <;> cbv)
    | (refine br_mk2 (fun hb => ?_) (fun hb => ?_) <;> (try subst hb) <;> cbv)))
  (refine callq (h0) rfl rfl ?_; cbv; (repeat' (first
    | (refine q1 (by first | exact trivial | omega | (dsimp only; omega) | exact pow62 _ (by omega) | exact mul9 (by omega) (by omega) | (simp only [sm] at *; omega)) (fun z hz => ?_); (try simp only at hz); cbv)
    | (refine rq (by first | exact trivial | omega | (dsimp only; omega) | (simp only [sm] at *; omega)) ?_; cbv)
    | (refine QC.tt (by first | omega | (dsimp only; omega) | exact rfl | (simp only [sm] at *; omega)) ?_; cbv)
    | (refine QC.tt ?_ ?_; (focus (simp only [decide_true, Bool.and_true, Bool.and_self] <;> fail)); cbv)
    | (refine QC.ff ?_ ?_; (focus (simp only [decide_true, Bool.and_true, Bool.and_self, decide_false, Bool.false_and, reduceCtorEq, not_false_eq_true] <;> fail)); cbv)
    | (refine QC.ff (by first | omega | (dsimp only; omega) | (simp only [sm] at *; omega)) ?_; cbv)
    | (refine QC.mk (fun hc => ?_) (fun hc => ?_) <;> (try dsimp only at hc) <;> cbv)
    | (refine br_mk2 (fun hb => ?_) (fun hb => ?_) <;> (try subst hb) <;> cbv))))
  (refine callq (g0) rfl rfl ?_; cbv; (repeat' (first
    | (refine q1 (by first | exact trivial | omega | (dsimp only; omega) | exact pow62 _ (by omega) | exact mul9 (by omega) (by omega) | (simp only [sm] at *; omega)) (fun z hz => ?_); (try simp only at hz); cbv)
    | (refine rq (by first | exact trivial | omega | (dsimp only; omega) | (simp only [sm] at *; omega)) ?_; cbv)
    | (refine QC.tt (by first | omega | (dsimp only; omega) | exact rfl | (simp only [sm] at *; omega)) ?_; cbv)
    | (refine QC.tt ?_ ?_; (focus (simp only [decide_true, Bool.and_true, Bool.and_self] <;> fail)); cbv)
    | (refine QC.ff ?_ ?_; (focus (simp only [decide_true, Bool.and_true, Bool.and_self, decide_false, Bool.false_and, reduceCtorEq, not_false_eq_true] <;> fail)); cbv)
    | (refine QC.ff (by first | omega | (dsimp only; omega) | (simp only [sm] at *; omega)) ?_; cbv)
    | (refine QC.mk (fun hc => ?_) (fun hc => ?_) <;> (try dsimp only at hc) <;> cbv)
    | (refine br_mk2 (fun hb => ?_) (fun hb => ?_) <;> (try subst hb) <;> cbv))))
  have hzN := hz.trans hN.symm
  subst hzN
  (refine callq (g1) rfl rfl ?_; cbv; (repeat' (first
    | (refine q1 (by first | exact trivial | omega | (dsimp only; omega) | exact pow62 _ (by omega) | exact mul9 (by omega) (by omega) | (simp only [sm] at *; omega)) (fun z hz => ?_); (try simp only at hz); cbv)
    | (refine rq (by first | exact trivial | omega | (dsimp only; omega) | (simp only [sm] at *; omega)) ?_; cbv)
    | (refine QC.tt (by first | omega | (dsimp only; omega) | exact rfl | (simp only [sm] at *; omega)) ?_; cbv)
    | (refine QC.tt ?_ ?_; (focus (simp only [decide_true, Bool.and_true, Bool.and_self] <;> fail)); cbv)
    | (refine QC.ff ?_ ?_; (focus (simp only [decide_true, Bool.and_true, Bool.and_self, decide_false, Bool.false_and, reduceCtorEq, not_false_eq_true] <;> fail)); cbv)
    | (refine QC.ff (by first | omega | (dsimp only; omega) | (simp only [sm] at *; omega)) ?_; cbv)
    | (refine QC.mk (fun hc => ?_) (fun hc => ?_) <;> (try dsimp only at hc) <;> cbv)
    | (refine br_mk2 (fun hb => ?_) (fun hb => ?_) <;> (try subst hb) <;> cbv))))
  have hzq : z = sz := by
    have := hz.1 (by (first | omega | (simp only [cst] at *; omega) | (simp only [sm] at *; omega)))
    (first | omega | (simp only [cst] at *; omega) | (simp only [sm] at *; omega))
  refine q1 ⟨by (first | omega | (simp only [cst] at *; omega) | (simp only [sm] at *; omega)), by (first | omega | (simp only [cst] at *; omega) | (simp only [sm] at *; omega))⟩ ?_
  intro za hza
  have hzr : za = rm := by (first | omega | (simp only [cst] at *; omega) | (simp only [sm] at *; omega))
  subst hzr
  cbv
  (repeat' (first
    | (refine q1 (by first | exact trivial | omega | (dsimp only; omega) | exact pow62 _ (by omega) | exact mul9 (by omega) (by omega) | (simp only [sm] at *; omega)) (fun z hz => ?_); (try simp only at hz); cbv)
    | (refine rq (by first | exact trivial | omega | (dsimp only; omega) | (simp only [sm] at *; omega)) ?_; cbv)
    | (refine QC.tt (by first | omega | (dsimp only; omega) | exact rfl | (simp only [sm] at *; omega)) ?_; cbv)
    | (refine QC.tt ?_ ?_; (focus (simp only [decide_true, Bool.and_true, Bool.and_self] <;> fail)); cbv)
    | (refine QC.ff ?_ ?_; (focus (simp only [decide_true, Bool.and_true, Bool.and_self, decide_false, Bool.false_and, reduceCtorEq, not_false_eq_true] <;> fail)); cbv)
    | (refine QC.ff (by first | omega | (dsimp only; omega) | (simp only [sm] at *; omega)) ?_; cbv)
    | (refine QC.mk (fun hc => ?_) (fun hc => ?_) <;> (try dsimp only at hc) <;> cbv)
    | (refine br_mk2 (fun hb => ?_) (fun hb => ?_) <;> (try subst hb) <;> cbv)))
  (refine callq (g2) rfl rfl ?_; cbv; (repeat' (first
    | (refine q1 (by first | exact trivial | omega | (dsimp only; omega) | exact pow62 _ (by omega) | exact mul9 (by omega) (by omega) | (simp only [sm] at *; omega)) (fun z hz => ?_); (try simp only at hz); cbv)
    | (refine rq (by first | exact trivial | omega | (dsimp only; omega) | (simp only [sm] at *; omega)) ?_; cbv)
    | (refine QC.tt (by first | omega | (dsimp only; omega) | exact rfl | (simp only [sm] at *; omega)) ?_; cbv)
    | (refine QC.tt ?_ ?_; (focus (simp only [decide_true, Bool.and_true, Bool.and_self] <;> fail)); cbv)
    | (refine QC.ff ?_ ?_; (focus (simp only [decide_true, Bool.and_true, Bool.and_self, decide_false, Bool.false_and, reduceCtorEq, not_false_eq_true] <;> fail)); cbv)
    | (refine QC.ff (by first | omega | (dsimp only; omega) | (simp only [sm] at *; omega)) ?_; cbv)
    | (refine QC.mk (fun hc => ?_) (fun hc => ?_) <;> (try dsimp only at hc) <;> cbv)
    | (refine br_mk2 (fun hb => ?_) (fun hb => ?_) <;> (try subst hb) <;> cbv))))
  (refine callq (g3) rfl rfl ?_; cbv; (repeat' (first
    | (refine q1 (by first | exact trivial | omega | (dsimp only; omega) | exact pow62 _ (by omega) | exact mul9 (by omega) (by omega) | (simp only [sm] at *; omega)) (fun z hz => ?_); (try simp only at hz); cbv)
    | (refine rq (by first | exact trivial | omega | (dsimp only; omega) | (simp only [sm] at *; omega)) ?_; cbv)
    | (refine QC.tt (by first | omega | (dsimp only; omega) | exact rfl | (simp only [sm] at *; omega)) ?_; cbv)
    | (refine QC.tt ?_ ?_; (focus (simp only [decide_true, Bool.and_true, Bool.and_self] <;> fail)); cbv)
    | (refine QC.ff ?_ ?_; (focus (simp only [decide_true, Bool.and_true, Bool.and_self, decide_false, Bool.false_and, reduceCtorEq, not_false_eq_true] <;> fail)); cbv)
    | (refine QC.ff (by first | omega | (dsimp only; omega) | (simp only [sm] at *; omega)) ?_; cbv)
    | (refine QC.mk (fun hc => ?_) (fun hc => ?_) <;> (try dsimp only at hc) <;> cbv)
    | (refine br_mk2 (fun hb => ?_) (fun hb => ?_) <;> (try subst hb) <;> cbv))))
  · (refine callq (hk) rfl rfl ?_; cbv; (repeat' (first
    | (refine q1 (by first | exact trivial | omega | (dsimp only; omega) | exact pow62 _ (by omega) | exact mul9 (by omega) (by omega) | (simp only [sm] at *; omega)) (fun z hz => ?_); (try simp only at hz); cbv)
    | (refine rq (by first | exact trivial | omega | (dsimp only; omega) | (simp only [sm] at *; omega)) ?_; cbv)
    | (refine QC.tt (by first | omega | (dsimp only; omega) | exact rfl | (simp only [sm] at *; omega)) ?_; cbv)
    | (refine QC.tt ?_ ?_; (focus (simp only [decide_true, Bool.and_true, Bool.and_self] <;> fail)); cbv)
    | (refine QC.ff ?_ ?_; (focus (simp only [decide_true, Bool.and_true, Bool.and_self, decide_false, Bool.false_and, reduceCtorEq, not_false_eq_true] <;> fail)); cbv)
    | (refine QC.ff (by first | omega | (dsimp only; omega) | (simp only [sm] at *; omega)) ?_; cbv)
    | (refine QC.mk (fun hc => ?_) (fun hc => ?_) <;> (try dsimp only at hc) <;> cbv)
    | (refine br_mk2 (fun hb => ?_) (fun hb => ?_) <;> (try subst hb) <;> cbv))))
    exact ⟨rfl, rfl, rfl⟩
  · have hst : st = 1 := Classical.not_not.1 hc
    obtain ⟨k, W, L, cn, bt, s2, hkW, hLl, hc0, hcn, hcs, hbt, hb01, hLe, g4⟩ := main hst
    subst hst
    clear main k2 g3 g2 g1 g0 h0
    have hak : 0 ≤ ak ∧ ak ≤ 4294967295 := hakb
    have hkm : True := trivial
    (refine callq (g4) rfl rfl ?_; cbv; (repeat' (first
    | (refine q1 (by first | exact trivial | omega | (dsimp only; omega) | exact pow62 _ (by omega) | exact mul9 (by omega) (by omega) | (simp only [sm] at *; omega)) (fun z hz => ?_); (try simp only at hz); cbv)
    | (refine rq (by first | exact trivial | omega | (dsimp only; omega) | (simp only [sm] at *; omega)) ?_; cbv)
    | (refine QC.tt (by first | omega | (dsimp only; omega) | exact rfl | (simp only [sm] at *; omega)) ?_; cbv)
    | (refine QC.tt ?_ ?_; (focus (simp only [decide_true, Bool.and_true, Bool.and_self] <;> fail)); cbv)
    | (refine QC.ff ?_ ?_; (focus (simp only [decide_true, Bool.and_true, Bool.and_self, decide_false, Bool.false_and, reduceCtorEq, not_false_eq_true] <;> fail)); cbv)
    | (refine QC.ff (by first | omega | (dsimp only; omega) | (simp only [sm] at *; omega)) ?_; cbv)
    | (refine QC.mk (fun hc => ?_) (fun hc => ?_) <;> (try dsimp only at hc) <;> cbv)
    | (refine br_mk2 (fun hb => ?_) (fun hb => ?_) <;> (try subst hb) <;> cbv))))
    refine loopQ (A := (Nat × Int) × (Nat × Int)) (fun p => (p.1.2 = p.1.1 ∧ p.2.2 = p.2.1) ∧ p.2.1 ≤ n ∧ p.1.1 ≤ k ∧ cn p.2.1 = p.1.1) (fun p => k - p.1.1) (fun p => [(14, .int .i64 p.1.2), (13, .int .i64 p.2.2)]) (fun p => []) ((0, 0), (0, 0)) ⟨⟨rfl, rfl⟩, Nat.zero_le _, Nat.zero_le _, hc0⟩ ?_ ?_
    · cbv
    · intro ⟨⟨i, j⟩, ⟨a, b⟩⟩ hh
      have hj : j = (i : Int) := hh.1.1
      have hb : b = (a : Int) := hh.1.2
      have han : a ≤ n := hh.2.1
      have hik : i ≤ k := hh.2.2.1
      have hca : cn a = i := hh.2.2.2
      clear hh
      have hkl : True := trivial
      cbv
      (repeat' (first
    | (refine q1 (by first | exact trivial | omega | (dsimp only; omega) | exact pow62 _ (by omega) | exact mul9 (by omega) (by omega) | (simp only [sm] at *; omega)) (fun z hz => ?_); (try simp only at hz); cbv)
    | (refine rq (by first | exact trivial | omega | (dsimp only; omega) | (simp only [sm] at *; omega)) ?_; cbv)
    | (refine QC.tt (by first | omega | (dsimp only; omega) | exact rfl | (simp only [sm] at *; omega)) ?_; cbv)
    | (refine QC.tt ?_ ?_; (focus (simp only [decide_true, Bool.and_true, Bool.and_self] <;> fail)); cbv)
    | (refine QC.ff ?_ ?_; (focus (simp only [decide_true, Bool.and_true, Bool.and_self, decide_false, Bool.false_and, reduceCtorEq, not_false_eq_true] <;> fail)); cbv)
    | (refine QC.ff (by first | omega | (dsimp only; omega) | (simp only [sm] at *; omega)) ?_; cbv)
    | (refine QC.mk (fun hc => ?_) (fun hc => ?_) <;> (try dsimp only at hc) <;> cbv)
    | (refine br_mk2 (fun hb => ?_) (fun hb => ?_) <;> (try subst hb) <;> cbv)))
      · refine loopQ (A := Nat × Int) (fun p => p.2 = p.1 ∧ p.1 ≤ n ∧ cn p.1 = i) (fun p => n - p.1) (fun p => [(13, .int .i64 p.2)]) (fun p => []) (a, b) ⟨hb, han, hca⟩ ?_ ?_
        · cbv
        · intro ⟨a2, b2⟩ hh
          have hb2 : b2 = (a2 : Int) := hh.1
          have ha2 : a2 ≤ n := hh.2.1
          have hc2 : cn a2 = i := hh.2.2
          clear hh
          have hkk : True := trivial
          cbv
          (repeat' (first
    | (refine q1 (by first | exact trivial | omega | (dsimp only; omega) | exact pow62 _ (by omega) | exact mul9 (by omega) (by omega) | (simp only [sm] at *; omega)) (fun z hz => ?_); (try simp only at hz); cbv)
    | (refine rq (by first | exact trivial | omega | (dsimp only; omega) | (simp only [sm] at *; omega)) ?_; cbv)
    | (refine QC.tt (by first | omega | (dsimp only; omega) | exact rfl | (simp only [sm] at *; omega)) ?_; cbv)
    | (refine QC.tt ?_ ?_; (focus (simp only [decide_true, Bool.and_true, Bool.and_self] <;> fail)); cbv)
    | (refine QC.ff ?_ ?_; (focus (simp only [decide_true, Bool.and_true, Bool.and_self, decide_false, Bool.false_and, reduceCtorEq, not_false_eq_true] <;> fail)); cbv)
    | (refine QC.ff (by first | omega | (dsimp only; omega) | (simp only [sm] at *; omega)) ?_; cbv)
    | (refine QC.mk (fun hc => ?_) (fun hc => ?_) <;> (try dsimp only at hc) <;> cbv)
    | (refine br_mk2 (fun hb => ?_) (fun hb => ?_) <;> (try subst hb) <;> cbv)))
          · rename_i zr hzr hcr zj hzj
            have hiL : a2 < n := by (first | omega | (simp only [cst] at *; omega) | (simp only [sm] at *; omega))
            have hji : zj.toNat = a2 := by (first | omega | (simp only [cst] at *; omega) | (simp only [sm] at *; omega))
            have hz0 : 0 ≤ z := by rw [hz]; exact Int.ediv_nonneg hak.1 (Int.pow_nonneg (by omega))
            have hz4 : z ≤ ak := by rw [hz]; exact Int.ediv_le_self _ hak.1
            have hzz : ((z.toNat &&& Int.toNat 1 : Nat) : Int) = bt a2 := by rw [hbt, hz, hji]; rfl
            have hs := hcs a2 hiL
            have hb0 := hb01 a2
            obtain ⟨bb, B, hbi, hB, hEi⟩ := hE a2 hiL
            have hbl := hfb bb (List.mem_of_getElem? hbi)
            have hL2 := hLe a2 B hiL
            rw [hc2] at hL2
            refine q1 ⟨hz0, by omega, by omega, by omega⟩ ?_
            intro za hza
            have hza := hza.trans hzz
            clear hz hzz
            cbv
            (repeat' (first
    | (refine q1 (by first | exact trivial | omega | (dsimp only; omega) | exact pow62 _ (by omega) | exact mul9 (by omega) (by omega) | (simp only [sm] at *; omega)) (fun z hz => ?_); (try simp only at hz); cbv)
    | (refine rq (by first | exact trivial | omega | (dsimp only; omega) | (simp only [sm] at *; omega)) ?_; cbv)
    | (refine QC.tt (by first | omega | (dsimp only; omega) | exact rfl | (simp only [sm] at *; omega)) ?_; cbv)
    | (refine QC.tt ?_ ?_; (focus (simp only [decide_true, Bool.and_true, Bool.and_self] <;> fail)); cbv)
    | (refine QC.ff ?_ ?_; (focus (simp only [decide_true, Bool.and_true, Bool.and_self, decide_false, Bool.false_and, reduceCtorEq, not_false_eq_true] <;> fail)); cbv)
    | (refine QC.ff (by first | omega | (dsimp only; omega) | (simp only [sm] at *; omega)) ?_; cbv)
    | (refine QC.mk (fun hc => ?_) (fun hc => ?_) <;> (try dsimp only at hc) <;> cbv)
    | (refine br_mk2 (fun hb => ?_) (fun hb => ?_) <;> (try subst hb) <;> cbv)))
            · have hs2 : cn (a2 + 1) = i := by rw [hs, if_neg (by omega), hc2, Nat.add_zero]
              refine ⟨(a2 + 1, z), ⟨by show z = ((a2 + 1 : Nat) : Int); (first | omega | (simp only [cst] at *; omega) | (simp only [sm] at *; omega)), by show a2 + 1 ≤ n; omega, hs2⟩, by show n - (a2 + 1) < n - a2; omega, ?_⟩
              cbv
            · have hb3 : bt a2 = 0 := by omega
              have hs2 : cn (a2 + 1) = i + 1 := by rw [hs, if_pos hb3, hc2]
              have hik2 : i < k := by (first | omega | (simp only [cst] at *; omega) | (simp only [sm] at *; omega))
              obtain ⟨κ, hκ, hL3⟩ := hL2 hb3 hik2 hEi
              have gs := same_c bb bb B B true hB hB (by omega) (by omega) (by simp)
              rw [← hb2] at hL3
              clear hL2 hs hbi hB
              have hkj : True := trivial
              cases κ
              · have hne : ¬ i + 1 = k := fun h => by have := hκ.2 h; cases this
                (refine qv (i, _) ⟨hj, hL3⟩ ?_; cbv; (repeat' (first
    | (refine q1 (by first | exact trivial | omega | (dsimp only; omega) | exact pow62 _ (by omega) | exact mul9 (by omega) (by omega) | (simp only [sm] at *; omega)) (fun z hz => ?_); (try simp only at hz); cbv)
    | (refine rq (by first | exact trivial | omega | (dsimp only; omega) | (simp only [sm] at *; omega)) ?_; cbv)
    | (refine QC.tt (by first | omega | (dsimp only; omega) | exact rfl | (simp only [sm] at *; omega)) ?_; cbv)
    | (refine QC.tt ?_ ?_; (focus (simp only [decide_true, Bool.and_true, Bool.and_self] <;> fail)); cbv)
    | (refine QC.ff ?_ ?_; (focus (simp only [decide_true, Bool.and_true, Bool.and_self, decide_false, Bool.false_and, reduceCtorEq, not_false_eq_true] <;> fail)); cbv)
    | (refine QC.ff (by first | omega | (dsimp only; omega) | (simp only [sm] at *; omega)) ?_; cbv)
    | (refine QC.mk (fun hc => ?_) (fun hc => ?_) <;> (try dsimp only at hc) <;> cbv)
    | (refine br_mk2 (fun hb => ?_) (fun hb => ?_) <;> (try subst hb) <;> cbv))))
                (refine qv (i, _) ⟨hj, hL3⟩ ?_; cbv; (repeat' (first
    | (refine q1 (by first | exact trivial | omega | (dsimp only; omega) | exact pow62 _ (by omega) | exact mul9 (by omega) (by omega) | (simp only [sm] at *; omega)) (fun z hz => ?_); (try simp only at hz); cbv)
    | (refine rq (by first | exact trivial | omega | (dsimp only; omega) | (simp only [sm] at *; omega)) ?_; cbv)
    | (refine QC.tt (by first | omega | (dsimp only; omega) | exact rfl | (simp only [sm] at *; omega)) ?_; cbv)
    | (refine QC.tt ?_ ?_; (focus (simp only [decide_true, Bool.and_true, Bool.and_self] <;> fail)); cbv)
    | (refine QC.ff ?_ ?_; (focus (simp only [decide_true, Bool.and_true, Bool.and_self, decide_false, Bool.false_and, reduceCtorEq, not_false_eq_true] <;> fail)); cbv)
    | (refine QC.ff (by first | omega | (dsimp only; omega) | (simp only [sm] at *; omega)) ?_; cbv)
    | (refine QC.mk (fun hc => ?_) (fun hc => ?_) <;> (try dsimp only at hc) <;> cbv)
    | (refine br_mk2 (fun hb => ?_) (fun hb => ?_) <;> (try subst hb) <;> cbv))))
                (refine qv (i, _) ⟨hj, hL3⟩ ?_; cbv; (repeat' (first
    | (refine q1 (by first | exact trivial | omega | (dsimp only; omega) | exact pow62 _ (by omega) | exact mul9 (by omega) (by omega) | (simp only [sm] at *; omega)) (fun z hz => ?_); (try simp only at hz); cbv)
    | (refine rq (by first | exact trivial | omega | (dsimp only; omega) | (simp only [sm] at *; omega)) ?_; cbv)
    | (refine QC.tt (by first | omega | (dsimp only; omega) | exact rfl | (simp only [sm] at *; omega)) ?_; cbv)
    | (refine QC.tt ?_ ?_; (focus (simp only [decide_true, Bool.and_true, Bool.and_self] <;> fail)); cbv)
    | (refine QC.ff ?_ ?_; (focus (simp only [decide_true, Bool.and_true, Bool.and_self, decide_false, Bool.false_and, reduceCtorEq, not_false_eq_true] <;> fail)); cbv)
    | (refine QC.ff (by first | omega | (dsimp only; omega) | (simp only [sm] at *; omega)) ?_; cbv)
    | (refine QC.mk (fun hc => ?_) (fun hc => ?_) <;> (try dsimp only at hc) <;> cbv)
    | (refine br_mk2 (fun hb => ?_) (fun hb => ?_) <;> (try subst hb) <;> cbv))))
                (refine qv (a2, _) ⟨hb2, hEi⟩ ?_; cbv; (repeat' (first
    | (refine q1 (by first | exact trivial | omega | (dsimp only; omega) | exact pow62 _ (by omega) | exact mul9 (by omega) (by omega) | (simp only [sm] at *; omega)) (fun z hz => ?_); (try simp only at hz); cbv)
    | (refine rq (by first | exact trivial | omega | (dsimp only; omega) | (simp only [sm] at *; omega)) ?_; cbv)
    | (refine QC.tt (by first | omega | (dsimp only; omega) | exact rfl | (simp only [sm] at *; omega)) ?_; cbv)
    | (refine QC.tt ?_ ?_; (focus (simp only [decide_true, Bool.and_true, Bool.and_self] <;> fail)); cbv)
    | (refine QC.ff ?_ ?_; (focus (simp only [decide_true, Bool.and_true, Bool.and_self, decide_false, Bool.false_and, reduceCtorEq, not_false_eq_true] <;> fail)); cbv)
    | (refine QC.ff (by first | omega | (dsimp only; omega) | (simp only [sm] at *; omega)) ?_; cbv)
    | (refine QC.mk (fun hc => ?_) (fun hc => ?_) <;> (try dsimp only at hc) <;> cbv)
    | (refine br_mk2 (fun hb => ?_) (fun hb => ?_) <;> (try subst hb) <;> cbv))))
                (refine callq (gs) rfl rfl ?_; cbv; (repeat' (first
    | (refine q1 (by first | exact trivial | omega | (dsimp only; omega) | exact pow62 _ (by omega) | exact mul9 (by omega) (by omega) | (simp only [sm] at *; omega)) (fun z hz => ?_); (try simp only at hz); cbv)
    | (refine rq (by first | exact trivial | omega | (dsimp only; omega) | (simp only [sm] at *; omega)) ?_; cbv)
    | (refine QC.tt (by first | omega | (dsimp only; omega) | exact rfl | (simp only [sm] at *; omega)) ?_; cbv)
    | (refine QC.tt ?_ ?_; (focus (simp only [decide_true, Bool.and_true, Bool.and_self] <;> fail)); cbv)
    | (refine QC.ff ?_ ?_; (focus (simp only [decide_true, Bool.and_true, Bool.and_self, decide_false, Bool.false_and, reduceCtorEq, not_false_eq_true] <;> fail)); cbv)
    | (refine QC.ff (by first | omega | (dsimp only; omega) | (simp only [sm] at *; omega)) ?_; cbv)
    | (refine QC.mk (fun hc => ?_) (fun hc => ?_) <;> (try dsimp only at hc) <;> cbv)
    | (refine br_mk2 (fun hb => ?_) (fun hb => ?_) <;> (try subst hb) <;> cbv))))
                rename_i zj1 hzj1 zLn hzLn zRn hzRn zat hzat
                refine ⟨((i + 1, z), (a2 + 1, zat)), ⟨⟨by show z = ((i + 1 : Nat) : Int); (first | omega | (simp only [cst] at *; omega) | (simp only [sm] at *; omega)), by show zat = ((a2 + 1 : Nat) : Int); (first | omega | (simp only [cst] at *; omega) | (simp only [sm] at *; omega))⟩, by show a2 + 1 ≤ n; omega, by show i + 1 ≤ k; omega, hs2⟩, by show k - (i + 1) < k - i; omega, ?_⟩
                cbv
              · have hne : i + 1 = k := hκ.1 rfl
                (refine qv (i, _) ⟨hj, hL3⟩ ?_; cbv; (repeat' (first
    | (refine q1 (by first | exact trivial | omega | (dsimp only; omega) | exact pow62 _ (by omega) | exact mul9 (by omega) (by omega) | (simp only [sm] at *; omega)) (fun z hz => ?_); (try simp only at hz); cbv)
    | (refine rq (by first | exact trivial | omega | (dsimp only; omega) | (simp only [sm] at *; omega)) ?_; cbv)
    | (refine QC.tt (by first | omega | (dsimp only; omega) | exact rfl | (simp only [sm] at *; omega)) ?_; cbv)
    | (refine QC.tt ?_ ?_; (focus (simp only [decide_true, Bool.and_true, Bool.and_self] <;> fail)); cbv)
    | (refine QC.ff ?_ ?_; (focus (simp only [decide_true, Bool.and_true, Bool.and_self, decide_false, Bool.false_and, reduceCtorEq, not_false_eq_true] <;> fail)); cbv)
    | (refine QC.ff (by first | omega | (dsimp only; omega) | (simp only [sm] at *; omega)) ?_; cbv)
    | (refine QC.mk (fun hc => ?_) (fun hc => ?_) <;> (try dsimp only at hc) <;> cbv)
    | (refine br_mk2 (fun hb => ?_) (fun hb => ?_) <;> (try subst hb) <;> cbv))))
                (refine qv (i, _) ⟨hj, hL3⟩ ?_; cbv; (repeat' (first
    | (refine q1 (by first | exact trivial | omega | (dsimp only; omega) | exact pow62 _ (by omega) | exact mul9 (by omega) (by omega) | (simp only [sm] at *; omega)) (fun z hz => ?_); (try simp only at hz); cbv)
    | (refine rq (by first | exact trivial | omega | (dsimp only; omega) | (simp only [sm] at *; omega)) ?_; cbv)
    | (refine QC.tt (by first | omega | (dsimp only; omega) | exact rfl | (simp only [sm] at *; omega)) ?_; cbv)
    | (refine QC.tt ?_ ?_; (focus (simp only [decide_true, Bool.and_true, Bool.and_self] <;> fail)); cbv)
    | (refine QC.ff ?_ ?_; (focus (simp only [decide_true, Bool.and_true, Bool.and_self, decide_false, Bool.false_and, reduceCtorEq, not_false_eq_true] <;> fail)); cbv)
    | (refine QC.ff (by first | omega | (dsimp only; omega) | (simp only [sm] at *; omega)) ?_; cbv)
    | (refine QC.mk (fun hc => ?_) (fun hc => ?_) <;> (try dsimp only at hc) <;> cbv)
    | (refine br_mk2 (fun hb => ?_) (fun hb => ?_) <;> (try subst hb) <;> cbv))))
                (refine qv (i, _) ⟨hj, hL3⟩ ?_; cbv; (repeat' (first
    | (refine q1 (by first | exact trivial | omega | (dsimp only; omega) | exact pow62 _ (by omega) | exact mul9 (by omega) (by omega) | (simp only [sm] at *; omega)) (fun z hz => ?_); (try simp only at hz); cbv)
    | (refine rq (by first | exact trivial | omega | (dsimp only; omega) | (simp only [sm] at *; omega)) ?_; cbv)
    | (refine QC.tt (by first | omega | (dsimp only; omega) | exact rfl | (simp only [sm] at *; omega)) ?_; cbv)
    | (refine QC.tt ?_ ?_; (focus (simp only [decide_true, Bool.and_true, Bool.and_self] <;> fail)); cbv)
    | (refine QC.ff ?_ ?_; (focus (simp only [decide_true, Bool.and_true, Bool.and_self, decide_false, Bool.false_and, reduceCtorEq, not_false_eq_true] <;> fail)); cbv)
    | (refine QC.ff (by first | omega | (dsimp only; omega) | (simp only [sm] at *; omega)) ?_; cbv)
    | (refine QC.mk (fun hc => ?_) (fun hc => ?_) <;> (try dsimp only at hc) <;> cbv)
    | (refine br_mk2 (fun hb => ?_) (fun hb => ?_) <;> (try subst hb) <;> cbv))))
                (refine qv (a2, _) ⟨hb2, hEi⟩ ?_; cbv; (repeat' (first
    | (refine q1 (by first | exact trivial | omega | (dsimp only; omega) | exact pow62 _ (by omega) | exact mul9 (by omega) (by omega) | (simp only [sm] at *; omega)) (fun z hz => ?_); (try simp only at hz); cbv)
    | (refine rq (by first | exact trivial | omega | (dsimp only; omega) | (simp only [sm] at *; omega)) ?_; cbv)
    | (refine QC.tt (by first | omega | (dsimp only; omega) | exact rfl | (simp only [sm] at *; omega)) ?_; cbv)
    | (refine QC.tt ?_ ?_; (focus (simp only [decide_true, Bool.and_true, Bool.and_self] <;> fail)); cbv)
    | (refine QC.ff ?_ ?_; (focus (simp only [decide_true, Bool.and_true, Bool.and_self, decide_false, Bool.false_and, reduceCtorEq, not_false_eq_true] <;> fail)); cbv)
    | (refine QC.ff (by first | omega | (dsimp only; omega) | (simp only [sm] at *; omega)) ?_; cbv)
    | (refine QC.mk (fun hc => ?_) (fun hc => ?_) <;> (try dsimp only at hc) <;> cbv)
    | (refine br_mk2 (fun hb => ?_) (fun hb => ?_) <;> (try subst hb) <;> cbv))))
                (refine callq (gs) rfl rfl ?_; cbv; (repeat' (first
    | (refine q1 (by first | exact trivial | omega | (dsimp only; omega) | exact pow62 _ (by omega) | exact mul9 (by omega) (by omega) | (simp only [sm] at *; omega)) (fun z hz => ?_); (try simp only at hz); cbv)
    | (refine rq (by first | exact trivial | omega | (dsimp only; omega) | (simp only [sm] at *; omega)) ?_; cbv)
    | (refine QC.tt (by first | omega | (dsimp only; omega) | exact rfl | (simp only [sm] at *; omega)) ?_; cbv)
    | (refine QC.tt ?_ ?_; (focus (simp only [decide_true, Bool.and_true, Bool.and_self] <;> fail)); cbv)
    | (refine QC.ff ?_ ?_; (focus (simp only [decide_true, Bool.and_true, Bool.and_self, decide_false, Bool.false_and, reduceCtorEq, not_false_eq_true] <;> fail)); cbv)
    | (refine QC.ff (by first | omega | (dsimp only; omega) | (simp only [sm] at *; omega)) ?_; cbv)
    | (refine QC.mk (fun hc => ?_) (fun hc => ?_) <;> (try dsimp only at hc) <;> cbv)
    | (refine br_mk2 (fun hb => ?_) (fun hb => ?_) <;> (try subst hb) <;> cbv))))
                rename_i zj1 hzj1 zLn hzLn zRn hzRn zat hzat
                refine ⟨((i + 1, z), (a2 + 1, zat)), ⟨⟨by show z = ((i + 1 : Nat) : Int); (first | omega | (simp only [cst] at *; omega) | (simp only [sm] at *; omega)), by show zat = ((a2 + 1 : Nat) : Int); (first | omega | (simp only [cst] at *; omega) | (simp only [sm] at *; omega))⟩, by show a2 + 1 ≤ n; omega, by show i + 1 ≤ k; omega, hs2⟩, by show k - (i + 1) < k - i; omega, ?_⟩
                cbv
          · have hii : a2 = n := by (first | omega | (simp only [cst] at *; omega) | (simp only [sm] at *; omega))
            have hc3 : cn n = i := by rw [← hii]; exact hc2
            have hik2 : i < k := by (first | omega | (simp only [cst] at *; omega) | (simp only [sm] at *; omega))
            exfalso
            rw [hcn] at hc3
            omega
      · have hik2 : i = k := by (first | omega | (simp only [cst] at *; omega) | (simp only [sm] at *; omega))
        clear hLe
        refine loopQ (A := (Nat × Int) × Int) (fun p => p.1.2 = p.1.1 ∧ p.1.1 ≤ n ∧ p.2 = cn p.1.1 ∧ cn p.1.1 ≤ p.1.1) (fun p => n - p.1.1) (fun p => [(16, .int .i64 p.1.2), (15, .int .i64 p.2)]) (fun p => []) ((0, 0), 0) ⟨rfl, Nat.zero_le _, by show (0 : Int) = ((cn 0 : Nat) : Int); rw [hc0]; rfl, Nat.le_of_eq hc0⟩ ?_ ?_
        · cbv
        · intro ⟨⟨a2, b2⟩, o⟩ hh
          have hb2 : b2 = (a2 : Int) := hh.1
          have ha2 : a2 ≤ n := hh.2.1
          have ho : o = (cn a2 : Int) := hh.2.2.1
          have hcle : cn a2 ≤ a2 := hh.2.2.2
          clear hh
          have hkk : True := trivial
          cbv
          (repeat' (first
    | (refine q1 (by first | exact trivial | omega | (dsimp only; omega) | exact pow62 _ (by omega) | exact mul9 (by omega) (by omega) | (simp only [sm] at *; omega)) (fun z hz => ?_); (try simp only at hz); cbv)
    | (refine rq (by first | exact trivial | omega | (dsimp only; omega) | (simp only [sm] at *; omega)) ?_; cbv)
    | (refine QC.tt (by first | omega | (dsimp only; omega) | exact rfl | (simp only [sm] at *; omega)) ?_; cbv)
    | (refine QC.tt ?_ ?_; (focus (simp only [decide_true, Bool.and_true, Bool.and_self] <;> fail)); cbv)
    | (refine QC.ff ?_ ?_; (focus (simp only [decide_true, Bool.and_true, Bool.and_self, decide_false, Bool.false_and, reduceCtorEq, not_false_eq_true] <;> fail)); cbv)
    | (refine QC.ff (by first | omega | (dsimp only; omega) | (simp only [sm] at *; omega)) ?_; cbv)
    | (refine QC.mk (fun hc => ?_) (fun hc => ?_) <;> (try dsimp only at hc) <;> cbv)
    | (refine br_mk2 (fun hb => ?_) (fun hb => ?_) <;> (try subst hb) <;> cbv)))
          · rename_i zr hzr hcr zj hzj
            have hiL : a2 < n := by (first | omega | (simp only [cst] at *; omega) | (simp only [sm] at *; omega))
            have hji : zj.toNat = a2 := by (first | omega | (simp only [cst] at *; omega) | (simp only [sm] at *; omega))
            have hz0 : 0 ≤ z := by rw [hz]; exact Int.ediv_nonneg hak.1 (Int.pow_nonneg (by omega))
            have hz4 : z ≤ ak := by rw [hz]; exact Int.ediv_le_self _ hak.1
            have hzz : ((z.toNat &&& Int.toNat 1 : Nat) : Int) = bt a2 := by rw [hbt, hz, hji]; rfl
            have hs := hcs a2 hiL
            have hb0 := hb01 a2
            refine q1 ⟨hz0, by omega, by omega, by omega⟩ ?_
            intro za hza
            have hza := hza.trans hzz
            clear hz hzz
            cbv
            (repeat' (first
    | (refine q1 (by first | exact trivial | omega | (dsimp only; omega) | exact pow62 _ (by omega) | exact mul9 (by omega) (by omega) | (simp only [sm] at *; omega)) (fun z hz => ?_); (try simp only at hz); cbv)
    | (refine rq (by first | exact trivial | omega | (dsimp only; omega) | (simp only [sm] at *; omega)) ?_; cbv)
    | (refine QC.tt (by first | omega | (dsimp only; omega) | exact rfl | (simp only [sm] at *; omega)) ?_; cbv)
    | (refine QC.tt ?_ ?_; (focus (simp only [decide_true, Bool.and_true, Bool.and_self] <;> fail)); cbv)
    | (refine QC.ff ?_ ?_; (focus (simp only [decide_true, Bool.and_true, Bool.and_self, decide_false, Bool.false_and, reduceCtorEq, not_false_eq_true] <;> fail)); cbv)
    | (refine QC.ff (by first | omega | (dsimp only; omega) | (simp only [sm] at *; omega)) ?_; cbv)
    | (refine QC.mk (fun hc => ?_) (fun hc => ?_) <;> (try dsimp only at hc) <;> cbv)
    | (refine br_mk2 (fun hb => ?_) (fun hb => ?_) <;> (try subst hb) <;> cbv)))
            · have hs2 : cn (a2 + 1) = cn a2 + 1 := by rw [hs, if_pos (by omega)]
              rename_i zo hzo
              refine ⟨((a2 + 1, z), zo), ⟨by show z = ((a2 + 1 : Nat) : Int); (first | omega | (simp only [cst] at *; omega) | (simp only [sm] at *; omega)), by show a2 + 1 ≤ n; omega, by show zo = ((cn (a2 + 1) : Nat) : Int); (first | omega | (simp only [cst] at *; omega) | (simp only [sm] at *; omega)), by show cn (a2 + 1) ≤ a2 + 1; omega⟩, by show n - (a2 + 1) < n - a2; omega, ?_⟩
              cbv
            · have hs2 : cn (a2 + 1) = cn a2 := by rw [hs, if_neg (by omega), Nat.add_zero]
              refine ⟨((a2 + 1, z), o), ⟨by show z = ((a2 + 1 : Nat) : Int); (first | omega | (simp only [cst] at *; omega) | (simp only [sm] at *; omega)), by show a2 + 1 ≤ n; omega, by show o = ((cn (a2 + 1) : Nat) : Int); rw [hs2]; exact ho, by show cn (a2 + 1) ≤ a2 + 1; omega⟩, by show n - (a2 + 1) < n - a2; omega, ?_⟩
              cbv
          · have hii : a2 = n := by (first | omega | (simp only [cst] at *; omega) | (simp only [sm] at *; omega))
            rw [hii, hcn] at ho
            (refine callq (hk) rfl rfl ?_; cbv; (repeat' (first
    | (refine q1 (by first | exact trivial | omega | (dsimp only; omega) | exact pow62 _ (by omega) | exact mul9 (by omega) (by omega) | (simp only [sm] at *; omega)) (fun z hz => ?_); (try simp only at hz); cbv)
    | (refine rq (by first | exact trivial | omega | (dsimp only; omega) | (simp only [sm] at *; omega)) ?_; cbv)
    | (refine QC.tt (by first | omega | (dsimp only; omega) | exact rfl | (simp only [sm] at *; omega)) ?_; cbv)
    | (refine QC.tt ?_ ?_; (focus (simp only [decide_true, Bool.and_true, Bool.and_self] <;> fail)); cbv)
    | (refine QC.ff ?_ ?_; (focus (simp only [decide_true, Bool.and_true, Bool.and_self, decide_false, Bool.false_and, reduceCtorEq, not_false_eq_true] <;> fail)); cbv)
    | (refine QC.ff (by first | omega | (dsimp only; omega) | (simp only [sm] at *; omega)) ?_; cbv)
    | (refine QC.mk (fun hc => ?_) (fun hc => ?_) <;> (try dsimp only at hc) <;> cbv)
    | (refine br_mk2 (fun hb => ?_) (fun hb => ?_) <;> (try subst hb) <;> cbv))))
            exact ⟨rfl, rfl, rfl⟩
end Go.Proofs.Ytjhicdoigllblaa
