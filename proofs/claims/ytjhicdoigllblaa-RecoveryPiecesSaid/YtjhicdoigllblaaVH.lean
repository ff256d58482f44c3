/- Contract of multihopref19.Next. -/
import Derived.Test.YtjhicdoigllblaaVG
namespace Go.Proofs.Ytjhicdoigllblaa
set_option linter.unusedVariables false
set_option linter.unusedSimpArgs false
open Go.RowKit
set_option maxHeartbeats 16000000
theorem opn_at {ak : Int} {n i : Nat} (hi : i < n) (h : ak / 2 ^ i % 2 = 0) : (opn ak n)[cntF ak 0 i]? = some i := by
  have h1 := misX_at ak (List.replicate n .any) 0 i .any (by simp [hi]) (by rw [Nat.zero_add]; exact h)
  rw [misX_eq, List.length_replicate, List.getElem?_map] at h1
  have e : ((List.range n).filter fun i => decide (ak / 2 ^ (0 + i) % 2 = 0)) = opn ak n := by rw [opn]; simp
  rw [e] at h1
  cases h2 : (opn ak n)[cntF ak 0 i]? with
  | none => rw [h2] at h1; cases h1
  | some q =>
    rw [h2] at h1
    simp at h1
    rw [show q = i by omega]
theorem opn_cnt (ak : Int) (n : Nat) : cntF ak 0 n = (opn ak n).length := by
  have h1 := misX_len ak (List.replicate n .any) 0
  rw [misX_eq, List.length_map, List.length_replicate] at h1
  rw [← h1, opn]
  simp
theorem and1n (m : Int) (h : 0 ≤ m) (i : Nat) : (((m / 2 ^ i).toNat &&& 1 : Nat) : Int) = m / 2 ^ i % 2 := by
  have h0 : 0 ≤ m / 2 ^ i := Int.ediv_nonneg h (Int.pow_nonneg (by omega))
  obtain ⟨k, hk⟩ := Int.eq_ofNat_of_zero_le h0
  rw [hk, Int.toNat_natCast, Nat.and_one_is_mod]
  omega
set_option maxRecDepth 4000 in
theorem rnx_c (st tag ak rd un : Int) (ps : List (List UInt8)) (R : List SV) (hR : R = rowsB ps) (hf : Snd.fits ⟨st, tag, ps, ak, rd, un⟩) (b : Bool) (hb : b = true ↔ VS ⟨st, tag, ps, ak, rd, un⟩) (now : Int) (hnow : -9223372036854775808 ≤ now ∧ now ≤ 9223372036854775807)
    (X : SV) (l : List Pce) (L : List SV) (hL : L = pcL l) (e : Int) (hX : nextX ⟨st, tag, ps, ak, rd, un⟩ b now = (X, l, e)) :
    Good 16 (pu [.agg [.int .i64 st, .int .u8 tag, .lst none R, .int .u32 ak, .int .i64 rd, .int .i64 un], .int .i64 now] (.tup [X, .lst (some 5) L, .int .i64 e])) := by
  have hRl : R.length = ps.length := by rw [hR, rowsB_len]
  have hfb := hf.b
  have hfn := hf.n
  have hak := hf.ak
  have g1 := rvsender_c st tag ak rd un ps R hR hf b hb
  have g2 := copied_c ps R hR hf.n hf.b
  have g3 := rtime_c now _ rfl
  obtain ⟨lt, hlt⟩ : ∃ lt : Int, lt = min (now + 8) 1099511627776 := ⟨_, rfl⟩
  have g4 := fun h => rlater_c now lt h hlt
  obtain ⟨tb, htb⟩ : ∃ tb, tb = timeT now := ⟨_, rfl⟩
  have htb1 : tb = true → ¬ (now < 0 ∨ 1099511627776 < now) := fun h => by rw [htb, timeT] at h; simp at h; omega
  have htb0 : tb = false → now < 0 ∨ 1099511627776 < now := fun h => by rw [htb, timeT] at h; simp at h; omega
  rw [← htb] at g3
  clear htb
  have hv := fun h : b = true => hb.1 h
  obtain ⟨W, hW⟩ : ∃ W, W = (opn ak ps.length).length := ⟨_, rfl⟩
  have hpos : b = true → st = 1 → 1 ≤ W := fun h hst => by
    have v := hv h
    rw [hW]
    refine opn_pos hak.1 v.ak fun he => ?_
    have := v.d he
    dsimp only at this
    omega
  have hn32 : b = true → ps.length ≤ 32 := fun h => (hv h).n2
  have hrd : b = true → 0 ≤ rd ∧ rd ≤ 8 := fun h => ⟨(hv h).r1, (hv h).r2⟩
  obtain ⟨S, hS⟩ : ∃ S : Nat → List SV, ∀ k, S k = pcL (pre tag ps ak k) := ⟨_, fun _ => rfl⟩
  obtain ⟨N, hN⟩ : ∃ N : Int, N = ps.length := ⟨_, rfl⟩
  have hE := fun i hi => rowsB_at hR i hi
  obtain ⟨cn, hcn⟩ : ∃ cn : Nat → Nat, ∀ i, cn i = cntF ak 0 i := ⟨_, fun _ => rfl⟩
  have hcn0 : cn 0 = 0 := by rw [hcn]; rfl
  have hcnn : cn ps.length = W := by rw [hcn, hW, opn_cnt]
  have hcnW : ∀ i, i ≤ ps.length → cn i ≤ W := fun i hi => by
    rw [← hcnn]
    have : ∀ d, cn i ≤ cn (i + d) := fun d => by
      induction d with
      | zero => exact Nat.le_refl _
      | succ d ih =>
        have e : cn (i + (d + 1)) = cn (i + d) + (if ak / 2 ^ (0 + (i + d)) % 2 = 0 then 1 else 0) := by rw [hcn, hcn, ← cntF_succ]; rfl
        omega
    have := this (ps.length - i)
    rw [show i + (ps.length - i) = ps.length by omega] at this
    exact this
  obtain ⟨bt, hbt⟩ : ∃ bt : Nat → Int, ∀ i, bt i = ((ak / 2 ^ i).toNat &&& 1 : Nat) := ⟨_, fun _ => rfl⟩
  have hS1 : ∀ (i : Nat) (B : List SV), i < ps.length → R[i]? = some (.lst none B) → (bt i = 0 → cn (i + 1) = cn i + 1 ∧ S (cn i + 1) = S (cn i) ++ [.agg [.int .u8 tag, .int .i64 (i : Int), .int .i64 N, .bool false, .lst none B]]) ∧ (¬ bt i = 0 → cn (i + 1) = cn i) := fun i B hi hRi => by
    rw [hbt, and1n ak hak.1]
    have e : cn (i + 1) = cn i + (if ak / 2 ^ i % 2 = 0 then 1 else 0) := by rw [hcn, hcn, cntF_succ, Nat.zero_add]
    refine ⟨fun h => ?_, fun h => ?_⟩
    · rw [if_pos h] at e
      refine ⟨e, ?_⟩
      obtain ⟨b, B', h1, h2, h3, h4, h5⟩ := pce_at (tag := tag) hR (opn_at hi h)
      rw [hRi] at h3
      injection h3 with h3
      injection h3 with _ h3
      rw [hS, hS, hcn, h3, hN]
      exact h5
    · rw [if_neg h] at e
      exact e
  clear hcn
  have hS0 : S 0 = [] := by rw [hS]; rfl
  have hSl : ∀ k, k ≤ W → (S k).length = k := fun k hk => by rw [hS, pcL_len, pre_len _ _ _ _ (by omega)]
  obtain ⟨F, hF⟩ : ∃ F : Nat → List SV, ∀ k, F k = pcL (mark (pre tag ps ak k)) := ⟨_, fun _ => rfl⟩
  have hSm0 : ∀ k, k + 1 ≤ W → ∃ (i : Nat) (B : List SV), (S (k + 1))[k]? = some (.agg [.int .u8 tag, .int .i64 (i : Int), .int .i64 (ps.length : Int), .bool false, .lst none B]) ∧ (S (k + 1)).set k (.agg [.int .u8 tag, .int .i64 (i : Int), .int .i64 (ps.length : Int), .bool true, .lst none B]) = F (k + 1) := fun k hk => by
    rw [hS, hF]; exact pre_mark hR (by omega)
  rw [← hN] at hSm0
  obtain ⟨iM, BM, hSm⟩ : ∃ (iM : Nat → Nat) (BM : Nat → List SV), ∀ k, 1 ≤ k → k ≤ W → (S k)[k - 1]? = some (.agg [.int .u8 tag, .int .i64 (iM k : Int), .int .i64 N, .bool false, .lst none (BM k)]) ∧ (S k).set (k - 1) (.agg [.int .u8 tag, .int .i64 (iM k : Int), .int .i64 N, .bool true, .lst none (BM k)]) = F k := by
    have : ∀ k, ∃ (i : Nat) (B : List SV), 1 ≤ k → k ≤ W → (S k)[k - 1]? = some (.agg [.int .u8 tag, .int .i64 (i : Int), .int .i64 N, .bool false, .lst none B]) ∧ (S k).set (k - 1) (.agg [.int .u8 tag, .int .i64 (i : Int), .int .i64 N, .bool true, .lst none B]) = F k := fun k => by
      by_cases h : 1 ≤ k ∧ k ≤ W
      · obtain ⟨i, B, h1, h2⟩ := hSm0 (k - 1) (by omega)
        rw [show k - 1 + 1 = k by omega] at h1 h2
        exact ⟨i, B, fun _ _ => ⟨h1, h2⟩⟩
      · exact ⟨0, [], fun a b => absurd ⟨a, b⟩ h⟩
    exact ⟨fun k => Classical.choose (this k), fun k => Classical.choose (Classical.choose_spec (this k)), fun k => Classical.choose_spec (Classical.choose_spec (this k))⟩
  clear hSm0
  have x1 : b = false → X = .agg [.int .i64 0, .int .u8 0, .nil, .int .u32 0, .int .i64 0, .int .i64 0] ∧ L = [] ∧ e = 1 := fun h => by
    unfold nextX at hX; rw [if_pos h] at hX; obtain ⟨a1, a2⟩ := Prod.mk.inj hX; obtain ⟨a2, a3⟩ := Prod.mk.inj a2; exact ⟨a1.symm, by rw [hL, ← a2]; rfl, a3.symm⟩
  have x2 : b = true → now < 0 ∨ 1099511627776 < now → X = .agg [.int .i64 0, .int .u8 0, .nil, .int .u32 0, .int .i64 0, .int .i64 0] ∧ L = [] ∧ e = 2 := fun h h2 => by
    unfold nextX at hX; rw [if_neg (by rw [h]; simp), if_pos h2] at hX; obtain ⟨a1, a2⟩ := Prod.mk.inj hX; obtain ⟨a2, a3⟩ := Prod.mk.inj a2; exact ⟨a1.symm, by rw [hL, ← a2]; rfl, a3.symm⟩
  have x3 : b = true → ¬ (now < 0 ∨ 1099511627776 < now) → st ≠ 1 ∨ now < un → X = .agg [.int .i64 st, .int .u8 tag, .lst none R, .int .u32 ak, .int .i64 rd, .int .i64 un] ∧ L = [] ∧ e = 0 := fun h h2 h3 => by
    unfold nextX at hX; rw [if_neg (by rw [h]; simp), if_neg h2, if_pos h3] at hX; obtain ⟨a1, a2⟩ := Prod.mk.inj hX; obtain ⟨a2, a3⟩ := Prod.mk.inj a2; exact ⟨by rw [← a1, hR]; rfl, by rw [hL, ← a2]; rfl, a3.symm⟩
  have x4 : b = true → ¬ (now < 0 ∨ 1099511627776 < now) → ¬ (st ≠ 1 ∨ now < un) → rd = 8 → X = .agg [.int .i64 3, .int .u8 tag, .lst none R, .int .u32 ak, .int .i64 rd, .int .i64 un] ∧ L = [] ∧ e = 0 := fun h h2 h3 h4 => by
    unfold nextX at hX; rw [if_neg (by rw [h]; simp), if_neg h2, if_neg h3, if_pos h4] at hX; obtain ⟨a1, a2⟩ := Prod.mk.inj hX; obtain ⟨a2, a3⟩ := Prod.mk.inj a2; exact ⟨by rw [← a1, hR]; rfl, by rw [hL, ← a2]; rfl, a3.symm⟩
  have x5 : b = true → ¬ (now < 0 ∨ 1099511627776 < now) → ¬ (st ≠ 1 ∨ now < un) → ¬ rd = 8 → X = .agg [.int .i64 st, .int .u8 tag, .lst none R, .int .u32 ak, .int .i64 (rd + 1), .int .i64 (min (now + 8) 1099511627776)] ∧ L = F (min W 8) ∧ e = 0 := fun h h2 h3 h4 => by
    unfold nextX at hX; rw [if_neg (by rw [h]; simp), if_neg h2, if_neg h3, if_neg h4] at hX; obtain ⟨a1, a2⟩ := Prod.mk.inj hX; obtain ⟨a2, a3⟩ := Prod.mk.inj a2; exact ⟨by rw [← a1, hR]; rfl, by rw [hF, hW, hL, ← a2], a3.symm⟩
  rw [← hlt] at x5
  clear hX hb hv hS hF hW hlt
  refine Good.of Try.func16 rfl (by rfl) (by kernel_rfl) ?_
  cbv
  have hmz : True := trivial
  (repeat' (first
    | (refine q1 (by first | exact trivial | omega | (dsimp only; omega) | exact pow62 _ (by omega) | exact mul9 (by omega) (by omega) | (simp only [sm] at *; omega)) (fun z hz => ?_); (try simp only at hz); cbv)
    | (refine rq (by first | exact trivial | omega | (dsimp only; omega) | (simp only [sm] at *; omega)) ?_; cbv)
    | (refine QC.tt (by first | omega | (dsimp only; omega) | exact rfl | (simp only [sm] at *; omega)) ?_; cbv)
    | (refine QC.tt ?_ ?_; (focus (simp only [decide_true, Bool.and_true, Bool.and_self] <;> fail)); cbv)
    | (refine QC.ff ?_ ?_; (focus (simp only [decide_true, Bool.and_true, Bool.and_self, decide_false, Bool.false_and, reduceCtorEq, not_false_eq_true] <;> fail)); cbv)
    | (refine QC.ff (by first | omega | (dsimp only; omega) | (simp only [sm] at *; omega)) ?_; cbv)
    | (refine QC.mk (fun hc => ?_) (fun hc => ?_) <;> (try dsimp only at hc) <;> cbv)
    | (refine br_mk2 (fun hb => ?_) (fun hb => ?_) <;> (try subst hb) <;> cbv)))
  (refine callq (g1) rfl rfl ?_; cbv; (repeat' (first
    | (refine q1 (by first | exact trivial | omega | (dsimp only; omega) | exact pow62 _ (by omega) | exact mul9 (by omega) (by omega) | (simp only [sm] at *; omega)) (fun z hz => ?_); (try simp only at hz); cbv)
    | (refine rq (by first | exact trivial | omega | (dsimp only; omega) | (simp only [sm] at *; omega)) ?_; cbv)
    | (refine QC.tt (by first | omega | (dsimp only; omega) | exact rfl | (simp only [sm] at *; omega)) ?_; cbv)
    | (refine QC.tt ?_ ?_; (focus (simp only [decide_true, Bool.and_true, Bool.and_self] <;> fail)); cbv)
    | (refine QC.ff ?_ ?_; (focus (simp only [decide_true, Bool.and_true, Bool.and_self, decide_false, Bool.false_and, reduceCtorEq, not_false_eq_true] <;> fail)); cbv)
    | (refine QC.ff (by first | omega | (dsimp only; omega) | (simp only [sm] at *; omega)) ?_; cbv)
    | (refine QC.mk (fun hc => ?_) (fun hc => ?_) <;> (try dsimp only at hc) <;> cbv)
    | (refine br_mk2 (fun hb => ?_) (fun hb => ?_) <;> (try subst hb) <;> cbv))))
  · (refine callq (g3) rfl rfl ?_; cbv; (repeat' (first
    | (refine q1 (by first | exact trivial | omega | (dsimp only; omega) | exact pow62 _ (by omega) | exact mul9 (by omega) (by omega) | (simp only [sm] at *; omega)) (fun z hz => ?_); (try simp only at hz); cbv)
    | (refine rq (by first | exact trivial | omega | (dsimp only; omega) | (simp only [sm] at *; omega)) ?_; cbv)
    | (refine QC.tt (by first | omega | (dsimp only; omega) | exact rfl | (simp only [sm] at *; omega)) ?_; cbv)
    | (refine QC.tt ?_ ?_; (focus (simp only [decide_true, Bool.and_true, Bool.and_self] <;> fail)); cbv)
    | (refine QC.ff ?_ ?_; (focus (simp only [decide_true, Bool.and_true, Bool.and_self, decide_false, Bool.false_and, reduceCtorEq, not_false_eq_true] <;> fail)); cbv)
    | (refine QC.ff (by first | omega | (dsimp only; omega) | (simp only [sm] at *; omega)) ?_; cbv)
    | (refine QC.mk (fun hc => ?_) (fun hc => ?_) <;> (try dsimp only at hc) <;> cbv)
    | (refine br_mk2 (fun hb => ?_) (fun hb => ?_) <;> (try subst hb) <;> cbv))))
    · have ht := htb1 rfl
      have x3 := x3 rfl ht
      have x4 := x4 rfl ht
      have x5 := x5 rfl ht
      have hpos := hpos rfl
      have hn32 := hn32 rfl
      have hrd := hrd rfl
      clear x1 x2 htb0 htb1
      (refine callq (g2) rfl rfl ?_; cbv; (repeat' (first
    | (refine q1 (by first | exact trivial | omega | (dsimp only; omega) | exact pow62 _ (by omega) | exact mul9 (by omega) (by omega) | (simp only [sm] at *; omega)) (fun z hz => ?_); (try simp only at hz); cbv)
    | (refine rq (by first | exact trivial | omega | (dsimp only; omega) | (simp only [sm] at *; omega)) ?_; cbv)
    | (refine QC.tt (by first | omega | (dsimp only; omega) | exact rfl | (simp only [sm] at *; omega)) ?_; cbv)
    | (refine QC.tt ?_ ?_; (focus (simp only [decide_true, Bool.and_true, Bool.and_self] <;> fail)); cbv)
    | (refine QC.ff ?_ ?_; (focus (simp only [decide_true, Bool.and_true, Bool.and_self, decide_false, Bool.false_and, reduceCtorEq, not_false_eq_true] <;> fail)); cbv)
    | (refine QC.ff (by first | omega | (dsimp only; omega) | (simp only [sm] at *; omega)) ?_; cbv)
    | (refine QC.mk (fun hc => ?_) (fun hc => ?_) <;> (try dsimp only at hc) <;> cbv)
    | (refine br_mk2 (fun hb => ?_) (fun hb => ?_) <;> (try subst hb) <;> cbv))))
      · obtain ⟨e1, e2, e3⟩ := x3 (.inl hc)
        refine Fin.mk ?_ rfl rfl
        rw [e1, e2, e3]
      · obtain ⟨e1, e2, e3⟩ := x3 (.inr hc)
        refine Fin.mk ?_ rfl rfl
        rw [e1, e2, e3]
      · rename_i h2 h3
        obtain ⟨e1, e2, e3⟩ := x4 (fun h => h.elim h2 h3) hc
        refine Fin.mk ?_ rfl rfl
        rw [e1, e2, e3]
      · rename_i h2 h3
        have x5 := x5 (fun h => h.elim h2 h3) hc
        have hpos1 := hpos (Classical.not_not.1 h2)
        have g4 := g4 ⟨Int.not_lt.1 (fun h => ht (.inl h)), Int.not_lt.1 (fun h => ht (.inr h))⟩
        clear x3 x4
        (refine callq (g4) rfl rfl ?_; cbv; (repeat' (first
    | (refine q1 (by first | exact trivial | omega | (dsimp only; omega) | exact pow62 _ (by omega) | exact mul9 (by omega) (by omega) | (simp only [sm] at *; omega)) (fun z hz => ?_); (try simp only at hz); cbv)
    | (refine rq (by first | exact trivial | omega | (dsimp only; omega) | (simp only [sm] at *; omega)) ?_; cbv)
    | (refine QC.tt (by first | omega | (dsimp only; omega) | exact rfl | (simp only [sm] at *; omega)) ?_; cbv)
    | (refine QC.tt ?_ ?_; (focus (simp only [decide_true, Bool.and_true, Bool.and_self] <;> fail)); cbv)
    | (refine QC.ff ?_ ?_; (focus (simp only [decide_true, Bool.and_true, Bool.and_self, decide_false, Bool.false_and, reduceCtorEq, not_false_eq_true] <;> fail)); cbv)
    | (refine QC.ff (by first | omega | (dsimp only; omega) | (simp only [sm] at *; omega)) ?_; cbv)
    | (refine QC.mk (fun hc => ?_) (fun hc => ?_) <;> (try dsimp only at hc) <;> cbv)
    | (refine br_mk2 (fun hb => ?_) (fun hb => ?_) <;> (try subst hb) <;> cbv))))
        obtain ⟨e1, e2, e3⟩ := x5
        rw [← hz] at e1
        clear g1 g2 g3 g4 ht hpos
        refine loopQ (A := Nat × Int) (fun p => p.2 = p.1 ∧ p.1 ≤ ps.length ∧ cn p.1 ≤ 8) (fun p => ps.length - p.1) (fun p => [(8, .int .i64 p.2), (7, .row 7)]) (fun p => [(7, .row (some 5) 51 (S (cn p.1)))]) (0, 0) ⟨rfl, Nat.zero_le _, by rw [hcn0]; exact Nat.zero_le _⟩ ?_ ?_
        · cbv
          refine ⟨?_, trivial⟩
          show Blk.row (some 5) 51 [] = .row (some 5) 51 (S (cn 0))
          rw [hcn0, hS0]
        · intro ⟨i, j⟩ hh
          have hj : j = (i : Int) := hh.1
          have hi : i ≤ ps.length := hh.2.1
          have hc8 : cn i ≤ 8 := hh.2.2
          clear hh
          have hcw := hcnW i hi
          have hSlk := hSl (cn i) hcw
          have hmy : True := trivial
          cbv
          (repeat' (first
    | (refine q1 (by first | exact trivial | omega | (dsimp only; omega) | exact pow62 _ (by omega) | exact mul9 (by omega) (by omega) | (simp only [sm] at *; omega)) (fun z hz => ?_); (try simp only at hz); cbv)
    | (refine rq (by first | exact trivial | omega | (dsimp only; omega) | (simp only [sm] at *; omega)) ?_; cbv)
    | (refine QC.tt (by first | omega | (dsimp only; omega) | exact rfl | (simp only [sm] at *; omega)) ?_; cbv)
    | (refine QC.tt ?_ ?_; (focus (simp only [decide_true, Bool.and_true, Bool.and_self] <;> fail)); cbv)
    | (refine QC.ff ?_ ?_; (focus (simp only [decide_true, Bool.and_true, Bool.and_self, decide_false, Bool.false_and, reduceCtorEq, not_false_eq_true] <;> fail)); cbv)
    | (refine QC.ff (by first | omega | (dsimp only; omega) | (simp only [sm] at *; omega)) ?_; cbv)
    | (refine QC.mk (fun hc => ?_) (fun hc => ?_) <;> (try dsimp only at hc) <;> cbv)
    | (refine br_mk2 (fun hb => ?_) (fun hb => ?_) <;> (try subst hb) <;> cbv)))
          · rename_i zr hzr hcr zs hzs zj hzj
            have hiL : i < ps.length := by (first | omega | (simp only [cst] at *; omega) | (simp only [sm] at *; omega))
            have hji : zj.toNat = i := by (first | omega | (simp only [cst] at *; omega) | (simp only [sm] at *; omega))
            have hz0 : 0 ≤ z := by rw [hz]; exact Int.ediv_nonneg hak.1 (Int.pow_nonneg (by omega))
            have hz4 : z ≤ ak := by rw [hz]; exact Int.ediv_le_self _ hak.1
            have hak2 : ak ≤ 4294967295 := by have := hak.2; dsimp only at this; omega
            have hzz : ((z.toNat &&& Int.toNat 1 : Nat) : Int) = bt i := by rw [hbt, hz, hji]; rfl
            obtain ⟨b, B, hbi, hB, hEi⟩ := hE i hiL
            have hs := hS1 i B hiL hEi
            have hbl := hfb b (List.mem_of_getElem? hbi)
            have hBl : B.length = b.length := by rw [hB, u8l_len]
            have hcw2 := hcnW (i + 1) hiL
            clear hz
            refine q1 ⟨hz0, by omega, by omega, by omega⟩ ?_
            intro za hza
            have hza := hza.trans hzz
            clear hzz
            cbv
            (repeat' (first
    | (refine q1 (by first | exact trivial | omega | (dsimp only; omega) | exact pow62 _ (by omega) | exact mul9 (by omega) (by omega) | (simp only [sm] at *; omega)) (fun z hz => ?_); (try simp only at hz); cbv)
    | (refine rq (by first | exact trivial | omega | (dsimp only; omega) | (simp only [sm] at *; omega)) ?_; cbv)
    | (refine QC.tt (by first | omega | (dsimp only; omega) | exact rfl | (simp only [sm] at *; omega)) ?_; cbv)
    | (refine QC.tt ?_ ?_; (focus (simp only [decide_true, Bool.and_true, Bool.and_self] <;> fail)); cbv)
    | (refine QC.ff ?_ ?_; (focus (simp only [decide_true, Bool.and_true, Bool.and_self, decide_false, Bool.false_and, reduceCtorEq, not_false_eq_true] <;> fail)); cbv)
    | (refine QC.ff (by first | omega | (dsimp only; omega) | (simp only [sm] at *; omega)) ?_; cbv)
    | (refine QC.mk (fun hc => ?_) (fun hc => ?_) <;> (try dsimp only at hc) <;> cbv)
    | (refine br_mk2 (fun hb => ?_) (fun hb => ?_) <;> (try subst hb) <;> cbv)))
            · have hs := hs.1 (hza.symm.trans hc)
              have hs1 := hs.1
              have hs2 := hs.2
              clear hs
              rename_i zn hzn
              skip
              (refine qv (i, _) ⟨hj, hEi⟩ ?_; cbv; (repeat' (first
    | (refine q1 (by first | exact trivial | omega | (dsimp only; omega) | exact pow62 _ (by omega) | exact mul9 (by omega) (by omega) | (simp only [sm] at *; omega)) (fun z hz => ?_); (try simp only at hz); cbv)
    | (refine rq (by first | exact trivial | omega | (dsimp only; omega) | (simp only [sm] at *; omega)) ?_; cbv)
    | (refine QC.tt (by first | omega | (dsimp only; omega) | exact rfl | (simp only [sm] at *; omega)) ?_; cbv)
    | (refine QC.tt ?_ ?_; (focus (simp only [decide_true, Bool.and_true, Bool.and_self] <;> fail)); cbv)
    | (refine QC.ff ?_ ?_; (focus (simp only [decide_true, Bool.and_true, Bool.and_self, decide_false, Bool.false_and, reduceCtorEq, not_false_eq_true] <;> fail)); cbv)
    | (refine QC.ff (by first | omega | (dsimp only; omega) | (simp only [sm] at *; omega)) ?_; cbv)
    | (refine QC.mk (fun hc => ?_) (fun hc => ?_) <;> (try dsimp only at hc) <;> cbv)
    | (refine br_mk2 (fun hb => ?_) (fun hb => ?_) <;> (try subst hb) <;> cbv))))
              refine ⟨(i + 1, z), ⟨by show z = ((i + 1 : Nat) : Int); (first | omega | (simp only [cst] at *; omega) | (simp only [sm] at *; omega)), by show i + 1 ≤ ps.length; omega, by show cn (i + 1) ≤ 8; rw [hs1]; (first | omega | (simp only [cst] at *; omega) | (simp only [sm] at *; omega))⟩, by show ps.length - (i + 1) < ps.length - i; omega, ?_⟩
              cbv
              rename_i zN hzN
              refine ⟨?_, trivial⟩
              show Blk.row (some 5) 51 (apL (S (cn i)) [.agg [.int .u8 tag, .int .i64 j, .int .i64 zN, .bool false, .lst none B]]) = .row (some 5) 51 (S (cn (i + 1)))
              rw [apL_eq, hs1, hs2, show zN = N by (first | omega | (simp only [cst] at *; omega) | (simp only [sm] at *; omega)), hj]
            · have hs := hs.2 (fun h => hc (hza.trans h))
              refine ⟨(i + 1, z), ⟨by show z = ((i + 1 : Nat) : Int); (first | omega | (simp only [cst] at *; omega) | (simp only [sm] at *; omega)), by show i + 1 ≤ ps.length; omega, by show cn (i + 1) ≤ 8; omega⟩, by show ps.length - (i + 1) < ps.length - i; omega, ?_⟩
              cbv
              refine ⟨?_, trivial⟩
              show Blk.row (some 5) 51 (S (cn i)) = .row (some 5) 51 (S (cn (i + 1)))
              rw [hs]
          · have hWk : min W 8 = cn i := by (first | omega | (simp only [cst] at *; omega) | (simp only [sm] at *; omega))
            have hm1 := (hSm (cn i) (by (first | omega | (simp only [cst] at *; omega) | (simp only [sm] at *; omega))) hcw).1
            have hm2 := (hSm (cn i) (by (first | omega | (simp only [cst] at *; omega) | (simp only [sm] at *; omega))) hcw).2
            skip
            refine qv (cn i - 1) ⟨by (first | omega | (simp only [cst] at *; omega) | (simp only [sm] at *; omega)), by show cn i - 1 < O.ln (S (cn i)); rw [oln]; omega⟩ ?_
            cbv
            (repeat' (first
    | (refine q1 (by first | exact trivial | omega | (dsimp only; omega) | exact pow62 _ (by omega) | exact mul9 (by omega) (by omega) | (simp only [sm] at *; omega)) (fun z hz => ?_); (try simp only at hz); cbv)
    | (refine rq (by first | exact trivial | omega | (dsimp only; omega) | (simp only [sm] at *; omega)) ?_; cbv)
    | (refine QC.tt (by first | omega | (dsimp only; omega) | exact rfl | (simp only [sm] at *; omega)) ?_; cbv)
    | (refine QC.tt ?_ ?_; (focus (simp only [decide_true, Bool.and_true, Bool.and_self] <;> fail)); cbv)
    | (refine QC.ff ?_ ?_; (focus (simp only [decide_true, Bool.and_true, Bool.and_self, decide_false, Bool.false_and, reduceCtorEq, not_false_eq_true] <;> fail)); cbv)
    | (refine QC.ff (by first | omega | (dsimp only; omega) | (simp only [sm] at *; omega)) ?_; cbv)
    | (refine QC.mk (fun hc => ?_) (fun hc => ?_) <;> (try dsimp only at hc) <;> cbv)
    | (refine br_mk2 (fun hb => ?_) (fun hb => ?_) <;> (try subst hb) <;> cbv)))
            refine qv _ ⟨hm1, by simp⟩ ?_
            cbv
            (repeat' (first
    | (refine q1 (by first | exact trivial | omega | (dsimp only; omega) | exact pow62 _ (by omega) | exact mul9 (by omega) (by omega) | (simp only [sm] at *; omega)) (fun z hz => ?_); (try simp only at hz); cbv)
    | (refine rq (by first | exact trivial | omega | (dsimp only; omega) | (simp only [sm] at *; omega)) ?_; cbv)
    | (refine QC.tt (by first | omega | (dsimp only; omega) | exact rfl | (simp only [sm] at *; omega)) ?_; cbv)
    | (refine QC.tt ?_ ?_; (focus (simp only [decide_true, Bool.and_true, Bool.and_self] <;> fail)); cbv)
    | (refine QC.ff ?_ ?_; (focus (simp only [decide_true, Bool.and_true, Bool.and_self, decide_false, Bool.false_and, reduceCtorEq, not_false_eq_true] <;> fail)); cbv)
    | (refine QC.ff (by first | omega | (dsimp only; omega) | (simp only [sm] at *; omega)) ?_; cbv)
    | (refine QC.mk (fun hc => ?_) (fun hc => ?_) <;> (try dsimp only at hc) <;> cbv)
    | (refine br_mk2 (fun hb => ?_) (fun hb => ?_) <;> (try subst hb) <;> cbv)))
            refine Fin.mk ?_ rfl rfl
            rw [e1, e2, e3, hWk, ← hm2]
            show SV.tup [_, .lst (some 5) (O.st (S (cn i)) (cn i - 1) _), _] = _
            rw [ost]
            rfl
          · have hii : i = ps.length := by (first | omega | (simp only [cst] at *; omega) | (simp only [sm] at *; omega))
            have hcc : cn i = W := by rw [hii, hcnn]
            have hWk : min W 8 = cn i := by omega
            have hm1 := (hSm (cn i) (by omega) hcw).1
            have hm2 := (hSm (cn i) (by omega) hcw).2
            skip
            refine qv (cn i - 1) ⟨by (first | omega | (simp only [cst] at *; omega) | (simp only [sm] at *; omega)), by show cn i - 1 < O.ln (S (cn i)); rw [oln]; omega⟩ ?_
            cbv
            (repeat' (first
    | (refine q1 (by first | exact trivial | omega | (dsimp only; omega) | exact pow62 _ (by omega) | exact mul9 (by omega) (by omega) | (simp only [sm] at *; omega)) (fun z hz => ?_); (try simp only at hz); cbv)
    | (refine rq (by first | exact trivial | omega | (dsimp only; omega) | (simp only [sm] at *; omega)) ?_; cbv)
    | (refine QC.tt (by first | omega | (dsimp only; omega) | exact rfl | (simp only [sm] at *; omega)) ?_; cbv)
    | (refine QC.tt ?_ ?_; (focus (simp only [decide_true, Bool.and_true, Bool.and_self] <;> fail)); cbv)
    | (refine QC.ff ?_ ?_; (focus (simp only [decide_true, Bool.and_true, Bool.and_self, decide_false, Bool.false_and, reduceCtorEq, not_false_eq_true] <;> fail)); cbv)
    | (refine QC.ff (by first | omega | (dsimp only; omega) | (simp only [sm] at *; omega)) ?_; cbv)
    | (refine QC.mk (fun hc => ?_) (fun hc => ?_) <;> (try dsimp only at hc) <;> cbv)
    | (refine br_mk2 (fun hb => ?_) (fun hb => ?_) <;> (try subst hb) <;> cbv)))
            refine qv _ ⟨hm1, by simp⟩ ?_
            cbv
            (repeat' (first
    | (refine q1 (by first | exact trivial | omega | (dsimp only; omega) | exact pow62 _ (by omega) | exact mul9 (by omega) (by omega) | (simp only [sm] at *; omega)) (fun z hz => ?_); (try simp only at hz); cbv)
    | (refine rq (by first | exact trivial | omega | (dsimp only; omega) | (simp only [sm] at *; omega)) ?_; cbv)
    | (refine QC.tt (by first | omega | (dsimp only; omega) | exact rfl | (simp only [sm] at *; omega)) ?_; cbv)
    | (refine QC.tt ?_ ?_; (focus (simp only [decide_true, Bool.and_true, Bool.and_self] <;> fail)); cbv)
    | (refine QC.ff ?_ ?_; (focus (simp only [decide_true, Bool.and_true, Bool.and_self, decide_false, Bool.false_and, reduceCtorEq, not_false_eq_true] <;> fail)); cbv)
    | (refine QC.ff (by first | omega | (dsimp only; omega) | (simp only [sm] at *; omega)) ?_; cbv)
    | (refine QC.mk (fun hc => ?_) (fun hc => ?_) <;> (try dsimp only at hc) <;> cbv)
    | (refine br_mk2 (fun hb => ?_) (fun hb => ?_) <;> (try subst hb) <;> cbv)))
            refine Fin.mk ?_ rfl rfl
            rw [e1, e2, e3, hWk, ← hm2]
            show SV.tup [_, .lst (some 5) (O.st (S (cn i)) (cn i - 1) _), _] = _
            rw [ost]
            rfl
    · obtain ⟨e1, e2, e3⟩ := x2 rfl (htb0 rfl)
      refine Fin.mk ?_ rfl rfl
      rw [e1, e2, e3]
  · obtain ⟨e1, e2, e3⟩ := x1 rfl
    refine Fin.mk ?_ rfl rfl
    rw [e1, e2, e3]
end Go.Proofs.Ytjhicdoigllblaa
