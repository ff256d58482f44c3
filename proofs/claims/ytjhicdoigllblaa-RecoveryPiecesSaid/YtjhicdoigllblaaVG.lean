/- Contract of recovery.Next. -/
import Derived.Test.YtjhicdoigllblaaVF
namespace Go.Proofs.Ytjhicdoigllblaa
set_option linter.unusedVariables false
set_option linter.unusedSimpArgs false
open Go.RowKit
set_option maxHeartbeats 16000000
theorem missing_c (st tag ak rd un : Int) (R : List SV) :
    Good 52 (pu [.agg [.int .i64 st, .int .u8 tag, .lst none R, .int .u32 ak, .int .i64 rd, .int .i64 un]] (.clo 67 [.eptr (some 6) (.agg [.int .i64 st, .int .u8 tag, .lst none R, .int .u32 ak, .int .i64 rd, .int .i64 un]) 0])) := by
  refine Good.of Try.func52 rfl (by rfl) (by kernel_rfl) ?_
  cbv
  (repeat' (first
    | (refine q1 (by first | exact trivial | omega | (dsimp only; omega) | exact pow62 _ (by omega) | exact mul9 (by omega) (by omega) | (simp only [sm] at *; omega)) (fun z hz => ?_); (try simp only at hz); cbv)
    | (refine rq (by first | exact trivial | omega | (dsimp only; omega) | (simp only [sm] at *; omega)) ?_; cbv)
    | (refine QC.tt (by first | omega | (dsimp only; omega) | exact rfl | (simp only [sm] at *; omega)) ?_; cbv)
    | (refine QC.tt ?_ ?_; (focus (simp only [decide_true, Bool.and_true, Bool.and_self] <;> fail)); cbv)
    | (refine QC.ff ?_ ?_; (focus (simp only [decide_true, Bool.and_true, Bool.and_self, decide_false, Bool.false_and, reduceCtorEq, not_false_eq_true] <;> fail)); cbv)
    | (refine QC.ff (by first | omega | (dsimp only; omega) | (simp only [sm] at *; omega)) ?_; cbv)
    | (refine QC.mk (fun hc => ?_) (fun hc => ?_) <;> (try dsimp only at hc) <;> cbv)
    | (refine br_mk2 (fun hb => ?_) (fun hb => ?_) <;> (try subst hb) <;> cbv)))
  exact ⟨rfl, rfl, rfl⟩
theorem pce_at {tag : Int} {ps : List (List UInt8)} {ak : Int} {R : List SV} (hR : R = rowsB ps) {k i : Nat} (h : (opn ak ps.length)[k]? = some i) :
    ∃ (b : List UInt8) (B : List SV), ps[i]? = some b ∧ B = u8l b ∧ R[i]? = some (.lst none B) ∧ (misX ak 0 R)[k]? = some [.int .i64 (i : Int), .lst none B] ∧ pcL (pre tag ps ak (k + 1)) = pcL (pre tag ps ak k) ++ [.agg [.int .u8 tag, .int .i64 (i : Int), .int .i64 (ps.length : Int), .bool false, .lst none B]] := by
  obtain ⟨b, B, h1, h2, h3⟩ := rowsB_at hR i (opn_lt h).1
  refine ⟨b, B, h1, h2, h3, ?_, ?_⟩
  · rw [misX_eq]
    have hl : R.length = ps.length := by rw [hR, rowsB_len]
    have : ((List.range R.length).filter fun i => decide (ak / 2 ^ (0 + i) % 2 = 0)) = opn ak ps.length := by rw [hl, opn]; simp
    rw [this, List.getElem?_map, h]
    simp [h3]
  · rw [pre_succ _ _ _ _ _ h, pcL, List.map_append]
    have : ps.getD i [] = b := by rw [List.getD_eq_getElem?_getD, h1]; rfl
    rw [this, h2]
    rfl
theorem misX_opn (ak : Int) (ps : List (List UInt8)) (R : List SV) (hR : R = rowsB ps) : (misX ak 0 R).length = (opn ak ps.length).length := by
  rw [misX_eq]
  have hl : R.length = ps.length := by rw [hR, rowsB_len]
  rw [List.length_map, hl, opn]
  simp
theorem misX_shape (ak : Int) (ps : List (List UInt8)) (R : List SV) (hR : R = rowsB ps) : ∀ x ∈ misX ak 0 R, x.length = 2 ∧ datas x = true := by
  intro x hx
  obtain ⟨k, hk, rfl⟩ := List.mem_iff_getElem.1 hx
  have hk' : k < (opn ak ps.length).length := by rw [← misX_opn ak ps R hR]; exact hk
  obtain ⟨b, B, _, _, _, h, _⟩ := pce_at (tag := 0) hR (List.getElem?_eq_getElem hk')
  rw [List.getElem?_eq_getElem hk] at h
  injection h with h
  rw [h]
  exact ⟨rfl, rfl⟩
/-- The last piece of those sent is marked. -/
theorem pre_mark {tag : Int} {ps : List (List UInt8)} {ak : Int} {R : List SV} (hR : R = rowsB ps) {k : Nat} (h : k + 1 ≤ (opn ak ps.length).length) :
    ∃ (i : Nat) (B : List SV), (pcL (pre tag ps ak (k + 1)))[k]? = some (.agg [.int .u8 tag, .int .i64 (i : Int), .int .i64 (ps.length : Int), .bool false, .lst none B]) ∧
      (pcL (pre tag ps ak (k + 1))).set k (.agg [.int .u8 tag, .int .i64 (i : Int), .int .i64 (ps.length : Int), .bool true, .lst none B]) = pcL (mark (pre tag ps ak (k + 1))) := by
  have hk : (opn ak ps.length)[k]? = some (opn ak ps.length)[k] := List.getElem?_eq_getElem (by omega)
  have hs := pre_succ tag ps ak k _ hk
  have hl : (pre tag ps ak k).length = k := pre_len _ _ _ _ (by omega)
  have hg : (pre tag ps ak (k + 1))[k]? = some ⟨tag, ((opn ak ps.length)[k] : Nat), ps.length, false, ps.getD (opn ak ps.length)[k] []⟩ := by
    rw [hs, List.getElem?_append_right (by omega), hl]; simp
  refine ⟨(opn ak ps.length)[k], u8l (ps.getD (opn ak ps.length)[k] []), ?_, ?_⟩
  · rw [pcL, List.getElem?_map, hg]; rfl
  · rw [← mark_set _ k _ (by rw [pre_len _ _ _ _ h]) hg, pcL, pcL, List.map_set]
    rfl
set_option maxRecDepth 4000 in
theorem nx_c (st tag ak rd un : Int) (ps : List (List UInt8)) (R : List SV) (hR : R = rowsB ps) (hf : Snd.fits ⟨st, tag, ps, ak, rd, un⟩) (b : Bool) (hb : b = true ↔ VS ⟨st, tag, ps, ak, rd, un⟩) (now : Int) (hnow : -9223372036854775808 ≤ now ∧ now ≤ 9223372036854775807)
    (X : SV) (l : List Pce) (L : List SV) (hL : L = pcL l) (e : Int) (hX : nextX ⟨st, tag, ps, ak, rd, un⟩ b now = (X, l, e)) :
    Good 15 (pu [.agg [.int .i64 st, .int .u8 tag, .lst none R, .int .u32 ak, .int .i64 rd, .int .i64 un], .int .i64 now] (.tup [X, .lst (some 5) L, .int .i64 e])) := by
  have hRl : R.length = ps.length := by rw [hR, rowsB_len]
  have hfb := hf.b
  have hfn := hf.n
  have hak := hf.ak
  have g1 := vsender_c st tag ak rd un ps R hR hf b hb
  have g2 := clonedPieces_c ps R hR hf.n hf.b
  have gm := fun rd' un' => missing_c st tag ak rd' un' R
  have hv := fun h : b = true => hb.1 h
  have gq := fun (rd' un' : Int) (hn : ps.length ≤ 32) => missing1_q st tag rd' un' ak R (by have := hak; dsimp only at this; omega) (by omega)
  have hxs := misX_shape ak ps R hR
  obtain ⟨W, hW⟩ : ∃ W, W = (opn ak ps.length).length := ⟨_, rfl⟩
  have hxl := misX_opn ak ps R hR
  rw [← hW] at hxl
  have hpos : b = true → st = 1 → 1 ≤ W := fun h hst => by
    have v := hv h
    rw [hW]
    refine opn_pos hak.1 v.ak fun he => ?_
    have := v.d he
    dsimp only at this
    omega
  have hn32 : b = true → ps.length ≤ 32 := fun h => (hv h).n2
  have hrd : b = true → 0 ≤ rd ∧ rd ≤ 8 := fun h => ⟨(hv h).r1, (hv h).r2⟩
  obtain ⟨S, hS⟩ : ∃ S : Nat → List SV, ∀ k, S k = pcL (pre tag ps ak k) := ⟨_, fun _ => rfl⟩
  obtain ⟨iF, hiF⟩ : ∃ iF : Nat → Nat, ∀ k, iF k = (opn ak ps.length).getD k 0 := ⟨_, fun _ => rfl⟩
  obtain ⟨bF, hbF⟩ : ∃ bF : Nat → List UInt8, ∀ k, bF k = ps.getD (iF k) [] := ⟨_, fun _ => rfl⟩
  obtain ⟨BF, hBF⟩ : ∃ BF : Nat → List SV, ∀ k, BF k = u8l (bF k) := ⟨_, fun _ => rfl⟩
  have hS1 : ∀ (k : Nat) (x : List SV), (misX ak 0 R)[k]? = some x → x = [.int .i64 (iF k : Int), .lst none (BF k)] ∧ k < W ∧ iF k < ps.length ∧ (bF k).length ≤ 140737488351232 ∧ S (k + 1) = S k ++ [.agg [.int .u8 tag, .int .i64 (iF k : Int), .int .i64 (ps.length : Int), .bool false, .lst none (BF k)]] := fun k x hx => by
    have hk : k < (opn ak ps.length).length := by have := (List.getElem?_eq_some_iff.1 hx).1; omega
    have hki := List.getElem?_eq_getElem hk
    have hik : iF k = (opn ak ps.length)[k] := by rw [hiF, List.getD_eq_getElem?_getD, hki]; rfl
    obtain ⟨b, B, h1, h2, h3, h4, h5⟩ := pce_at (tag := tag) hR hki
    have hb : bF k = b := by rw [hbF, hik, List.getD_eq_getElem?_getD, h1]; rfl
    have hB : BF k = B := by rw [hBF, hb, h2]
    rw [hx] at h4
    injection h4 with h4
    rw [hik, hB, hb]
    exact ⟨h4, by omega, (opn_lt hki).1, hfb b (List.mem_of_getElem? h1), by rw [hS, hS]; exact h5⟩
  clear hiF hbF
  have hS0 : S 0 = [] := by rw [hS]; rfl
  have hSl : ∀ k, k ≤ W → (S k).length = k := fun k hk => by rw [hS, pcL_len, pre_len _ _ _ _ (by omega)]
  obtain ⟨F, hF⟩ : ∃ F : Nat → List SV, ∀ k, F k = pcL (mark (pre tag ps ak k)) := ⟨_, fun _ => rfl⟩
  have hSm0 : ∀ k, k + 1 ≤ W → ∃ (i : Nat) (B : List SV), (S (k + 1))[k]? = some (.agg [.int .u8 tag, .int .i64 (i : Int), .int .i64 (ps.length : Int), .bool false, .lst none B]) ∧ (S (k + 1)).set k (.agg [.int .u8 tag, .int .i64 (i : Int), .int .i64 (ps.length : Int), .bool true, .lst none B]) = F (k + 1) := fun k hk => by
    rw [hS, hF]; exact pre_mark hR (by omega)
  obtain ⟨N, hN⟩ : ∃ N : Int, N = ps.length := ⟨_, rfl⟩
  rw [← hN] at hSm0
  obtain ⟨iM, BM, hSm⟩ : ∃ (iM : Nat → Nat) (BM : Nat → List SV), ∀ k, 1 ≤ k → k ≤ W → (S k)[k - 1]? = some (.agg [.int .u8 tag, .int .i64 (iM k : Int), .int .i64 N, .bool false, .lst none (BM k)]) ∧ (S k).set (k - 1) (.agg [.int .u8 tag, .int .i64 (iM k : Int), .int .i64 N, .bool true, .lst none (BM k)]) = F k := by
    have : ∀ k, ∃ (i : Nat) (B : List SV), 1 ≤ k → k ≤ W → (S k)[k - 1]? = some (.agg [.int .u8 tag, .int .i64 (i : Int), .int .i64 N, .bool false, .lst none B]) ∧ (S k).set (k - 1) (.agg [.int .u8 tag, .int .i64 (i : Int), .int .i64 N, .bool true, .lst none B]) = F k := fun k => by
      by_cases h : 1 ≤ k ∧ k ≤ W
      · obtain ⟨i, B, h1, h2⟩ := hSm0 (k - 1) (by omega)
        rw [show k - 1 + 1 = k by omega] at h1 h2
        exact ⟨i, B, fun _ _ => ⟨h1, h2⟩⟩
      · exact ⟨0, [], fun a b => absurd ⟨a, b⟩ h⟩
    exact ⟨fun k => Classical.choose (this k), fun k => Classical.choose (Classical.choose_spec (this k)), fun k => Classical.choose_spec (Classical.choose_spec (this k))⟩
  clear hSm0
  have x1 : b = false → X = .agg [.int .i64 0, .int .u8 0, .nil, .int .u32 0, .int .i64 0, .int .i64 0] ∧ L = [] ∧ e = 1 := fun h => by
    unfold nextX at hX; rw [if_pos h] at hX; obtain ⟨a1, a2⟩ := Prod.mk.inj hX; obtain ⟨a2, a3⟩ := Prod.mk.inj a2; exact ⟨a1.symm, by rw [hL, ← a2]; rfl, a3.symm⟩
  have x2 : b = true → now < 0 ∨ 1099511627776 < now → X = .agg [.int .i64 0, .int .u8 0, .nil, .int .u32 0, .int .i64 0, .int .i64 0] ∧ L = [] ∧ e = 2 := fun h h2 => by
    unfold nextX at hX; rw [if_neg (by rw [h]; simp), if_pos h2] at hX; obtain ⟨a1, a2⟩ := Prod.mk.inj hX; obtain ⟨a2, a3⟩ := Prod.mk.inj a2; exact ⟨a1.symm, by rw [hL, ← a2]; rfl, a3.symm⟩
  have x3 : b = true → ¬ (now < 0 ∨ 1099511627776 < now) → st ≠ 1 ∨ now < un → X = .agg [.int .i64 st, .int .u8 tag, .lst none R, .int .u32 ak, .int .i64 rd, .int .i64 un] ∧ L = [] ∧ e = 0 := fun h h2 h3 => by
    unfold nextX at hX; rw [if_neg (by rw [h]; simp), if_neg h2, if_pos h3] at hX; obtain ⟨a1, a2⟩ := Prod.mk.inj hX; obtain ⟨a2, a3⟩ := Prod.mk.inj a2; exact ⟨by rw [← a1, hR]; rfl, by rw [hL, ← a2]; rfl, a3.symm⟩
  have x4 : b = true → ¬ (now < 0 ∨ 1099511627776 < now) → ¬ (st ≠ 1 ∨ now < un) → rd = 8 → X = .agg [.int .i64 3, .int .u8 tag, .lst none R, .int .u32 ak, .int .i64 rd, .int .i64 un] ∧ L = [] ∧ e = 0 := fun h h2 h3 h4 => by
    unfold nextX at hX; rw [if_neg (by rw [h]; simp), if_neg h2, if_neg h3, if_pos h4] at hX; obtain ⟨a1, a2⟩ := Prod.mk.inj hX; obtain ⟨a2, a3⟩ := Prod.mk.inj a2; exact ⟨by rw [← a1, hR]; rfl, by rw [hL, ← a2]; rfl, a3.symm⟩
  have x5 : b = true → ¬ (now < 0 ∨ 1099511627776 < now) → ¬ (st ≠ 1 ∨ now < un) → ¬ rd = 8 → X = .agg [.int .i64 st, .int .u8 tag, .lst none R, .int .u32 ak, .int .i64 (rd + 1), .int .i64 (min (now + 8) 1099511627776)] ∧ L = F (min W 8) ∧ e = 0 := fun h h2 h3 h4 => by
    unfold nextX at hX; rw [if_neg (by rw [h]; simp), if_neg h2, if_neg h3, if_neg h4] at hX; obtain ⟨a1, a2⟩ := Prod.mk.inj hX; obtain ⟨a2, a3⟩ := Prod.mk.inj a2; exact ⟨by rw [← a1, hR]; rfl, by rw [hF, hW, hL, ← a2], a3.symm⟩
  clear hX hb hv hS hF hW
  refine Good.of Try.func15 rfl (by rfl) (by kernel_rfl) ?_
  cbv
  have hmk : True := trivial
  (repeat' (first
    | (refine q1 (by first | exact trivial | omega | (dsimp only; omega) | exact pow62 _ (by omega) | exact mul9 (by omega) (by omega) | (simp only [sm] at *; omega)) (fun z hz => ?_); (try simp only at hz); cbv)
    | (refine rq (by first | exact trivial | omega | (dsimp only; omega) | (simp only [sm] at *; omega)) ?_; cbv)
    | (refine QC.tt (by first | omega | (dsimp only; omega) | exact rfl | (simp only [sm] at *; omega)) ?_; cbv)
    | (refine QC.tt ?_ ?_; (focus (simp only [decide_true, Bool.and_true, Bool.and_self] <;> fail)); cbv)
    | (refine QC.ff ?_ ?_; (focus (simp only [decide_true, Bool.and_true, Bool.and_self, decide_false, Bool.false_and, reduceCtorEq, not_false_eq_true] <;> fail)); cbv)
    | (refine QC.ff (by first | omega | (dsimp only; omega) | (simp only [sm] at *; omega)) ?_; cbv)
    | (refine QC.mk (fun hc => ?_) (fun hc => ?_) <;> (try dsimp only at hc) <;> cbv)
    | (refine br_mk2 (fun hb => ?_) (fun hb => ?_) <;> (try subst hb) <;> cbv)))
  (refine callq (g1) rfl rfl ?_; cbv; (repeat' (first
    | (refine q1 (by first | exact trivial | omega | (dsimp only; omega) | exact pow62 _ (by omega) | exact mul9 (by omega) (by omega) | (simp only [sm] at *; omega)) (fun z hz => ?_); (try simp only at hz); cbv)
    | (refine rq (by first | exact trivial | omega | (dsimp only; omega) | (simp only [sm] at *; omega)) ?_; cbv)
    | (refine QC.tt (by first | omega | (dsimp only; omega) | exact rfl | (simp only [sm] at *; omega)) ?_; cbv)
    | (refine QC.tt ?_ ?_; (focus (simp only [decide_true, Bool.and_true, Bool.and_self] <;> fail)); cbv)
    | (refine QC.ff ?_ ?_; (focus (simp only [decide_true, Bool.and_true, Bool.and_self, decide_false, Bool.false_and, reduceCtorEq, not_false_eq_true] <;> fail)); cbv)
    | (refine QC.ff (by first | omega | (dsimp only; omega) | (simp only [sm] at *; omega)) ?_; cbv)
    | (refine QC.mk (fun hc => ?_) (fun hc => ?_) <;> (try dsimp only at hc) <;> cbv)
    | (refine br_mk2 (fun hb => ?_) (fun hb => ?_) <;> (try subst hb) <;> cbv))))
  · obtain ⟨e1, e2, e3⟩ := x2 rfl (.inl hc)
    refine Fin.mk ?_ rfl rfl
    rw [e1, e2, e3]
  · obtain ⟨e1, e2, e3⟩ := x2 rfl (.inr hc)
    refine Fin.mk ?_ rfl rfl
    rw [e1, e2, e3]
  · rename_i h1
    have ht : ¬ (now < 0 ∨ 1099511627776 < now) := by omega
    have x3 := x3 rfl ht
    have x4 := x4 rfl ht
    have x5 := x5 rfl ht
    have hpos := hpos rfl
    have hn32 := hn32 rfl
    have hrd := hrd rfl
    clear x1 x2
    (refine callq (g2) rfl rfl ?_; cbv; (repeat' (first
    | (refine q1 (by first | exact trivial | omega | (dsimp only; omega) | exact pow62 _ (by omega) | exact mul9 (by omega) (by omega) | (simp only [sm] at *; omega)) (fun z hz => ?_); (try simp only at hz); cbv)
    | (refine rq (by first | exact trivial | omega | (dsimp only; omega) | (simp only [sm] at *; omega)) ?_; cbv)
    | (refine QC.tt (by first | omega | (dsimp only; omega) | exact rfl | (simp only [sm] at *; omega)) ?_; cbv)
    | (refine QC.tt ?_ ?_; (focus (simp only [decide_true, Bool.and_true, Bool.and_self] <;> fail)); cbv)
    | (refine QC.ff ?_ ?_; (focus (simp only [decide_true, Bool.and_true, Bool.and_self, decide_false, Bool.false_and, reduceCtorEq, not_false_eq_true] <;> fail)); cbv)
    | (refine QC.ff (by first | omega | (dsimp only; omega) | (simp only [sm] at *; omega)) ?_; cbv)
    | (refine QC.mk (fun hc => ?_) (fun hc => ?_) <;> (try dsimp only at hc) <;> cbv)
    | (refine br_mk2 (fun hb => ?_) (fun hb => ?_) <;> (try subst hb) <;> cbv))))
    · obtain ⟨e1, e2, e3⟩ := x3 (.inl hc)
      refine Fin.mk ?_ rfl rfl
      rw [e1, e2, e3]
    · obtain ⟨e1, e2, e3⟩ := x3 (.inr hc)
      refine Fin.mk ?_ rfl rfl
      rw [e1, e2, e3]
    · rename_i h2 h3
      obtain ⟨e1, e2, e3⟩ := x4 (by omega) hc
      refine Fin.mk ?_ rfl rfl
      rw [e1, e2, e3]
    · rename_i h2 h3 h4 z1 hz1 z2 hz2
      have x5 := x5 (by omega) hc
      have hpos := hpos (by omega)
      clear x3 x4
      have gm := gm z1 z
      (refine callq (gm) rfl rfl ?_; cbv; (repeat' (first
    | (refine q1 (by first | exact trivial | omega | (dsimp only; omega) | exact pow62 _ (by omega) | exact mul9 (by omega) (by omega) | (simp only [sm] at *; omega)) (fun z hz => ?_); (try simp only at hz); cbv)
    | (refine rq (by first | exact trivial | omega | (dsimp only; omega) | (simp only [sm] at *; omega)) ?_; cbv)
    | (refine QC.tt (by first | omega | (dsimp only; omega) | exact rfl | (simp only [sm] at *; omega)) ?_; cbv)
    | (refine QC.tt ?_ ?_; (focus (simp only [decide_true, Bool.and_true, Bool.and_self] <;> fail)); cbv)
    | (refine QC.ff ?_ ?_; (focus (simp only [decide_true, Bool.and_true, Bool.and_self, decide_false, Bool.false_and, reduceCtorEq, not_false_eq_true] <;> fail)); cbv)
    | (refine QC.ff (by first | omega | (dsimp only; omega) | (simp only [sm] at *; omega)) ?_; cbv)
    | (refine QC.mk (fun hc => ?_) (fun hc => ?_) <;> (try dsimp only at hc) <;> cbv)
    | (refine br_mk2 (fun hb => ?_) (fun hb => ?_) <;> (try subst hb) <;> cbv))))
      obtain ⟨e1, e2, e3⟩ := x5
      rw [← hz2, ← hz, ← hz1] at e1
      have gq := gq z1 z hn32
      clear gm g1
      refine rangeQ (misX ak 0 R) gq hxs (A := Option Nat) (fun p => match p with | none => True | some k => 1 ≤ k ∧ k ≤ W ∧ k ≤ 8) (fun p => match p with | none => 0 | some k => k) (fun p => [])
        (fun p => match p with | none => [(7, .chunk 36 .nil)] | some k => [(7, .chunk 36 (.row 66)), (66, .row (some 5) 51 (S k))]) none ⟨trivial, rfl⟩ ?_ ?_ ?_
      · cbv
        try trace_state
      · intro p x hp hx
        cases p with
        | none =>
          have hx1 := hS1 0 x hx
          have hxe := hx1.1
          subst hxe
          have hkW := hx1.2.1
          have hi := hx1.2.2.1
          have hbl := hx1.2.2.2.1
          have hSs := hx1.2.2.2.2
          clear hp hx hx1
          have g3 := cloned_c (bF 0) (BF 0) (hBF 0) hbl
          have hmz : True := trivial
          cbv
          (repeat' (first
    | (refine q1 (by first | exact trivial | omega | (dsimp only; omega) | exact pow62 _ (by omega) | exact mul9 (by omega) (by omega) | (simp only [sm] at *; omega)) (fun z hz => ?_); (try simp only at hz); cbv)
    | (refine rq (by first | exact trivial | omega | (dsimp only; omega) | (simp only [sm] at *; omega)) ?_; cbv)
    | (refine QC.tt (by first | omega | (dsimp only; omega) | exact rfl | (simp only [sm] at *; omega)) ?_; cbv)
    | (refine QC.tt ?_ ?_; (focus (simp only [decide_true, Bool.and_true, Bool.and_self] <;> fail)); cbv)
    | (refine QC.ff ?_ ?_; (focus (simp only [decide_true, Bool.and_true, Bool.and_self, decide_false, Bool.false_and, reduceCtorEq, not_false_eq_true] <;> fail)); cbv)
    | (refine QC.ff (by first | omega | (dsimp only; omega) | (simp only [sm] at *; omega)) ?_; cbv)
    | (refine QC.mk (fun hc => ?_) (fun hc => ?_) <;> (try dsimp only at hc) <;> cbv)
    | (refine br_mk2 (fun hb => ?_) (fun hb => ?_) <;> (try subst hb) <;> cbv)))
          (refine callq (g3) rfl rfl ?_; cbv; (repeat' (first
    | (refine q1 (by first | exact trivial | omega | (dsimp only; omega) | exact pow62 _ (by omega) | exact mul9 (by omega) (by omega) | (simp only [sm] at *; omega)) (fun z hz => ?_); (try simp only at hz); cbv)
    | (refine rq (by first | exact trivial | omega | (dsimp only; omega) | (simp only [sm] at *; omega)) ?_; cbv)
    | (refine QC.tt (by first | omega | (dsimp only; omega) | exact rfl | (simp only [sm] at *; omega)) ?_; cbv)
    | (refine QC.tt ?_ ?_; (focus (simp only [decide_true, Bool.and_true, Bool.and_self] <;> fail)); cbv)
    | (refine QC.ff ?_ ?_; (focus (simp only [decide_true, Bool.and_true, Bool.and_self, decide_false, Bool.false_and, reduceCtorEq, not_false_eq_true] <;> fail)); cbv)
    | (refine QC.ff (by first | omega | (dsimp only; omega) | (simp only [sm] at *; omega)) ?_; cbv)
    | (refine QC.mk (fun hc => ?_) (fun hc => ?_) <;> (try dsimp only at hc) <;> cbv)
    | (refine br_mk2 (fun hb => ?_) (fun hb => ?_) <;> (try subst hb) <;> cbv))))
          refine ⟨some 1, ⟨Nat.le_refl _, by show 1 ≤ W; omega, by show 1 ≤ 8; omega⟩, rfl, ?_⟩
          cbv
          refine ⟨?_, trivial⟩
          show Blk.row (some 5) 51 [.agg [.int .u8 tag, .int .i64 (iF 0 : Int), .int .i64 z, .bool false, .lst none (BF 0)]] = .row (some 5) 51 (S (0 + 1))
          rw [hSs, hS0, show z = (ps.length : Int) by (first | omega | (simp only [cst] at *; omega) | (simp only [sm] at *; omega))]
          rfl
        | some k =>
          have hk1 : 1 ≤ k := hp.1
          have hkW : k ≤ W := hp.2.1
          have hk8 : k ≤ 8 := hp.2.2
          have hx1 := hS1 k x hx
          have hxe := hx1.1
          subst hxe
          have hkW2 := hx1.2.1
          have hi := hx1.2.2.1
          have hbl := hx1.2.2.2.1
          have hSs := hx1.2.2.2.2
          have hSlk := hSl k hkW
          clear hp hx hx1
          have g3 := cloned_c (bF k) (BF k) (hBF k) hbl
          have hmz : True := trivial
          cbv
          (repeat' (first
    | (refine q1 (by first | exact trivial | omega | (dsimp only; omega) | exact pow62 _ (by omega) | exact mul9 (by omega) (by omega) | (simp only [sm] at *; omega)) (fun z hz => ?_); (try simp only at hz); cbv)
    | (refine rq (by first | exact trivial | omega | (dsimp only; omega) | (simp only [sm] at *; omega)) ?_; cbv)
    | (refine QC.tt (by first | omega | (dsimp only; omega) | exact rfl | (simp only [sm] at *; omega)) ?_; cbv)
    | (refine QC.tt ?_ ?_; (focus (simp only [decide_true, Bool.and_true, Bool.and_self] <;> fail)); cbv)
    | (refine QC.ff ?_ ?_; (focus (simp only [decide_true, Bool.and_true, Bool.and_self, decide_false, Bool.false_and, reduceCtorEq, not_false_eq_true] <;> fail)); cbv)
    | (refine QC.ff (by first | omega | (dsimp only; omega) | (simp only [sm] at *; omega)) ?_; cbv)
    | (refine QC.mk (fun hc => ?_) (fun hc => ?_) <;> (try dsimp only at hc) <;> cbv)
    | (refine br_mk2 (fun hb => ?_) (fun hb => ?_) <;> (try subst hb) <;> cbv)))
          · have hkk : k = 8 := by (first | omega | (simp only [cst] at *; omega) | (simp only [sm] at *; omega))
            have hWk : min W 8 = k := by omega
            have hm1 := (hSm k hk1 hkW).1
            have hm2 := (hSm k hk1 hkW).2
            skip
            refine qv (k - 1) ⟨by (first | omega | (simp only [cst] at *; omega) | (simp only [sm] at *; omega)), by rw [oln]; omega⟩ ?_
            cbv
            (repeat' (first
    | (refine q1 (by first | exact trivial | omega | (dsimp only; omega) | exact pow62 _ (by omega) | exact mul9 (by omega) (by omega) | (simp only [sm] at *; omega)) (fun z hz => ?_); (try simp only at hz); cbv)
    | (refine rq (by first | exact trivial | omega | (dsimp only; omega) | (simp only [sm] at *; omega)) ?_; cbv)
    | (refine QC.tt (by first | omega | (dsimp only; omega) | exact rfl | (simp only [sm] at *; omega)) ?_; cbv)
    | (refine QC.tt ?_ ?_; (focus (simp only [decide_true, Bool.and_true, Bool.and_self] <;> fail)); cbv)
    | (refine QC.ff ?_ ?_; (focus (simp only [decide_true, Bool.and_true, Bool.and_self, decide_false, Bool.false_and, reduceCtorEq, not_false_eq_true] <;> fail)); cbv)
    | (refine QC.ff (by first | omega | (dsimp only; omega) | (simp only [sm] at *; omega)) ?_; cbv)
    | (refine QC.mk (fun hc => ?_) (fun hc => ?_) <;> (try dsimp only at hc) <;> cbv)
    | (refine br_mk2 (fun hb => ?_) (fun hb => ?_) <;> (try subst hb) <;> cbv)))
            refine qv _ ⟨hm1, by simp⟩ ?_
            cbv
            (repeat' (first
    | (refine q1 (by first | exact trivial | omega | (dsimp only; omega) | exact pow62 _ (by omega) | exact mul9 (by omega) (by omega) | (simp only [sm] at *; omega)) (fun z hz => ?_); (try simp only at hz); cbv)
    | (refine rq (by first | exact trivial | omega | (dsimp only; omega) | (simp only [sm] at *; omega)) ?_; cbv)
    | (refine QC.tt (by first | omega | (dsimp only; omega) | exact rfl | (simp only [sm] at *; omega)) ?_; cbv)
    | (refine QC.tt ?_ ?_; (focus (simp only [decide_true, Bool.and_true, Bool.and_self] <;> fail)); cbv)
    | (refine QC.ff ?_ ?_; (focus (simp only [decide_true, Bool.and_true, Bool.and_self, decide_false, Bool.false_and, reduceCtorEq, not_false_eq_true] <;> fail)); cbv)
    | (refine QC.ff (by first | omega | (dsimp only; omega) | (simp only [sm] at *; omega)) ?_; cbv)
    | (refine QC.mk (fun hc => ?_) (fun hc => ?_) <;> (try dsimp only at hc) <;> cbv)
    | (refine br_mk2 (fun hb => ?_) (fun hb => ?_) <;> (try subst hb) <;> cbv)))
            refine Fin.mk ?_ rfl rfl
            rw [e1, e2, e3, hWk, ← hm2]
            show SV.tup [_, .lst (some 5) (O.st (S k) (k - 1) _), _] = _
            rw [ost]
            rfl
          · (refine callq (g3) rfl rfl ?_; cbv; (repeat' (first
    | (refine q1 (by first | exact trivial | omega | (dsimp only; omega) | exact pow62 _ (by omega) | exact mul9 (by omega) (by omega) | (simp only [sm] at *; omega)) (fun z hz => ?_); (try simp only at hz); cbv)
    | (refine rq (by first | exact trivial | omega | (dsimp only; omega) | (simp only [sm] at *; omega)) ?_; cbv)
    | (refine QC.tt (by first | omega | (dsimp only; omega) | exact rfl | (simp only [sm] at *; omega)) ?_; cbv)
    | (refine QC.tt ?_ ?_; (focus (simp only [decide_true, Bool.and_true, Bool.and_self] <;> fail)); cbv)
    | (refine QC.ff ?_ ?_; (focus (simp only [decide_true, Bool.and_true, Bool.and_self, decide_false, Bool.false_and, reduceCtorEq, not_false_eq_true] <;> fail)); cbv)
    | (refine QC.ff (by first | omega | (dsimp only; omega) | (simp only [sm] at *; omega)) ?_; cbv)
    | (refine QC.mk (fun hc => ?_) (fun hc => ?_) <;> (try dsimp only at hc) <;> cbv)
    | (refine br_mk2 (fun hb => ?_) (fun hb => ?_) <;> (try subst hb) <;> cbv))))
            have hkk : k ≠ 8 := by (first | omega | (simp only [cst] at *; omega) | (simp only [sm] at *; omega))
            refine ⟨some (k + 1), ⟨by show 1 ≤ k + 1; omega, by show k + 1 ≤ W; omega, by show k + 1 ≤ 8; omega⟩, rfl, ?_⟩
            cbv
            refine ⟨?_, trivial⟩
            show Blk.row (some 5) 51 (apL (S k) [.agg [.int .u8 tag, .int .i64 (iF k : Int), .int .i64 z, .bool false, .lst none (BF k)]]) = .row (some 5) 51 (S (k + 1))
            rw [apL_eq, hSs, show z = (ps.length : Int) by (first | omega | (simp only [cst] at *; omega) | (simp only [sm] at *; omega))]
      · intro p hp hps
        cases p with
        | none =>
          have hps' : 0 = (misX ak 0 R).length := hps
          have hWk : 0 = W := by rw [← hxl]; exact hps'
          clear hp hps hps'
          cbv
          exfalso
          (first | omega | (simp only [cst] at *; omega) | (simp only [sm] at *; omega))
        | some k =>
          have hk1 : 1 ≤ k := hp.1
          have hkW : k ≤ W := hp.2.1
          have hk8 : k ≤ 8 := hp.2.2
          have hps' : k = (misX ak 0 R).length := hps
          have hSlk := hSl k hkW
          have hWk : min W 8 = k := by omega
          have hm1 := (hSm k hk1 hkW).1
          have hm2 := (hSm k hk1 hkW).2
          clear hp hps
          have hmz : True := trivial
          cbv
          (repeat' (first
    | (refine q1 (by first | exact trivial | omega | (dsimp only; omega) | exact pow62 _ (by omega) | exact mul9 (by omega) (by omega) | (simp only [sm] at *; omega)) (fun z hz => ?_); (try simp only at hz); cbv)
    | (refine rq (by first | exact trivial | omega | (dsimp only; omega) | (simp only [sm] at *; omega)) ?_; cbv)
    | (refine QC.tt (by first | omega | (dsimp only; omega) | exact rfl | (simp only [sm] at *; omega)) ?_; cbv)
    | (refine QC.tt ?_ ?_; (focus (simp only [decide_true, Bool.and_true, Bool.and_self] <;> fail)); cbv)
    | (refine QC.ff ?_ ?_; (focus (simp only [decide_true, Bool.and_true, Bool.and_self, decide_false, Bool.false_and, reduceCtorEq, not_false_eq_true] <;> fail)); cbv)
    | (refine QC.ff (by first | omega | (dsimp only; omega) | (simp only [sm] at *; omega)) ?_; cbv)
    | (refine QC.mk (fun hc => ?_) (fun hc => ?_) <;> (try dsimp only at hc) <;> cbv)
    | (refine br_mk2 (fun hb => ?_) (fun hb => ?_) <;> (try subst hb) <;> cbv)))
          refine qv (k - 1) ⟨by (first | omega | (simp only [cst] at *; omega) | (simp only [sm] at *; omega)), by rw [oln]; omega⟩ ?_
          cbv
          (repeat' (first
    | (refine q1 (by first | exact trivial | omega | (dsimp only; omega) | exact pow62 _ (by omega) | exact mul9 (by omega) (by omega) | (simp only [sm] at *; omega)) (fun z hz => ?_); (try simp only at hz); cbv)
    | (refine rq (by first | exact trivial | omega | (dsimp only; omega) | (simp only [sm] at *; omega)) ?_; cbv)
    | (refine QC.tt (by first | omega | (dsimp only; omega) | exact rfl | (simp only [sm] at *; omega)) ?_; cbv)
    | (refine QC.tt ?_ ?_; (focus (simp only [decide_true, Bool.and_true, Bool.and_self] <;> fail)); cbv)
    | (refine QC.ff ?_ ?_; (focus (simp only [decide_true, Bool.and_true, Bool.and_self, decide_false, Bool.false_and, reduceCtorEq, not_false_eq_true] <;> fail)); cbv)
    | (refine QC.ff (by first | omega | (dsimp only; omega) | (simp only [sm] at *; omega)) ?_; cbv)
    | (refine QC.mk (fun hc => ?_) (fun hc => ?_) <;> (try dsimp only at hc) <;> cbv)
    | (refine br_mk2 (fun hb => ?_) (fun hb => ?_) <;> (try subst hb) <;> cbv)))
          refine qv _ ⟨hm1, by simp⟩ ?_
          cbv
          (repeat' (first
    | (refine q1 (by first | exact trivial | omega | (dsimp only; omega) | exact pow62 _ (by omega) | exact mul9 (by omega) (by omega) | (simp only [sm] at *; omega)) (fun z hz => ?_); (try simp only at hz); cbv)
    | (refine rq (by first | exact trivial | omega | (dsimp only; omega) | (simp only [sm] at *; omega)) ?_; cbv)
    | (refine QC.tt (by first | omega | (dsimp only; omega) | exact rfl | (simp only [sm] at *; omega)) ?_; cbv)
    | (refine QC.tt ?_ ?_; (focus (simp only [decide_true, Bool.and_true, Bool.and_self] <;> fail)); cbv)
    | (refine QC.ff ?_ ?_; (focus (simp only [decide_true, Bool.and_true, Bool.and_self, decide_false, Bool.false_and, reduceCtorEq, not_false_eq_true] <;> fail)); cbv)
    | (refine QC.ff (by first | omega | (dsimp only; omega) | (simp only [sm] at *; omega)) ?_; cbv)
    | (refine QC.mk (fun hc => ?_) (fun hc => ?_) <;> (try dsimp only at hc) <;> cbv)
    | (refine br_mk2 (fun hb => ?_) (fun hb => ?_) <;> (try subst hb) <;> cbv)))
          refine Fin.mk ?_ rfl rfl
          rw [e1, e2, e3, hWk, ← hm2]
          show SV.tup [_, .lst (some 5) (O.st (S k) (k - 1) _), _] = _
          rw [ost]
          rfl
  · obtain ⟨e1, e2, e3⟩ := x1 rfl
    refine Fin.mk ?_ rfl rfl
    rw [e1, e2, e3]
end Go.Proofs.Ytjhicdoigllblaa
