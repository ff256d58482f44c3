/- The walk of the law RecoveryFails. -/
import Derived.Test.YtjhicdoigllblaaVL
namespace Go.Proofs.Ytjhicdoigllblaa
set_option linter.unusedVariables false
set_option linter.unusedSimpArgs false
open Go.RowKit
set_option maxHeartbeats 16000000
set_option maxRecDepth 4000 in
theorem fails_c (zs : List Int) (n : Int) (hz : ∀ v ∈ zs, -9223372036854775808 ≤ v ∧ v ≤ 9223372036854775807) (hn : -9223372036854775808 ≤ n ∧ n ≤ 9223372036854775807) :
    Good 4 (pu [.lst none (ints .i64 zs), .int .i64 n] (.bool true)) := by
  obtain ⟨T, hT⟩ : ∃ T, T = (ints .i64 zs).take 400 := ⟨_, rfl⟩
  have h0 := new_c (ints .i64 zs) T hT
  have t0 : Tp T 0 := hT ▸ tape1 zs hz
  have hm := mod_c n 200 hn (by omega)
  obtain ⟨N0, hN0⟩ : ∃ N, N = n % 200 := ⟨_, rfl⟩
  rw [← hN0] at hm
  have hN1 : 0 ≤ N0 ∧ N0 < 200 := by omega
  obtain ⟨N, hN⟩ : ∃ N, N = 1 + N0 := ⟨_, rfl⟩
  obtain ⟨R0, ys, a1, hR0, hyl, hy, t1, g1⟩ := fill_e t0 N (by omega)
  obtain ⟨bs, hbs, hbl⟩ := u8l_of ys hy
  have hRb : R0 = u8l bs := hR0.trans hbs
  obtain ⟨q1', P0⟩ := beg_ok bs 3 8 (by omega) (by omega) (by omega) (by omega)
  obtain ⟨ps, hps⟩ : ∃ ps, ps = chk 8 bs (nPc bs.length 8) := ⟨_, rfl⟩
  rw [← hps] at q1' P0
  obtain ⟨R, hR⟩ : ∃ R, R = rowsB ps := ⟨_, rfl⟩
  have g2 := begin_p bs R0 hRb (by omega) 3 12 (by omega) ⟨1, 3, ps, 0, 0, 0⟩ R hR 0 q1'
  have ha : (0 : Int) ≤ 0 ∧ 0 < allI ps.length := ⟨by omega, by have := allI_pos P0.n1; omega⟩
  obtain ⟨F1, hF1⟩ : ∃ F : Nat → Int, ∀ i, F i = if i ≤ 8 then 1 else 3 := ⟨_, fun _ => rfl⟩
  obtain ⟨F2, hF2⟩ : ∃ F : Nat → Int, ∀ i, F i = if i ≤ 8 then (i : Int) else 8 := ⟨_, fun _ => rfl⟩
  obtain ⟨F3, hF3⟩ : ∃ F : Nat → Int, ∀ i, F i = if i ≤ 8 then 8 * (i : Int) else 64 := ⟨_, fun _ => rfl⟩
  have hfit : ∀ i, Snd.fits ⟨F1 i, 3, ps, 0, F2 i, F3 i⟩ := fun i => P0.fits (by rw [hF1]; split <;> omega) (by omega) (by omega) (by rw [hF2]; split <;> omega) (by rw [hF3]; split <;> omega)
  have hF10 : ∀ i, i ≤ 8 → F1 i = 1 := fun i hi => by rw [hF1, if_pos hi]
  have e10 : F1 0 = 1 := hF10 0 (by omega)
  have e20 : F2 0 = 0 := by rw [hF2]; rfl
  have e30 : F3 0 = 0 := by rw [hF3]; rfl
  have e19 : F1 9 = 3 := by rw [hF1]; rfl
  have send : ∀ (i : Nat) (t : Int), i ≤ 8 → t = 8 * (i : Int) → ∃ (l : List Pce), nextP ⟨F1 i, 3, ps, 0, F2 i, F3 i⟩ t = (⟨F1 (i + 1), 3, ps, 0, F2 (i + 1), F3 (i + 1)⟩, l, 0) ∧ (i < 8 → 1 ≤ l.length) ∧ (i = 8 → l.length = 0) := fun i t hi ht => by
    subst ht
    rcases Nat.lt_or_ge i 8 with h | h
    · obtain ⟨x1, x2⟩ := nextP_send P0 (tag := 3) (ak := 0) (rd := i) (un := 8 * (i : Int)) (now := 8 * (i : Int)) ha (by omega) (by omega) (by omega)
      refine ⟨mark (pre 3 ps 0 (min (opn 0 ps.length).length 8)), ?_, fun _ => ?_, fun h' => by omega⟩
      · rw [hF1, hF1, hF2, hF2, hF3, hF3, if_pos hi, if_pos hi, if_pos hi, if_pos (by omega), if_pos (by omega), if_pos (by omega), x1]
        rw [Int.min_eq_left (show 8 * (i : Int) + 8 ≤ 1099511627776 by omega), show 8 * (i : Int) + 8 = 8 * ((i + 1 : Nat) : Int) by omega, show (i : Int) + 1 = ((i + 1 : Nat) : Int) by omega]
      · rw [sent_len]; omega
    · obtain rfl : i = 8 := by omega
      refine ⟨[], ?_, fun h' => by omega, fun _ => rfl⟩
      rw [hF1, hF1, hF2, hF2, hF3, hF3]
      exact nextP_fail P0 ha (by omega) (by omega)
  have wait : ∀ (i : Nat) (t : Int), i ≤ 8 → 1 ≤ i → t = 8 * (i : Int) - 1 → nextP ⟨F1 i, 3, ps, 0, F2 i, F3 i⟩ t = (⟨F1 i, 3, ps, 0, F2 i, F3 i⟩, [], 0) := fun i t hi h1 ht => by
    subst ht
    rw [hF1, hF2, hF3, if_pos hi, if_pos hi, if_pos hi]
    exact nextP_wait P0 ha (by omega) (by omega) (by omega)
  have hack : ackP ⟨F1 9, 3, ps, 0, F2 9, F3 9⟩ 3 1 = (⟨F1 9, 3, ps, 0, F2 9, F3 9⟩, 0) := by
    rw [hF1, hF2, hF3]
    show ackP ⟨3, 3, ps, 0, 8, 64⟩ 3 1 = _
    rw [ackP, if_neg (by rw [P0.vs (.inr rfl) ha.2 (by omega) (by omega)]; simp), if_neg (by simp), if_pos (by simp)]
    rfl
  have gA := ack_p ⟨F1 9, 3, ps, 0, F2 9, F3 9⟩ R hR (hfit 9) 3 1 (by omega) (by omega) _ R hR 0 hack
  have gS : ∀ i, Good 21 _ := fun i => samesender_r ⟨F1 i, 3, ps, 0, F2 i, F3 i⟩ R hR (hfit i)
  have gW : ∀ (i : Nat) (t : Int), i ≤ 8 → 1 ≤ i → t = 8 * (i : Int) - 1 → Good 15 (pu [.agg [.int .i64 (F1 i), .int .u8 3, .lst none R, .int .u32 0, .int .i64 (F2 i), .int .i64 (F3 i)], .int .i64 t] (.tup [.agg [.int .i64 (F1 i), .int .u8 3, .lst none R, .int .u32 0, .int .i64 (F2 i), .int .i64 (F3 i)], .lst (some 5) [], .int .i64 0])) := fun i t hi h1 ht => next_p _ R hR (hfit i) t (by omega) _ R hR _ [] rfl 0 (wait i t hi h1 ht)
  have gN : ∀ (i : Nat) (t : Int), i ≤ 8 → t = 8 * (i : Int) → ∃ L : List SV, Good 15 (pu [.agg [.int .i64 (F1 i), .int .u8 3, .lst none R, .int .u32 0, .int .i64 (F2 i), .int .i64 (F3 i)], .int .i64 t] (.tup [.agg [.int .i64 (F1 (i + 1)), .int .u8 3, .lst none R, .int .u32 0, .int .i64 (F2 (i + 1)), .int .i64 (F3 (i + 1))], .lst (some 5) L, .int .i64 0])) ∧ (i < 8 → 1 ≤ L.length) ∧ (i = 8 → L.length = 0) := fun i t hi ht => by
    obtain ⟨l, x1, x2, x3⟩ := send i t hi ht
    exact ⟨_, next_p _ R hR (hfit i) t (by omega) _ R hR l _ rfl 0 x1, fun h => by rw [pcL_len]; exact x2 h, fun h => by rw [pcL_len]; exact x3 h⟩
  have hk := known_c
  clear hz
  clear hF1 hF2 hF3 send wait hack hfit hps q1' P0 ha t0 t1 hR hRb hR0
  generalize ints .i64 zs = Z at *
  refine Good.of Try.func4 rfl (by rfl) (by kernel_rfl) ?_
  cbv
  have hmk : True := trivial
  (repeat' (first
    | (refine q1 (by first | exact trivial | omega | (dsimp only; omega) | exact pow62 _ (by omega) | exact mul9 (by omega) (by omega) | (simp only [sm] at *; omega)) (fun z hz => ?_); (try simp only at hz); cbv)
    | (refine rq (by first | exact trivial | omega | (dsimp only; omega) | (simp only [sm] at *; omega)) ?_; cbv)
    | (refine QC.tt (by first | omega | (dsimp only; omega) | exact rfl | (simp only [sm] at *; omega)) ?_; cbv)
    | (refine QC.tt ?_ ?_; (focus (simp only [decide_true, Bool.and_true, Bool.and_self] <;> fail)); cbv)
    | (refine QC.ff ?_ ?_; (focus (simp only [decide_true, Bool.and_true, Bool.and_self, decide_false, Bool.false_and, reduceCtorEq, not_false_eq_true] <;> fail)); cbv)
    | (refine QC.ff (by first | omega | (dsimp only; omega) | (simp only [sm] at *; omega)) ?_; cbv)
    | (refine QC.mk (fun hc => ?_) (fun hc => ?_) <;> (try dsimp only at hc) <;> cbv)
    | (refine br_mk2 (fun hb => ?_) (fun hb => ?_) <;> (try subst hb) <;> cbv)))
  (refine callq (h0) rfl rfl ?_; cbv; (repeat' (first
    | (refine q1 (by first | exact trivial | omega | (dsimp only; omega) | exact pow62 _ (by omega) | exact mul9 (by omega) (by omega) | (simp only [sm] at *; omega)) (fun z hz => ?_); (try simp only at hz); cbv)
    | (refine rq (by first | exact trivial | omega | (dsimp only; omega) | (simp only [sm] at *; omega)) ?_; cbv)
    | (refine QC.tt (by first | omega | (dsimp only; omega) | exact rfl | (simp only [sm] at *; omega)) ?_; cbv)
    | (refine QC.tt ?_ ?_; (focus (simp only [decide_true, Bool.and_true, Bool.and_self] <;> fail)); cbv)
    | (refine QC.ff ?_ ?_; (focus (simp only [decide_true, Bool.and_true, Bool.and_self, decide_false, Bool.false_and, reduceCtorEq, not_false_eq_true] <;> fail)); cbv)
    | (refine QC.ff (by first | omega | (dsimp only; omega) | (simp only [sm] at *; omega)) ?_; cbv)
    | (refine QC.mk (fun hc => ?_) (fun hc => ?_) <;> (try dsimp only at hc) <;> cbv)
    | (refine br_mk2 (fun hb => ?_) (fun hb => ?_) <;> (try subst hb) <;> cbv))))
  (refine callq (hm) rfl rfl ?_; cbv; (repeat' (first
    | (refine q1 (by first | exact trivial | omega | (dsimp only; omega) | exact pow62 _ (by omega) | exact mul9 (by omega) (by omega) | (simp only [sm] at *; omega)) (fun z hz => ?_); (try simp only at hz); cbv)
    | (refine rq (by first | exact trivial | omega | (dsimp only; omega) | (simp only [sm] at *; omega)) ?_; cbv)
    | (refine QC.tt (by first | omega | (dsimp only; omega) | exact rfl | (simp only [sm] at *; omega)) ?_; cbv)
    | (refine QC.tt ?_ ?_; (focus (simp only [decide_true, Bool.and_true, Bool.and_self] <;> fail)); cbv)
    | (refine QC.ff ?_ ?_; (focus (simp only [decide_true, Bool.and_true, Bool.and_self, decide_false, Bool.false_and, reduceCtorEq, not_false_eq_true] <;> fail)); cbv)
    | (refine QC.ff (by first | omega | (dsimp only; omega) | (simp only [sm] at *; omega)) ?_; cbv)
    | (refine QC.mk (fun hc => ?_) (fun hc => ?_) <;> (try dsimp only at hc) <;> cbv)
    | (refine br_mk2 (fun hb => ?_) (fun hb => ?_) <;> (try subst hb) <;> cbv))))
  have hzN := hz.trans hN.symm
  subst hzN
  (refine callq (g1) rfl rfl ?_; cbv; (repeat' (first
    | (refine q1 (by first | exact trivial | omega | (dsimp only; omega) | exact pow62 _ (by omega) | exact mul9 (by omega) (by omega) | (simp only [sm] at *; omega)) (fun z hz => ?_); (try simp only at hz); cbv)
    | (refine rq (by first | exact trivial | omega | (dsimp only; omega) | (simp only [sm] at *; omega)) ?_; cbv)
    | (refine QC.tt (by first | omega | (dsimp only; omega) | exact rfl | (simp only [sm] at *; omega)) ?_; cbv)
    | (refine QC.tt ?_ ?_; (focus (simp only [decide_true, Bool.and_true, Bool.and_self] <;> fail)); cbv)
    | (refine QC.ff ?_ ?_; (focus (simp only [decide_true, Bool.and_true, Bool.and_self, decide_false, Bool.false_and, reduceCtorEq, not_false_eq_true] <;> fail)); cbv)
    | (refine QC.ff (by first | omega | (dsimp only; omega) | (simp only [sm] at *; omega)) ?_; cbv)
    | (refine QC.mk (fun hc => ?_) (fun hc => ?_) <;> (try dsimp only at hc) <;> cbv)
    | (refine br_mk2 (fun hb => ?_) (fun hb => ?_) <;> (try subst hb) <;> cbv))))
  (refine callq (g2) rfl rfl ?_; cbv; (repeat' (first
    | (refine q1 (by first | exact trivial | omega | (dsimp only; omega) | exact pow62 _ (by omega) | exact mul9 (by omega) (by omega) | (simp only [sm] at *; omega)) (fun z hz => ?_); (try simp only at hz); cbv)
    | (refine rq (by first | exact trivial | omega | (dsimp only; omega) | (simp only [sm] at *; omega)) ?_; cbv)
    | (refine QC.tt (by first | omega | (dsimp only; omega) | exact rfl | (simp only [sm] at *; omega)) ?_; cbv)
    | (refine QC.tt ?_ ?_; (focus (simp only [decide_true, Bool.and_true, Bool.and_self] <;> fail)); cbv)
    | (refine QC.ff ?_ ?_; (focus (simp only [decide_true, Bool.and_true, Bool.and_self, decide_false, Bool.false_and, reduceCtorEq, not_false_eq_true] <;> fail)); cbv)
    | (refine QC.ff (by first | omega | (dsimp only; omega) | (simp only [sm] at *; omega)) ?_; cbv)
    | (refine QC.mk (fun hc => ?_) (fun hc => ?_) <;> (try dsimp only at hc) <;> cbv)
    | (refine br_mk2 (fun hb => ?_) (fun hb => ?_) <;> (try subst hb) <;> cbv))))
  refine loopQ (A := Nat × Int) (fun p => p.2 = p.1 ∧ p.1 ≤ 9) (fun p => 9 - p.1) (fun p => [(8, .int .i64 p.2), (7, .int .i64 0)]) (fun p => [(6, .chunk 25 (.agg [.int .i64 (F1 p.1), .int .u8 3, .lst none R, .int .u32 0, .int .i64 (F2 p.1), .int .i64 (F3 p.1)]))]) (0, 0) ⟨rfl, Nat.zero_le _⟩ ?_ ?_
  · cbv
    rw [e10, e20, e30]
    exact ⟨rfl, trivial⟩
  · intro ⟨i, j⟩ hi0
    have hj : j = (i : Int) := hi0.1
    have hi : i ≤ 9 := hi0.2
    clear hi0
    have hml : True := trivial
    cases Nat.eq_zero_or_pos i with
    | inl hz0 =>
      cbv
      (repeat' (first
    | (refine q1 (by first | exact trivial | omega | (dsimp only; omega) | exact pow62 _ (by omega) | exact mul9 (by omega) (by omega) | (simp only [sm] at *; omega)) (fun z hz => ?_); (try simp only at hz); cbv)
    | (refine rq (by first | exact trivial | omega | (dsimp only; omega) | (simp only [sm] at *; omega)) ?_; cbv)
    | (refine QC.tt (by first | omega | (dsimp only; omega) | exact rfl | (simp only [sm] at *; omega)) ?_; cbv)
    | (refine QC.tt ?_ ?_; (focus (simp only [decide_true, Bool.and_true, Bool.and_self] <;> fail)); cbv)
    | (refine QC.ff ?_ ?_; (focus (simp only [decide_true, Bool.and_true, Bool.and_self, decide_false, Bool.false_and, reduceCtorEq, not_false_eq_true] <;> fail)); cbv)
    | (refine QC.ff (by first | omega | (dsimp only; omega) | (simp only [sm] at *; omega)) ?_; cbv)
    | (refine QC.mk (fun hc => ?_) (fun hc => ?_) <;> (try dsimp only at hc) <;> cbv)
    | (refine br_mk2 (fun hb => ?_) (fun hb => ?_) <;> (try subst hb) <;> cbv)))
      rename_i za hza zb hzb
      obtain ⟨L, gl, _, _⟩ := gN i z (by omega) (by (first | omega | (simp only [cst] at *; omega) | (simp only [sm] at *; omega)))
      (refine callq (gl) rfl rfl ?_; cbv; (repeat' (first
    | (refine q1 (by first | exact trivial | omega | (dsimp only; omega) | exact pow62 _ (by omega) | exact mul9 (by omega) (by omega) | (simp only [sm] at *; omega)) (fun z hz => ?_); (try simp only at hz); cbv)
    | (refine rq (by first | exact trivial | omega | (dsimp only; omega) | (simp only [sm] at *; omega)) ?_; cbv)
    | (refine QC.tt (by first | omega | (dsimp only; omega) | exact rfl | (simp only [sm] at *; omega)) ?_; cbv)
    | (refine QC.tt ?_ ?_; (focus (simp only [decide_true, Bool.and_true, Bool.and_self] <;> fail)); cbv)
    | (refine QC.ff ?_ ?_; (focus (simp only [decide_true, Bool.and_true, Bool.and_self, decide_false, Bool.false_and, reduceCtorEq, not_false_eq_true] <;> fail)); cbv)
    | (refine QC.ff (by first | omega | (dsimp only; omega) | (simp only [sm] at *; omega)) ?_; cbv)
    | (refine QC.mk (fun hc => ?_) (fun hc => ?_) <;> (try dsimp only at hc) <;> cbv)
    | (refine br_mk2 (fun hb => ?_) (fun hb => ?_) <;> (try subst hb) <;> cbv))))
      · exact absurd (hF10 i (by omega)) hc
      · skip
        have gN2 := gN i z (by (first | omega | (simp only [cst] at *; omega) | (simp only [sm] at *; omega))) (by (first | omega | (simp only [cst] at *; omega) | (simp only [sm] at *; omega)))
        have hL1 := (Classical.choose_spec gN2).2.1
        have hL2 := (Classical.choose_spec gN2).2.2
        have gm := (Classical.choose_spec gN2).1
        generalize Classical.choose gN2 = L2 at hL1 hL2 gm
        (refine callq (gm) rfl rfl ?_; cbv; (repeat' (first
    | (refine q1 (by first | exact trivial | omega | (dsimp only; omega) | exact pow62 _ (by omega) | exact mul9 (by omega) (by omega) | (simp only [sm] at *; omega)) (fun z hz => ?_); (try simp only at hz); cbv)
    | (refine rq (by first | exact trivial | omega | (dsimp only; omega) | (simp only [sm] at *; omega)) ?_; cbv)
    | (refine QC.tt (by first | omega | (dsimp only; omega) | exact rfl | (simp only [sm] at *; omega)) ?_; cbv)
    | (refine QC.tt ?_ ?_; (focus (simp only [decide_true, Bool.and_true, Bool.and_self] <;> fail)); cbv)
    | (refine QC.ff ?_ ?_; (focus (simp only [decide_true, Bool.and_true, Bool.and_self, decide_false, Bool.false_and, reduceCtorEq, not_false_eq_true] <;> fail)); cbv)
    | (refine QC.ff (by first | omega | (dsimp only; omega) | (simp only [sm] at *; omega)) ?_; cbv)
    | (refine QC.mk (fun hc => ?_) (fun hc => ?_) <;> (try dsimp only at hc) <;> cbv)
    | (refine br_mk2 (fun hb => ?_) (fun hb => ?_) <;> (try subst hb) <;> cbv))))
        all_goals
          refine ⟨(i + 1, z), ⟨by show z = ((i + 1 : Nat) : Int); (first | omega | (simp only [cst] at *; omega) | (simp only [sm] at *; omega)), by show i + 1 ≤ 9; (first | omega | (simp only [cst] at *; omega) | (simp only [sm] at *; omega))⟩, by show 9 - (i + 1) < 9 - i; (first | omega | (simp only [cst] at *; omega) | (simp only [sm] at *; omega)), ?_⟩
          cbv
          exact ⟨rfl, trivial⟩
    | inr hpos =>
      cbv
      (repeat' (first
    | (refine q1 (by first | exact trivial | omega | (dsimp only; omega) | exact pow62 _ (by omega) | exact mul9 (by omega) (by omega) | (simp only [sm] at *; omega)) (fun z hz => ?_); (try simp only at hz); cbv)
    | (refine rq (by first | exact trivial | omega | (dsimp only; omega) | (simp only [sm] at *; omega)) ?_; cbv)
    | (refine QC.tt (by first | omega | (dsimp only; omega) | exact rfl | (simp only [sm] at *; omega)) ?_; cbv)
    | (refine QC.tt ?_ ?_; (focus (simp only [decide_true, Bool.and_true, Bool.and_self] <;> fail)); cbv)
    | (refine QC.ff ?_ ?_; (focus (simp only [decide_true, Bool.and_true, Bool.and_self, decide_false, Bool.false_and, reduceCtorEq, not_false_eq_true] <;> fail)); cbv)
    | (refine QC.ff (by first | omega | (dsimp only; omega) | (simp only [sm] at *; omega)) ?_; cbv)
    | (refine QC.mk (fun hc => ?_) (fun hc => ?_) <;> (try dsimp only at hc) <;> cbv)
    | (refine br_mk2 (fun hb => ?_) (fun hb => ?_) <;> (try subst hb) <;> cbv)))
      · rename_i za hza zb hzb
        have gw := gW i z (by (first | omega | (simp only [cst] at *; omega) | (simp only [sm] at *; omega))) hpos (by (first | omega | (simp only [cst] at *; omega) | (simp only [sm] at *; omega)))
        (refine callq (gw) rfl rfl ?_; cbv; (repeat' (first
    | (refine q1 (by first | exact trivial | omega | (dsimp only; omega) | exact pow62 _ (by omega) | exact mul9 (by omega) (by omega) | (simp only [sm] at *; omega)) (fun z hz => ?_); (try simp only at hz); cbv)
    | (refine rq (by first | exact trivial | omega | (dsimp only; omega) | (simp only [sm] at *; omega)) ?_; cbv)
    | (refine QC.tt (by first | omega | (dsimp only; omega) | exact rfl | (simp only [sm] at *; omega)) ?_; cbv)
    | (refine QC.tt ?_ ?_; (focus (simp only [decide_true, Bool.and_true, Bool.and_self] <;> fail)); cbv)
    | (refine QC.ff ?_ ?_; (focus (simp only [decide_true, Bool.and_true, Bool.and_self, decide_false, Bool.false_and, reduceCtorEq, not_false_eq_true] <;> fail)); cbv)
    | (refine QC.ff (by first | omega | (dsimp only; omega) | (simp only [sm] at *; omega)) ?_; cbv)
    | (refine QC.mk (fun hc => ?_) (fun hc => ?_) <;> (try dsimp only at hc) <;> cbv)
    | (refine br_mk2 (fun hb => ?_) (fun hb => ?_) <;> (try subst hb) <;> cbv))))
        · exact absurd (hF10 i (by (first | omega | (simp only [cst] at *; omega) | (simp only [sm] at *; omega)))) hc
        · have gs := gS i
          (refine callq (gs) rfl rfl ?_; cbv; (repeat' (first
    | (refine q1 (by first | exact trivial | omega | (dsimp only; omega) | exact pow62 _ (by omega) | exact mul9 (by omega) (by omega) | (simp only [sm] at *; omega)) (fun z hz => ?_); (try simp only at hz); cbv)
    | (refine rq (by first | exact trivial | omega | (dsimp only; omega) | (simp only [sm] at *; omega)) ?_; cbv)
    | (refine QC.tt (by first | omega | (dsimp only; omega) | exact rfl | (simp only [sm] at *; omega)) ?_; cbv)
    | (refine QC.tt ?_ ?_; (focus (simp only [decide_true, Bool.and_true, Bool.and_self] <;> fail)); cbv)
    | (refine QC.ff ?_ ?_; (focus (simp only [decide_true, Bool.and_true, Bool.and_self, decide_false, Bool.false_and, reduceCtorEq, not_false_eq_true] <;> fail)); cbv)
    | (refine QC.ff (by first | omega | (dsimp only; omega) | (simp only [sm] at *; omega)) ?_; cbv)
    | (refine QC.mk (fun hc => ?_) (fun hc => ?_) <;> (try dsimp only at hc) <;> cbv)
    | (refine br_mk2 (fun hb => ?_) (fun hb => ?_) <;> (try subst hb) <;> cbv))))
          have gN2 := gN i z (by (first | omega | (simp only [cst] at *; omega) | (simp only [sm] at *; omega))) (by (first | omega | (simp only [cst] at *; omega) | (simp only [sm] at *; omega)))
          have hL1 := (Classical.choose_spec gN2).2.1
          have hL2 := (Classical.choose_spec gN2).2.2
          have gm := (Classical.choose_spec gN2).1
          generalize Classical.choose gN2 = L2 at hL1 hL2 gm
          (refine callq (gm) rfl rfl ?_; cbv; (repeat' (first
    | (refine q1 (by first | exact trivial | omega | (dsimp only; omega) | exact pow62 _ (by omega) | exact mul9 (by omega) (by omega) | (simp only [sm] at *; omega)) (fun z hz => ?_); (try simp only at hz); cbv)
    | (refine rq (by first | exact trivial | omega | (dsimp only; omega) | (simp only [sm] at *; omega)) ?_; cbv)
    | (refine QC.tt (by first | omega | (dsimp only; omega) | exact rfl | (simp only [sm] at *; omega)) ?_; cbv)
    | (refine QC.tt ?_ ?_; (focus (simp only [decide_true, Bool.and_true, Bool.and_self] <;> fail)); cbv)
    | (refine QC.ff ?_ ?_; (focus (simp only [decide_true, Bool.and_true, Bool.and_self, decide_false, Bool.false_and, reduceCtorEq, not_false_eq_true] <;> fail)); cbv)
    | (refine QC.ff (by first | omega | (dsimp only; omega) | (simp only [sm] at *; omega)) ?_; cbv)
    | (refine QC.mk (fun hc => ?_) (fun hc => ?_) <;> (try dsimp only at hc) <;> cbv)
    | (refine br_mk2 (fun hb => ?_) (fun hb => ?_) <;> (try subst hb) <;> cbv))))
          all_goals
            refine ⟨(i + 1, z), ⟨by show z = ((i + 1 : Nat) : Int); (first | omega | (simp only [cst] at *; omega) | (simp only [sm] at *; omega)), by show i + 1 ≤ 9; (first | omega | (simp only [cst] at *; omega) | (simp only [sm] at *; omega))⟩, by show 9 - (i + 1) < 9 - i; (first | omega | (simp only [cst] at *; omega) | (simp only [sm] at *; omega)), ?_⟩
            cbv
            exact ⟨rfl, trivial⟩
      · have hi9 : i = 9 := by (first | omega | (simp only [cst] at *; omega) | (simp only [sm] at *; omega))
        rw [← hi9] at gA e19
        have gs := gS i
        clear gS gN gW
        (refine callq (gA) rfl rfl ?_; cbv; (repeat' (first
    | (refine q1 (by first | exact trivial | omega | (dsimp only; omega) | exact pow62 _ (by omega) | exact mul9 (by omega) (by omega) | (simp only [sm] at *; omega)) (fun z hz => ?_); (try simp only at hz); cbv)
    | (refine rq (by first | exact trivial | omega | (dsimp only; omega) | (simp only [sm] at *; omega)) ?_; cbv)
    | (refine QC.tt (by first | omega | (dsimp only; omega) | exact rfl | (simp only [sm] at *; omega)) ?_; cbv)
    | (refine QC.tt ?_ ?_; (focus (simp only [decide_true, Bool.and_true, Bool.and_self] <;> fail)); cbv)
    | (refine QC.ff ?_ ?_; (focus (simp only [decide_true, Bool.and_true, Bool.and_self, decide_false, Bool.false_and, reduceCtorEq, not_false_eq_true] <;> fail)); cbv)
    | (refine QC.ff (by first | omega | (dsimp only; omega) | (simp only [sm] at *; omega)) ?_; cbv)
    | (refine QC.mk (fun hc => ?_) (fun hc => ?_) <;> (try dsimp only at hc) <;> cbv)
    | (refine br_mk2 (fun hb => ?_) (fun hb => ?_) <;> (try subst hb) <;> cbv))))
        (refine callq (hk) rfl rfl ?_; cbv; (repeat' (first
    | (refine q1 (by first | exact trivial | omega | (dsimp only; omega) | exact pow62 _ (by omega) | exact mul9 (by omega) (by omega) | (simp only [sm] at *; omega)) (fun z hz => ?_); (try simp only at hz); cbv)
    | (refine rq (by first | exact trivial | omega | (dsimp only; omega) | (simp only [sm] at *; omega)) ?_; cbv)
    | (refine QC.tt (by first | omega | (dsimp only; omega) | exact rfl | (simp only [sm] at *; omega)) ?_; cbv)
    | (refine QC.tt ?_ ?_; (focus (simp only [decide_true, Bool.and_true, Bool.and_self] <;> fail)); cbv)
    | (refine QC.ff ?_ ?_; (focus (simp only [decide_true, Bool.and_true, Bool.and_self, decide_false, Bool.false_and, reduceCtorEq, not_false_eq_true] <;> fail)); cbv)
    | (refine QC.ff (by first | omega | (dsimp only; omega) | (simp only [sm] at *; omega)) ?_; cbv)
    | (refine QC.mk (fun hc => ?_) (fun hc => ?_) <;> (try dsimp only at hc) <;> cbv)
    | (refine br_mk2 (fun hb => ?_) (fun hb => ?_) <;> (try subst hb) <;> cbv))))
        (refine callq (gs) rfl rfl ?_; cbv; (repeat' (first
    | (refine q1 (by first | exact trivial | omega | (dsimp only; omega) | exact pow62 _ (by omega) | exact mul9 (by omega) (by omega) | (simp only [sm] at *; omega)) (fun z hz => ?_); (try simp only at hz); cbv)
    | (refine rq (by first | exact trivial | omega | (dsimp only; omega) | (simp only [sm] at *; omega)) ?_; cbv)
    | (refine QC.tt (by first | omega | (dsimp only; omega) | exact rfl | (simp only [sm] at *; omega)) ?_; cbv)
    | (refine QC.tt ?_ ?_; (focus (simp only [decide_true, Bool.and_true, Bool.and_self] <;> fail)); cbv)
    | (refine QC.ff ?_ ?_; (focus (simp only [decide_true, Bool.and_true, Bool.and_self, decide_false, Bool.false_and, reduceCtorEq, not_false_eq_true] <;> fail)); cbv)
    | (refine QC.ff (by first | omega | (dsimp only; omega) | (simp only [sm] at *; omega)) ?_; cbv)
    | (refine QC.mk (fun hc => ?_) (fun hc => ?_) <;> (try dsimp only at hc) <;> cbv)
    | (refine br_mk2 (fun hb => ?_) (fun hb => ?_) <;> (try subst hb) <;> cbv))))
        exact ⟨rfl, rfl, rfl⟩
end Go.Proofs.Ytjhicdoigllblaa
