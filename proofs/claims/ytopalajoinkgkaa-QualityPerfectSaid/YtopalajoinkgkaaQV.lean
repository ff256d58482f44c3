/- The laws Plays, Perfect. -/
import Derived.Test.YtopalajoinkgkaaQM
namespace Go.Proofs.Ytopalajoinkgkaa
set_option maxHeartbeats 1000000
def onesQ (c n r : Int) : Ql := ⟨true, 2 ^ c.toNat - 1, c, n, r⟩
theorem eight (c : Int) (h : 1 ≤ c ∧ c ≤ 8) : c = 1 ∨ c = 2 ∨ c = 3 ∨ c = 4 ∨ c = 5 ∨ c = 6 ∨ c = 7 ∨ c = 8 := by omega
theorem ones_Vq (c n r : Int) (hc : 1 ≤ c ∧ c ≤ 8) (hn : 0 ≤ n ∧ n ≤ 65535) (hr : 0 ≤ r ∧ r ≤ 65535) : Vq (onesQ c n r) := by
  refine .inr ⟨rfl, hc.1, hc.2, ?_, ?_, ?_, hn.1, hn.2, hr.1, hr.2⟩ <;> rcases eight c hc with rfl | rfl | rfl | rfl | rfl | rfl | rfl | rfl <;> (simp only [onesQ]; decide)
theorem ones_rx (c n r : Int) (hc : 1 ≤ c ∧ c ≤ 8) : rxQ (onesQ c n r) = 256 := by
  rcases eight c hc with rfl | rfl | rfl | rfl | rfl | rfl | rfl | rfl <;> rfl
theorem ones_cost (c n : Int) (hc : 1 ≤ c ∧ c ≤ 8) : costQ (onesQ c n 256) = 256 := by
  unfold costQ
  rw [ones_rx c n 256 hc]
  rfl
theorem ones_cost0 (c n : Int) : costQ (onesQ c n 0) = 65535 := by
  unfold costQ
  rw [if_pos (.inr (.inl rfl))]
theorem ones_hello (c n r : Int) (hc : 1 ≤ c ∧ c ≤ 8) : helloQ (onesQ c n r) n = onesQ (min (c + 1) 8) ((n + 1) % 65536) r := by
  rw [hello_same _ _ rfl (by simp only [onesQ]; exact diff_self n)]
  rcases eight c hc with rfl | rfl | rfl | rfl | rfl | rfl | rfl | rfl <;> rfl
theorem ones_report (c n r : Int) : reportQ (onesQ c n r) 256 = onesQ c n 256 := by
  unfold reportQ
  rw [if_pos ⟨rfl, by decide, by decide⟩]
  rfl
/-- The quality at the head of round i. -/
def headQ (s i : Int) : Ql := if i = 0 then zeroQ else onesQ (min i 8) ((s + i) % 65536) 256
/-- And after the round's hello. -/
def heardQ (s i : Int) : Ql := onesQ (min (i + 1) 8) ((s + i + 1) % 65536) (if i = 0 then 0 else 256)
theorem head_Vq (s i : Int) (h0 : 0 ≤ i) : Vq (headQ s i) := by
  unfold headQ
  split
  · exact Vq.zero
  · exact ones_Vq _ _ _ (by omega) (by omega) (by omega)
theorem heard_Vq (s i : Int) (h0 : 0 ≤ i) : Vq (heardQ s i) := ones_Vq _ _ _ (by omega) (by omega) (by split <;> omega)
theorem head_hello (s i : Int) (hs : 0 ≤ s ∧ s ≤ 65535) (h0 : 0 ≤ i) (h1 : i ≤ 65535) : helloQ (headQ s i) ((s + i) % 65536) = heardQ s i := by
  unfold headQ heardQ
  split
  · rename_i h
    subst h
    rw [hello_zero _ _ rfl]
    have : (s + 0) % 65536 = s := by omega
    rw [this]
    simp [onesQ]
    decide
  · rename_i h
    have e := ones_hello (min i 8) ((s + i) % 65536) 256 (by omega)
    rw [e]
    congr 1 <;> omega
theorem heard_report (s i : Int) (h0 : 0 ≤ i) : reportQ (heardQ s i) 256 = headQ s (i + 1) := by
  unfold headQ heardQ
  rw [ones_report, if_neg (by omega), show s + (i + 1) = s + i + 1 by omega]

theorem perfect_c (s n : Int) (hs : 0 ≤ s ∧ s ≤ 65535) (hn : -9223372036854775808 ≤ n ∧ n ≤ 9223372036854775807) : Good 8 [.int .u16 s, .int .i64 n] (.bool true) := by
  have h1 := mod_c n 30 hn (by omega)
  have hm : 0 ≤ n % 30 ∧ n % 30 < 30 := by omega
  generalize n % 30 = m at *
  refine Good.of Try.func8 rfl (by rfl) (by kernel_rfl) ?_
  cbv
  (repeat' (first
    | (refine q1 (by first | exact trivial | omega | (dsimp only; omega) | exact pow62 _ (by omega) | exact mul9 (by omega) (by omega)) (fun z hz => ?_); (try simp only at hz); cbv)
    | (refine rq (by first | exact trivial | omega | (dsimp only; omega)) ?_; cbv)
    | (refine QC.tt (by first | omega | (dsimp only; omega) | exact rfl) ?_; cbv)
    | (refine QC.tt ?_ ?_; (focus (simp only [decide_true, Bool.and_true, Bool.and_self] <;> fail)); cbv)
    | (refine QC.ff ?_ ?_; (focus (simp only [decide_true, Bool.and_true, Bool.and_self, decide_false, Bool.false_and, reduceCtorEq, not_false_eq_true] <;> fail)); cbv)
    | (refine QC.ff (by first | omega | (dsimp only; omega)) ?_; cbv)
    | (refine QC.mk (fun hc => ?_) (fun hc => ?_) <;> (try dsimp only at hc) <;> cbv)
    | (refine br_mk2 (fun hb => ?_) (fun hb => ?_) <;> (try subst hb) <;> cbv)))
  (refine callq (h1) rfl (fun h => by cases h) ?_; cbv; (repeat' (first
    | (refine q1 (by first | exact trivial | omega | (dsimp only; omega) | exact pow62 _ (by omega) | exact mul9 (by omega) (by omega)) (fun z hz => ?_); (try simp only at hz); cbv)
    | (refine rq (by first | exact trivial | omega | (dsimp only; omega)) ?_; cbv)
    | (refine QC.tt (by first | omega | (dsimp only; omega) | exact rfl) ?_; cbv)
    | (refine QC.tt ?_ ?_; (focus (simp only [decide_true, Bool.and_true, Bool.and_self] <;> fail)); cbv)
    | (refine QC.ff ?_ ?_; (focus (simp only [decide_true, Bool.and_true, Bool.and_self, decide_false, Bool.false_and, reduceCtorEq, not_false_eq_true] <;> fail)); cbv)
    | (refine QC.ff (by first | omega | (dsimp only; omega)) ?_; cbv)
    | (refine QC.mk (fun hc => ?_) (fun hc => ?_) <;> (try dsimp only at hc) <;> cbv)
    | (refine br_mk2 (fun hb => ?_) (fun hb => ?_) <;> (try subst hb) <;> cbv))))
  refine loopQ (A := Int × Ql) (fun p => 0 ≤ p.1 ∧ p.1 ≤ m + 1 ∧ p.2 = headQ s p.1) (fun p => (m + 1 - p.1).toNat) (fun p => [(6, .int .i64 p.1)]) (fun p => [(5, encB p.2)]) (0, zeroQ) ⟨by dsimp only; omega, by dsimp only; omega, rfl⟩ ?_ ?_
  · cbv
  · intro p hp
    cbv
    obtain ⟨i, q⟩ := p
    dsimp only at hp ⊢
    obtain ⟨i0, im, hi⟩ := hp
    have hV := head_Vq s i i0
    have hW := heard_Vq s i i0
    have hX := head_Vq s (i + 1) (by omega)
    have a1 := hello_c q ((s + i) % 65536) (by rw [hi]; exact hV.ok) (by omega)
    rw [hi, hV.clean, head_hello s i hs i0 (by omega), ← hi] at a1
    have a2 := rx_c (heardQ s i) hW.ok
    rw [hW.clean, heardQ, ones_rx _ _ _ (by omega), ← heardQ] at a2
    have a3 := cost_c (heardQ s i) hW.ok
    rw [hW.clean] at a3
    have f3 : i = 0 → costQ (heardQ s i) = 65535 := by
      intro h
      rw [heardQ, if_pos h, ones_cost0]
    have a4 := report_c (heardQ s i) 256 hW.ok
    rw [hW.clean, heard_report s i i0] at a4
    have a5 := cost_c (headQ s (i + 1)) hX.ok
    rw [hX.clean] at a5
    have f5 : costQ (headQ s (i + 1)) = 256 := by
      rw [headQ, if_neg (by omega), ones_cost _ _ (by omega)]
    rw [f5] at a5
    generalize costQ (heardQ s i) = hcost at *
    generalize heardQ s i = w at *
    generalize hx' : headQ s (i + 1) = x at *
    clear hV hW hX hi f5
    obtain ⟨k, h, c, n', r⟩ := q
    obtain ⟨wk, wh, wc, wn, wr⟩ := w
    obtain ⟨xk, xh, xc, xn, xr⟩ := x
    (repeat' (first
    | (refine q1 (by first | exact trivial | omega | (dsimp only; omega) | exact pow62 _ (by omega) | exact mul9 (by omega) (by omega)) (fun z hz => ?_); (try simp only at hz); cbv)
    | (refine rq (by first | exact trivial | omega | (dsimp only; omega)) ?_; cbv)
    | (refine QC.tt (by first | omega | (dsimp only; omega) | exact rfl) ?_; cbv)
    | (refine QC.tt ?_ ?_; (focus (simp only [decide_true, Bool.and_true, Bool.and_self] <;> fail)); cbv)
    | (refine QC.ff ?_ ?_; (focus (simp only [decide_true, Bool.and_true, Bool.and_self, decide_false, Bool.false_and, reduceCtorEq, not_false_eq_true] <;> fail)); cbv)
    | (refine QC.ff (by first | omega | (dsimp only; omega)) ?_; cbv)
    | (refine QC.mk (fun hc => ?_) (fun hc => ?_) <;> (try dsimp only at hc) <;> cbv)
    | (refine br_mk2 (fun hb => ?_) (fun hb => ?_) <;> (try subst hb) <;> cbv)))
    · have hzz : z = (s + i) % 65536 := by omega
      subst hzz
      (refine callq (a1) rfl (fun h => by cases h) ?_; cbv; (repeat' (first
    | (refine q1 (by first | exact trivial | omega | (dsimp only; omega) | exact pow62 _ (by omega) | exact mul9 (by omega) (by omega)) (fun z hz => ?_); (try simp only at hz); cbv)
    | (refine rq (by first | exact trivial | omega | (dsimp only; omega)) ?_; cbv)
    | (refine QC.tt (by first | omega | (dsimp only; omega) | exact rfl) ?_; cbv)
    | (refine QC.tt ?_ ?_; (focus (simp only [decide_true, Bool.and_true, Bool.and_self] <;> fail)); cbv)
    | (refine QC.ff ?_ ?_; (focus (simp only [decide_true, Bool.and_true, Bool.and_self, decide_false, Bool.false_and, reduceCtorEq, not_false_eq_true] <;> fail)); cbv)
    | (refine QC.ff (by first | omega | (dsimp only; omega)) ?_; cbv)
    | (refine QC.mk (fun hc => ?_) (fun hc => ?_) <;> (try dsimp only at hc) <;> cbv)
    | (refine br_mk2 (fun hb => ?_) (fun hb => ?_) <;> (try subst hb) <;> cbv))))
      (refine callq (a2) rfl (fun h => by cases h) ?_; cbv; (repeat' (first
    | (refine q1 (by first | exact trivial | omega | (dsimp only; omega) | exact pow62 _ (by omega) | exact mul9 (by omega) (by omega)) (fun z hz => ?_); (try simp only at hz); cbv)
    | (refine rq (by first | exact trivial | omega | (dsimp only; omega)) ?_; cbv)
    | (refine QC.tt (by first | omega | (dsimp only; omega) | exact rfl) ?_; cbv)
    | (refine QC.tt ?_ ?_; (focus (simp only [decide_true, Bool.and_true, Bool.and_self] <;> fail)); cbv)
    | (refine QC.ff ?_ ?_; (focus (simp only [decide_true, Bool.and_true, Bool.and_self, decide_false, Bool.false_and, reduceCtorEq, not_false_eq_true] <;> fail)); cbv)
    | (refine QC.ff (by first | omega | (dsimp only; omega)) ?_; cbv)
    | (refine QC.mk (fun hc => ?_) (fun hc => ?_) <;> (try dsimp only at hc) <;> cbv)
    | (refine br_mk2 (fun hb => ?_) (fun hb => ?_) <;> (try subst hb) <;> cbv))))
      (refine callq (a3) rfl (fun h => by cases h) ?_; cbv; (repeat' (first
    | (refine q1 (by first | exact trivial | omega | (dsimp only; omega) | exact pow62 _ (by omega) | exact mul9 (by omega) (by omega)) (fun z hz => ?_); (try simp only at hz); cbv)
    | (refine rq (by first | exact trivial | omega | (dsimp only; omega)) ?_; cbv)
    | (refine QC.tt (by first | omega | (dsimp only; omega) | exact rfl) ?_; cbv)
    | (refine QC.tt ?_ ?_; (focus (simp only [decide_true, Bool.and_true, Bool.and_self] <;> fail)); cbv)
    | (refine QC.ff ?_ ?_; (focus (simp only [decide_true, Bool.and_true, Bool.and_self, decide_false, Bool.false_and, reduceCtorEq, not_false_eq_true] <;> fail)); cbv)
    | (refine QC.ff (by first | omega | (dsimp only; omega)) ?_; cbv)
    | (refine QC.mk (fun hc => ?_) (fun hc => ?_) <;> (try dsimp only at hc) <;> cbv)
    | (refine br_mk2 (fun hb => ?_) (fun hb => ?_) <;> (try subst hb) <;> cbv))))
      all_goals (refine callq (a4) rfl (fun h => by cases h) ?_; cbv; (repeat' (first
    | (refine q1 (by first | exact trivial | omega | (dsimp only; omega) | exact pow62 _ (by omega) | exact mul9 (by omega) (by omega)) (fun z hz => ?_); (try simp only at hz); cbv)
    | (refine rq (by first | exact trivial | omega | (dsimp only; omega)) ?_; cbv)
    | (refine QC.tt (by first | omega | (dsimp only; omega) | exact rfl) ?_; cbv)
    | (refine QC.tt ?_ ?_; (focus (simp only [decide_true, Bool.and_true, Bool.and_self] <;> fail)); cbv)
    | (refine QC.ff ?_ ?_; (focus (simp only [decide_true, Bool.and_true, Bool.and_self, decide_false, Bool.false_and, reduceCtorEq, not_false_eq_true] <;> fail)); cbv)
    | (refine QC.ff (by first | omega | (dsimp only; omega)) ?_; cbv)
    | (refine QC.mk (fun hc => ?_) (fun hc => ?_) <;> (try dsimp only at hc) <;> cbv)
    | (refine br_mk2 (fun hb => ?_) (fun hb => ?_) <;> (try subst hb) <;> cbv))))
      all_goals (refine callq (a5) rfl (fun h => by cases h) ?_; cbv; (repeat' (first
    | (refine q1 (by first | exact trivial | omega | (dsimp only; omega) | exact pow62 _ (by omega) | exact mul9 (by omega) (by omega)) (fun z hz => ?_); (try simp only at hz); cbv)
    | (refine rq (by first | exact trivial | omega | (dsimp only; omega)) ?_; cbv)
    | (refine QC.tt (by first | omega | (dsimp only; omega) | exact rfl) ?_; cbv)
    | (refine QC.tt ?_ ?_; (focus (simp only [decide_true, Bool.and_true, Bool.and_self] <;> fail)); cbv)
    | (refine QC.ff ?_ ?_; (focus (simp only [decide_true, Bool.and_true, Bool.and_self, decide_false, Bool.false_and, reduceCtorEq, not_false_eq_true] <;> fail)); cbv)
    | (refine QC.ff (by first | omega | (dsimp only; omega)) ?_; cbv)
    | (refine QC.mk (fun hc => ?_) (fun hc => ?_) <;> (try dsimp only at hc) <;> cbv)
    | (refine br_mk2 (fun hb => ?_) (fun hb => ?_) <;> (try subst hb) <;> cbv))))
      all_goals
        refine ⟨(z, ⟨xk, xh, xc, xn, xr⟩), ⟨by dsimp only; omega, by dsimp only; omega, ?_⟩, by dsimp only; omega, ?_⟩
        · dsimp only
          rw [hz]
          exact hx'.symm
        · cbv
    · (refine callq (known_c) rfl (fun h => by cases h) ?_; cbv; (repeat' (first
    | (refine q1 (by first | exact trivial | omega | (dsimp only; omega) | exact pow62 _ (by omega) | exact mul9 (by omega) (by omega)) (fun z hz => ?_); (try simp only at hz); cbv)
    | (refine rq (by first | exact trivial | omega | (dsimp only; omega)) ?_; cbv)
    | (refine QC.tt (by first | omega | (dsimp only; omega) | exact rfl) ?_; cbv)
    | (refine QC.tt ?_ ?_; (focus (simp only [decide_true, Bool.and_true, Bool.and_self] <;> fail)); cbv)
    | (refine QC.ff ?_ ?_; (focus (simp only [decide_true, Bool.and_true, Bool.and_self, decide_false, Bool.false_and, reduceCtorEq, not_false_eq_true] <;> fail)); cbv)
    | (refine QC.ff (by first | omega | (dsimp only; omega)) ?_; cbv)
    | (refine QC.mk (fun hc => ?_) (fun hc => ?_) <;> (try dsimp only at hc) <;> cbv)
    | (refine br_mk2 (fun hb => ?_) (fun hb => ?_) <;> (try subst hb) <;> cbv))))
      exact ⟨rfl⟩
end Go.Proofs.Ytopalajoinkgkaa
