/- More contracts of package quality and of its reference: Rx, Cost, Report. -/
import Derived.Test.YtopalajoinkgkaaQW
namespace Go.Proofs.Ytopalajoinkgkaa
set_option maxHeartbeats 1000000
theorem div_pow_bd (h i : Int) (h0 : 0 ≤ h) (h1 : h ≤ 255) : 0 ≤ h / 2 ^ i.toNat ∧ h / 2 ^ i.toNat ≤ 255 :=
  ⟨Int.ediv_nonneg h0 (Int.pow_nonneg (by omega)), Int.le_trans (Int.ediv_le_self _ h0) h1⟩

theorem ratio_c (a b : Int) (ha : 0 ≤ a ∧ a ≤ 1000000000) (hb : 1 ≤ b ∧ b ≤ 1000000000) : Good 24 [.int .i64 a, .int .i64 b] (.int .i64 ((a + b - 1) / b)) := by
  refine Good.of Try.func24 rfl (by rfl) (by rfl) ?_
  cbv
  (repeat' (first
    | (refine q1 (by first | exact trivial | omega | (dsimp only; omega) | exact pow62 _ (by omega) | exact mul9 (by omega) (by omega)) (fun z hz => ?_); (try simp only at hz); cbv)
    | (refine rq (by first | exact trivial | omega | (dsimp only; omega)) ?_; cbv)
    | (refine QC.tt (by first | omega | (dsimp only; omega) | exact rfl) ?_; cbv)
    | (refine QC.tt ?_ ?_; (focus (simp only [decide_true, Bool.and_true, Bool.and_self] <;> fail)); cbv)
    | (refine QC.ff ?_ ?_; (focus (simp only [decide_true, Bool.and_true, Bool.and_self, decide_false, Bool.false_and, reduceCtorEq, not_false_eq_true] <;> fail)); cbv)
    | (refine QC.ff (by first | omega | (dsimp only; omega)) ?_; cbv)
    | (refine QC.mk (fun hc => ?_) (fun hc => ?_) <;> (try dsimp only at hc) <;> cbv)
    | (refine br_mk2 (fun hb => ?_) (fun hb => ?_) <;> (try subst hb) <;> cbv)))
  refine ⟨?_⟩
  subst_vars
  rfl

theorem rx_c (q : Ql) (ok : q.ok) : Good 14 [encQ q] (.int .i64 (rxQ (cleanQ q))) := by
  have hv := clean_c q ok
  have hV := clean_Vq ok
  generalize hq : cleanQ q = p at *
  obtain ⟨k, h, c, n, r⟩ := q
  clear ok hq
  refine Good.of Try.func14 rfl (by rfl) (by rfl) ?_
  cbv
  (repeat' (first
    | (refine q1 (by first | exact trivial | omega | (dsimp only; omega) | exact pow62 _ (by omega) | exact mul9 (by omega) (by omega)) (fun z hz => ?_); (try simp only at hz); cbv)
    | (refine rq (by first | exact trivial | omega | (dsimp only; omega)) ?_; cbv)
    | (refine QC.tt (by first | omega | (dsimp only; omega) | exact rfl) ?_; cbv)
    | (refine QC.tt ?_ ?_; (focus (simp only [decide_true, Bool.and_true, Bool.and_self] <;> fail)); cbv)
    | (refine QC.ff ?_ ?_; (focus (simp only [decide_true, Bool.and_true, Bool.and_self, decide_false, Bool.false_and, reduceCtorEq, not_false_eq_true] <;> fail)); cbv)
    | (refine QC.ff (by first | omega | (dsimp only; omega)) ?_; cbv)
    | (refine QC.mk (fun hc => ?_) (fun hc => ?_) <;> (try dsimp only at hc) <;> cbv)
    | (refine br_mk2 (fun hb => ?_) (fun hb => ?_) <;> (try subst hb) <;> cbv)))
  refine callq hv rfl (fun h => by cases h) ?_
  have hb := hV.tight.bd
  have hx0 := hV.tight.1
  have hc0 := hV.tight.2.2
  obtain ⟨k', h', c', n', r'⟩ := p
  simp only at hb hx0 hc0
  cbv
  (repeat' (first
    | (refine q1 (by first | exact trivial | omega | (dsimp only; omega) | exact pow62 _ (by omega) | exact mul9 (by omega) (by omega)) (fun z hz => ?_); (try simp only at hz); cbv)
    | (refine rq (by first | exact trivial | omega | (dsimp only; omega)) ?_; cbv)
    | (refine QC.tt (by first | omega | (dsimp only; omega) | exact rfl) ?_; cbv)
    | (refine QC.tt ?_ ?_; (focus (simp only [decide_true, Bool.and_true, Bool.and_self] <;> fail)); cbv)
    | (refine QC.ff ?_ ?_; (focus (simp only [decide_true, Bool.and_true, Bool.and_self, decide_false, Bool.false_and, reduceCtorEq, not_false_eq_true] <;> fail)); cbv)
    | (refine QC.ff (by first | omega | (dsimp only; omega)) ?_; cbv)
    | (refine QC.mk (fun hc => ?_) (fun hc => ?_) <;> (try dsimp only at hc) <;> cbv)
    | (refine br_mk2 (fun hb => ?_) (fun hb => ?_) <;> (try subst hb) <;> cbv)))
  rotate_left
  · refine ⟨?_⟩
    simp [rxQ]
  refine loopQ (A := Int × Int) (fun p => 0 ≤ p.1 ∧ p.1 ≤ 8 ∧ p.2 = popc h' p.1.toNat) (fun p => (8 - p.1).toNat) (fun p => [(10, .int .i64 p.1), (3, .int .i64 p.2)]) (fun _ => []) (0, 0) ⟨by omega, by omega, rfl⟩ ?_ ?_
  · cbv
  · intro p hp
    cbv
    obtain ⟨i, n⟩ := p
    dsimp only at hp ⊢
    obtain ⟨h0, hm, hn⟩ := hp
    have hd := div_pow_bd h' i hx0 hb
    have hpc : 0 ≤ popc h' i.toNat ∧ popc h' i.toNat ≤ i := by have := popc_bd h' i.toNat; omega
    have hbit := bit_of h' i.toNat hx0
    have hbb : 0 ≤ h' / 2 ^ i.toNat % 2 ∧ h' / 2 ^ i.toNat % 2 ≤ 1 := by omega
    have hps : popc h' (i + 1).toNat = popc h' i.toNat + h' / 2 ^ i.toNat % 2 := by
      rw [show (i + 1).toNat = i.toNat + 1 by omega]; rfl
    (repeat' (first
    | (refine q1 (by first | exact trivial | omega | (dsimp only; omega) | exact pow62 _ (by omega) | exact mul9 (by omega) (by omega)) (fun z hz => ?_); (try simp only at hz); cbv)
    | (refine rq (by first | exact trivial | omega | (dsimp only; omega)) ?_; cbv)
    | (refine QC.tt (by first | omega | (dsimp only; omega) | exact rfl) ?_; cbv)
    | (refine QC.tt ?_ ?_; (focus (simp only [decide_true, Bool.and_true, Bool.and_self] <;> fail)); cbv)
    | (refine QC.ff ?_ ?_; (focus (simp only [decide_true, Bool.and_true, Bool.and_self, decide_false, Bool.false_and, reduceCtorEq, not_false_eq_true] <;> fail)); cbv)
    | (refine QC.ff (by first | omega | (dsimp only; omega)) ?_; cbv)
    | (refine QC.mk (fun hc => ?_) (fun hc => ?_) <;> (try dsimp only at hc) <;> cbv)
    | (refine br_mk2 (fun hb => ?_) (fun hb => ?_) <;> (try subst hb) <;> cbv)))
    · rename_i z0 hz0
      have hzv : z = h' / 2 ^ i.toNat % 2 := by rw [hz, hz0]; exact hbit
      clear hz hz0
      (repeat' (first
    | (refine q1 (by first | exact trivial | omega | (dsimp only; omega) | exact pow62 _ (by omega) | exact mul9 (by omega) (by omega)) (fun z hz => ?_); (try simp only at hz); cbv)
    | (refine rq (by first | exact trivial | omega | (dsimp only; omega)) ?_; cbv)
    | (refine QC.tt (by first | omega | (dsimp only; omega) | exact rfl) ?_; cbv)
    | (refine QC.tt ?_ ?_; (focus (simp only [decide_true, Bool.and_true, Bool.and_self] <;> fail)); cbv)
    | (refine QC.ff ?_ ?_; (focus (simp only [decide_true, Bool.and_true, Bool.and_self, decide_false, Bool.false_and, reduceCtorEq, not_false_eq_true] <;> fail)); cbv)
    | (refine QC.ff (by first | omega | (dsimp only; omega)) ?_; cbv)
    | (refine QC.mk (fun hc => ?_) (fun hc => ?_) <;> (try dsimp only at hc) <;> cbv)
    | (refine br_mk2 (fun hb => ?_) (fun hb => ?_) <;> (try subst hb) <;> cbv)))
      rename_i y hy
      refine ⟨(z, y), ⟨by omega, by omega, ?_⟩, by simp only; omega, ?_⟩
      · simp only
        rw [hz, hps]
        omega
      · cbv
    · have hrx := hV
      have hi8 : i = 8 := by omega
      subst hi8
      simp only [show (8 : Int).toNat = 8 from rfl] at hn hpc
      have h1 : 1 ≤ h' := by
        rcases hV with h | h
        · cases h.1
        · exact h.2.2.2.1
      have hpos := popc_pos h' h1 hb
      refine callq (ratio_c z n (by omega) (by omega)) rfl (fun h => by cases h) ?_
      generalize hres : (z + n - 1) / n = res
      cbv
      refine ⟨?_⟩
      rw [← hres, hz, hn]
      simp [rxQ]

theorem up_r (a b : Int) (ha : 0 ≤ a ∧ a ≤ 1000000000) (hb : 1 ≤ b ∧ b ≤ 1000000000) : Good 31 [.int .i64 a, .int .i64 b] (.int .i64 ((a + b - 1) / b)) := by
  refine Good.of Try.func31 rfl (by rfl) (by rfl) ?_
  cbv
  (repeat' (first
    | (refine q1 (by first | exact trivial | omega | (dsimp only; omega) | exact pow62 _ (by omega) | exact mul9 (by omega) (by omega)) (fun z hz => ?_); (try simp only at hz); cbv)
    | (refine rq (by first | exact trivial | omega | (dsimp only; omega)) ?_; cbv)
    | (refine QC.tt (by first | omega | (dsimp only; omega) | exact rfl) ?_; cbv)
    | (refine QC.tt ?_ ?_; (focus (simp only [decide_true, Bool.and_true, Bool.and_self] <;> fail)); cbv)
    | (refine QC.ff ?_ ?_; (focus (simp only [decide_true, Bool.and_true, Bool.and_self, decide_false, Bool.false_and, reduceCtorEq, not_false_eq_true] <;> fail)); cbv)
    | (refine QC.ff (by first | omega | (dsimp only; omega)) ?_; cbv)
    | (refine QC.mk (fun hc => ?_) (fun hc => ?_) <;> (try dsimp only at hc) <;> cbv)
    | (refine br_mk2 (fun hb => ?_) (fun hb => ?_) <;> (try subst hb) <;> cbv)))
  refine ⟨?_⟩
  subst_vars
  rfl

theorem rx_r (q : Ql) (ok : q.ok) : Good 28 [encQ q] (.int .i64 (rxQ (cleanQ q))) := by
  have hv := clean_r q ok
  have hV := clean_Vq ok
  generalize hq : cleanQ q = p at *
  obtain ⟨k, h, c, n, r⟩ := q
  clear ok hq
  refine Good.of Try.func28 rfl (by rfl) (by rfl) ?_
  cbv
  (repeat' (first
    | (refine q1 (by first | exact trivial | omega | (dsimp only; omega) | exact pow62 _ (by omega) | exact mul9 (by omega) (by omega)) (fun z hz => ?_); (try simp only at hz); cbv)
    | (refine rq (by first | exact trivial | omega | (dsimp only; omega)) ?_; cbv)
    | (refine QC.tt (by first | omega | (dsimp only; omega) | exact rfl) ?_; cbv)
    | (refine QC.tt ?_ ?_; (focus (simp only [decide_true, Bool.and_true, Bool.and_self] <;> fail)); cbv)
    | (refine QC.ff ?_ ?_; (focus (simp only [decide_true, Bool.and_true, Bool.and_self, decide_false, Bool.false_and, reduceCtorEq, not_false_eq_true] <;> fail)); cbv)
    | (refine QC.ff (by first | omega | (dsimp only; omega)) ?_; cbv)
    | (refine QC.mk (fun hc => ?_) (fun hc => ?_) <;> (try dsimp only at hc) <;> cbv)
    | (refine br_mk2 (fun hb => ?_) (fun hb => ?_) <;> (try subst hb) <;> cbv)))
  refine callq hv rfl (fun h => by cases h) ?_
  have hb := hV.tight.bd
  have hx0 := hV.tight.1
  have hc0 := hV.tight.2.2
  obtain ⟨k', h', c', n', r'⟩ := p
  simp only at hb hx0 hc0
  cbv
  refine loopQ (A := Int × Int) (fun p => 0 ≤ p.1 ∧ p.1 ≤ 8 ∧ p.2 = popc h' p.1.toNat) (fun p => (8 - p.1).toNat) (fun p => [(4, .int .u64 p.1), (3, .int .i64 p.2)]) (fun _ => []) (0, 0) ⟨by omega, by omega, rfl⟩ ?_ ?_
  · cbv
  · intro p hp
    cbv
    obtain ⟨i, n⟩ := p
    dsimp only at hp ⊢
    obtain ⟨h0, hm, hn⟩ := hp
    have hd := div_pow_bd h' i hx0 hb
    have hpc : 0 ≤ popc h' i.toNat ∧ popc h' i.toNat ≤ i := by have := popc_bd h' i.toNat; omega
    have hbit := bit_of h' i.toNat hx0
    have hbb : 0 ≤ h' / 2 ^ i.toNat % 2 ∧ h' / 2 ^ i.toNat % 2 ≤ 1 := by omega
    have hps : popc h' (i + 1).toNat = popc h' i.toNat + h' / 2 ^ i.toNat % 2 := by
      rw [show (i + 1).toNat = i.toNat + 1 by omega]; rfl
    (repeat' (first
    | (refine q1 (by first | exact trivial | omega | (dsimp only; omega) | exact pow62 _ (by omega) | exact mul9 (by omega) (by omega)) (fun z hz => ?_); (try simp only at hz); cbv)
    | (refine rq (by first | exact trivial | omega | (dsimp only; omega)) ?_; cbv)
    | (refine QC.tt (by first | omega | (dsimp only; omega) | exact rfl) ?_; cbv)
    | (refine QC.tt ?_ ?_; (focus (simp only [decide_true, Bool.and_true, Bool.and_self] <;> fail)); cbv)
    | (refine QC.ff ?_ ?_; (focus (simp only [decide_true, Bool.and_true, Bool.and_self, decide_false, Bool.false_and, reduceCtorEq, not_false_eq_true] <;> fail)); cbv)
    | (refine QC.ff (by first | omega | (dsimp only; omega)) ?_; cbv)
    | (refine QC.mk (fun hc => ?_) (fun hc => ?_) <;> (try dsimp only at hc) <;> cbv)
    | (refine br_mk2 (fun hb => ?_) (fun hb => ?_) <;> (try subst hb) <;> cbv)))
    · rename_i z0 hz0
      have hzv : z = h' / 2 ^ i.toNat % 2 := by rw [hz, hz0]; exact hbit
      clear hz hz0
      (repeat' (first
    | (refine q1 (by first | exact trivial | omega | (dsimp only; omega) | exact pow62 _ (by omega) | exact mul9 (by omega) (by omega)) (fun z hz => ?_); (try simp only at hz); cbv)
    | (refine rq (by first | exact trivial | omega | (dsimp only; omega)) ?_; cbv)
    | (refine QC.tt (by first | omega | (dsimp only; omega) | exact rfl) ?_; cbv)
    | (refine QC.tt ?_ ?_; (focus (simp only [decide_true, Bool.and_true, Bool.and_self] <;> fail)); cbv)
    | (refine QC.ff ?_ ?_; (focus (simp only [decide_true, Bool.and_true, Bool.and_self, decide_false, Bool.false_and, reduceCtorEq, not_false_eq_true] <;> fail)); cbv)
    | (refine QC.ff (by first | omega | (dsimp only; omega)) ?_; cbv)
    | (refine QC.mk (fun hc => ?_) (fun hc => ?_) <;> (try dsimp only at hc) <;> cbv)
    | (refine br_mk2 (fun hb => ?_) (fun hb => ?_) <;> (try subst hb) <;> cbv)))
      rename_i y hy
      refine ⟨(z, y), ⟨by omega, by omega, ?_⟩, by simp only; omega, ?_⟩
      · simp only
        rw [show z = i + 1 by omega, hps]
        omega
      · cbv
    · refine ⟨?_⟩
      have hi8 : i = 8 := by omega
      subst hi8
      simp only [show (8 : Int).toNat = 8 from rfl] at hn hpc
      rcases hV with h | h
      · have := h.1
        simp only at this
        subst this
        rfl
      · have hpos := popc_pos h' h.2.2.2.1 hb
        omega
    · have hi8 : i = 8 := by omega
      subst hi8
      simp only [show (8 : Int).toNat = 8 from rfl] at hn hpc
      refine callq (up_r z n (by omega) (by omega)) rfl (fun h => by cases h) ?_
      generalize hres : (z + n - 1) / n = res
      cbv
      refine ⟨?_⟩
      rcases hV with h | h
      · have := h.2.1
        simp only at this
        subst this
        exfalso
        have : popc 0 8 = 0 := by decide
        omega
      · have := h.1
        simp only at this
        subst this
        rw [← hres, hz, hn]
        simp [rxQ]

theorem report_c (q : Ql) (cost : Int) (ok : q.ok) : Good 20 [encQ q, .int .i64 cost] (encQ (reportQ (cleanQ q) cost)) := by
  have hv := clean_c q ok
  generalize hq : cleanQ q = p at *
  obtain ⟨k, h, c, n, r⟩ := q
  clear ok hq
  refine Good.of Try.func20 rfl (by rfl) (by kernel_rfl) ?_
  cbv
  (repeat' (first
    | (refine q1 (by first | exact trivial | omega | (dsimp only; omega) | exact pow62 _ (by omega) | exact mul9 (by omega) (by omega)) (fun z hz => ?_); (try simp only at hz); cbv)
    | (refine rq (by first | exact trivial | omega | (dsimp only; omega)) ?_; cbv)
    | (refine QC.tt (by first | omega | (dsimp only; omega) | exact rfl) ?_; cbv)
    | (refine QC.tt ?_ ?_; (focus (simp only [decide_true, Bool.and_true, Bool.and_self] <;> fail)); cbv)
    | (refine QC.ff ?_ ?_; (focus (simp only [decide_true, Bool.and_true, Bool.and_self, decide_false, Bool.false_and, reduceCtorEq, not_false_eq_true] <;> fail)); cbv)
    | (refine QC.ff (by first | omega | (dsimp only; omega)) ?_; cbv)
    | (refine QC.mk (fun hc => ?_) (fun hc => ?_) <;> (try dsimp only at hc) <;> cbv)
    | (refine br_mk2 (fun hb => ?_) (fun hb => ?_) <;> (try subst hb) <;> cbv)))
  refine callq hv rfl (fun h => by cases h) ?_
  obtain ⟨k', h', c', n', r'⟩ := p
  cbv
  (repeat' (first
    | (refine q1 (by first | exact trivial | omega | (dsimp only; omega) | exact pow62 _ (by omega) | exact mul9 (by omega) (by omega)) (fun z hz => ?_); (try simp only at hz); cbv)
    | (refine rq (by first | exact trivial | omega | (dsimp only; omega)) ?_; cbv)
    | (refine QC.tt (by first | omega | (dsimp only; omega) | exact rfl) ?_; cbv)
    | (refine QC.tt ?_ ?_; (focus (simp only [decide_true, Bool.and_true, Bool.and_self] <;> fail)); cbv)
    | (refine QC.ff ?_ ?_; (focus (simp only [decide_true, Bool.and_true, Bool.and_self, decide_false, Bool.false_and, reduceCtorEq, not_false_eq_true] <;> fail)); cbv)
    | (refine QC.ff (by first | omega | (dsimp only; omega)) ?_; cbv)
    | (refine QC.mk (fun hc => ?_) (fun hc => ?_) <;> (try dsimp only at hc) <;> cbv)
    | (refine br_mk2 (fun hb => ?_) (fun hb => ?_) <;> (try subst hb) <;> cbv)))
  all_goals refine ⟨?_⟩
  all_goals simp only [reportQ, encQ]
  · rw [if_pos ⟨trivial, by omega, by omega⟩]
  · rw [if_neg (by omega)]
  · rw [if_neg (by omega)]
  · rw [if_neg (by simp)]

theorem report_r (q : Ql) (cost : Int) (ok : q.ok) : Good 27 [encQ q, .int .i64 cost] (encQ (reportQ (cleanQ q) cost)) := by
  have hv := clean_r q ok
  generalize hq : cleanQ q = p at *
  obtain ⟨k, h, c, n, r⟩ := q
  clear ok hq
  refine Good.of Try.func27 rfl (by rfl) (by kernel_rfl) ?_
  cbv
  (repeat' (first
    | (refine q1 (by first | exact trivial | omega | (dsimp only; omega) | exact pow62 _ (by omega) | exact mul9 (by omega) (by omega)) (fun z hz => ?_); (try simp only at hz); cbv)
    | (refine rq (by first | exact trivial | omega | (dsimp only; omega)) ?_; cbv)
    | (refine QC.tt (by first | omega | (dsimp only; omega) | exact rfl) ?_; cbv)
    | (refine QC.tt ?_ ?_; (focus (simp only [decide_true, Bool.and_true, Bool.and_self] <;> fail)); cbv)
    | (refine QC.ff ?_ ?_; (focus (simp only [decide_true, Bool.and_true, Bool.and_self, decide_false, Bool.false_and, reduceCtorEq, not_false_eq_true] <;> fail)); cbv)
    | (refine QC.ff (by first | omega | (dsimp only; omega)) ?_; cbv)
    | (refine QC.mk (fun hc => ?_) (fun hc => ?_) <;> (try dsimp only at hc) <;> cbv)
    | (refine br_mk2 (fun hb => ?_) (fun hb => ?_) <;> (try subst hb) <;> cbv)))
  refine callq hv rfl (fun h => by cases h) ?_
  obtain ⟨k', h', c', n', r'⟩ := p
  cbv
  (repeat' (first
    | (refine q1 (by first | exact trivial | omega | (dsimp only; omega) | exact pow62 _ (by omega) | exact mul9 (by omega) (by omega)) (fun z hz => ?_); (try simp only at hz); cbv)
    | (refine rq (by first | exact trivial | omega | (dsimp only; omega)) ?_; cbv)
    | (refine QC.tt (by first | omega | (dsimp only; omega) | exact rfl) ?_; cbv)
    | (refine QC.tt ?_ ?_; (focus (simp only [decide_true, Bool.and_true, Bool.and_self] <;> fail)); cbv)
    | (refine QC.ff ?_ ?_; (focus (simp only [decide_true, Bool.and_true, Bool.and_self, decide_false, Bool.false_and, reduceCtorEq, not_false_eq_true] <;> fail)); cbv)
    | (refine QC.ff (by first | omega | (dsimp only; omega)) ?_; cbv)
    | (refine QC.mk (fun hc => ?_) (fun hc => ?_) <;> (try dsimp only at hc) <;> cbv)
    | (refine br_mk2 (fun hb => ?_) (fun hb => ?_) <;> (try subst hb) <;> cbv)))
  all_goals refine ⟨?_⟩
  all_goals simp only [reportQ, encQ]
  · rw [if_pos ⟨trivial, by omega, by omega⟩]
  · rw [if_neg (by omega)]
  · rw [if_neg (by omega)]
  · rw [if_neg (by simp)]

theorem missed_r (q : Ql) (ok : q.ok) : Good 26 [encQ q] (encQ (missedQ (cleanQ q))) := by
  have hv := clean_r q ok
  have hV := clean_Vq ok
  generalize hq : cleanQ q = p at *
  obtain ⟨k, h, c, n, r⟩ := q
  clear ok hq
  refine Good.of Try.func26 rfl (by rfl) (by rfl) ?_
  cbv
  (repeat' (first
    | (refine q1 (by first | exact trivial | omega | (dsimp only; omega) | exact pow62 _ (by omega) | exact mul9 (by omega) (by omega)) (fun z hz => ?_); (try simp only at hz); cbv)
    | (refine rq (by first | exact trivial | omega | (dsimp only; omega)) ?_; cbv)
    | (refine QC.tt (by first | omega | (dsimp only; omega) | exact rfl) ?_; cbv)
    | (refine QC.tt ?_ ?_; (focus (simp only [decide_true, Bool.and_true, Bool.and_self] <;> fail)); cbv)
    | (refine QC.ff ?_ ?_; (focus (simp only [decide_true, Bool.and_true, Bool.and_self, decide_false, Bool.false_and, reduceCtorEq, not_false_eq_true] <;> fail)); cbv)
    | (refine QC.ff (by first | omega | (dsimp only; omega)) ?_; cbv)
    | (refine QC.mk (fun hc => ?_) (fun hc => ?_) <;> (try dsimp only at hc) <;> cbv)
    | (refine br_mk2 (fun hb => ?_) (fun hb => ?_) <;> (try subst hb) <;> cbv)))
  refine callq hv rfl (fun h => by cases h) ?_
  have hb := hV.tight.bd
  have hx0 := hV.tight.1
  have hc0 := hV.tight.2.2
  have ha := add_r p 0 ⟨hx0, hb⟩ hc0 (.inl rfl)
  obtain ⟨k', h', c', n', r'⟩ := p
  simp only at hb hx0 hc0
  cbv
  (repeat' (first
    | (refine q1 (by first | exact trivial | omega | (dsimp only; omega) | exact pow62 _ (by omega) | exact mul9 (by omega) (by omega)) (fun z hz => ?_); (try simp only at hz); cbv)
    | (refine rq (by first | exact trivial | omega | (dsimp only; omega)) ?_; cbv)
    | (refine QC.tt (by first | omega | (dsimp only; omega) | exact rfl) ?_; cbv)
    | (refine QC.tt ?_ ?_; (focus (simp only [decide_true, Bool.and_true, Bool.and_self] <;> fail)); cbv)
    | (refine QC.ff ?_ ?_; (focus (simp only [decide_true, Bool.and_true, Bool.and_self, decide_false, Bool.false_and, reduceCtorEq, not_false_eq_true] <;> fail)); cbv)
    | (refine QC.ff (by first | omega | (dsimp only; omega)) ?_; cbv)
    | (refine QC.mk (fun hc => ?_) (fun hc => ?_) <;> (try dsimp only at hc) <;> cbv)
    | (refine br_mk2 (fun hb => ?_) (fun hb => ?_) <;> (try subst hb) <;> cbv)))
  · refine callq ha rfl (fun h => by cases h) ?_
    simp only [addQ]
    generalize hh : h' * 2 % 256 + 0 = h2
    generalize hc2 : min (c' + 1) 8 = c2
    cbv
    (repeat' (first
    | (refine q1 (by first | exact trivial | omega | (dsimp only; omega) | exact pow62 _ (by omega) | exact mul9 (by omega) (by omega)) (fun z hz => ?_); (try simp only at hz); cbv)
    | (refine rq (by first | exact trivial | omega | (dsimp only; omega)) ?_; cbv)
    | (refine QC.tt (by first | omega | (dsimp only; omega) | exact rfl) ?_; cbv)
    | (refine QC.tt ?_ ?_; (focus (simp only [decide_true, Bool.and_true, Bool.and_self] <;> fail)); cbv)
    | (refine QC.ff ?_ ?_; (focus (simp only [decide_true, Bool.and_true, Bool.and_self, decide_false, Bool.false_and, reduceCtorEq, not_false_eq_true] <;> fail)); cbv)
    | (refine QC.ff (by first | omega | (dsimp only; omega)) ?_; cbv)
    | (refine QC.mk (fun hc => ?_) (fun hc => ?_) <;> (try dsimp only at hc) <;> cbv)
    | (refine br_mk2 (fun hb => ?_) (fun hb => ?_) <;> (try subst hb) <;> cbv)))
    all_goals refine ⟨?_⟩
    all_goals subst_vars
    all_goals simp only [missedQ, encQ, zeroQ, Int.add_zero] at *
    · rw [if_pos (by assumption)]
    · rw [if_neg (by assumption)]
  · refine ⟨?_⟩
    rcases hV with h | h
    · obtain ⟨_, g1, g2, g3, g4⟩ := h
      simp only at g1 g2 g3 g4
      subst g1 g2 g3 g4
      rfl
    · cases h.1

theorem cost_c (q : Ql) (ok : q.ok) : Good 16 [encQ q] (.int .i64 (costQ (cleanQ q))) := by
  have hv := clean_c q ok
  have hV := clean_Vq ok
  have hr := rx_c (cleanQ q) hV.ok
  rw [hV.clean] at hr
  have h1 := hV.rx
  have h2 := @Vq.rx_no (cleanQ q)
  have h3 := hV.r_bd
  generalize hq : cleanQ q = p at *
  obtain ⟨k, h, c, n, r⟩ := q
  clear ok hq
  refine Good.of Try.func16 rfl (by rfl) (by kernel_rfl) ?_
  cbv
  (repeat' (first
    | (refine q1 (by first | exact trivial | omega | (dsimp only; omega) | exact pow62 _ (by omega) | exact mul9 (by omega) (by omega)) (fun z hz => ?_); (try simp only at hz); cbv)
    | (refine rq (by first | exact trivial | omega | (dsimp only; omega)) ?_; cbv)
    | (refine QC.tt (by first | omega | (dsimp only; omega) | exact rfl) ?_; cbv)
    | (refine QC.tt ?_ ?_; (focus (simp only [decide_true, Bool.and_true, Bool.and_self] <;> fail)); cbv)
    | (refine QC.ff ?_ ?_; (focus (simp only [decide_true, Bool.and_true, Bool.and_self, decide_false, Bool.false_and, reduceCtorEq, not_false_eq_true] <;> fail)); cbv)
    | (refine QC.ff (by first | omega | (dsimp only; omega)) ?_; cbv)
    | (refine QC.mk (fun hc => ?_) (fun hc => ?_) <;> (try dsimp only at hc) <;> cbv)
    | (refine br_mk2 (fun hb => ?_) (fun hb => ?_) <;> (try subst hb) <;> cbv)))
  refine callq hv rfl (fun h => by cases h) ?_
  obtain ⟨k', h', c', n', r'⟩ := p
  cbv
  (repeat' (first
    | (refine q1 (by first | exact trivial | omega | (dsimp only; omega) | exact pow62 _ (by omega) | exact mul9 (by omega) (by omega)) (fun z hz => ?_); (try simp only at hz); cbv)
    | (refine rq (by first | exact trivial | omega | (dsimp only; omega)) ?_; cbv)
    | (refine QC.tt (by first | omega | (dsimp only; omega) | exact rfl) ?_; cbv)
    | (refine QC.tt ?_ ?_; (focus (simp only [decide_true, Bool.and_true, Bool.and_self] <;> fail)); cbv)
    | (refine QC.ff ?_ ?_; (focus (simp only [decide_true, Bool.and_true, Bool.and_self, decide_false, Bool.false_and, reduceCtorEq, not_false_eq_true] <;> fail)); cbv)
    | (refine QC.ff (by first | omega | (dsimp only; omega)) ?_; cbv)
    | (refine QC.mk (fun hc => ?_) (fun hc => ?_) <;> (try dsimp only at hc) <;> cbv)
    | (refine br_mk2 (fun hb => ?_) (fun hb => ?_) <;> (try subst hb) <;> cbv)))
  refine callq hr rfl (fun h => by cases h) ?_
  generalize hx : rxQ ⟨k', h', c', n', r'⟩ = x at *
  simp only at h1 h2 h3
  have hxx : (k' = false ∧ x = 65535) ∨ (k' = true ∧ 256 ≤ x ∧ x ≤ 2048) := by
    cases k'
    · exact .inl ⟨rfl, h2 rfl⟩
    · exact .inr ⟨rfl, h1 rfl⟩
  clear h1 h2
  cbv
  (repeat' (first
    | (refine q1 (by first | exact trivial | omega | (dsimp only; omega) | exact pow62 _ (by omega) | exact mul9 (by omega) (by omega)) (fun z hz => ?_); (try simp only at hz); cbv)
    | (refine rq (by first | exact trivial | omega | (dsimp only; omega)) ?_; cbv)
    | (refine QC.tt (by first | omega | (dsimp only; omega) | exact rfl) ?_; cbv)
    | (refine QC.tt ?_ ?_; (focus (simp only [decide_true, Bool.and_true, Bool.and_self] <;> fail)); cbv)
    | (refine QC.ff ?_ ?_; (focus (simp only [decide_true, Bool.and_true, Bool.and_self, decide_false, Bool.false_and, reduceCtorEq, not_false_eq_true] <;> fail)); cbv)
    | (refine QC.ff (by first | omega | (dsimp only; omega)) ?_; cbv)
    | (refine QC.mk (fun hc => ?_) (fun hc => ?_) <;> (try dsimp only at hc) <;> cbv)
    | (refine br_mk2 (fun hb => ?_) (fun hb => ?_) <;> (try subst hb) <;> cbv)))
  · refine ⟨?_⟩
    rcases hxx with h | h
    · simp only [costQ]; rw [if_pos (.inl h.1)]
    · omega
  · refine ⟨?_⟩
    simp only [costQ]; rw [if_pos (.inr (.inl (by assumption)))]
  · refine ⟨?_⟩
    simp only [costQ]; rw [if_pos (.inr (.inr (by assumption)))]
  · rename_i y hy
    have hx2 : k' = true ∧ 256 ≤ x ∧ x ≤ 2048 := hxx.resolve_left (fun h => by omega)
    have hzb : 0 ≤ z ∧ z ≤ 1000000000 := by
      rw [hz]
      have h1 : 0 ≤ y * x := Int.mul_nonneg (by omega) (by omega)
      have h2 : y * x ≤ 65535 * 2048 := Int.mul_le_mul (by omega) (by omega) (by omega) (by omega)
      omega
    refine callq (ratio_c z 256 hzb (by omega)) rfl (fun h => by cases h) ?_
    generalize hres : (z + 256 - 1) / 256 = res
    cbv
    (repeat' (first
    | (refine q1 (by first | exact trivial | omega | (dsimp only; omega) | exact pow62 _ (by omega) | exact mul9 (by omega) (by omega)) (fun z hz => ?_); (try simp only at hz); cbv)
    | (refine rq (by first | exact trivial | omega | (dsimp only; omega)) ?_; cbv)
    | (refine QC.tt (by first | omega | (dsimp only; omega) | exact rfl) ?_; cbv)
    | (refine QC.tt ?_ ?_; (focus (simp only [decide_true, Bool.and_true, Bool.and_self] <;> fail)); cbv)
    | (refine QC.ff ?_ ?_; (focus (simp only [decide_true, Bool.and_true, Bool.and_self, decide_false, Bool.false_and, reduceCtorEq, not_false_eq_true] <;> fail)); cbv)
    | (refine QC.ff (by first | omega | (dsimp only; omega)) ?_; cbv)
    | (refine QC.mk (fun hc => ?_) (fun hc => ?_) <;> (try dsimp only at hc) <;> cbv)
    | (refine br_mk2 (fun hb => ?_) (fun hb => ?_) <;> (try subst hb) <;> cbv)))
    refine ⟨?_⟩
    simp only [costQ]
    rw [if_neg (by intro hh; rcases hh with h | h | h; · rw [hx2.1] at h; cases h
                   · contradiction
                   · contradiction), hx]
    subst_vars
    rfl
end Go.Proofs.Ytopalajoinkgkaa
