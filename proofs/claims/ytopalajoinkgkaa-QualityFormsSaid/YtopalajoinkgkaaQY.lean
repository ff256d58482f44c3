/- More contracts of package quality and of its reference: the reference's Cost, Hello. -/
import Derived.Test.YtopalajoinkgkaaQX
namespace Go.Proofs.Ytopalajoinkgkaa
set_option maxHeartbeats 1000000
theorem cost_r (q : Ql) (ok : q.ok) : Good 19 [encQ q] (.int .i64 (costQ (cleanQ q))) := by
  have hv := clean_r q ok
  have hV := clean_Vq ok
  have hr := rx_r (cleanQ q) hV.ok
  rw [hV.clean] at hr
  have h1 := hV.rx
  have h2 := @Vq.rx_no (cleanQ q)
  have h3 := hV.r_bd
  generalize hq : cleanQ q = p at *
  obtain ⟨k, h, c, n, r⟩ := q
  clear ok hq
  refine Good.of Try.func19 rfl (by rfl) (by kernel_rfl) ?_
  cbv
  (repeat' (first
    | (refine q1 (by first | exact trivial | omega | (dsimp only; omega) | exact pow62 _ (by omega) | exact mul9 (by omega) (by omega)) (fun z hz => ?_); (try simp only at hz); cbv)
    | (refine rq (by first | exact trivial | omega | (dsimp only; omega)) ?_; cbv)
    | (refine QC.tt (by first | omega | (dsimp only; omega) | exact rfl) ?_; cbv)
    | (refine QC.tt ?_ ?_; (focus (simp only [decide_true, Bool.and_true, Bool.and_self] <;> fail)); cbv)
    | (refine QC.ff ?_ ?_; (focus (simp only [decide_true, Bool.and_true, Bool.and_self, decide_false, Bool.false_and, reduceCtorEq, not_false_eq_true] <;> fail)); cbv)
    | (refine QC.ff (by first | omega | (dsimp only; omega)) ?_; cbv)
    | (refine QC.mk (fun hc => ?_) (fun hc => ?_) <;> (try dsimp only at hc) <;> cbv)
    | (refine br_mk2 (fun hb => ?_) (fun hb => ?_) <;> (try subst hb) <;> cbv)))
  refine callq hv rfl (fun h => by cases h) ?_
  obtain ⟨k', h', c', n', r'⟩ := p
  cbv
  (repeat' (first
    | (refine q1 (by first | exact trivial | omega | (dsimp only; omega) | exact pow62 _ (by omega) | exact mul9 (by omega) (by omega)) (fun z hz => ?_); (try simp only at hz); cbv)
    | (refine rq (by first | exact trivial | omega | (dsimp only; omega)) ?_; cbv)
    | (refine QC.tt (by first | omega | (dsimp only; omega) | exact rfl) ?_; cbv)
    | (refine QC.tt ?_ ?_; (focus (simp only [decide_true, Bool.and_true, Bool.and_self] <;> fail)); cbv)
    | (refine QC.ff ?_ ?_; (focus (simp only [decide_true, Bool.and_true, Bool.and_self, decide_false, Bool.false_and, reduceCtorEq, not_false_eq_true] <;> fail)); cbv)
    | (refine QC.ff (by first | omega | (dsimp only; omega)) ?_; cbv)
    | (refine QC.mk (fun hc => ?_) (fun hc => ?_) <;> (try dsimp only at hc) <;> cbv)
    | (refine br_mk2 (fun hb => ?_) (fun hb => ?_) <;> (try subst hb) <;> cbv)))
  refine callq hr rfl (fun h => by cases h) ?_
  generalize hx : rxQ ⟨k', h', c', n', r'⟩ = x at *
  simp only at h1 h2 h3
  have hxx : (k' = false ∧ x = 65535) ∨ (k' = true ∧ 256 ≤ x ∧ x ≤ 2048) := by
    cases k'
    · exact .inl ⟨rfl, h2 rfl⟩
    · exact .inr ⟨rfl, h1 rfl⟩
  clear h1 h2
  cbv
  (repeat' (first
    | (refine q1 (by first | exact trivial | omega | (dsimp only; omega) | exact pow62 _ (by omega) | exact mul9 (by omega) (by omega)) (fun z hz => ?_); (try simp only at hz); cbv)
    | (refine rq (by first | exact trivial | omega | (dsimp only; omega)) ?_; cbv)
    | (refine QC.tt (by first | omega | (dsimp only; omega) | exact rfl) ?_; cbv)
    | (refine QC.tt ?_ ?_; (focus (simp only [decide_true, Bool.and_true, Bool.and_self] <;> fail)); cbv)
    | (refine QC.ff ?_ ?_; (focus (simp only [decide_true, Bool.and_true, Bool.and_self, decide_false, Bool.false_and, reduceCtorEq, not_false_eq_true] <;> fail)); cbv)
    | (refine QC.ff (by first | omega | (dsimp only; omega)) ?_; cbv)
    | (refine QC.mk (fun hc => ?_) (fun hc => ?_) <;> (try dsimp only at hc) <;> cbv)
    | (refine br_mk2 (fun hb => ?_) (fun hb => ?_) <;> (try subst hb) <;> cbv)))
  · refine ⟨?_⟩
    rcases hxx with h | h
    · simp only [costQ]; rw [if_pos (.inl h.1)]
    · omega
  · refine ⟨?_⟩
    simp only [costQ]; rw [if_pos (.inr (.inl (by assumption)))]
  · refine ⟨?_⟩
    simp only [costQ]; rw [if_pos (.inr (.inr (by assumption)))]
  · refine callq hr rfl (fun h => by cases h) ?_
    cbv
    have hx2 : k' = true ∧ 256 ≤ x ∧ x ≤ 2048 := hxx.resolve_left (fun h => by omega)
    (repeat' (first
    | (refine q1 (by first | exact trivial | omega | (dsimp only; omega) | exact pow62 _ (by omega) | exact mul9 (by omega) (by omega)) (fun z hz => ?_); (try simp only at hz); cbv)
    | (refine rq (by first | exact trivial | omega | (dsimp only; omega)) ?_; cbv)
    | (refine QC.tt (by first | omega | (dsimp only; omega) | exact rfl) ?_; cbv)
    | (refine QC.tt ?_ ?_; (focus (simp only [decide_true, Bool.and_true, Bool.and_self] <;> fail)); cbv)
    | (refine QC.ff ?_ ?_; (focus (simp only [decide_true, Bool.and_true, Bool.and_self, decide_false, Bool.false_and, reduceCtorEq, not_false_eq_true] <;> fail)); cbv)
    | (refine QC.ff (by first | omega | (dsimp only; omega)) ?_; cbv)
    | (refine QC.mk (fun hc => ?_) (fun hc => ?_) <;> (try dsimp only at hc) <;> cbv)
    | (refine br_mk2 (fun hb => ?_) (fun hb => ?_) <;> (try subst hb) <;> cbv)))
    rename_i y hy
    have hzb : 0 ≤ z ∧ z ≤ 1000000000 := by
      rw [hz]
      have h1 : 0 ≤ y * x := Int.mul_nonneg (by omega) (by omega)
      have h2 : y * x ≤ 65535 * 2048 := Int.mul_le_mul (by omega) (by omega) (by omega) (by omega)
      omega
    refine callq (up_r z 256 hzb (by omega)) rfl (fun h => by cases h) ?_
    generalize hres : (z + 256 - 1) / 256 = res
    cbv
    (repeat' (first
    | (refine q1 (by first | exact trivial | omega | (dsimp only; omega) | exact pow62 _ (by omega) | exact mul9 (by omega) (by omega)) (fun z hz => ?_); (try simp only at hz); cbv)
    | (refine rq (by first | exact trivial | omega | (dsimp only; omega)) ?_; cbv)
    | (refine QC.tt (by first | omega | (dsimp only; omega) | exact rfl) ?_; cbv)
    | (refine QC.tt ?_ ?_; (focus (simp only [decide_true, Bool.and_true, Bool.and_self] <;> fail)); cbv)
    | (refine QC.ff ?_ ?_; (focus (simp only [decide_true, Bool.and_true, Bool.and_self, decide_false, Bool.false_and, reduceCtorEq, not_false_eq_true] <;> fail)); cbv)
    | (refine QC.ff (by first | omega | (dsimp only; omega)) ?_; cbv)
    | (refine QC.mk (fun hc => ?_) (fun hc => ?_) <;> (try dsimp only at hc) <;> cbv)
    | (refine br_mk2 (fun hb => ?_) (fun hb => ?_) <;> (try subst hb) <;> cbv)))
    refine ⟨?_⟩
    simp only [costQ]
    rw [if_neg (by intro hh; rcases hh with h | h | h; · rw [hx2.1] at h; cases h
                   · contradiction
                   · contradiction), hx]
    subst_vars
    rfl

theorem mid_neg (k : Bool) (h c n r d : Int) (hd : d < 0) : midQ ⟨k, h, c, n, r⟩ d = ⟨k, h / 2 ^ (0 - d).toNat, max (c + d) 0, n, r⟩ := by
  rw [midQ, if_pos hd, shrQ]
  rw [show (-d).toNat = (0 - d).toNat by omega, show ((0 - d).toNat : Int) = - d by omega]
  simp only [Int.sub_neg]
theorem mid_pos (q : Ql) (d : Int) (hd : ¬ d < 0) : midQ q d = q := by rw [midQ, if_neg hd]
theorem it_next (q : Ql) (i : Int) (h0 : 0 ≤ i) : itAdd (i + 1).toNat q = addQ (itAdd i.toNat q) 0 := by
  rw [show (i + 1).toNat = i.toNat + 1 by omega]; rfl
theorem hello_far (q : Ql) (s : Int) (h : q.k = false ∨ diffQ s q.n < -8 ∨ 8 < diffQ s q.n) : helloQ q s = ⟨true, 1, 1, (s + 1) % 65536, 0⟩ := by rw [helloQ, if_pos h]
theorem hello_near (q : Ql) (s d : Int) (hd : d = diffQ s q.n) (hk : q.k = true) (h1 : ¬ d < -8) (h2 : ¬ 8 < d) : helloQ q s = endQ (addQ (itAdd d.toNat (midQ q d)) 1) s := by
  rw [helloQ, if_neg, ← hd]
  rintro (h | h | h)
  · rw [hk] at h; cases h
  · rw [← hd] at h; exact h1 h
  · rw [← hd] at h; exact h2 h

theorem hello_c (q : Ql) (s : Int) (ok : q.ok) (hs : 0 ≤ s ∧ s ≤ 65535) : Good 11 [encQ q, .int .u16 s] (encQ (helloQ (cleanQ q) s)) := by
  have hv := clean_c q ok
  have hV := clean_Vq ok
  have hn := hV.n_bd
  generalize hq : cleanQ q = p at *
  obtain ⟨k, h, c, n, r⟩ := q
  clear ok hq
  have hT := hV.tight
  have hb := hT.bd
  have hx0 := hT.1
  have hc0 := hT.2.2
  refine Good.of Try.func11 rfl (by rfl) (by kernel_rfl) ?_
  cbv
  (repeat' (first
    | (refine q1 (by first | exact trivial | omega | (dsimp only; omega) | exact pow62 _ (by omega) | exact mul9 (by omega) (by omega)) (fun z hz => ?_); (try simp only at hz); cbv)
    | (refine rq (by first | exact trivial | omega | (dsimp only; omega)) ?_; cbv)
    | (refine QC.tt (by first | omega | (dsimp only; omega) | exact rfl) ?_; cbv)
    | (refine QC.tt ?_ ?_; (focus (simp only [decide_true, Bool.and_true, Bool.and_self] <;> fail)); cbv)
    | (refine QC.ff ?_ ?_; (focus (simp only [decide_true, Bool.and_true, Bool.and_self, decide_false, Bool.false_and, reduceCtorEq, not_false_eq_true] <;> fail)); cbv)
    | (refine QC.ff (by first | omega | (dsimp only; omega)) ?_; cbv)
    | (refine QC.mk (fun hc => ?_) (fun hc => ?_) <;> (try dsimp only at hc) <;> cbv)
    | (refine br_mk2 (fun hb => ?_) (fun hb => ?_) <;> (try subst hb) <;> cbv)))
  refine callq hv rfl (fun h => by cases h) ?_
  obtain ⟨k', h', c', n', r'⟩ := p
  simp only at hn hb hx0 hc0
  have hdv := fun i : Int => div_pow_bd h' i hx0 hb
  cbv
  (repeat' (first
    | (refine q1 (by first | exact trivial | omega | (dsimp only; omega) | exact pow62 _ (by omega) | exact mul9 (by omega) (by omega) | (have := hdv _; omega)) (fun z hz => ?_); (try simp only at hz); cbv)
    | (refine rq (by first | exact trivial | omega | (dsimp only; omega) | (have := hdv _; omega)) ?_; cbv)
    | (refine QC.tt (by first | omega | (dsimp only; omega) | exact rfl) ?_; cbv)
    | (refine QC.tt ?_ ?_; (focus (simp only [decide_true, Bool.and_true, Bool.and_self] <;> fail)); cbv)
    | (refine QC.ff ?_ ?_; (focus (simp only [decide_true, Bool.and_true, Bool.and_self, decide_false, Bool.false_and, reduceCtorEq, not_false_eq_true] <;> fail)); cbv)
    | (refine QC.ff (by first | omega | (dsimp only; omega)) ?_; cbv)
    | (refine QC.mk (fun hc => ?_) (fun hc => ?_) <;> (try dsimp only at hc) <;> cbv)
    | (refine br_mk2 (fun hb => ?_) (fun hb => ?_) <;> (try subst hb) <;> cbv)))
  · refine ⟨?_⟩
    rw [hello_far _ s (.inr (.inl (by simp only [diffQ]; omega))), hz]
    rfl
  · refine ⟨?_⟩
    rw [hello_far _ s (.inr (.inr (by simp only [diffQ]; omega))), hz]
    rfl
  rotate_right
  · refine ⟨?_⟩
    rw [hello_far _ s (.inl rfl), hz]
    rfl
  · rename_i z4 hz4 d hd e1 e2 z2 hz2 m1 hm1 z0 hz0
    have hdd : d = diffQ s n' := by simp only [diffQ]; omega
    have hmid : midQ ⟨true, h', c', n', r'⟩ d = ⟨true, m1, z, n', r'⟩ := by rw [mid_neg _ _ _ _ _ _ hc, hm1, hz, hz0, hz2]
    clear hz hm1
    generalize z = m2 at *
    have hMt := midQ_tight hT d
    rw [hmid] at hMt
    refine loopQ (A := Int × Int × Int) (fun p => 0 ≤ p.1 ∧ (p.1 ≤ d ∨ p.1 = 0) ∧ itAdd p.1.toNat ⟨true, m1, m2, n', r'⟩ = ⟨true, p.2.1, p.2.2, n', r'⟩) (fun p => (d - p.1).toNat) (fun p => [(43, .int .i64 p.1)]) (fun p => [(2, .chunk 25 (.agg [.bool true, .int .u8 p.2.1, .int .i64 p.2.2, .int .u16 n', .int .i64 r']))]) (0, m1, m2) ⟨by omega, .inr rfl, rfl⟩ ?_ ?_
    · cbv
    · intro p hp
      cbv
      obtain ⟨i, x, y⟩ := p
      dsimp only at hp ⊢
      obtain ⟨h0, hm, hi⟩ := hp
      have hxt := hMt.it i.toNat
      rw [hi] at hxt
      have hxb := hxt.bd
      have hxx := hxt.1
      have hyy := hxt.2.2
      simp only at hxb hxx hyy
      have hnx := it_next ⟨true, m1, m2, n', r'⟩ i h0
      rw [hi] at hnx
      simp only [addQ] at hnx
      (repeat' (first
    | (refine q1 (by first | exact trivial | omega | (dsimp only; omega) | exact pow62 _ (by omega) | exact mul9 (by omega) (by omega)) (fun z hz => ?_); (try simp only at hz); cbv)
    | (refine rq (by first | exact trivial | omega | (dsimp only; omega)) ?_; cbv)
    | (refine QC.tt (by first | omega | (dsimp only; omega) | exact rfl) ?_; cbv)
    | (refine QC.tt ?_ ?_; (focus (simp only [decide_true, Bool.and_true, Bool.and_self] <;> fail)); cbv)
    | (refine QC.ff ?_ ?_; (focus (simp only [decide_true, Bool.and_true, Bool.and_self, decide_false, Bool.false_and, reduceCtorEq, not_false_eq_true] <;> fail)); cbv)
    | (refine QC.ff (by first | omega | (dsimp only; omega)) ?_; cbv)
    | (refine QC.mk (fun hc => ?_) (fun hc => ?_) <;> (try dsimp only at hc) <;> cbv)
    | (refine br_mk2 (fun hb => ?_) (fun hb => ?_) <;> (try subst hb) <;> cbv)))
      · have hid : i.toNat = d.toNat := by omega
        refine callq (add_c ⟨true, x, y, n', r'⟩ 1 ⟨hxx, hxb⟩ hyy (.inr rfl)) rfl (fun h => by cases h) ?_
        simp only [addQ]
        generalize hh : x * 2 % 256 + 1 = x2 at *
        generalize hc2 : min (y + 1) 8 = y2 at *
        cbv
        (repeat' (first
    | (refine q1 (by first | exact trivial | omega | (dsimp only; omega) | exact pow62 _ (by omega) | exact mul9 (by omega) (by omega)) (fun z hz => ?_); (try simp only at hz); cbv)
    | (refine rq (by first | exact trivial | omega | (dsimp only; omega)) ?_; cbv)
    | (refine QC.tt (by first | omega | (dsimp only; omega) | exact rfl) ?_; cbv)
    | (refine QC.tt ?_ ?_; (focus (simp only [decide_true, Bool.and_true, Bool.and_self] <;> fail)); cbv)
    | (refine QC.ff ?_ ?_; (focus (simp only [decide_true, Bool.and_true, Bool.and_self, decide_false, Bool.false_and, reduceCtorEq, not_false_eq_true] <;> fail)); cbv)
    | (refine QC.ff (by first | omega | (dsimp only; omega)) ?_; cbv)
    | (refine QC.mk (fun hc => ?_) (fun hc => ?_) <;> (try dsimp only at hc) <;> cbv)
    | (refine br_mk2 (fun hb => ?_) (fun hb => ?_) <;> (try subst hb) <;> cbv)))
        refine ⟨?_⟩
        rw [hello_near _ s d hdd rfl (by omega) (by omega)]
        rw [hmid]
        rw [← hid, hi]
        simp only [endQ, addQ, encQ, hh, hc2, hz]
  · rename_i z4 hz4 e1 e2
    generalize z = d at *
    have hdd : d = diffQ s n' := by simp only [diffQ]; omega
    have hmid : midQ ⟨true, h', c', n', r'⟩ d = ⟨true, h', c', n', r'⟩ := mid_pos _ _ hc
    generalize hm1 : h' = m1 at hmid
    generalize hm2 : c' = m2 at hmid
    subst hm1 hm2
    have hMt := midQ_tight hT d
    rw [hmid] at hMt
    refine loopQ (A := Int × Int × Int) (fun p => 0 ≤ p.1 ∧ (p.1 ≤ d ∨ p.1 = 0) ∧ itAdd p.1.toNat ⟨true, h', c', n', r'⟩ = ⟨true, p.2.1, p.2.2, n', r'⟩) (fun p => (d - p.1).toNat) (fun p => [(43, .int .i64 p.1)]) (fun p => [(2, .chunk 25 (.agg [.bool true, .int .u8 p.2.1, .int .i64 p.2.2, .int .u16 n', .int .i64 r']))]) (0, h', c') ⟨by omega, .inr rfl, rfl⟩ ?_ ?_
    · cbv
    · intro p hp
      cbv
      obtain ⟨i, x, y⟩ := p
      dsimp only at hp ⊢
      obtain ⟨h0, hm, hi⟩ := hp
      have hxt := hMt.it i.toNat
      rw [hi] at hxt
      have hxb := hxt.bd
      have hxx := hxt.1
      have hyy := hxt.2.2
      simp only at hxb hxx hyy
      have hnx := it_next ⟨true, h', c', n', r'⟩ i h0
      rw [hi] at hnx
      simp only [addQ] at hnx
      (repeat' (first
    | (refine q1 (by first | exact trivial | omega | (dsimp only; omega) | exact pow62 _ (by omega) | exact mul9 (by omega) (by omega)) (fun z hz => ?_); (try simp only at hz); cbv)
    | (refine rq (by first | exact trivial | omega | (dsimp only; omega)) ?_; cbv)
    | (refine QC.tt (by first | omega | (dsimp only; omega) | exact rfl) ?_; cbv)
    | (refine QC.tt ?_ ?_; (focus (simp only [decide_true, Bool.and_true, Bool.and_self] <;> fail)); cbv)
    | (refine QC.ff ?_ ?_; (focus (simp only [decide_true, Bool.and_true, Bool.and_self, decide_false, Bool.false_and, reduceCtorEq, not_false_eq_true] <;> fail)); cbv)
    | (refine QC.ff (by first | omega | (dsimp only; omega)) ?_; cbv)
    | (refine QC.mk (fun hc => ?_) (fun hc => ?_) <;> (try dsimp only at hc) <;> cbv)
    | (refine br_mk2 (fun hb => ?_) (fun hb => ?_) <;> (try subst hb) <;> cbv)))
      · refine callq (add_c ⟨true, x, y, n', r'⟩ 0 ⟨hxx, hxb⟩ hyy (.inl rfl)) rfl (fun h => by cases h) ?_
        simp only [addQ]
        generalize hh : x * 2 % 256 + 0 = x2 at *
        generalize hc2 : min (y + 1) 8 = y2 at *
        cbv
        (repeat' (first
    | (refine q1 (by first | exact trivial | omega | (dsimp only; omega) | exact pow62 _ (by omega) | exact mul9 (by omega) (by omega)) (fun z hz => ?_); (try simp only at hz); cbv)
    | (refine rq (by first | exact trivial | omega | (dsimp only; omega)) ?_; cbv)
    | (refine QC.tt (by first | omega | (dsimp only; omega) | exact rfl) ?_; cbv)
    | (refine QC.tt ?_ ?_; (focus (simp only [decide_true, Bool.and_true, Bool.and_self] <;> fail)); cbv)
    | (refine QC.ff ?_ ?_; (focus (simp only [decide_true, Bool.and_true, Bool.and_self, decide_false, Bool.false_and, reduceCtorEq, not_false_eq_true] <;> fail)); cbv)
    | (refine QC.ff (by first | omega | (dsimp only; omega)) ?_; cbv)
    | (refine QC.mk (fun hc => ?_) (fun hc => ?_) <;> (try dsimp only at hc) <;> cbv)
    | (refine br_mk2 (fun hb => ?_) (fun hb => ?_) <;> (try subst hb) <;> cbv)))
        refine ⟨(z, x2, y2), ⟨by simp only; omega, by simp only; omega, ?_⟩, by simp only; omega, ?_⟩
        · simp only
          rw [hz]
          exact hnx
        · cbv
      · have hid : i.toNat = d.toNat := by omega
        refine callq (add_c ⟨true, x, y, n', r'⟩ 1 ⟨hxx, hxb⟩ hyy (.inr rfl)) rfl (fun h => by cases h) ?_
        simp only [addQ]
        generalize hh : x * 2 % 256 + 1 = x2 at *
        generalize hc2 : min (y + 1) 8 = y2 at *
        cbv
        (repeat' (first
    | (refine q1 (by first | exact trivial | omega | (dsimp only; omega) | exact pow62 _ (by omega) | exact mul9 (by omega) (by omega)) (fun z hz => ?_); (try simp only at hz); cbv)
    | (refine rq (by first | exact trivial | omega | (dsimp only; omega)) ?_; cbv)
    | (refine QC.tt (by first | omega | (dsimp only; omega) | exact rfl) ?_; cbv)
    | (refine QC.tt ?_ ?_; (focus (simp only [decide_true, Bool.and_true, Bool.and_self] <;> fail)); cbv)
    | (refine QC.ff ?_ ?_; (focus (simp only [decide_true, Bool.and_true, Bool.and_self, decide_false, Bool.false_and, reduceCtorEq, not_false_eq_true] <;> fail)); cbv)
    | (refine QC.ff (by first | omega | (dsimp only; omega)) ?_; cbv)
    | (refine QC.mk (fun hc => ?_) (fun hc => ?_) <;> (try dsimp only at hc) <;> cbv)
    | (refine br_mk2 (fun hb => ?_) (fun hb => ?_) <;> (try subst hb) <;> cbv)))
        refine ⟨?_⟩
        rw [hello_near _ s d hdd rfl (by omega) (by omega)]
        rw [hmid]
        rw [← hid, hi]
        simp only [endQ, addQ, encQ, hh, hc2, hz]
end Go.Proofs.Ytopalajoinkgkaa
