/- The reference's Hello. -/
import Derived.Test.YtopalajoinkgkaaQY
namespace Go.Proofs.Ytopalajoinkgkaa
set_option maxHeartbeats 1000000
theorem half_pow (h : Int) (i j : Nat) (e : j = i + 1) : h / 2 ^ i / 2 = h / 2 ^ j := by
  subst e
  rw [Int.ediv_ediv_of_nonneg (Int.pow_nonneg (by omega)), Int.pow_succ]

theorem hello_r (q : Ql) (s : Int) (ok : q.ok) (hs : 0 ≤ s ∧ s ≤ 65535) : Good 18 [encQ q, .int .u16 s] (encQ (helloQ (cleanQ q) s)) := by
  have hv := clean_r q ok
  have hV := clean_Vq ok
  have hn := hV.n_bd
  generalize hq : cleanQ q = p at *
  obtain ⟨k, h, c, n, r⟩ := q
  clear ok hq
  have hT := hV.tight
  have hb := hT.bd
  have hx0 := hT.1
  have hc0 := hT.2.2
  refine Good.of Try.func18 rfl (by rfl) (by kernel_rfl) ?_
  cbv
  (repeat' (first
    | (refine q1 (by first | exact trivial | omega | (dsimp only; omega) | exact pow62 _ (by omega) | exact mul9 (by omega) (by omega)) (fun z hz => ?_); (try simp only at hz); cbv)
    | (refine rq (by first | exact trivial | omega | (dsimp only; omega)) ?_; cbv)
    | (refine QC.tt (by first | omega | (dsimp only; omega) | exact rfl) ?_; cbv)
    | (refine QC.tt ?_ ?_; (focus (simp only [decide_true, Bool.and_true, Bool.and_self] <;> fail)); cbv)
    | (refine QC.ff ?_ ?_; (focus (simp only [decide_true, Bool.and_true, Bool.and_self, decide_false, Bool.false_and, reduceCtorEq, not_false_eq_true] <;> fail)); cbv)
    | (refine QC.ff (by first | omega | (dsimp only; omega)) ?_; cbv)
    | (refine QC.mk (fun hc => ?_) (fun hc => ?_) <;> (try dsimp only at hc) <;> cbv)
    | (refine br_mk2 (fun hb => ?_) (fun hb => ?_) <;> (try subst hb) <;> cbv)))
  refine callq hv rfl (fun h => by cases h) ?_
  obtain ⟨k', h', c', n', r'⟩ := p
  simp only at hn hb hx0 hc0
  cbv
  (repeat' (first
    | (refine q1 (by first | exact trivial | omega | (dsimp only; omega) | exact pow62 _ (by omega) | exact mul9 (by omega) (by omega)) (fun z hz => ?_); (try simp only at hz); cbv)
    | (refine rq (by first | exact trivial | omega | (dsimp only; omega)) ?_; cbv)
    | (refine QC.tt (by first | omega | (dsimp only; omega) | exact rfl) ?_; cbv)
    | (refine QC.tt ?_ ?_; (focus (simp only [decide_true, Bool.and_true, Bool.and_self] <;> fail)); cbv)
    | (refine QC.ff ?_ ?_; (focus (simp only [decide_true, Bool.and_true, Bool.and_self, decide_false, Bool.false_and, reduceCtorEq, not_false_eq_true] <;> fail)); cbv)
    | (refine QC.ff (by first | omega | (dsimp only; omega)) ?_; cbv)
    | (refine QC.mk (fun hc => ?_) (fun hc => ?_) <;> (try dsimp only at hc) <;> cbv)
    | (refine br_mk2 (fun hb => ?_) (fun hb => ?_) <;> (try subst hb) <;> cbv)))
  · refine ⟨?_⟩
    rw [hello_far _ s (.inr (.inl (by simp only [diffQ]; omega))), hz]
    rfl
  · refine ⟨?_⟩
    rw [hello_far _ s (.inr (.inr (by simp only [diffQ]; omega))), hz]
    rfl
  rotate_right
  · refine ⟨?_⟩
    rw [hello_far _ s (.inl rfl), hz]
    rfl
  rename_i z4 hz4 e1
  generalize z = d at *
  have hdd : d = diffQ s n' := by simp only [diffQ]; omega
  refine loopQ (A := Int × Int × Int) (fun p => (0 ≤ d ∧ p.1 = d ∧ p.2.1 = h' ∧ p.2.2 = c') ∨ (d < 0 ∧ d ≤ p.1 ∧ p.1 ≤ 0 ∧ p.2.1 = h' / 2 ^ (p.1 - d).toNat ∧ p.2.2 = max (c' - (p.1 - d)) 0)) (fun p => (0 - p.1).toNat) (fun p => [(5, .int .i64 p.1)]) (fun p => [(2, .chunk 25 (.agg [.bool true, .int .u8 p.2.1, .int .i64 p.2.2, .int .u16 n', .int .i64 r']))]) (d, h', c') ?_ ?_ ?_
  · by_cases h0 : 0 ≤ d
    · exact .inl ⟨h0, rfl, rfl, rfl⟩
    · refine .inr ⟨by omega, by dsimp only; omega, by dsimp only; omega, ?_, by dsimp only; omega⟩
      simp
  · cbv
  · intro p hp
    cbv
    obtain ⟨i, x, y⟩ := p
    dsimp only at hp ⊢
    have hxx : 0 ≤ x ∧ x ≤ 255 := by
      rcases hp with h | h
      · omega
      · have := div_pow_bd h' (i - d) hx0 hb; omega
    have hyy : 0 ≤ y ∧ y ≤ 8 := by omega
    have hdi : (0 ≤ d ∧ i = d) ∨ (d < 0 ∧ d ≤ i ∧ i ≤ 0) := by omega
    (repeat' (first
    | (refine q1 (by first | exact trivial | omega | (dsimp only; omega) | exact pow62 _ (by omega) | exact mul9 (by omega) (by omega)) (fun z hz => ?_); (try simp only at hz); cbv)
    | (refine rq (by first | exact trivial | omega | (dsimp only; omega)) ?_; cbv)
    | (refine QC.tt (by first | omega | (dsimp only; omega) | exact rfl) ?_; cbv)
    | (refine QC.tt ?_ ?_; (focus (simp only [decide_true, Bool.and_true, Bool.and_self] <;> fail)); cbv)
    | (refine QC.ff ?_ ?_; (focus (simp only [decide_true, Bool.and_true, Bool.and_self, decide_false, Bool.false_and, reduceCtorEq, not_false_eq_true] <;> fail)); cbv)
    | (refine QC.ff (by first | omega | (dsimp only; omega)) ?_; cbv)
    | (refine QC.mk (fun hc => ?_) (fun hc => ?_) <;> (try dsimp only at hc) <;> cbv)
    | (refine br_mk2 (fun hb => ?_) (fun hb => ?_) <;> (try subst hb) <;> cbv)))
    · rename_i x2 hx2 y1 hy1 y2 hy2
      refine ⟨(z, x2, y2), .inr ?_, by dsimp only; omega, ?_⟩
      · dsimp only
        have hlt : d < 0 := by omega
        rcases hp with h | h
        · omega
        · refine ⟨hlt, by omega, by omega, ?_, by omega⟩
          rw [hx2, h.2.2.2.1, half_pow h' (i - d).toNat (z - d).toNat (by omega)]
      · cbv
    · have hmid : midQ ⟨true, h', c', n', r'⟩ d = ⟨true, x, y, n', r'⟩ := by
        rcases hp with h | h
        · rw [mid_pos _ _ (by omega), h.2.2.1, h.2.2.2]
        · rw [mid_neg _ _ _ _ _ _ h.1, h.2.2.2.1, h.2.2.2.2, show i = 0 by omega]
          congr 1
          omega
      have hMt := midQ_tight hT d
      rw [hmid] at hMt
      generalize x = m1, y = m2 at hmid hMt ⊢
      clear hp hxx hyy x y
      refine loopQ (A := Int × Int × Int) (fun p => 0 ≤ p.1 ∧ p.1 ≤ i ∧ itAdd (i - p.1).toNat ⟨true, m1, m2, n', r'⟩ = ⟨true, p.2.1, p.2.2, n', r'⟩) (fun p => p.1.toNat) (fun p => [(5, .int .i64 p.1)]) (fun p => [(2, .chunk 25 (.agg [.bool true, .int .u8 p.2.1, .int .i64 p.2.2, .int .u16 n', .int .i64 r']))]) (i, m1, m2) ⟨by dsimp only; omega, by dsimp only; omega, by simp [itAdd]⟩ ?_ ?_
      · cbv
      · intro p hp
        cbv
        obtain ⟨a, x, y⟩ := p
        dsimp only at hp ⊢
        obtain ⟨h0, hm, hi⟩ := hp
        have hxt := hMt.it (i - a).toNat
        rw [hi] at hxt
        have hxb := hxt.bd
        have hxx := hxt.1
        have hyy := hxt.2.2
        simp only at hxb hxx hyy
        have hnx := it_next ⟨true, m1, m2, n', r'⟩ (i - a) (by omega)
        rw [hi] at hnx
        simp only [addQ] at hnx
        (repeat' (first
    | (refine q1 (by first | exact trivial | omega | (dsimp only; omega) | exact pow62 _ (by omega) | exact mul9 (by omega) (by omega)) (fun z hz => ?_); (try simp only at hz); cbv)
    | (refine rq (by first | exact trivial | omega | (dsimp only; omega)) ?_; cbv)
    | (refine QC.tt (by first | omega | (dsimp only; omega) | exact rfl) ?_; cbv)
    | (refine QC.tt ?_ ?_; (focus (simp only [decide_true, Bool.and_true, Bool.and_self] <;> fail)); cbv)
    | (refine QC.ff ?_ ?_; (focus (simp only [decide_true, Bool.and_true, Bool.and_self, decide_false, Bool.false_and, reduceCtorEq, not_false_eq_true] <;> fail)); cbv)
    | (refine QC.ff (by first | omega | (dsimp only; omega)) ?_; cbv)
    | (refine QC.mk (fun hc => ?_) (fun hc => ?_) <;> (try dsimp only at hc) <;> cbv)
    | (refine br_mk2 (fun hb => ?_) (fun hb => ?_) <;> (try subst hb) <;> cbv)))
        · refine callq (add_r ⟨true, x, y, n', r'⟩ 0 ⟨hxx, hxb⟩ hyy (.inl rfl)) rfl (fun h => by cases h) ?_
          simp only [addQ]
          generalize hh : x * 2 % 256 + 0 = x2 at *
          generalize hc2 : min (y + 1) 8 = y2 at *
          cbv
          (repeat' (first
    | (refine q1 (by first | exact trivial | omega | (dsimp only; omega) | exact pow62 _ (by omega) | exact mul9 (by omega) (by omega)) (fun z hz => ?_); (try simp only at hz); cbv)
    | (refine rq (by first | exact trivial | omega | (dsimp only; omega)) ?_; cbv)
    | (refine QC.tt (by first | omega | (dsimp only; omega) | exact rfl) ?_; cbv)
    | (refine QC.tt ?_ ?_; (focus (simp only [decide_true, Bool.and_true, Bool.and_self] <;> fail)); cbv)
    | (refine QC.ff ?_ ?_; (focus (simp only [decide_true, Bool.and_true, Bool.and_self, decide_false, Bool.false_and, reduceCtorEq, not_false_eq_true] <;> fail)); cbv)
    | (refine QC.ff (by first | omega | (dsimp only; omega)) ?_; cbv)
    | (refine QC.mk (fun hc => ?_) (fun hc => ?_) <;> (try dsimp only at hc) <;> cbv)
    | (refine br_mk2 (fun hb => ?_) (fun hb => ?_) <;> (try subst hb) <;> cbv)))
          refine ⟨(z, x2, y2), ⟨by dsimp only; omega, by dsimp only; omega, ?_⟩, by dsimp only; omega, ?_⟩
          · dsimp only
            rw [hz, show i - (a - 1) = i - a + 1 by omega]
            exact hnx
          · cbv
        · have hid : (i - a).toNat = d.toNat := by omega
          refine callq (add_r ⟨true, x, y, n', r'⟩ 1 ⟨hxx, hxb⟩ hyy (.inr rfl)) rfl (fun h => by cases h) ?_
          simp only [addQ]
          generalize hh : x * 2 % 256 + 1 = x2 at *
          generalize hc2 : min (y + 1) 8 = y2 at *
          cbv
          (repeat' (first
    | (refine q1 (by first | exact trivial | omega | (dsimp only; omega) | exact pow62 _ (by omega) | exact mul9 (by omega) (by omega)) (fun z hz => ?_); (try simp only at hz); cbv)
    | (refine rq (by first | exact trivial | omega | (dsimp only; omega)) ?_; cbv)
    | (refine QC.tt (by first | omega | (dsimp only; omega) | exact rfl) ?_; cbv)
    | (refine QC.tt ?_ ?_; (focus (simp only [decide_true, Bool.and_true, Bool.and_self] <;> fail)); cbv)
    | (refine QC.ff ?_ ?_; (focus (simp only [decide_true, Bool.and_true, Bool.and_self, decide_false, Bool.false_and, reduceCtorEq, not_false_eq_true] <;> fail)); cbv)
    | (refine QC.ff (by first | omega | (dsimp only; omega)) ?_; cbv)
    | (refine QC.mk (fun hc => ?_) (fun hc => ?_) <;> (try dsimp only at hc) <;> cbv)
    | (refine br_mk2 (fun hb => ?_) (fun hb => ?_) <;> (try subst hb) <;> cbv)))
          refine ⟨?_⟩
          rw [hello_near _ s d hdd rfl (by omega) (by omega)]
          rw [hmid]
          rw [← hid, hi]
          simp only [endQ, addQ, encQ, hh, hc2, hz]
end Go.Proofs.Ytopalajoinkgkaa
