/- Texts put together: WN. -/
import Derived.Test.YtjhicdoigllblaaMf
/- The walk of the law RecoveryEnds. -/
namespace Go.Proofs.Ytjhicdoigllblaa
set_option linter.unusedVariables false
set_option linter.unusedSimpArgs false
open Go.RowKit
set_option maxHeartbeats 16000000
set_option maxRecDepth 4000 in
theorem ends_c (zs : List Int) (n lo : Int) (hz : ∀ v ∈ zs, -9223372036854775808 ≤ v ∧ v ≤ 9223372036854775807) (hn : -9223372036854775808 ≤ n ∧ n ≤ 9223372036854775807) (hlo : -9223372036854775808 ≤ lo ∧ lo ≤ 9223372036854775807) :
    Good 8 (pu [.lst none (ints .i64 zs), .int .i64 n, .int .i64 lo] (.bool true)) := by
  obtain ⟨T, hT⟩ : ∃ T, T = (ints .i64 zs).take 400 := ⟨_, rfl⟩
  have h0 := new_c (ints .i64 zs) T hT
  have t0 : Tp T 0 := hT ▸ tape1 zs hz
  have hm := mod_c n 200 hn (by omega)
  have hm2 := mod_c lo 8 hlo (by omega)
  obtain ⟨N0, hN0⟩ : ∃ N, N = n % 200 := ⟨_, rfl⟩
  rw [← hN0] at hm
  have hN1 : 0 ≤ N0 ∧ N0 < 200 := by omega
  obtain ⟨M0, hM0⟩ : ∃ N, N = lo % 8 := ⟨_, rfl⟩
  rw [← hM0] at hm2
  have hM1 : 0 ≤ M0 ∧ M0 < 8 := by omega
  obtain ⟨lost, hlost⟩ : ∃ lost : Nat, M0 = lost := Int.eq_ofNat_of_zero_le hM1.1
  obtain ⟨N, hN⟩ : ∃ N, N = 1 + N0 := ⟨_, rfl⟩
  obtain ⟨R0, ys, a1, hR0, hyl, hy, t1, g1⟩ := fill_e t0 N (by omega)
  obtain ⟨bs, hbs, hbl⟩ := u8l_of ys hy
  have hRb : R0 = u8l bs := hR0.trans hbs
  obtain ⟨q1', P0⟩ := beg_ok bs 3 7 (by omega) (by omega) (by omega) (by rw [Nat.div_lt_iff_lt_mul (by omega)]; omega)
  have hwh := chk_whole (sz := 7) (b := bs) (by omega) (by omega)
  obtain ⟨ps, hps⟩ : ∃ ps, ps = chk 7 bs (nPc bs.length 7) := ⟨_, rfl⟩
  rw [← hps] at q1' P0 hwh
  obtain ⟨R, hR⟩ : ∃ R, R = rowsB ps := ⟨_, rfl⟩
  have hRl : R.length = ps.length := by rw [hR, rowsB_len]
  have g2 := begin_p bs R0 hRb (by omega) 3 11 (by omega) ⟨1, 3, ps, 0, 0, 0⟩ R hR 0 q1'
  have hk := known_c
  have hbl2 : bs.length ≤ 200 := by omega
  have gsm := same_c bs bs R0 R0 true hRb hRb (by omega) (by omega) (by simp)
  have hn1 := P0.n1
  have hn2 := P0.n2
  obtain ⟨b1, b2, s1, s2, s3, s4, m2, m3, m4, r1, r2, r4, r3, r5, L, ⟨i1, i2, i3, i4, i5, i6, i7, i8, i9, i10, i11⟩, gA, gB, hLl, gR, gK, gD, hs1, hs2⟩ := ends_w P0 hR lost (by omega) bs hwh hbl2 R0 hRb
  obtain ⟨c, hc⟩ : ∃ c, c = ps.length := ⟨_, rfl⟩
  rw [← hc] at gB hLl gR gK gD hs1 hs2 hRl hn1 hn2
  clear hwh P0 q1' hbs hR0 hT t0 t1 hps hz hR hc
  have g2 : Good _ (pu [.lst none R0, .int .u8 3, .int .i64 11] (.tup [sndV R 1 0 0 0, .int .i64 0])) := g2
  generalize ints .i64 zs = Z at *
  refine Good.of Try.func8 rfl (by rfl) (by kernel_rfl) ?_
  cbv
  have hmk : True := trivial
  (repeat' (first
    | (refine q1 (by first | exact trivial | omega | (dsimp only; omega) | exact pow62 _ (by omega) | exact mul9 (by omega) (by omega) | (simp only [sm] at *; omega)) (fun z hz => ?_); (try simp only at hz); cbv)
    | (refine rq (by first | exact trivial | omega | (dsimp only; omega) | (simp only [sm] at *; omega)) ?_; cbv)
    | (refine QC.tt (by first | omega | (dsimp only; omega) | exact rfl | (simp only [sm] at *; omega)) ?_; cbv)
    | (refine QC.tt ?_ ?_; (focus (simp only [decide_true, Bool.and_true, Bool.and_self] <;> fail)); cbv)
    | (refine QC.ff ?_ ?_; (focus (simp only [decide_true, Bool.and_true, Bool.and_self, decide_false, Bool.false_and, reduceCtorEq, not_false_eq_true] <;> fail)); cbv)
    | (refine QC.ff (by first | omega | (dsimp only; omega) | (simp only [sm] at *; omega)) ?_; cbv)
    | (refine QC.mk (fun hc => ?_) (fun hc => ?_) <;> (try dsimp only at hc) <;> cbv)
    | (refine br_mk2 (fun hb => ?_) (fun hb => ?_) <;> (try subst hb) <;> cbv)))
  (refine callq (h0) rfl rfl ?_; cbv; (repeat' (first
    | (refine q1 (by first | exact trivial | omega | (dsimp only; omega) | exact pow62 _ (by omega) | exact mul9 (by omega) (by omega) | (simp only [sm] at *; omega)) (fun z hz => ?_); (try simp only at hz); cbv)
    | (refine rq (by first | exact trivial | omega | (dsimp only; omega) | (simp only [sm] at *; omega)) ?_; cbv)
    | (refine QC.tt (by first | omega | (dsimp only; omega) | exact rfl | (simp only [sm] at *; omega)) ?_; cbv)
    | (refine QC.tt ?_ ?_; (focus (simp only [decide_true, Bool.and_true, Bool.and_self] <;> fail)); cbv)
    | (refine QC.ff ?_ ?_; (focus (simp only [decide_true, Bool.and_true, Bool.and_self, decide_false, Bool.false_and, reduceCtorEq, not_false_eq_true] <;> fail)); cbv)
    | (refine QC.ff (by first | omega | (dsimp only; omega) | (simp only [sm] at *; omega)) ?_; cbv)
    | (refine QC.mk (fun hc => ?_) (fun hc => ?_) <;> (try dsimp only at hc) <;> cbv)
    | (refine br_mk2 (fun hb => ?_) (fun hb => ?_) <;> (try subst hb) <;> cbv))))
  (refine callq (hm) rfl rfl ?_; cbv; (repeat' (first
    | (refine q1 (by first | exact trivial | omega | (dsimp only; omega) | exact pow62 _ (by omega) | exact mul9 (by omega) (by omega) | (simp only [sm] at *; omega)) (fun z hz => ?_); (try simp only at hz); cbv)
    | (refine rq (by first | exact trivial | omega | (dsimp only; omega) | (simp only [sm] at *; omega)) ?_; cbv)
    | (refine QC.tt (by first | omega | (dsimp only; omega) | exact rfl | (simp only [sm] at *; omega)) ?_; cbv)
    | (refine QC.tt ?_ ?_; (focus (simp only [decide_true, Bool.and_true, Bool.and_self] <;> fail)); cbv)
    | (refine QC.ff ?_ ?_; (focus (simp only [decide_true, Bool.and_true, Bool.and_self, decide_false, Bool.false_and, reduceCtorEq, not_false_eq_true] <;> fail)); cbv)
    | (refine QC.ff (by first | omega | (dsimp only; omega) | (simp only [sm] at *; omega)) ?_; cbv)
    | (refine QC.mk (fun hc => ?_) (fun hc => ?_) <;> (try dsimp only at hc) <;> cbv)
    | (refine br_mk2 (fun hb => ?_) (fun hb => ?_) <;> (try subst hb) <;> cbv))))
  have hzN := hz.trans hN.symm
  subst hzN
  (refine callq (g1) rfl rfl ?_; cbv; (repeat' (first
    | (refine q1 (by first | exact trivial | omega | (dsimp only; omega) | exact pow62 _ (by omega) | exact mul9 (by omega) (by omega) | (simp only [sm] at *; omega)) (fun z hz => ?_); (try simp only at hz); cbv)
    | (refine rq (by first | exact trivial | omega | (dsimp only; omega) | (simp only [sm] at *; omega)) ?_; cbv)
    | (refine QC.tt (by first | omega | (dsimp only; omega) | exact rfl | (simp only [sm] at *; omega)) ?_; cbv)
    | (refine QC.tt ?_ ?_; (focus (simp only [decide_true, Bool.and_true, Bool.and_self] <;> fail)); cbv)
    | (refine QC.ff ?_ ?_; (focus (simp only [decide_true, Bool.and_true, Bool.and_self, decide_false, Bool.false_and, reduceCtorEq, not_false_eq_true] <;> fail)); cbv)
    | (refine QC.ff (by first | omega | (dsimp only; omega) | (simp only [sm] at *; omega)) ?_; cbv)
    | (refine QC.mk (fun hc => ?_) (fun hc => ?_) <;> (try dsimp only at hc) <;> cbv)
    | (refine br_mk2 (fun hb => ?_) (fun hb => ?_) <;> (try subst hb) <;> cbv))))
  (refine callq (g2) rfl rfl ?_; cbv; (repeat' (first
    | (refine q1 (by first | exact trivial | omega | (dsimp only; omega) | exact pow62 _ (by omega) | exact mul9 (by omega) (by omega) | (simp only [sm] at *; omega)) (fun z hz => ?_); (try simp only at hz); cbv)
    | (refine rq (by first | exact trivial | omega | (dsimp only; omega) | (simp only [sm] at *; omega)) ?_; cbv)
    | (refine QC.tt (by first | omega | (dsimp only; omega) | exact rfl | (simp only [sm] at *; omega)) ?_; cbv)
    | (refine QC.tt ?_ ?_; (focus (simp only [decide_true, Bool.and_true, Bool.and_self] <;> fail)); cbv)
    | (refine QC.ff ?_ ?_; (focus (simp only [decide_true, Bool.and_true, Bool.and_self, decide_false, Bool.false_and, reduceCtorEq, not_false_eq_true] <;> fail)); cbv)
    | (refine QC.ff (by first | omega | (dsimp only; omega) | (simp only [sm] at *; omega)) ?_; cbv)
    | (refine QC.mk (fun hc => ?_) (fun hc => ?_) <;> (try dsimp only at hc) <;> cbv)
    | (refine br_mk2 (fun hb => ?_) (fun hb => ?_) <;> (try subst hb) <;> cbv))))
  (refine callq (hm2) rfl rfl ?_; cbv; (repeat' (first
    | (refine q1 (by first | exact trivial | omega | (dsimp only; omega) | exact pow62 _ (by omega) | exact mul9 (by omega) (by omega) | (simp only [sm] at *; omega)) (fun z hz => ?_); (try simp only at hz); cbv)
    | (refine rq (by first | exact trivial | omega | (dsimp only; omega) | (simp only [sm] at *; omega)) ?_; cbv)
    | (refine QC.tt (by first | omega | (dsimp only; omega) | exact rfl | (simp only [sm] at *; omega)) ?_; cbv)
    | (refine QC.tt ?_ ?_; (focus (simp only [decide_true, Bool.and_true, Bool.and_self] <;> fail)); cbv)
    | (refine QC.ff ?_ ?_; (focus (simp only [decide_true, Bool.and_true, Bool.and_self, decide_false, Bool.false_and, reduceCtorEq, not_false_eq_true] <;> fail)); cbv)
    | (refine QC.ff (by first | omega | (dsimp only; omega) | (simp only [sm] at *; omega)) ?_; cbv)
    | (refine QC.mk (fun hc => ?_) (fun hc => ?_) <;> (try dsimp only at hc) <;> cbv)
    | (refine br_mk2 (fun hb => ?_) (fun hb => ?_) <;> (try subst hb) <;> cbv))))
  refine loopQ (A := Nat × Int) (fun p => p.2 = p.1 ∧ p.1 ≤ lost) (fun p => lost - p.1) (fun p => [(11, .int .i64 p.2), (9, .int .i64 0)]) (fun p => [(8, .chunk 25 (sndV R 1 0 (b1 p.1) (b2 p.1)))]) (0, 0) ⟨rfl, Nat.zero_le _⟩ ?_ ?_
  · cbv
    rw [i1, i2]
    repeat' (first | exact rfl | exact trivial | apply And.intro)
  · intro ⟨i, j⟩ hh
    have hj : j = (i : Int) := hh.1
    have hi : i ≤ lost := hh.2
    clear hh
    have hmq : True := trivial
    cbv
    (repeat' (first
    | (refine q1 (by first | exact trivial | omega | (dsimp only; omega) | exact pow62 _ (by omega) | exact mul9 (by omega) (by omega) | (simp only [sm] at *; omega)) (fun z hz => ?_); (try simp only at hz); cbv)
    | (refine rq (by first | exact trivial | omega | (dsimp only; omega) | (simp only [sm] at *; omega)) ?_; cbv)
    | (refine QC.tt (by first | omega | (dsimp only; omega) | exact rfl | (simp only [sm] at *; omega)) ?_; cbv)
    | (refine QC.tt ?_ ?_; (focus (simp only [decide_true, Bool.and_true, Bool.and_self] <;> fail)); cbv)
    | (refine QC.ff ?_ ?_; (focus (simp only [decide_true, Bool.and_true, Bool.and_self, decide_false, Bool.false_and, reduceCtorEq, not_false_eq_true] <;> fail)); cbv)
    | (refine QC.ff (by first | omega | (dsimp only; omega) | (simp only [sm] at *; omega)) ?_; cbv)
    | (refine QC.mk (fun hc => ?_) (fun hc => ?_) <;> (try dsimp only at hc) <;> cbv)
    | (refine br_mk2 (fun hb => ?_) (fun hb => ?_) <;> (try subst hb) <;> cbv)))
    · have hlt : i < lost := by (first | omega | (simp only [cst] at *; omega) | (simp only [sm] at *; omega))
      obtain ⟨L0, gA⟩ := gA i z hlt (by (first | omega | (simp only [cst] at *; omega) | (simp only [sm] at *; omega)))
      (refine callq (gA) rfl rfl ?_; cbv; (repeat' (first
    | (refine q1 (by first | exact trivial | omega | (dsimp only; omega) | exact pow62 _ (by omega) | exact mul9 (by omega) (by omega) | (simp only [sm] at *; omega)) (fun z hz => ?_); (try simp only at hz); cbv)
    | (refine rq (by first | exact trivial | omega | (dsimp only; omega) | (simp only [sm] at *; omega)) ?_; cbv)
    | (refine QC.tt (by first | omega | (dsimp only; omega) | exact rfl | (simp only [sm] at *; omega)) ?_; cbv)
    | (refine QC.tt ?_ ?_; (focus (simp only [decide_true, Bool.and_true, Bool.and_self] <;> fail)); cbv)
    | (refine QC.ff ?_ ?_; (focus (simp only [decide_true, Bool.and_true, Bool.and_self, decide_false, Bool.false_and, reduceCtorEq, not_false_eq_true] <;> fail)); cbv)
    | (refine QC.ff (by first | omega | (dsimp only; omega) | (simp only [sm] at *; omega)) ?_; cbv)
    | (refine QC.mk (fun hc => ?_) (fun hc => ?_) <;> (try dsimp only at hc) <;> cbv)
    | (refine br_mk2 (fun hb => ?_) (fun hb => ?_) <;> (try subst hb) <;> cbv))))
      refine ⟨(i + 1, z), ⟨by show z = ((i + 1 : Nat) : Int); (first | omega | (simp only [cst] at *; omega) | (simp only [sm] at *; omega)), by show i + 1 ≤ lost; omega⟩, by show lost - (i + 1) < lost - i; omega, ?_⟩
      cbv
      repeat' (first | exact rfl | exact trivial | apply And.intro)
    · have hie : i = lost := by (first | omega | (simp only [cst] at *; omega) | (simp only [sm] at *; omega))
      subst hie
      obtain ⟨M, hM⟩ : ∃ M : Nat → Nat, ∀ k, M k = min (8 * k) c := ⟨_, fun _ => rfl⟩
      have hM0' : M 0 = 0 := by rw [hM]; omega
      have hmb : 0 ≤ z ∧ z ≤ 56 := by (first | omega | (simp only [cst] at *; omega) | (simp only [sm] at *; omega))
      have hzi : z = 8 * (i : Int) := by (first | omega | (simp only [cst] at *; omega) | (simp only [sm] at *; omega))
      clear hz gA hj hi hlost hN0 hM1 hm2 g1 hyl hN hm
      refine loopQ (A := (Nat × Int) × Int) (fun p => p.1.2 = 8 * (i : Int) + p.1.1 ∧ p.2 = p.1.1 ∧ 8 * p.1.1 < c + 8) (fun p => c + 8 - 8 * p.1.1) (fun p => [(14, .int .i64 p.1.2), (13, .int .i64 p.2), (9, .int .i64 0)]) (fun p => [(8, .chunk 25 (sndV R (s1 p.1.1) (s2 p.1.1) (s3 p.1.1) (s4 p.1.1))), (12, .chunk 55 (rcvV (r3 (M p.1.1)) (r1 (M p.1.1)) (r2 (M p.1.1)) (r4 (M p.1.1)) (r5 (M p.1.1))))]) ((0, z), 0) ⟨by show z = 8 * (i : Int) + ((0 : Nat) : Int); (first | omega | (simp only [cst] at *; omega) | (simp only [sm] at *; omega)), rfl, by show 8 * 0 < c + 8; omega⟩ ?_ ?_
      · cbv
        rw [hM0', i3, i4, i5, i6, i7, i8, i9, i10, i11]
        repeat' (first | exact rfl | exact trivial | apply And.intro)
      · intro ⟨⟨k, t⟩, rs⟩ hh
        have ht : t = 8 * (i : Int) + (k : Int) := hh.1
        have hrs : rs = (k : Int) := hh.2.1
        have hkc : 8 * k < c + 8 := hh.2.2
        clear hh
        have hib : (i : Int) ≤ 7 := by (first | omega | (simp only [cst] at *; omega) | (simp only [sm] at *; omega))
        have htb : 0 ≤ t ∧ t ≤ 100 := by omega
        have hrb : 0 ≤ rs ∧ rs ≤ 5 := by omega
        have hml : True := trivial
        cbv
        (repeat' (first
    | (refine q1 (by first | exact trivial | omega | (dsimp only; omega) | exact pow62 _ (by omega) | exact mul9 (by omega) (by omega) | (simp only [sm] at *; omega)) (fun z hz => ?_); (try simp only at hz); cbv)
    | (refine rq (by first | exact trivial | omega | (dsimp only; omega) | (simp only [sm] at *; omega)) ?_; cbv)
    | (refine QC.tt (by first | omega | (dsimp only; omega) | exact rfl | (simp only [sm] at *; omega)) ?_; cbv)
    | (refine QC.tt ?_ ?_; (focus (simp only [decide_true, Bool.and_true, Bool.and_self] <;> fail)); cbv)
    | (refine QC.ff ?_ ?_; (focus (simp only [decide_true, Bool.and_true, Bool.and_self, decide_false, Bool.false_and, reduceCtorEq, not_false_eq_true] <;> fail)); cbv)
    | (refine QC.ff (by first | omega | (dsimp only; omega) | (simp only [sm] at *; omega)) ?_; cbv)
    | (refine QC.mk (fun hc => ?_) (fun hc => ?_) <;> (try dsimp only at hc) <;> cbv)
    | (refine br_mk2 (fun hb => ?_) (fun hb => ?_) <;> (try subst hb) <;> cbv)))
        · have hk8 : 8 * k < c := by
            rcases Nat.lt_or_ge (8 * k) c with h | h
            · exact h
            · have h2 := hs2 k h
              exfalso
              omega
          have gB := gB k t hk8 (by (first | omega | (simp only [cst] at *; omega) | (simp only [sm] at *; omega)))
          have gK := gK k (M (k + 1)) hk8 (hM (k + 1))
          have gR := fun i m hm hi => gR k i m hm hi
          have hLl := hLl k
          have hs1k := hs1 k hk8
          obtain ⟨w1, hw1⟩ : ∃ w : Nat → Int, ∀ i, w i = if i < min (c - 8 * k) 8 then 1 else s1 (k + 1) := ⟨_, fun _ => rfl⟩
          obtain ⟨w2, hw2⟩ : ∃ w : Nat → Int, ∀ i, w i = if i < min (c - 8 * k) 8 then m2 k else s2 (k + 1) := ⟨_, fun _ => rfl⟩
          obtain ⟨w3, hw3⟩ : ∃ w : Nat → Int, ∀ i, w i = if i < min (c - 8 * k) 8 then m3 k else s3 (k + 1) := ⟨_, fun _ => rfl⟩
          obtain ⟨w4, hw4⟩ : ∃ w : Nat → Int, ∀ i, w i = if i < min (c - 8 * k) 8 then m4 k else s4 (k + 1) := ⟨_, fun _ => rfl⟩
          have hlo : ∀ i, i < min (c - 8 * k) 8 → w1 i = 1 ∧ w2 i = m2 k ∧ w3 i = m3 k ∧ w4 i = m4 k := fun i hi => ⟨by rw [hw1, if_pos hi], by rw [hw2, if_pos hi], by rw [hw3, if_pos hi], by rw [hw4, if_pos hi]⟩
          have hhi : w1 (min (c - 8 * k) 8) = s1 (k + 1) ∧ w2 (min (c - 8 * k) 8) = s2 (k + 1) ∧ w3 (min (c - 8 * k) 8) = s3 (k + 1) ∧ w4 (min (c - 8 * k) 8) = s4 (k + 1) := ⟨by rw [hw1, if_neg (Nat.lt_irrefl _)], by rw [hw2, if_neg (Nat.lt_irrefl _)], by rw [hw3, if_neg (Nat.lt_irrefl _)], by rw [hw4, if_neg (Nat.lt_irrefl _)]⟩
          obtain ⟨n8, hn8⟩ : ∃ n8, n8 = min (c - 8 * k) 8 := ⟨_, rfl⟩
          rw [← hn8] at hhi hLl
          simp only [← hn8] at hlo gR
          have hn81 : 1 ≤ n8 ∧ n8 ≤ 8 := by omega
          have hMk : M k = 8 * k := by rw [hM]; omega
          have hMk1 : M (k + 1) = 8 * k + n8 := by rw [hM]; omega
          have h00 := hlo 0 (by omega)
          obtain ⟨D, hD⟩ : ∃ D : Nat → Nat, ∀ i, D i = 8 * k + i := ⟨_, fun _ => rfl⟩
          have hD0 : D 0 = M k := by rw [hD, hMk]; rfl
          have hDn : D n8 = M (k + 1) := by rw [hD, hMk1]
          have hDs : ∀ i, D i + 1 = D (i + 1) := fun i => by rw [hD, hD, Nat.add_assoc]
          have gR : ∀ i, i < n8 → ∃ (κ : Bool) (B : List SV), (κ = true → i + 1 = n8) ∧ (κ = false → i + 1 < n8) ∧ (L k)[i]? = some (.agg [.int .u8 3, .int .i64 (D i : Int), .int .i64 (c : Int), .bool κ, .lst none B]) ∧
              Good 31 (pu [rcvV (r3 (D i)) (r1 (D i)) (r2 (D i)) (r4 (D i)) (r5 (D i)), .agg [.int .u8 3, .int .i64 (D i : Int), .int .i64 (c : Int), .bool κ, .lst none B]] (.tup [rcvV (r3 (D (i + 1))) (r1 (D (i + 1))) (r2 (D (i + 1))) (r4 (D (i + 1))) (r5 (D (i + 1))), .int .u32 (if κ = true then r4 (D (i + 1)) else 0), .bool κ, .int .i64 0])) := fun i hi => by
            obtain ⟨B, h1, h2⟩ := gR i (D i) (hD i) hi
            have h2 := h2 (decide (i + 1 = n8))
            rw [hDs] at h2
            exact ⟨_, B, fun h => of_decide_eq_true h, fun h => by have := of_decide_eq_false h; omega, h1, h2⟩
          have gK : ∀ i, i + 1 = n8 → Good 17 (pu [sndV R (w1 i) (w2 i) (w3 i) (w4 i), .int .u8 3, .int .u32 (r4 (D (i + 1)))] (.tup [sndV R (w1 (i + 1)) (w2 (i + 1)) (w3 (i + 1)) (w4 (i + 1)), .int .i64 0])) := fun i hi => by
            obtain ⟨a1, a2, a3, a4⟩ := hlo i (by omega)
            rw [a1, a2, a3, a4, hi, hDn, hhi.1, hhi.2.1, hhi.2.2.1, hhi.2.2.2]
            exact gK
          have hst : ∀ i, i + 1 < n8 → w1 i = w1 (i + 1) ∧ w2 i = w2 (i + 1) ∧ w3 i = w3 (i + 1) ∧ w4 i = w4 (i + 1) := fun i hi => by
            obtain ⟨a1, a2, a3, a4⟩ := hlo i (by omega)
            obtain ⟨b1, b2, b3, b4⟩ := hlo (i + 1) hi
            exact ⟨a1.trans b1.symm, a2.trans b2.symm, a3.trans b3.symm, a4.trans b4.symm⟩
          clear hw1 hw2 hw3 hw4 hs1 hlo hD hMk hMk1 hM hn8
          (refine callq (gB) rfl rfl ?_; cbv; (repeat' (first
    | (refine q1 (by first | exact trivial | omega | (dsimp only; omega) | exact pow62 _ (by omega) | exact mul9 (by omega) (by omega) | (simp only [sm] at *; omega)) (fun z hz => ?_); (try simp only at hz); cbv)
    | (refine rq (by first | exact trivial | omega | (dsimp only; omega) | (simp only [sm] at *; omega)) ?_; cbv)
    | (refine QC.tt (by first | omega | (dsimp only; omega) | exact rfl | (simp only [sm] at *; omega)) ?_; cbv)
    | (refine QC.tt ?_ ?_; (focus (simp only [decide_true, Bool.and_true, Bool.and_self] <;> fail)); cbv)
    | (refine QC.ff ?_ ?_; (focus (simp only [decide_true, Bool.and_true, Bool.and_self, decide_false, Bool.false_and, reduceCtorEq, not_false_eq_true] <;> fail)); cbv)
    | (refine QC.ff (by first | omega | (dsimp only; omega) | (simp only [sm] at *; omega)) ?_; cbv)
    | (refine QC.mk (fun hc => ?_) (fun hc => ?_) <;> (try dsimp only at hc) <;> cbv)
    | (refine br_mk2 (fun hb => ?_) (fun hb => ?_) <;> (try subst hb) <;> cbv))))
          revert hz
          revert z
          intro z2 hz2
          refine loopQ (A := Nat × Int) (fun p => p.2 = p.1 ∧ p.1 ≤ n8) (fun p => n8 - p.1) (fun p => [(16, .int .i64 p.2), (9, .int .i64 0)]) (fun p => [(8, .chunk 25 (sndV R (w1 p.1) (w2 p.1) (w3 p.1) (w4 p.1))), (12, .chunk 55 (rcvV (r3 (D p.1)) (r1 (D p.1)) (r2 (D p.1)) (r4 (D p.1)) (r5 (D p.1))))]) (0, 0) ⟨rfl, Nat.zero_le _⟩ ?_ ?_
          · cbv
            rw [h00.1, h00.2.1, h00.2.2.1, h00.2.2.2, hD0]
            repeat' (first | exact rfl | exact trivial | apply And.intro)
          · intro ⟨a, b⟩ hh
            have hb : b = (a : Int) := hh.1
            have ha : a ≤ n8 := hh.2
            have gR := gR a
            have gK := gK a
            have hst := hst a
            clear hh
            have hmy : True := trivial
            cbv
            (repeat' (first
    | (refine q1 (by first | exact trivial | omega | (dsimp only; omega) | exact pow62 _ (by omega) | exact mul9 (by omega) (by omega) | (simp only [sm] at *; omega)) (fun z hz => ?_); (try simp only at hz); cbv)
    | (refine rq (by first | exact trivial | omega | (dsimp only; omega) | (simp only [sm] at *; omega)) ?_; cbv)
    | (refine QC.tt (by first | omega | (dsimp only; omega) | exact rfl | (simp only [sm] at *; omega)) ?_; cbv)
    | (refine QC.tt ?_ ?_; (focus (simp only [decide_true, Bool.and_true, Bool.and_self] <;> fail)); cbv)
    | (refine QC.ff ?_ ?_; (focus (simp only [decide_true, Bool.and_true, Bool.and_self, decide_false, Bool.false_and, reduceCtorEq, not_false_eq_true] <;> fail)); cbv)
    | (refine QC.ff (by first | omega | (dsimp only; omega) | (simp only [sm] at *; omega)) ?_; cbv)
    | (refine QC.mk (fun hc => ?_) (fun hc => ?_) <;> (try dsimp only at hc) <;> cbv)
    | (refine br_mk2 (fun hb => ?_) (fun hb => ?_) <;> (try subst hb) <;> cbv)))
            · have hlt : a < n8 := by (first | omega | (simp only [cst] at *; omega) | (simp only [sm] at *; omega))
              obtain ⟨κ, B, k1, k2, hLe, gR⟩ := gR hlt
              cases κ
              · obtain ⟨c1, c2, c3, c4⟩ := hst (k2 rfl)
                (refine qv (a, _) ⟨hb, hLe⟩ ?_; cbv; (repeat' (first
    | (refine q1 (by first | exact trivial | omega | (dsimp only; omega) | exact pow62 _ (by omega) | exact mul9 (by omega) (by omega) | (simp only [sm] at *; omega)) (fun z hz => ?_); (try simp only at hz); cbv)
    | (refine rq (by first | exact trivial | omega | (dsimp only; omega) | (simp only [sm] at *; omega)) ?_; cbv)
    | (refine QC.tt (by first | omega | (dsimp only; omega) | exact rfl | (simp only [sm] at *; omega)) ?_; cbv)
    | (refine QC.tt ?_ ?_; (focus (simp only [decide_true, Bool.and_true, Bool.and_self] <;> fail)); cbv)
    | (refine QC.ff ?_ ?_; (focus (simp only [decide_true, Bool.and_true, Bool.and_self, decide_false, Bool.false_and, reduceCtorEq, not_false_eq_true] <;> fail)); cbv)
    | (refine QC.ff (by first | omega | (dsimp only; omega) | (simp only [sm] at *; omega)) ?_; cbv)
    | (refine QC.mk (fun hc => ?_) (fun hc => ?_) <;> (try dsimp only at hc) <;> cbv)
    | (refine br_mk2 (fun hb => ?_) (fun hb => ?_) <;> (try subst hb) <;> cbv))))
                (refine callq (gR) rfl rfl ?_; cbv; (repeat' (first
    | (refine q1 (by first | exact trivial | omega | (dsimp only; omega) | exact pow62 _ (by omega) | exact mul9 (by omega) (by omega) | (simp only [sm] at *; omega)) (fun z hz => ?_); (try simp only at hz); cbv)
    | (refine rq (by first | exact trivial | omega | (dsimp only; omega) | (simp only [sm] at *; omega)) ?_; cbv)
    | (refine QC.tt (by first | omega | (dsimp only; omega) | exact rfl | (simp only [sm] at *; omega)) ?_; cbv)
    | (refine QC.tt ?_ ?_; (focus (simp only [decide_true, Bool.and_true, Bool.and_self] <;> fail)); cbv)
    | (refine QC.ff ?_ ?_; (focus (simp only [decide_true, Bool.and_true, Bool.and_self, decide_false, Bool.false_and, reduceCtorEq, not_false_eq_true] <;> fail)); cbv)
    | (refine QC.ff (by first | omega | (dsimp only; omega) | (simp only [sm] at *; omega)) ?_; cbv)
    | (refine QC.mk (fun hc => ?_) (fun hc => ?_) <;> (try dsimp only at hc) <;> cbv)
    | (refine br_mk2 (fun hb => ?_) (fun hb => ?_) <;> (try subst hb) <;> cbv))))
                refine ⟨(a + 1, z), ⟨by show z = ((a + 1 : Nat) : Int); (first | omega | (simp only [cst] at *; omega) | (simp only [sm] at *; omega)), by show a + 1 ≤ n8; omega⟩, by show n8 - (a + 1) < n8 - a; omega, ?_⟩
                cbv
                rw [c1, c2, c3, c4]
                repeat' (first | exact rfl | exact trivial | apply And.intro)
              · have gK := gK (k1 rfl)
                (refine qv (a, _) ⟨hb, hLe⟩ ?_; cbv; (repeat' (first
    | (refine q1 (by first | exact trivial | omega | (dsimp only; omega) | exact pow62 _ (by omega) | exact mul9 (by omega) (by omega) | (simp only [sm] at *; omega)) (fun z hz => ?_); (try simp only at hz); cbv)
    | (refine rq (by first | exact trivial | omega | (dsimp only; omega) | (simp only [sm] at *; omega)) ?_; cbv)
    | (refine QC.tt (by first | omega | (dsimp only; omega) | exact rfl | (simp only [sm] at *; omega)) ?_; cbv)
    | (refine QC.tt ?_ ?_; (focus (simp only [decide_true, Bool.and_true, Bool.and_self] <;> fail)); cbv)
    | (refine QC.ff ?_ ?_; (focus (simp only [decide_true, Bool.and_true, Bool.and_self, decide_false, Bool.false_and, reduceCtorEq, not_false_eq_true] <;> fail)); cbv)
    | (refine QC.ff (by first | omega | (dsimp only; omega) | (simp only [sm] at *; omega)) ?_; cbv)
    | (refine QC.mk (fun hc => ?_) (fun hc => ?_) <;> (try dsimp only at hc) <;> cbv)
    | (refine br_mk2 (fun hb => ?_) (fun hb => ?_) <;> (try subst hb) <;> cbv))))
                (refine callq (gR) rfl rfl ?_; cbv; (repeat' (first
    | (refine q1 (by first | exact trivial | omega | (dsimp only; omega) | exact pow62 _ (by omega) | exact mul9 (by omega) (by omega) | (simp only [sm] at *; omega)) (fun z hz => ?_); (try simp only at hz); cbv)
    | (refine rq (by first | exact trivial | omega | (dsimp only; omega) | (simp only [sm] at *; omega)) ?_; cbv)
    | (refine QC.tt (by first | omega | (dsimp only; omega) | exact rfl | (simp only [sm] at *; omega)) ?_; cbv)
    | (refine QC.tt ?_ ?_; (focus (simp only [decide_true, Bool.and_true, Bool.and_self] <;> fail)); cbv)
    | (refine QC.ff ?_ ?_; (focus (simp only [decide_true, Bool.and_true, Bool.and_self, decide_false, Bool.false_and, reduceCtorEq, not_false_eq_true] <;> fail)); cbv)
    | (refine QC.ff (by first | omega | (dsimp only; omega) | (simp only [sm] at *; omega)) ?_; cbv)
    | (refine QC.mk (fun hc => ?_) (fun hc => ?_) <;> (try dsimp only at hc) <;> cbv)
    | (refine br_mk2 (fun hb => ?_) (fun hb => ?_) <;> (try subst hb) <;> cbv))))
                (refine callq (gK) rfl rfl ?_; cbv; (repeat' (first
    | (refine q1 (by first | exact trivial | omega | (dsimp only; omega) | exact pow62 _ (by omega) | exact mul9 (by omega) (by omega) | (simp only [sm] at *; omega)) (fun z hz => ?_); (try simp only at hz); cbv)
    | (refine rq (by first | exact trivial | omega | (dsimp only; omega) | (simp only [sm] at *; omega)) ?_; cbv)
    | (refine QC.tt (by first | omega | (dsimp only; omega) | exact rfl | (simp only [sm] at *; omega)) ?_; cbv)
    | (refine QC.tt ?_ ?_; (focus (simp only [decide_true, Bool.and_true, Bool.and_self] <;> fail)); cbv)
    | (refine QC.ff ?_ ?_; (focus (simp only [decide_true, Bool.and_true, Bool.and_self, decide_false, Bool.false_and, reduceCtorEq, not_false_eq_true] <;> fail)); cbv)
    | (refine QC.ff (by first | omega | (dsimp only; omega) | (simp only [sm] at *; omega)) ?_; cbv)
    | (refine QC.mk (fun hc => ?_) (fun hc => ?_) <;> (try dsimp only at hc) <;> cbv)
    | (refine br_mk2 (fun hb => ?_) (fun hb => ?_) <;> (try subst hb) <;> cbv))))
                refine ⟨(a + 1, z), ⟨by show z = ((a + 1 : Nat) : Int); (first | omega | (simp only [cst] at *; omega) | (simp only [sm] at *; omega)), by show a + 1 ≤ n8; omega⟩, by show n8 - (a + 1) < n8 - a; omega, ?_⟩
                cbv
                repeat' (first | exact rfl | exact trivial | apply And.intro)
            · have hae : a = n8 := by (first | omega | (simp only [cst] at *; omega) | (simp only [sm] at *; omega))
              refine ⟨((k + 1, z), z2), ⟨by show z = 8 * (i : Int) + ((k + 1 : Nat) : Int); (first | omega | (simp only [cst] at *; omega) | (simp only [sm] at *; omega)), by show z2 = ((k + 1 : Nat) : Int); (first | omega | (simp only [cst] at *; omega) | (simp only [sm] at *; omega)), by show 8 * (k + 1) < c + 8; omega⟩, by show c + 8 - 8 * (k + 1) < c + 8 - 8 * k; omega, ?_⟩
              cbv
              rw [hae, hhi.1, hhi.2.1, hhi.2.2.1, hhi.2.2.2, hDn]
              repeat' (first | exact rfl | exact trivial | apply And.intro)
        · have hk8 : c ≤ 8 * k := by
            rcases Nat.lt_or_ge (8 * k) c with h | h
            · have h2 := hs1 k h
              exact absurd h2 hc
            · exact h
          have hs2 := hs2 k hk8
          have gD := gD (M k) (by rw [hM]; omega)
          have hmz : True := trivial
          (refine callq (gD) rfl rfl ?_; cbv; (repeat' (first
    | (refine q1 (by first | exact trivial | omega | (dsimp only; omega) | exact pow62 _ (by omega) | exact mul9 (by omega) (by omega) | (simp only [sm] at *; omega)) (fun z hz => ?_); (try simp only at hz); cbv)
    | (refine rq (by first | exact trivial | omega | (dsimp only; omega) | (simp only [sm] at *; omega)) ?_; cbv)
    | (refine QC.tt (by first | omega | (dsimp only; omega) | exact rfl | (simp only [sm] at *; omega)) ?_; cbv)
    | (refine QC.tt ?_ ?_; (focus (simp only [decide_true, Bool.and_true, Bool.and_self] <;> fail)); cbv)
    | (refine QC.ff ?_ ?_; (focus (simp only [decide_true, Bool.and_true, Bool.and_self, decide_false, Bool.false_and, reduceCtorEq, not_false_eq_true] <;> fail)); cbv)
    | (refine QC.ff (by first | omega | (dsimp only; omega) | (simp only [sm] at *; omega)) ?_; cbv)
    | (refine QC.mk (fun hc => ?_) (fun hc => ?_) <;> (try dsimp only at hc) <;> cbv)
    | (refine br_mk2 (fun hb => ?_) (fun hb => ?_) <;> (try subst hb) <;> cbv))))
          (refine callq (hk) rfl rfl ?_; cbv; (repeat' (first
    | (refine q1 (by first | exact trivial | omega | (dsimp only; omega) | exact pow62 _ (by omega) | exact mul9 (by omega) (by omega) | (simp only [sm] at *; omega)) (fun z hz => ?_); (try simp only at hz); cbv)
    | (refine rq (by first | exact trivial | omega | (dsimp only; omega) | (simp only [sm] at *; omega)) ?_; cbv)
    | (refine QC.tt (by first | omega | (dsimp only; omega) | exact rfl | (simp only [sm] at *; omega)) ?_; cbv)
    | (refine QC.tt ?_ ?_; (focus (simp only [decide_true, Bool.and_true, Bool.and_self] <;> fail)); cbv)
    | (refine QC.ff ?_ ?_; (focus (simp only [decide_true, Bool.and_true, Bool.and_self, decide_false, Bool.false_and, reduceCtorEq, not_false_eq_true] <;> fail)); cbv)
    | (refine QC.ff (by first | omega | (dsimp only; omega) | (simp only [sm] at *; omega)) ?_; cbv)
    | (refine QC.mk (fun hc => ?_) (fun hc => ?_) <;> (try dsimp only at hc) <;> cbv)
    | (refine br_mk2 (fun hb => ?_) (fun hb => ?_) <;> (try subst hb) <;> cbv))))
          (refine callq (gsm) rfl rfl ?_; cbv; (repeat' (first
    | (refine q1 (by first | exact trivial | omega | (dsimp only; omega) | exact pow62 _ (by omega) | exact mul9 (by omega) (by omega) | (simp only [sm] at *; omega)) (fun z hz => ?_); (try simp only at hz); cbv)
    | (refine rq (by first | exact trivial | omega | (dsimp only; omega) | (simp only [sm] at *; omega)) ?_; cbv)
    | (refine QC.tt (by first | omega | (dsimp only; omega) | exact rfl | (simp only [sm] at *; omega)) ?_; cbv)
    | (refine QC.tt ?_ ?_; (focus (simp only [decide_true, Bool.and_true, Bool.and_self] <;> fail)); cbv)
    | (refine QC.ff ?_ ?_; (focus (simp only [decide_true, Bool.and_true, Bool.and_self, decide_false, Bool.false_and, reduceCtorEq, not_false_eq_true] <;> fail)); cbv)
    | (refine QC.ff (by first | omega | (dsimp only; omega) | (simp only [sm] at *; omega)) ?_; cbv)
    | (refine QC.mk (fun hc => ?_) (fun hc => ?_) <;> (try dsimp only at hc) <;> cbv)
    | (refine br_mk2 (fun hb => ?_) (fun hb => ?_) <;> (try subst hb) <;> cbv))))
          exact ⟨rfl, rfl, rfl⟩
end Go.Proofs.Ytjhicdoigllblaa
