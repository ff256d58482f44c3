/- Plain facts about qualities for the laws. No program in sight. -/
import Derived.Test.YtopalajoinkgkaaQP
namespace Go.Proofs.Ytopalajoinkgkaa
theorem Vq.k_true {q : Ql} (h : Vq q) (hk : q.k = true) : (1 ≤ q.c ∧ q.c ≤ 8) ∧ (1 ≤ q.h ∧ q.h < 2 ^ q.c.toNat ∧ q.h ≤ 255) := by
  rcases h with ⟨h0, _⟩ | ⟨_, v1, v2, v3, v4, v5, v6, v7, v8, v9⟩
  · rw [h0] at hk; cases hk
  · exact ⟨⟨v1, v2⟩, v3, v4, v5⟩
theorem hello_zero (q : Ql) (s : Int) (h : q.k = false) : helloQ q s = ⟨true, 1, 1, (s + 1) % 65536, 0⟩ := by rw [helloQ, if_pos (.inl h)]
theorem hello_same (q : Ql) (s : Int) (hk : q.k = true) (hd : diffQ s q.n = 0) : helloQ q s = endQ (addQ q 1) s := by
  rw [helloQ, if_neg (by rw [hk, hd]; simp), hd]
  rfl
theorem diff_self (s : Int) : diffQ s s = 0 := by unfold diffQ; omega
theorem rx_better {q : Ql} (h : Vq q) : rxQ (helloQ q q.n) ≤ rxQ q := by
  cases hk : q.k
  · rw [Vq.rx_no hk]
    have := (h.hello q.n).rx (Vq.hello_known q.n)
    omega
  · rw [hello_same q q.n hk (diff_self _)]
    obtain ⟨⟨c1, c8⟩, h1, hc, h2⟩ := h.k_true hk
    obtain ⟨k, x, c, n, r⟩ := q
    simp only at hk c1 c8 h1 hc h2
    subst hk
    obtain ⟨m, rfl⟩ := Int.eq_ofNat_of_zero_le (show 0 ≤ c by omega)
    obtain ⟨y, rfl⟩ := Int.eq_ofNat_of_zero_le (show 0 ≤ x by omega)
    simp only [endQ, addQ, rxQ, if_true]
    rw [Int.toNat_natCast] at hc
    have key : ∀ m : Fin 9, ∀ y : Fin 256, 1 ≤ y.val → (y.val : Int) < 2 ^ m.val → (256 * min ((m.val : Int) + 1) 8 + popc ((y.val : Int) * 2 % 256 + 1) 8 - 1) / popc ((y.val : Int) * 2 % 256 + 1) 8 ≤ (256 * (m.val : Int) + popc y.val 8 - 1) / popc y.val 8 := by decide +kernel
    exact key ⟨m, by omega⟩ ⟨y, by omega⟩ (by show 1 ≤ y; omega) hc
theorem rx_worse {q : Ql} (h : Vq q) : rxQ q ≤ rxQ (missedQ q) := by
  cases hk : q.k
  · have hm : missedQ q = zeroQ := by
      rcases h with ⟨_, h1, h2, h3, h4⟩ | ⟨h0, _⟩
      · rw [missedQ, h1]; rfl
      · rw [h0] at hk; cases hk
    rw [Vq.rx_no hk, hm]
    decide
  · unfold missedQ
    split
    · have := h.rx hk
      rw [Vq.rx_no (q := zeroQ) rfl]
      omega
    · rename_i hn
      obtain ⟨⟨c1, c8⟩, h1, hc, h2⟩ := h.k_true hk
      obtain ⟨k, x, c, n, r⟩ := q
      simp only at hk c1 c8 h1 hc h2 hn
      subst hk
      obtain ⟨m, rfl⟩ := Int.eq_ofNat_of_zero_le (show 0 ≤ c by omega)
      obtain ⟨y, rfl⟩ := Int.eq_ofNat_of_zero_le (show 0 ≤ x by omega)
      simp only [rxQ, if_true]
      rw [Int.toNat_natCast] at hc
      have key : ∀ m : Fin 9, ∀ y : Fin 256, 1 ≤ y.val → (y.val : Int) < 2 ^ m.val → ¬ (y.val : Int) * 2 % 256 = 0 → (256 * (m.val : Int) + popc y.val 8 - 1) / popc y.val 8 ≤ (256 * min ((m.val : Int) + 1) 8 + popc ((y.val : Int) * 2 % 256) 8 - 1) / popc ((y.val : Int) * 2 % 256) 8 := by decide +kernel
      exact key ⟨m, by omega⟩ ⟨y, by omega⟩ (by show 1 ≤ y; omega) hc hn
theorem cost_rx {q : Ql} (h : Vq q) : rxQ q ≤ costQ q := by
  unfold costQ
  split
  · cases hk : q.k
    · rw [Vq.rx_no hk]; omega
    · have := h.rx hk; omega
  · rename_i hno
    have hk : q.k = true := by cases hk : q.k <;> simp_all
    have hx := h.rx hk
    have hr := h.r_bd
    have hmul : 256 * rxQ q ≤ max q.r 256 * rxQ q := Int.mul_le_mul_of_nonneg_right (by omega) (by omega)
    omega
theorem cost_r_le {q : Ql} (h : Vq q) (hk : q.k = true) : min q.r 65534 ≤ costQ q := by
  unfold costQ
  have hr := h.r_bd
  split
  · omega
  · have hx := h.rx hk
    have hmul : max q.r 256 * 256 ≤ max q.r 256 * rxQ q := Int.mul_le_mul_of_nonneg_left (by omega) (by omega)
    omega
/-- One step of a play: a hello, a miss, or a report. -/
def costOf (i : Int) : Int := if i = 0 then 0 else if i = 1 then 1 else if i = 2 then 255 else if i = 3 then 256 else if i = 4 then 300 else if i = 5 then 4000 else if i = 6 then 65534 else if i = 7 then 65535 else if i = 8 then 65536 else -1
def stepQ (q : Ql) (v : Int) : Ql := if v % 40 < 20 then helloQ q ((q.n + (v % 40 - 10)) % 65536) else if v % 40 < 30 then missedQ q else reportQ q (costOf (v % 40 - 30))
theorem Vq.step {q : Ql} (h : Vq q) (v : Int) : Vq (stepQ q v) := by
  unfold stepQ
  split
  · exact h.hello _
  · split
    · exact h.missed
    · exact h.report _
def playQ (q : Ql) (l : List Int) : Nat → Ql
  | 0 => q
  | i + 1 => match l[i]? with
    | some v => stepQ (playQ q l i) v
    | none => playQ q l i
theorem Vq.play {q : Ql} (h : Vq q) (l : List Int) (i : Nat) : Vq (playQ q l i) := by
  induction i with
  | zero => exact h
  | succ i ih =>
    simp only [playQ]
    split
    · exact ih.step _
    · exact ih
theorem play_next (q : Ql) (l : List Int) (i : Int) (v : Int) (h0 : 0 ≤ i) (hv : l[i.toNat]? = some v) : playQ q l (i + 1).toNat = stepQ (playQ q l i.toNat) v := by
  rw [show (i + 1).toNat = i.toNat + 1 by omega]
  simp only [playQ, hv]
def startQ : Ql := ⟨true, 1, 1, 65531, 0⟩
def reachQ (l : List Int) : Ql := playQ startQ l (min l.length 60)
theorem startQ_Vq : Vq startQ := .inr ⟨rfl, by decide⟩
theorem reach_Vq (l : List Int) : Vq (reachQ l) := startQ_Vq.play l _
end Go.Proofs.Ytopalajoinkgkaa
