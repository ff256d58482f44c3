/- Plain facts about qualities: what every operation does and keeps. No program in sight. -/
import Derived.KernelRfl
namespace Go.Proofs.Ytopalajoinkgkaa

structure Ql where
  k : Bool
  h : Int
  c : Int
  n : Int
  r : Int
instance : DecidableEq Ql := fun a b => decidable_of_iff (a.k = b.k ∧ a.h = b.h ∧ a.c = b.c ∧ a.n = b.n ∧ a.r = b.r) (by cases a; cases b; simp)

def validQ (q : Ql) : Bool := (!q.k && (decide (q.h = 0) && (decide (q.c = 0) && (decide (q.n = 0) && decide (q.r = 0))))) || (q.k && (decide (1 ≤ q.c ∧ q.c ≤ 8) && (decide (q.h ≠ 0 ∧ q.h < 2 ^ q.c.toNat) && decide (0 ≤ q.r ∧ q.r ≤ 65535))))
def Ql.ok (q : Ql) : Prop := (0 ≤ q.h ∧ q.h ≤ 255) ∧ (-9223372036854775808 ≤ q.c ∧ q.c ≤ 9223372036854775807) ∧ (0 ≤ q.n ∧ q.n ≤ 65535) ∧ (-9223372036854775808 ≤ q.r ∧ q.r ≤ 9223372036854775807)

theorem pow_bd (m : Nat) (m8 : m ≤ 8) : (0 : Int) < 2 ^ m ∧ (2 : Int) ^ m ≤ 256 := by
  have h : m = 0 ∨ m = 1 ∨ m = 2 ∨ m = 3 ∨ m = 4 ∨ m = 5 ∨ m = 6 ∨ m = 7 ∨ m = 8 := by omega
  rcases h with rfl | rfl | rfl | rfl | rfl | rfl | rfl | rfl | rfl <;> decide
theorem vq4 (h n r : Int) (m : Nat) (e : (2 : Int) ^ m ≤ h) : validQ ⟨true, h, m, n, r⟩ = false := by
  have : ¬ h < (2 : Int) ^ m := by omega
  simp [validQ, this]
theorem vq5 (h n r : Int) (m : Nat) (e : r < 0) : validQ ⟨true, h, m, n, r⟩ = false := by
  have : ¬ 0 ≤ r := by omega
  simp [validQ, this]
theorem vq6 (h n r : Int) (m : Nat) (e : 65535 < r) : validQ ⟨true, h, m, n, r⟩ = false := by
  have : ¬ r ≤ 65535 := by omega
  simp [validQ, this]
theorem vq7 (h n r : Int) (m : Nat) (m1 : 1 ≤ m) (m8 : m ≤ 8) (e3 : h ≠ 0) (e4 : h < (2 : Int) ^ m) (e5 : 0 ≤ r) (e6 : r ≤ 65535) : validQ ⟨true, h, m, n, r⟩ = true := by
  have c1 : (1 : Int) ≤ m := by omega
  have c8 : (m : Int) ≤ 8 := by omega
  simp [validQ, c1, c8, e3, e4, e5, e6]

def zeroQ : Ql := ⟨false, 0, 0, 0, 0⟩
def cleanQ (q : Ql) : Ql := if validQ q = true then q else zeroQ
/-- A valid quality, field by field. -/
def VQ (k : Bool) (h c n r : Int) : Prop := (k = false ∧ h = 0 ∧ c = 0 ∧ n = 0 ∧ r = 0) ∨ (k = true ∧ 1 ≤ c ∧ c ≤ 8 ∧ 1 ≤ h ∧ h < 2 ^ c.toNat ∧ h ≤ 255 ∧ 0 ≤ n ∧ n ≤ 65535 ∧ 0 ≤ r ∧ r ≤ 65535)
theorem VQ.zero : VQ false 0 0 0 0 := .inl ⟨rfl, rfl, rfl, rfl, rfl⟩
theorem VQ_of {k : Bool} {h c n r : Int} (ok : Ql.ok ⟨k, h, c, n, r⟩) (hv : validQ ⟨k, h, c, n, r⟩ = true) : VQ k h c n r := by
  obtain ⟨⟨o1, o2⟩, ⟨o3, o4⟩, ⟨o5, o6⟩, ⟨o7, o8⟩⟩ := ok
  simp only at o1 o2 o3 o4 o5 o6 o7 o8
  cases k
  · simp [validQ] at hv
    exact .inl ⟨rfl, hv.1, hv.2.1, hv.2.2.1, hv.2.2.2⟩
  · simp [validQ] at hv
    obtain ⟨⟨h1, h2⟩, ⟨h3, h4⟩, h5, h6⟩ := hv
    exact .inr ⟨rfl, h1, h2, by omega, h4, o2, o5, o6, h5, h6⟩

def addQ (q : Ql) (b : Int) : Ql := ⟨q.k, q.h * 2 % 256 + b, min (q.c + 1) 8, q.n, q.r⟩
theorem or_one (x b : Int) (hx : 0 ≤ x) (hb : b = 0 ∨ b = 1) : (((x * 2 % 256).toNat ||| b.toNat : Nat) : Int) = x * 2 % 256 + b := by
  obtain ⟨x, rfl⟩ := Int.eq_ofNat_of_zero_le hx
  have e : ((x : Int) * 2 % 256).toNat = x % 128 * 2 := by omega
  rw [e]
  rcases hb with rfl | rfl
  · simp; omega
  · have h2 := Nat.two_pow_add_eq_or_of_lt (i := 1) (b := 1) (by omega) (x % 128)
    rw [show x % 128 * 2 = 2 ^ 1 * (x % 128) by omega, show (1 : Int).toNat = 1 from rfl, ← h2]
    omega
/-- How many of the last eight were heard. -/
def popc (h : Int) : Nat → Int
  | 0 => 0
  | i + 1 => popc h i + h / 2 ^ i % 2
theorem popc_bd (h : Int) (i : Nat) : 0 ≤ popc h i ∧ popc h i ≤ i := by
  induction i with
  | zero => simp [popc]
  | succ i ih =>
    simp only [popc]
    have h0 := Int.emod_nonneg (h / 2 ^ i) (show (2 : Int) ≠ 0 by omega)
    have h1 := Int.emod_lt_of_pos (h / 2 ^ i) (show (0 : Int) < 2 by omega)
    omega
theorem popc_pos (h : Int) (h1 : 1 ≤ h) (h2 : h ≤ 255) : 1 ≤ popc h 8 := by
  obtain ⟨m, rfl⟩ := Int.eq_ofNat_of_zero_le (show 0 ≤ h by omega)
  have key : ∀ m : Fin 256, 1 ≤ m.val → 1 ≤ popc (m.val : Int) 8 := by decide +kernel
  exact key ⟨m, by omega⟩ (by show 1 ≤ m; omega)
theorem bit_of (h : Int) (i : Nat) (h0 : 0 ≤ h) : (((h / 2 ^ i).toNat &&& 1 : Nat) : Int) = h / 2 ^ i % 2 := by
  obtain ⟨m, rfl⟩ := Int.eq_ofNat_of_zero_le h0
  have e : (m : Int) / 2 ^ i = ((m / 2 ^ i : Nat) : Int) := by simp
  rw [e, Int.toNat_natCast, Nat.and_one_is_mod]
  omega
def rxQ (q : Ql) : Int := if q.k = true then (256 * q.c + popc q.h 8 - 1) / popc q.h 8 else 65535

def missedQ (q : Ql) : Ql := if q.h * 2 % 256 = 0 then zeroQ else ⟨q.k, q.h * 2 % 256, min (q.c + 1) 8, (q.n + 1) % 65536, q.r⟩
def reportQ (q : Ql) (cost : Int) : Ql := if q.k = true ∧ 1 ≤ cost ∧ cost ≤ 65535 then ⟨q.k, q.h, q.c, q.n, cost⟩ else q
def costQ (q : Ql) : Int := if q.k = false ∨ q.r = 0 ∨ q.r = 65535 then 65535 else min ((max q.r 256 * rxQ q + 256 - 1) / 256) 65534
/-- What a function leaves that returns the quality q. (Closed to the walk.) -/
def shrQ (q : Ql) (e : Nat) : Ql := ⟨q.k, q.h / 2 ^ e, max (q.c - e) 0, q.n, q.r⟩
def itAdd : Nat → Ql → Ql
  | 0, q => q
  | j + 1, q => addQ (itAdd j q) 0
def diffQ (s n : Int) : Int := (s - n + 32768) % 65536 - 32768
def midQ (q : Ql) (d : Int) : Ql := if d < 0 then shrQ q (-d).toNat else q
def endQ (q : Ql) (s : Int) : Ql := ⟨q.k, q.h, q.c, (s + 1) % 65536, q.r⟩
def helloQ (q : Ql) (s : Int) : Ql := if q.k = false ∨ diffQ s q.n < -8 ∨ 8 < diffQ s q.n then ⟨true, 1, 1, (s + 1) % 65536, 0⟩ else endQ (addQ (itAdd (diffQ s q.n).toNat (midQ q (diffQ s q.n))) 1) s

/-- The bounds that a quality keeps while entries are added. -/
def Mild (q : Ql) : Prop := (0 ≤ q.h ∧ q.h ≤ 255) ∧ (0 ≤ q.c ∧ q.c ≤ 8)
theorem Mild.add {q : Ql} (h : Mild q) (b : Int) (hb : b = 0 ∨ b = 1) : Mild (addQ q b) := by
  obtain ⟨⟨h1, h2⟩, h3, h4⟩ := h
  simp only [Mild, addQ]
  omega
theorem Mild.it {q : Ql} (h : Mild q) (j : Nat) : Mild (itAdd j q) := by
  induction j with
  | zero => exact h
  | succ j ih => exact ih.add 0 (.inl rfl)
theorem it_same (q : Ql) (j : Nat) : (itAdd j q).k = q.k ∧ (itAdd j q).n = q.n ∧ (itAdd j q).r = q.r := by
  induction j with
  | zero => exact ⟨rfl, rfl, rfl⟩
  | succ j ih => exact ih
theorem diff_bd (s n : Int) : -32768 ≤ diffQ s n ∧ diffQ s n ≤ 32767 := by unfold diffQ; omega
/-- A valid quality, whole. -/
def Vq (q : Ql) : Prop := VQ q.k q.h q.c q.n q.r
theorem Vq.ok {q : Ql} (h : Vq q) : q.ok := by
  rcases h with ⟨_, h1, h2, h3, h4⟩ | ⟨_, v1, v2, v3, v4, v5, v6, v7, v8, v9⟩
  · unfold Ql.ok; omega
  · unfold Ql.ok; omega
theorem Vq.valid {q : Ql} (h : Vq q) : validQ q = true := by
  obtain ⟨k, x, c, n, r⟩ := q
  rcases h with ⟨h0, h1, h2, h3, h4⟩ | ⟨h0, v1, v2, v3, v4, v5, v6, v7, v8, v9⟩
  · simp only at h0 h1 h2 h3 h4
    subst h0 h1 h2 h3 h4
    rfl
  · simp only at h0 v1 v2 v3 v4 v5 v6 v7 v8 v9
    obtain ⟨m, rfl⟩ := Int.eq_ofNat_of_zero_le (show 0 ≤ c by omega)
    subst h0
    rw [Int.toNat_natCast] at v4
    exact vq7 _ _ _ _ (by omega) (by omega) (by omega) v4 v8 v9
theorem Vq.clean {q : Ql} (h : Vq q) : cleanQ q = q := by rw [cleanQ, if_pos h.valid]
theorem Vq.zero : Vq zeroQ := VQ.zero
theorem clean_Vq {q : Ql} (ok : q.ok) : Vq (cleanQ q) := by
  unfold cleanQ
  split
  · rename_i hv
    exact VQ_of ok hv
  · exact Vq.zero
theorem Vq.of {q : Ql} {k : Bool} {h c n r : Int} (e : q = ⟨k, h, c, n, r⟩) (hv : VQ k h c n r) : Vq q := by subst e; exact hv

/-- Heard fits Count. -/
def Tight (q : Ql) : Prop := 0 ≤ q.h ∧ q.h < 2 ^ q.c.toNat ∧ 0 ≤ q.c ∧ q.c ≤ 8
theorem Tight.bd {q : Ql} (h : Tight q) : q.h ≤ 255 := by
  have := (pow_bd q.c.toNat (by have := h.2.2; omega)).2
  have := h.2.1
  omega
theorem Tight.add {q : Ql} (h : Tight q) {b : Int} (hb : b = 0 ∨ b = 1) : Tight (addQ q b) := by
  have h9 := h.bd
  obtain ⟨k, x, c, n, r⟩ := q
  obtain ⟨h1, h2, h3, h4⟩ := h
  simp only at h1 h2 h3 h4 h9
  obtain ⟨m, rfl⟩ := Int.eq_ofNat_of_zero_le h3
  rw [Int.toNat_natCast] at h2
  refine ⟨by simp only [addQ]; omega, ?_, by simp only [addQ]; omega, by simp only [addQ]; omega⟩
  simp only [addQ]
  by_cases hm : m = 8
  · subst hm
    have e : (min (((8 : Nat) : Int) + 1) 8).toNat = 8 := by omega
    rw [e]
    omega
  · have e : (min ((m : Int) + 1) 8).toNat = m + 1 := by omega
    rw [e, Int.pow_succ]
    omega
theorem Tight.it {q : Ql} (h : Tight q) (j : Nat) : Tight (itAdd j q) := by
  induction j with
  | zero => exact h
  | succ j ih => exact ih.add (.inl rfl)
theorem Tight.shr {q : Ql} (h : Tight q) (e : Nat) : Tight (shrQ q e) := by
  obtain ⟨k, x, c, n, r⟩ := q
  obtain ⟨h1, h2, h3, h4⟩ := h
  simp only at h1 h2 h3 h4
  obtain ⟨m, rfl⟩ := Int.eq_ofNat_of_zero_le h3
  obtain ⟨y, rfl⟩ := Int.eq_ofNat_of_zero_le h1
  rw [Int.toNat_natCast] at h2
  have h2' : y < 2 ^ m := by exact_mod_cast h2
  have ed : (y : Int) / 2 ^ e = ((y / 2 ^ e : Nat) : Int) := by simp
  refine ⟨by simp only [shrQ]; rw [ed]; exact Int.natCast_nonneg _, ?_, by simp only [shrQ]; omega, by simp only [shrQ]; omega⟩
  simp only [shrQ]
  rw [ed]
  have et : (max ((m : Int) - e) 0).toNat = m - e := by omega
  rw [et]
  have : y / 2 ^ e < 2 ^ (m - e) := by
    rw [Nat.div_lt_iff_lt_mul (Nat.two_pow_pos e), ← Nat.pow_add]
    exact Nat.lt_of_lt_of_le h2' (Nat.pow_le_pow_right (by omega) (by omega))
  exact_mod_cast this
theorem Vq.tight {q : Ql} (h : Vq q) : Tight q := by
  rcases h with ⟨_, h1, h2, h3, h4⟩ | ⟨_, v1, v2, v3, v4, v5, v6, v7, v8, v9⟩
  · unfold Tight
    rw [h1, h2]
    decide
  · exact ⟨by omega, v4, by omega, by omega⟩
theorem Vq.n_bd {q : Ql} (h : Vq q) : 0 ≤ q.n ∧ q.n ≤ 65535 := h.ok.2.2.1
theorem Vq.r_bd {q : Ql} (h : Vq q) : 0 ≤ q.r ∧ q.r ≤ 65535 := by
  rcases h with ⟨_, h1, h2, h3, h4⟩ | ⟨_, v1, v2, v3, v4, v5, v6, v7, v8, v9⟩ <;> omega
theorem Vq.of_tight {q : Ql} (ht : Tight q) (hk : q.k = true) (hh : 1 ≤ q.h) (hn : 0 ≤ q.n ∧ q.n ≤ 65535) (hr : 0 ≤ q.r ∧ q.r ≤ 65535) : Vq q := by
  have h9 := ht.bd
  have hc : 1 ≤ q.c := by
    obtain ⟨h1, h2, h3, h4⟩ := ht
    rcases Int.lt_or_le q.c 1 with h | h
    · have e : q.c.toNat = 0 := by omega
      rw [e] at h2
      omega
    · exact h
  exact .inr ⟨hk, hc, ht.2.2.2, hh, ht.2.1, h9, hn.1, hn.2, hr.1, hr.2⟩
theorem Vq.missed {q : Ql} (h : Vq q) : Vq (missedQ q) := by
  unfold missedQ
  split
  · exact Vq.zero
  · rename_i h0
    rcases h with ⟨hk, h1, h2, h3, h4⟩ | hv
    · exact absurd (by rw [h1]; rfl) h0
    · have ht := (Vq.tight (.inr hv)).add (.inl (rfl : (0 : Int) = 0))
      simp only [addQ, Int.add_zero] at ht
      refine Vq.of_tight ⟨ht.1, ht.2.1, ht.2.2⟩ hv.1 ?_ ?_ ?_
      · have := ht.1
        simp only at this ⊢
        omega
      · simp only; omega
      · obtain ⟨_, v1, v2, v3, v4, v5, v6, v7, v8, v9⟩ := hv
        exact ⟨v8, v9⟩
theorem Vq.report {q : Ql} (h : Vq q) (cost : Int) : Vq (reportQ q cost) := by
  unfold reportQ
  split
  · rename_i hc
    rcases h with ⟨hk, _⟩ | ⟨_, v1, v2, v3, v4, v5, v6, v7, v8, v9⟩
    · rw [hk] at hc; cases hc.1
    · exact .inr ⟨hc.1, v1, v2, v3, v4, v5, v6, v7, by simp only; omega, hc.2.2⟩
  · exact h
theorem midQ_tight {q : Ql} (h : Tight q) (d : Int) : Tight (midQ q d) := by
  unfold midQ
  split
  · exact h.shr _
  · exact h
theorem midQ_same (q : Ql) (d : Int) : (midQ q d).k = q.k ∧ (midQ q d).n = q.n ∧ (midQ q d).r = q.r := by
  unfold midQ
  split <;> exact ⟨rfl, rfl, rfl⟩
theorem Vq.hello {q : Ql} (h : Vq q) (s : Int) : Vq (helloQ q s) := by
  unfold helloQ
  split
  · refine .inr ⟨rfl, ?_⟩
    simp only
    refine ⟨by omega, by omega, by omega, by decide, by omega, by omega, by omega, by omega, by omega⟩
  · rename_i hno
    have hk : q.k = true := by cases hk : q.k <;> simp_all
    have ht := (((midQ_tight h.tight (diffQ s q.n)).it (diffQ s q.n).toNat).add (.inr (rfl : (1 : Int) = 1)))
    have hs := it_same (midQ q (diffQ s q.n)) (diffQ s q.n).toNat
    have hm := midQ_same q (diffQ s q.n)
    refine Vq.of_tight ⟨ht.1, ht.2.1, ht.2.2⟩ ?_ ?_ ?_ ?_
    · simp only [endQ, addQ]; rw [hs.1, hm.1, hk]
    · simp only [endQ, addQ]; omega
    · simp only [endQ]; omega
    · simp only [endQ, addQ]; rw [hs.2.2, hm.2.2]; exact h.r_bd
theorem Vq.hello_known {q : Ql} (s : Int) : (helloQ q s).k = true := by
  unfold helloQ
  split
  · rfl
  · rename_i hno
    have hk : q.k = true := by cases hk : q.k <;> simp_all
    have hs := it_same (midQ q (diffQ s q.n)) (diffQ s q.n).toNat
    have hm := midQ_same q (diffQ s q.n)
    simp only [endQ, addQ]; rw [hs.1, hm.1, hk]

theorem popc_le (h : Int) (c : Nat) (h0 : 0 ≤ h) (hc : h < 2 ^ c) (c8 : c ≤ 8) : popc h 8 ≤ c := by
  have hb := (pow_bd c c8).2
  obtain ⟨m, rfl⟩ := Int.eq_ofNat_of_zero_le h0
  have key : ∀ c : Fin 9, ∀ m : Fin 256, (m.val : Int) < 2 ^ c.val → popc (m.val : Int) 8 ≤ c.val := by decide +kernel
  exact key ⟨c, by omega⟩ ⟨m, by omega⟩ hc
theorem Vq.rx {q : Ql} (h : Vq q) (hk : q.k = true) : 256 ≤ rxQ q ∧ rxQ q ≤ 2048 := by
  rcases h with ⟨h0, _⟩ | ⟨_, v1, v2, v3, v4, v5, v6, v7, v8, v9⟩
  · rw [h0] at hk; cases hk
  · rw [rxQ, if_pos hk]
    have h1 := popc_pos q.h v3 v5
    have h2 := popc_le q.h q.c.toNat (by omega) v4 (by omega)
    generalize popc q.h 8 = p at *
    refine ⟨(Int.le_ediv_iff_mul_le (by omega)).2 (by omega), ?_⟩
    have : (256 * q.c + p - 1) / p < 2049 := by
      apply Int.ediv_lt_of_lt_mul (by omega)
      omega
    omega
theorem Vq.rx_no {q : Ql} (hk : q.k = false) : rxQ q = 65535 := by rw [rxQ, hk]; rfl
theorem cost_bd {q : Ql} (h : Vq q) : 256 ≤ costQ q ∧ costQ q ≤ 65535 := by
  unfold costQ
  split
  · omega
  · rename_i hno
    have hk : q.k = true := by cases hk : q.k <;> simp_all
    have hr := h.r_bd
    have hx := h.rx hk
    have hmul : 256 * 256 ≤ max q.r 256 * rxQ q := Int.mul_le_mul (by omega) (by omega) (by omega) (by omega)
    omega
end Go.Proofs.Ytopalajoinkgkaa
