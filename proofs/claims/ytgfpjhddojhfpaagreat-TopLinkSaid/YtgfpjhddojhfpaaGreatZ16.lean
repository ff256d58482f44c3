/- Texts put together: HF HG. -/
import Derived.Test.YtgfpjhddojhfpaaGreatZ15
namespace Go.Proofs.YtgfpjhddojhfpaaGreat
set_option linter.unusedVariables false
set_option linter.unusedSimpArgs false
open Go.RowKit
set_option maxHeartbeats 4000000
set_option linter.unusedSimpArgs false
set_option linter.unusedVariables false
theorem fb_bits : ∀ (k : Int) (ac pe se : Bool), (k = 1 ∨ k = 3) → fbI k ac pe se / 64 = k ∧ (((fbI k ac pe se).toNat &&& 32 : Nat) : Int) = (if ac = true then 32 else 0) ∧ (((fbI k ac pe se).toNat &&& 16 : Nat) : Int) = (if pe = true then 16 else 0) ∧ (((fbI k ac pe se).toNat &&& 8 : Nat) : Int) = (if se = true then 8 else 0) := by
  intro k ac pe se h
  rcases h with rfl | rfl <;> cases ac <;> cases pe <;> cases se <;> decide
theorem mb_bits (d u : Int) (hd : d = 2 ∨ d = 3) (hu : u = 2 ∨ u = 3) : (((64 * d + 16 * u) / 64).toNat &&& 3 : Nat) = d ∧ (((64 * d + 16 * u) / 16).toNat &&& 3 : Nat) = u := by
  rcases hd with rfl | rfl <;> rcases hu with rfl | rfl <;> decide
theorem be1 (x : Int) (h : 0 ≤ x ∧ x ≤ 255) : ((be [b8 x] : Nat) : Int) = x := by
  have : be [b8 x] = (b8 x).toNat := by simp [be]
  rw [this, b8_val h]
end Go.Proofs.YtgfpjhddojhfpaaGreat
namespace Go.Proofs.YtgfpjhddojhfpaaGreat
set_option linter.unusedVariables false
set_option linter.unusedSimpArgs false
open Go.RowKit
set_option maxHeartbeats 4000000
set_option linter.unusedSimpArgs false
set_option linter.unusedVariables false
theorem fr_len (f : Fr) (h : f.valid = true) (hk : f.k ≠ 2) : (f.enc.length : Int) = f.len ∧ 5 ≤ f.len ∧ f.len ≤ 127 ∧ f.body.length + 2 = f.enc.length ∧ ((f.dm = 2 ∧ f.de = 0) ∨ (f.dm = 3 ∧ f.ds = 0)) ∧ ((f.um = 2 ∧ f.ue = 0) ∨ (f.um = 3 ∧ f.us = 0)) ∧ (f.k = 1 ∨ f.k = 3) ∧ (f.se = true → f.M.length = 4) := by
  unfold Fr.valid at h
  rw [if_neg hk] at h
  split at h
  case isFalse => cases h
  rename_i hk1
  simp only [dataV, decide_eq_true_eq, someA] at h
  obtain ⟨⟨h1, h2⟩, _, h3, h4, h5⟩ := h
  have e : ∀ (m s e : Int), ((m = 2 ∧ e = 0) ∨ (m = 3 ∧ s = 0)) → ((adrB m s e).length : Int) = abL m := by
    intro m s e h
    unfold adrB abL
    rcases h with ⟨rfl, _⟩ | ⟨rfl, _⟩
    · rw [if_pos rfl, if_pos rfl, bytesOf_length]; rfl
    · rw [if_neg (by omega), if_neg (by omega), if_pos rfl, bytesOf_length]; rfl
  have l1 := e _ _ _ h1
  have l2 := e _ _ _ h2
  have hc : (crcL f.body).length = 2 := rfl
  have hb : (f.body.length : Int) + 2 = f.len := by
    unfold Fr.body Fr.hdr Fr.mid Fr.len frL
    rw [if_neg hk, if_neg hk]
    have : f.head.length = 3 := rfl
    cases hs : f.se
    · simp only [List.length_append, bytesOf_length, List.length_nil, Bool.false_eq_true, if_false]
      have := (h4 hs).2.2
      have n1 : ((if false = true then 5 + (f.M.length : Int) else 0) : Int) = 0 := if_neg (by simp)
      omega
    · simp only [List.length_append, bytesOf_length, List.length_cons, List.length_nil, if_true]
      omega
  have h2' : f.enc.length = f.body.length + 2 := by unfold Fr.enc; rw [List.length_append, hc]
  have h3' : 3 ≤ f.body.length := by
    unfold Fr.body Fr.hdr
    simp only [List.length_append]
    have : f.head.length = 3 := rfl
    omega
  refine ⟨by omega, by omega, h5, by omega, h1, h2, hk1, fun hs => by have := h3 hs; omega⟩
theorem check_enc (f : Fr) : f.enc.drop (f.enc.length - 2) = crcL (f.enc.take (f.enc.length - 2)) := by
  have hc : (crcL f.body).length = 2 := rfl
  have h : f.enc.length - 2 = f.body.length := by unfold Fr.enc; rw [List.length_append, hc]; omega
  rw [h]
  unfold Fr.enc
  rw [List.drop_left, List.take_left]
end Go.Proofs.YtgfpjhddojhfpaaGreat
