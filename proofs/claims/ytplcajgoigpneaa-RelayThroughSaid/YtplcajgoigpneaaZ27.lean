/- Texts put together: PA. -/
import Derived.Test.YtplcajgoigpneaaZ26
namespace Go.Proofs.Ytplcajgoigpneaa
set_option linter.unusedVariables false
set_option linter.unusedSimpArgs false
set_option maxHeartbeats 4000000
theorem joinF_false (fs : List Fr) (h : (joinF fs).2 = false) : joinF fs = ([], false) := by
  cases fs with
  | nil => rfl
  | cons f fs =>
    simp only [joinF] at h ⊢
    split at h
    · split at h
      · cases h
      · rename_i h1 h2 h3
        rw [if_neg h3]
    · rfl
structure FSeq (bs : List UInt8) (g : Nat → Fr) (K : Nat) (n t : Int) (A : Nat → Int) : Prop where
  hn : ∀ k, k < K → (g k).n = n
  ht : ∀ k, k < K → (g k).t = t
  a : ∀ k, k < K → (g k).a = A k
  ok : ∀ k, k < K → (g k).ok = true
  len : ∀ k, k < K → ((g k).b.length : Int) = A (k + 1) - A k
  lt : ∀ k, k < K → A k < A (k + 1)
  a0 : A 0 = 0
  aK : A K = n
  K0 : 1 ≤ K
  nb : 1 ≤ n ∧ n ≤ 2047
  tb : 0 ≤ t ∧ t ≤ 65535
  bl : (bs.length : Int) = n
  jl : ∀ k, k < K → joinF ((List.range k).map g) = ([], false)
  jK : joinF ((List.range K).map g) = (bs, true)
theorem FSeq.le {bs : List UInt8} {g : Nat → Fr} {K : Nat} {n t : Int} {A : Nat → Int} (h : FSeq bs g K n t A) {i : Nat} : ∀ {j : Nat}, i ≤ j → j ≤ K → A i ≤ A j
  | 0, hj, _ => by obtain rfl : i = 0 := by omega
                   exact Int.le_refl _
  | j + 1, hj, hK => by
    by_cases e : i = j + 1
    · subst e; exact Int.le_refl _
    · have := h.le (i := i) (j := j) (by omega) (by omega)
      have := h.lt j (by omega)
      omega
theorem FSeq.rg {bs : List UInt8} {g : Nat → Fr} {K : Nat} {n t : Int} {A : Nat → Int} (h : FSeq bs g K n t A) {k : Nat} (hk : k ≤ K) : 0 ≤ A k ∧ A k ≤ n := by
  have h1 := h.le (Nat.zero_le k) hk
  have h2 := h.le hk (Nat.le_refl K)
  rw [h.a0] at h1
  rw [h.aK] at h2
  exact ⟨h1, h2⟩
theorem FSeq.Kle {bs : List UInt8} {g : Nat → Fr} {K : Nat} {n t : Int} {A : Nat → Int} (h : FSeq bs g K n t A) : ∀ k, k ≤ K → (k : Int) ≤ A k
  | 0, _ => by rw [h.a0]; exact Int.le_refl _
  | k + 1, hk => by
    have := h.Kle k (by omega)
    have := h.lt k (by omega)
    omega
theorem split_seq (bs : List UInt8) (tag : Int) (K : Nat) (hb : 1 ≤ bs.length ∧ bs.length ≤ 2047) (ht : 0 ≤ tag ∧ tag ≤ 65535) (hK : atS bs.length 13 K = bs.length) (hK' : ∀ k, k < K → atS bs.length 13 k < bs.length) :
    FSeq bs (splitF bs tag 13) K bs.length tag (atS bs.length 13) := by
  have hK0 : 1 ≤ K := by
    rcases Nat.eq_zero_or_pos K with e | e
    · subst e; simp [atS] at hK; omega
    · exact e
  have hl := split_len bs tag 13 K hb (by omega) hK'
  have hp := split_part bs tag 13 K hb (by omega) hK'
  have hd := split_disj bs tag 13 K hb (by omega) hK'
  have hs := split_sum bs tag 13 K hb (by omega) hK hK'
  refine ⟨fun k _ => rfl, fun k _ => rfl, fun k _ => rfl, fun k hk => (hp k hk).ok, fun k hk => ?_, fun k hk => ?_, rfl, hK, hK0, by omega, ht, rfl, fun k hk => ?_, ?_⟩
  · have := hl k hk
    simp only [atS]
    omega
  · have := hl k hk
    simp only [atS]
    omega
  · rcases Nat.eq_zero_or_pos k with e | e
    · subst e; rfl
    · have hsum : ((((List.range k).map (splitF bs tag 13)).map fun f => f.b.length).sum : Nat) < bs.length := by
        have key : ∀ k, k ≤ K → (((((List.range k).map (splitF bs tag 13)).map fun f => f.b.length).sum : Nat) : Int) = atS bs.length 13 k := by
          intro k
          induction k with
          | zero => intro _; rfl
          | succ k ih =>
            intro hk
            have h3 := hl k (by omega)
            have := ih (by omega)
            rw [List.range_succ, List.map_append, List.map_append, List.sum_append]
            simp only [List.map_cons, List.map_nil, List.sum_cons, List.sum_nil, atS]
            omega
        have := key k (by omega)
        have := hK' k hk
        omega
      obtain ⟨rs, h⟩ := join_less bs tag ((List.range k).map (splitF bs tag 13)) (fun f hf => by
        obtain ⟨i, hi, rfl⟩ := List.mem_map.1 hf
        exact hp i (by have := List.mem_range.1 hi; omega)) (hd.sublist (by
        rw [List.range_eq_range', List.range_eq_range']
        exact (List.range'_sublist_right.2 (by omega)).map _)) hsum
      exact joinF_false ((List.range k).map (splitF bs tag 13)) (by rw [h])
  · exact join_all bs tag _ (by simp; omega) (fun f hf => by
      obtain ⟨i, hi, rfl⟩ := List.mem_map.1 hf
      exact hp i (List.mem_range.1 hi)) hd hs
end Go.Proofs.Ytplcajgoigpneaa
