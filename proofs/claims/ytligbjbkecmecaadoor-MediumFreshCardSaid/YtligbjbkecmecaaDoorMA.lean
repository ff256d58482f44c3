/- The maker's medium. -/
import Derived.Test.YtligbjbkecmecaaDoorOA
namespace Go.Proofs.YtligbjbkecmecaaDoor
set_option linter.unusedVariables false
set_option linter.unusedSimpArgs false
open Go.RowKit
set_option maxHeartbeats 8000000
def rowV (r : List Int) : SV := .lst none (ints .i64 r)
def medV (M : List (List Int)) : List SV := M.map rowV
theorem matV_len (M : List (List Int)) : (medV M).length = M.length := by simp [medV]
def pick4 (x y : Int) : Int := if y = 0 then 0 else if y = 1 then 256 else if y = 2 then 256 else 1 + x
def rowF (N : Int → Int → Int) (B : Int → Int) (a : Nat) : Nat → Nat → Int → List Int → List Int × Int
  | 0, _, c, row => (row, c)
  | k + 1, b, c, row => if a = b then rowF N B a k (b + 1) c row else rowF N B a k (b + 1) (B (B c)) (row.set b (pick4 (N c 256) (N (B c) 4)))
def matF (N : Int → Int → Int) (B : Int → Int) (n : Nat) : Nat → Nat → Int → List (List Int) → List (List Int) × Int
  | 0, _, c, M => (M, c)
  | k + 1, a, c, M => matF N B n k (a + 1) (rowF N B a n 0 c (List.replicate n 0)).2 (M ++ [(rowF N B a n 0 c (List.replicate n 0)).1])
/-- A row of a medium. -/
structure RowOk (n a : Nat) (r : List Int) : Prop where
  l : r.length = n
  z : r.getD a 0 = 0
  v : ∀ v ∈ r, 0 ≤ v ∧ v ≤ 256
theorem rowF_ok {L : List SV} {N : Int → Int → Int} {B : Int → Int} (hN : ∀ a n, Tp L a → 1 ≤ n ∧ n ≤ 1000000 → 0 ≤ N a n ∧ N a n < n ∧ Tp L (B a)) (n a : Nat) :
    ∀ (k b : Nat) (c : Int) (row : List Int), Tp L c → RowOk n a row → RowOk n a (rowF N B a k b c row).1 ∧ Tp L (rowF N B a k b c row).2
  | 0, b, c, row, hc, hr => ⟨hr, hc⟩
  | k + 1, b, c, row, hc, hr => by
    unfold rowF
    split
    · exact rowF_ok hN n a k (b + 1) c row hc hr
    · rename_i hab
      obtain ⟨d1, d2, d3⟩ := hN c 256 hc (by omega)
      obtain ⟨e1, e2, e3⟩ := hN (B c) 4 d3 (by omega)
      refine rowF_ok hN n a k (b + 1) _ _ e3 ⟨by rw [List.length_set]; exact hr.l, ?_, fun v hv => ?_⟩
      · have := hr.z
        simp only [List.getD_eq_getElem?_getD] at this ⊢
        rw [List.getElem?_set_ne (by omega)]
        exact this
      · rcases List.mem_or_eq_of_mem_set hv with h | h
        · exact hr.v v h
        · rw [h]; unfold pick4; repeat' split
          all_goals omega
theorem matF_ok {L : List SV} {N : Int → Int → Int} {B : Int → Int} (hN : ∀ a n, Tp L a → 1 ≤ n ∧ n ≤ 1000000 → 0 ≤ N a n ∧ N a n < n ∧ Tp L (B a)) (n : Nat) :
    ∀ (k a : Nat) (c : Int) (M : List (List Int)), Tp L c → M.length = a → (∀ i r, M[i]? = some r → RowOk n i r) → (matF N B n k a c M).1.length = a + k ∧ (∀ i r, (matF N B n k a c M).1[i]? = some r → RowOk n i r) ∧ Tp L (matF N B n k a c M).2
  | 0, a, c, M, hc, hl, hr => ⟨by rw [matF]; omega, hr, hc⟩
  | k + 1, a, c, M, hc, hl, hr => by
    unfold matF
    obtain ⟨h1, h2⟩ := rowF_ok hN n a n 0 c (List.replicate n 0) hc ⟨by simp, by simp [List.getD_eq_getElem?_getD, List.getElem?_replicate]; split <;> rfl, fun v hv => by simp at hv; omega⟩
    have := matF_ok hN n k (a + 1) _ (M ++ [(rowF N B a n 0 c (List.replicate n 0)).1]) h2 (by simp [hl]) (fun i r h => by
      rw [List.getElem?_append] at h
      split at h
      · exact hr i r h
      · rename_i hi
        rw [List.getElem?_singleton] at h
        split at h
        · injection h with h; subst h
          have : i = a := by omega
          subst this; exact h1
        · cases h)
    exact ⟨by rw [this.1]; omega, this.2⟩
/-- A medium. -/
structure Med (M : List (List Int)) : Prop where
  p : 1 ≤ M.length
  q : M.length ≤ 6
  r : ∀ i r, M[i]? = some r → RowOk M.length i r
end Go.Proofs.YtligbjbkecmecaaDoor
