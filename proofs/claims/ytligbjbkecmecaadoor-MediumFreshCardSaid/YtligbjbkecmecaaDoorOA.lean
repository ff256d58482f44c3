/- Contracts of the maker's tape. -/
import Derived.Test.YtligbjbkecmecaaDoorTac
namespace Go.Proofs.YtligbjbkecmecaaDoor
set_option linter.unusedVariables false
set_option linter.unusedSimpArgs false
set_option maxHeartbeats 1000000
set_option linter.unusedSimpArgs false
def tapeV (L : List SV) (a : Int) : SV := .agg [.lst none L, .int .i64 a]
/-- The next number of a tape. -/
def nextT (l : List Int) (a n : Int) : Int := if l.length ≤ a then 0 else (l.getD a.toNat 0) % n
def nextA (l : List Int) (a : Int) : Int := if l.length ≤ a then a else a + 1
/-- A tape. -/
def Tp (L : List SV) (a : Int) : Prop := (∃ l, L = ints .i64 l ∧ (∀ v ∈ l, -9223372036854775808 ≤ v ∧ v ≤ 9223372036854775807) ∧ l.length ≤ 400) ∧ 0 ≤ a ∧ a ≤ 400
/-- The fill of a tape's bytes. -/
theorem fillG (n : Nat) (f : Nat → Int) (a : SV) (ha : a = .int .u8 0) : ∃ G : Nat → List SV, G 0 = O.rp (n : Int) a ∧ (∀ i, (G i).length = n) ∧ (∀ i, i < n → O.st (G i) i (.int .u8 (f i)) = G (i + 1)) ∧ G n = ints .u8 ((List.range n).map f) := by
  subst ha
  refine ⟨fun i => ints .u8 (((List.range n).map f).take i ++ List.replicate (n - i) 0), ?_, ?_, ?_, ?_⟩
  · simp only [orp]; simp [ints]
  · intro i; simp [ints]; omega
  · intro i hi
    simp only [ost, ints_set]
    congr 1
    apply List.ext_getElem
    · simp; omega
    · intro k h1 h2
      simp only [List.getElem_set, List.getElem_append, List.length_take, List.length_map, List.length_range, List.getElem_take, List.getElem_map, List.getElem_range, List.getElem_replicate]
      split
      · subst_vars; split
        · rfl
        · omega
      · split <;> split <;> first | rfl | omega
  · simp [List.take_of_length_le]
end Go.Proofs.YtligbjbkecmecaaDoor
