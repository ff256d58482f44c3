/- What Record gives stays valid, and is known; the walk of the law Bounded. -/
import Derived.Test.YticojcjoikhkmaaDoorRL
namespace Go.Proofs.YticojcjoikhkmaaDoor
set_option linter.unusedVariables false
set_option linter.unusedSimpArgs false
open Go.RowKit
set_option maxHeartbeats 8000000
theorem addS_known (p : List Sn) (hv : VS p) (m s e q now : Int) (hs : someA m s e = true) (ht : 0 ≤ now ∧ now < 1099511627776) (hn : p.any (hitS m s e q) = false) :
    VS (addS p (newS m s e q now)) ∧ (pruneF (addS p (newS m s e q now)) now).any (hitS m s e q) = true := by
  have hu : now < min (now + 16) 1099511627776 := by omega
  have key : ∀ d : List Sn, d.Sublist p → d.length ≤ 31 → VS (d ++ [newS m s e q now]) ∧ (pruneF (d ++ [newS m s e q now]) now).any (hitS m s e q) = true := fun d hd hl => by
    refine ⟨VS_snoc (VS_sub hv hd) hl m s e q _ hs (by simp only [timeT, decide_eq_true_eq]; omega) ?_, ?_⟩
    · rw [List.any_eq_false] at hn ⊢
      exact fun x hx => hn x (hd.subset hx)
    · rw [List.any_eq_true]
      refine ⟨newS m s e q now, ?_, by simp [hitS, newS]⟩
      unfold pruneF
      rw [List.mem_filter]
      exact ⟨by simp, decide_eq_true hu⟩
  unfold addS
  split
  · rename_i h
    have hk := leastN_lt p 32 (by omega)
    refine key _ ?_ ?_
    · rw [← List.eraseIdx_eq_take_drop_succ]
      exact List.eraseIdx_sublist _ _
    · rw [List.length_append, List.length_take, List.length_drop]; omega
  · exact key p (List.Sublist.refl p) (by have := hv.1; omega)
theorem rec_ok (l : List Sn) (L : List SV) (hL : L = snL l) (hv : VS l) (m s e q now : Int) (hs : someA m s e = true) (ht : 0 ≤ now ∧ now < 1099511627776) : ∃ (r : List Sn) (R : List SV) (b : Bool), R = snL r ∧ VS r ∧ KnownP r m s e q now ∧
    Good 12 (pu [.lst (some 5) L, .agg [.int .i64 m, .int .u16 s, .int .u64 e], .int .u8 q, .int .i64 now] (.tup [.lst (some 5) R, .bool b, .int .i64 0])) := by
  have htt : timeT now = true := by simp only [timeT, decide_eq_true_eq]; omega
  have g := record_c l L hL m s e q now hv hs htt _ _ _ rfl rfl rfl
  have hp := VS_prune hv now
  refine ⟨_, _, _, rfl, ?_, ?_, g⟩
  · split
    · exact hp
    · rename_i h
      exact (addS_known _ hp m s e q now hs ht (by simpa using h)).1
  · split
    · rename_i h
      exact ⟨hp, htt, by rw [prune_idem]; exact h⟩
    · rename_i h
      have := addS_known _ hp m s e q now hs ht (by simpa using h)
      exact ⟨this.1, htt, this.2⟩
end Go.Proofs.YticojcjoikhkmaaDoor
