/- What both Splits give. -/
import Derived.Test.YtfmaicedefhejaaFD
namespace Go.Proofs.Ytfmaicedefhejaa
set_option linter.unusedVariables false
set_option linter.unusedSimpArgs false
open Go.RowKit
set_option maxHeartbeats 4000000
theorem split_e (bs : List UInt8) (X : List SV) (tag room : Int) (hX : X = u8l bs) (hbl : bs.length ≤ 140737488351232) (hr : -9223372036854775808 ≤ room ∧ room ≤ 9223372036854775807) (ht : 0 ≤ tag ∧ tag ≤ 65535) :
    ∃ W e, Good 13 (pu [.lst none X, .int .u16 tag, .int .i64 room] (.tup [.lst (some 4) W, .int .i64 e])) ∧
      Good 14 (pu [.lst none X, .int .u16 tag, .int .i64 room] (.tup [.lst (some 4) W, .int .i64 e])) ∧ Good 15 (pu [.lst (some 4) W, .lst (some 4) W] (.bool true)) := by
  have hl : X.length = bs.length := by rw [hX, u8l_len]
  by_cases h1 : bs.length < 1 ∨ 2047 < bs.length
  · exact ⟨[], 3, split_no X tag room 3 bs.length hl (by omega) hr (.inl ⟨h1, rfl⟩), rsplit_no X tag room 3 bs.length hl (by omega) hr (.inl ⟨h1, rfl⟩), sameNil_c⟩
  · by_cases h2 : room < 13
    · exact ⟨[], 2, split_no X tag room 2 bs.length hl (by omega) hr (.inr ⟨h1, h2, rfl⟩), rsplit_no X tag room 2 bs.length hl (by omega) hr (.inr ⟨h1, h2, rfl⟩), sameNil_c⟩
    · obtain ⟨K, hK, hK'⟩ := atS_end bs.length room (by omega) (by omega)
      have hKb : K ≤ 2047 := by
        by_cases h : K = 0
        · omega
        · have h1 := hK' (K - 1) (by omega)
          have := atS_ok bs.length room (by omega) (by omega) (K - 1)
          omega
      refine ⟨splitL bs tag room K, 0, split_c bs X _ tag room K hX (by omega) (by omega) ht hK hK' rfl, rsplit_c bs X _ tag room K hX (by omega) (by omega) ht hK hK' rfl, sameAll_c _ (by rw [splitL_len]; omega) (fun k hk => ?_)⟩
      rw [splitL_len] at hk
      refine ⟨_, _, _, _, by simp [splitL, hk]; rfl, ?_⟩
      refine rsame_c _ _ _ _ _ _ _ _ _ _ _ (same_c _ _ _ _ _ rfl rfl ?_ ?_ rfl) (by simp)
      all_goals simp
      all_goals omega
end Go.Proofs.Ytfmaicedefhejaa
