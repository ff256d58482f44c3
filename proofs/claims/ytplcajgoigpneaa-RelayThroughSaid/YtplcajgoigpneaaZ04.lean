/- Texts put together: FK. -/
import Derived.Test.YtplcajgoigpneaaZ03
namespace Go.Proofs.Ytplcajgoigpneaa
set_option linter.unusedVariables false
set_option linter.unusedSimpArgs false
open Go.RowKit
set_option maxHeartbeats 8000000
theorem goF_len {n t : Int} : ∀ {fs : List Fr} {s s1 : Jo}, goF n t fs s = some s1 → s.o.length = n.toNat ∧ s.h.length = n.toNat → s1.o.length = n.toNat ∧ s1.h.length = n.toNat
  | [], s, s1, h, hl => by simp only [goF] at h; injection h with h; subst h; exact hl
  | f :: fs, s, s1, h, hl => by
    simp only [goF] at h
    cases h1 : stepF n t s f with
    | none => rw [h1] at h; cases h
    | some s2 => rw [h1] at h; exact goF_len (fs := fs) h (stepF_len h1 hl)
theorem joinF_len (fs : List Fr) : (joinF fs).1.length ≤ 2047 := by
  cases fs with
  | nil => simp [joinF]
  | cons f fs =>
    simp only [joinF]
    split
    · rename_i s h1 h2
      have hv := of_decide_eq_true (show validF f.n f.a f.b.length = true from h1)
      have := goF_len h2 (by simp [jo0])
      split
      · dsimp only; omega
      · simp
    · simp
def splitF (bs : List UInt8) (tag room : Int) (k : Nat) : Fr := ⟨bs.length, tag, atS bs.length room k, (bs.drop (atS bs.length room k).toNat).take (lenS bs.length room (atS bs.length room k) k).toNat⟩
theorem splitL_frL (bs : List UInt8) (tag room : Int) (K : Nat) : splitL bs tag room K = frL ((List.range K).map (splitF bs tag room)) := by
  simp only [splitL, frL, List.map_map]
  rfl
theorem splitF_fits (bs : List UInt8) (tag room : Int) (k : Nat) (hb : bs.length ≤ 2047) (hr : 13 ≤ room) (ht : 0 ≤ tag ∧ tag ≤ 65535) : (splitF bs tag room k).fits := by
  have := atS_ok bs.length room hr (by omega) k
  refine ⟨?_, ht, ?_, ?_⟩ <;> simp only [splitF]
  · omega
  · omega
  · simp; omega

end Go.Proofs.Ytplcajgoigpneaa
