/- The law OctetsHexBack. -/
import Derived.Test.YtapcbkcnokoljaaOY
import Derived.Test.YtapcbkcnokoljaaHy
import Derived.Test.YtapcbkcnokoljaaOF
namespace Go.Proofs.Ytapcbkcnokoljaa
set_option linter.unusedVariables false
set_option linter.unusedSimpArgs false
open Go.RowKit
set_option maxHeartbeats 4000000
set_option linter.unusedSimpArgs false
/-- What a text is. -/
theorem text_e (s : ByteArray) : (∃ (n : Nat) (f : Nat → Int), s.size = 2 * n ∧ (∀ k, f k = dgI (byteAt s (k : Nat))) ∧ (∀ k, k < 2 * n → 0 ≤ f k)) ∨ (s.size % 2 = 1 ∨ ∃ k, k < s.size ∧ dgI (byteAt s (k : Nat)) < 0) := by
  by_cases h1 : s.size % 2 = 1
  · exact .inr (.inl h1)
  · by_cases h2 : ∃ k, k < s.size ∧ dgI (byteAt s (k : Nat)) < 0
    · exact .inr (.inr h2)
    · refine .inl ⟨s.size / 2, _, by omega, fun k => rfl, fun k hk => ?_⟩
      apply Classical.byContradiction
      intro h
      exact h2 ⟨k, by omega, by omega⟩
theorem hexBack_c (bs : List UInt8) (X : List SV) (s : ByteArray) (hX : X = u8l bs) (hb : bs.length ≤ 1048576) (hs : s.size ≤ 1048576) :
    Good 6 (pu [.lst none X, .str s] (.bool true)) := by
  have hk := known_c
  obtain ⟨h, hh⟩ : ∃ h, h = hexB bs := ⟨_, rfl⟩
  have c1 := hex_c bs X h hX (by omega) hh
  have c2 : Good 19 (nu [.str h] (.tup [.row 1, .bool true]) (.row none 5 X)) := by
    have hf := back1 bs (fun k => dgI (byteAt (hexB bs) (k : Nat))) (fun _ => rfl)
    exact unhex_yes h bs.length (fun k => dgI (byteAt (hexB bs) (k : Nat))) (by rw [hh, hexB_size]) (by rw [hh, hexB_size]; omega) (fun k => by rw [hh]) hf.1 X (by rw [hX, hf.2])
  have c3 := same_c bs bs X X true hX hX (by omega) (by omega) (by simp)
  clear hh
  rcases text_e s with ⟨n, f, t1, t2, t3⟩ | t
  · obtain ⟨ys, hys⟩ : ∃ ys, ys = unhL f n := ⟨_, rfl⟩
    obtain ⟨Y, hY⟩ : ∃ Y, Y = u8l ys := ⟨_, rfl⟩
    have c4 := unhex_yes s n f t1 (by omega) t2 t3 Y (by rw [hY, hys, unhL_ints f n (fun k hk => ⟨t3 k hk, by rw [t2]; exact (dgI_le _).2⟩)])
    have c5 := hex_c ys Y s hY (by rw [hys]; simp [unhL]; omega) (by rw [hys, back2 s n f t1 t2 t3])
    refine Good.of Try.func6 rfl (by rfl) (by kernel_rfl) ?_
    cbv
    (repeat' (first
| (refine q1w (fun z hz => ?_); (try simp only at hz); cbv)
| (refine rqw ?_; cbv)
| (refine QC.tw ?_; cbv)
| (refine QC.tt ?_ ?_; (focus (simp only [decide_true, Bool.and_true, Bool.and_self] <;> fail)); cbv)
| (refine QC.ff ?_ ?_; (focus (simp only [decide_true, Bool.and_true, Bool.and_self, decide_false, Bool.false_and, reduceCtorEq, not_false_eq_true] <;> fail)); cbv)
| (refine QC.fw ?_; cbv)
| (refine QC.mk (fun hc => ?_) (fun hc => ?_) <;> (try dsimp only at hc) <;> cbv)
| (refine br_mk2 (fun hb => ?_) (fun hb => ?_) <;> (try subst hb) <;> cbv)
| (refine callq (c1) rfl rfl ?_; cbv)
| (refine callq (c2) rfl rfl ?_; cbv)
| (refine callq (c3) rfl rfl ?_; cbv)
| (refine callq (c4) rfl rfl ?_; cbv)
| (refine callq (c5) rfl rfl ?_; cbv)
| (refine callq (hk) rfl rfl ?_; cbv)))
    all_goals exact ⟨rfl, rfl, rfl⟩
  · have c4 := unhex_no s (by omega) t
    refine Good.of Try.func6 rfl (by rfl) (by kernel_rfl) ?_
    cbv
    (repeat' (first
| (refine q1w (fun z hz => ?_); (try simp only at hz); cbv)
| (refine rqw ?_; cbv)
| (refine QC.tw ?_; cbv)
| (refine QC.tt ?_ ?_; (focus (simp only [decide_true, Bool.and_true, Bool.and_self] <;> fail)); cbv)
| (refine QC.ff ?_ ?_; (focus (simp only [decide_true, Bool.and_true, Bool.and_self, decide_false, Bool.false_and, reduceCtorEq, not_false_eq_true] <;> fail)); cbv)
| (refine QC.fw ?_; cbv)
| (refine QC.mk (fun hc => ?_) (fun hc => ?_) <;> (try dsimp only at hc) <;> cbv)
| (refine br_mk2 (fun hb => ?_) (fun hb => ?_) <;> (try subst hb) <;> cbv)
| (refine callq (c1) rfl rfl ?_; cbv)
| (refine callq (c2) rfl rfl ?_; cbv)
| (refine callq (c3) rfl rfl ?_; cbv)
| (refine callq (c4) rfl rfl ?_; cbv)
| (refine callq (hk) rfl rfl ?_; cbv)))
    all_goals exact ⟨rfl, rfl, rfl⟩
end Go.Proofs.Ytapcbkcnokoljaa
