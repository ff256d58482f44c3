/- Contract of octets.Unhex where it succeeds. -/
import Derived.Test.YtapcbkcnokoljaaOX
namespace Go.Proofs.Ytapcbkcnokoljaa
set_option linter.unusedVariables false
set_option linter.unusedSimpArgs false
open Go.RowKit
set_option maxHeartbeats 4000000
set_option linter.unusedSimpArgs false
theorem or4 (c d : Nat) (hd : d < 16) : c * 16 ||| d = c * 16 + d := by
  have h := Nat.shiftLeft_add_eq_or_of_lt (i := 4) (b := d) hd c
  rw [Nat.shiftLeft_eq] at h
  exact h.symm
theorem shl4 (x y c d : Int) (hx : x = c * 2 ^ Int.toNat 4 % 256) (hy : y = d) (hc : 0 ≤ c ∧ c ≤ 15) (hd : 0 ≤ d ∧ d ≤ 15) : ((x.toNat ||| y.toNat : Nat) : Int) = c * 16 + d := by
  rw [q4] at hx
  rw [show x.toNat = c.toNat * 16 by omega, or4 _ _ (by omega)]
  omega
theorem unhex_yes (s : ByteArray) (n : Nat) (f : Nat → Int) (hs : s.size = 2 * n) (hl : s.size ≤ 8000000) (hf : ∀ k, f k = dgI (byteAt s k)) (hok : ∀ k, k < 2 * n → 0 ≤ f k) (R : List SV) (hR : R = ints .u8 ((List.range n).map fun k => 16 * f (2 * k) + f (2 * k + 1))) :
    Good 19 (nu [.str s] (.tup [.row 1, .bool true]) (.row none 5 R)) := by
  obtain ⟨G, C, G0, Gl, Gs, Gn⟩ := unhG f n (fun k hk => ⟨hok k hk, by rw [hf]; exact (dgI_le _).2⟩)
  refine Good.of Try.func19 rfl (by rfl) (by kernel_rfl) ?_
  cbv
  (repeat' (first
| (refine q1w (fun z hz => ?_); (try simp only at hz); cbv)
| (refine rqw ?_; cbv)
| (refine QC.tw ?_; cbv)
| (refine QC.tt ?_ ?_; (focus (simp only [decide_true, Bool.and_true, Bool.and_self] <;> fail)); cbv)
| (refine QC.ff ?_ ?_; (focus (simp only [decide_true, Bool.and_true, Bool.and_self, decide_false, Bool.false_and, reduceCtorEq, not_false_eq_true] <;> fail)); cbv)
| (refine QC.fw ?_; cbv)
| (refine QC.mk (fun hc => ?_) (fun hc => ?_) <;> (try dsimp only at hc) <;> cbv)
| (refine br_mk2 (fun hb => ?_) (fun hb => ?_) <;> (try subst hb) <;> cbv)))
  refine loopQ (A := Nat) (fun p => p ≤ 2 * n) (fun p => 2 * n - p) (fun p => [(4, .row 4), (15, .any)]) (fun p => [(4, .row none 5 (G p)), (17, .iter s p)]) 0 (Nat.zero_le _) ?_ ?_
  · cbv
    refine ⟨?_, trivial⟩
    show _ = Blk.row none 5 (G 0)
    rw [G0]
    simp only [prp]
    rw [show z.toNat = n by (first | omega | (simp only [cst] at *; omega) | (simp only [sm] at *; omega))]
  · intro p hp
    have hgs := Gs p
    have hgl := Gl p
    cbv
    (repeat' (first
| (refine q1w (fun z hz => ?_); (try simp only at hz); cbv)
| (refine rqw ?_; cbv)
| (refine QC.tw ?_; cbv)
| (refine QC.tt ?_ ?_; (focus (simp only [decide_true, Bool.and_true, Bool.and_self] <;> fail)); cbv)
| (refine QC.ff ?_ ?_; (focus (simp only [decide_true, Bool.and_true, Bool.and_self, decide_false, Bool.false_and, reduceCtorEq, not_false_eq_true] <;> fail)); cbv)
| (refine QC.fw ?_; cbv)
| (refine QC.mk (fun hc => ?_) (fun hc => ?_) <;> (try dsimp only at hc) <;> cbv)
| (refine br_mk2 (fun hb => ?_) (fun hb => ?_) <;> (try subst hb) <;> cbv)))
    · refine nextK (fun r w z y hz hy hd => ?_)
      have hlt : p < s.size := hc
      have hw := dec_of hlt hd (by rw [← hf]; exact hok p (by omega))
      obtain ⟨rfl, hr⟩ := hw
      rw [← hy] at hr
      clear hy
      have hb := dgI_pos _ (by rw [← hf]; exact hok p (by omega))
      rw [← hf, ← hr] at hb
      obtain ⟨g1, g2, g3, g4⟩ := hgs (by omega)
      clear hgs
      generalize f p = fp at *
      generalize C p = cp at *
      obtain ⟨q, hq⟩ : ∃ q, q = p / 2 := ⟨_, rfl⟩
      rw [← hq] at g1 g4
      cbv
      (repeat' (first
| (refine q1w (fun z hz => ?_); (try simp only at hz); cbv)
| (refine rqw ?_; cbv)
| (refine QC.tw ?_; cbv)
| (refine QC.tt ?_ ?_; (focus (simp only [decide_true, Bool.and_true, Bool.and_self] <;> fail)); cbv)
| (refine QC.ff ?_ ?_; (focus (simp only [decide_true, Bool.and_true, Bool.and_self, decide_false, Bool.false_and, reduceCtorEq, not_false_eq_true] <;> fail)); cbv)
| (refine QC.fw ?_; cbv)
| (refine QC.mk (fun hc => ?_) (fun hc => ?_) <;> (try dsimp only at hc) <;> cbv)
| (refine br_mk2 (fun hb => ?_) (fun hb => ?_) <;> (try subst hb) <;> cbv)
| (refine qv (q) (by (first | omega | (simp only [cst] at *; omega) | (simp only [sm] at *; omega))) ?_; cbv)
| (refine qv _ (g1) ?_; cbv)))
      · have e : z = cp * 16 + fp := by
          rename_i u1 h1 u2 h2 u3 h3 u4 h4 u5 h5
          rw [hz]; exact shl4 _ _ cp fp h5 (by omega) (by omega) (by omega)
        refine ⟨p + 1, by omega, by omega, ?_⟩
        cbv
        exact ⟨congrArg (Blk.row none 5) (g4 z e), trivial⟩
      · have e : z = cp * 16 + fp := by
          rename_i u0 h0 u1 h1 u2 h2 u3 h3 u4 h4 u5 h5
          rw [hz]; exact shl4 _ _ cp fp h5 (by omega) (by omega) (by omega)
        refine ⟨p + 1, by omega, by omega, ?_⟩
        cbv
        exact ⟨congrArg (Blk.row none 5) (g4 z e), trivial⟩
    · refine ⟨rfl, ?_, rfl⟩
      show Blk.row none 5 (G p) = _
      rw [show p = 2 * n by (first | omega | (simp only [cst] at *; omega) | (simp only [sm] at *; omega)), Gn, hR]
/-- Where it fails. -/
theorem unhex_no (s : ByteArray) (hl : s.size ≤ 8000000) (hno : s.size % 2 = 1 ∨ ∃ k, k < s.size ∧ dgI (byteAt s (k : Nat)) < 0) :
    Good 19 (pu [.str s] (.tup [.lst none [], .bool false])) := by
  by_cases hodd : s.size % 2 = 1
  · refine Good.of Try.func19 rfl (by rfl) (by kernel_rfl) ?_
    cbv
    (repeat' (first
| (refine q1w (fun z hz => ?_); (try simp only at hz); cbv)
| (refine rqw ?_; cbv)
| (refine QC.tw ?_; cbv)
| (refine QC.tt ?_ ?_; (focus (simp only [decide_true, Bool.and_true, Bool.and_self] <;> fail)); cbv)
| (refine QC.ff ?_ ?_; (focus (simp only [decide_true, Bool.and_true, Bool.and_self, decide_false, Bool.false_and, reduceCtorEq, not_false_eq_true] <;> fail)); cbv)
| (refine QC.fw ?_; cbv)
| (refine QC.mk (fun hc => ?_) (fun hc => ?_) <;> (try dsimp only at hc) <;> cbv)
| (refine br_mk2 (fun hb => ?_) (fun hb => ?_) <;> (try subst hb) <;> cbv)))
    all_goals exact ⟨rfl, rfl, rfl⟩
  · obtain ⟨n, hn⟩ : ∃ n, s.size = 2 * n := ⟨s.size / 2, by omega⟩
    obtain ⟨f, hf⟩ : ∃ f : Nat → Int, ∀ k, f k = max 0 (dgI (byteAt s (k : Nat))) := ⟨_, fun _ => rfl⟩
    obtain ⟨G, C, G0, Gl, Gs, Gn⟩ := unhG f n (fun k hk => by have := dgI_le (byteAt s (k : Nat)); rw [hf]; omega)
    have hex : ∃ k, k < s.size ∧ dgI (byteAt s (k : Nat)) < 0 := by
      rcases hno with h | h
      · omega
      · exact h
    clear hno
    refine Good.of Try.func19 rfl (by rfl) (by kernel_rfl) ?_
    cbv
    (repeat' (first
| (refine q1w (fun z hz => ?_); (try simp only at hz); cbv)
| (refine rqw ?_; cbv)
| (refine QC.tw ?_; cbv)
| (refine QC.tt ?_ ?_; (focus (simp only [decide_true, Bool.and_true, Bool.and_self] <;> fail)); cbv)
| (refine QC.ff ?_ ?_; (focus (simp only [decide_true, Bool.and_true, Bool.and_self, decide_false, Bool.false_and, reduceCtorEq, not_false_eq_true] <;> fail)); cbv)
| (refine QC.fw ?_; cbv)
| (refine QC.mk (fun hc => ?_) (fun hc => ?_) <;> (try dsimp only at hc) <;> cbv)
| (refine br_mk2 (fun hb => ?_) (fun hb => ?_) <;> (try subst hb) <;> cbv)))
    refine loopQ (A := Nat) (fun p => p ≤ 2 * n ∧ ∀ k, k < p → 0 ≤ dgI (byteAt s (k : Nat))) (fun p => 2 * n - p) (fun p => [(4, .row 4), (15, .any)]) (fun p => [(4, .row none 5 (G p)), (17, .iter s p)]) 0 ⟨Nat.zero_le _, fun k hk => by omega⟩ ?_ ?_
    · cbv
      refine ⟨?_, trivial⟩
      show _ = Blk.row none 5 (G 0)
      rw [G0]
      simp only [prp]
      rw [show z.toNat = n by (first | omega | (simp only [cst] at *; omega) | (simp only [sm] at *; omega))]
    · intro p hp'
      have hp : p ≤ 2 * n := hp'.1
      have hdone := hp'.2
      clear hp'
      have hgs := Gs p
      have hgl := Gl p
      cbv
      (repeat' (first
| (refine q1w (fun z hz => ?_); (try simp only at hz); cbv)
| (refine rqw ?_; cbv)
| (refine QC.tw ?_; cbv)
| (refine QC.tt ?_ ?_; (focus (simp only [decide_true, Bool.and_true, Bool.and_self] <;> fail)); cbv)
| (refine QC.ff ?_ ?_; (focus (simp only [decide_true, Bool.and_true, Bool.and_self, decide_false, Bool.false_and, reduceCtorEq, not_false_eq_true] <;> fail)); cbv)
| (refine QC.fw ?_; cbv)
| (refine QC.mk (fun hc => ?_) (fun hc => ?_) <;> (try dsimp only at hc) <;> cbv)
| (refine br_mk2 (fun hb => ?_) (fun hb => ?_) <;> (try subst hb) <;> cbv)))
      · refine nextK (fun r w z y hz hy hd => ?_)
        have hlt : p < s.size := hc
        obtain ⟨g1, g2, g3, g4⟩ := hgs (by omega)
        clear hgs
        have hin : (48 ≤ r ∧ r ≤ 57) ∨ (97 ≤ r ∧ r ≤ 102) → w = 1 ∧ 0 ≤ dgI (byteAt s (p : Nat)) ∧ ((r ≤ 57 ∧ f p = (r : Int) - 48) ∨ (97 ≤ r ∧ f p = (r : Int) - 87)) := fun h => by
          obtain ⟨h1, h2⟩ := dec_in hlt hd h
          have h3 := dgI_of (byteAt s (p : Nat)) (by rw [h2]; omega)
          refine ⟨h1, h3, ?_⟩
          have h4 := dgI_pos _ h3
          have h5 := hf p
          rw [h2] at h4 h5
          omega
        generalize f p = fp at *
        generalize C p = cp at *
        obtain ⟨q, hq⟩ : ∃ q, q = p / 2 := ⟨_, rfl⟩
        rw [← hq] at g1 g4
        have hr' : (r : Int) ≤ 2147483647 := by
          have := decode_le s p
          rw [hd] at this
          dsimp only at this
          omega
        have hnext : w = 1 → 0 ≤ dgI (byteAt s (p : Nat)) → ∀ k, k < p + 1 → 0 ≤ dgI (byteAt s (k : Nat)) := fun _ h k hk => by
          rcases Nat.lt_succ_iff_lt_or_eq.1 hk with h1 | h1
          · exact hdone k h1
          · rw [h1]; exact h
        cbv
        (repeat' (first
| (refine q1w (fun z hz => ?_); (try simp only at hz); cbv)
| (refine rqw ?_; cbv)
| (refine QC.tw ?_; cbv)
| (refine QC.tt ?_ ?_; (focus (simp only [decide_true, Bool.and_true, Bool.and_self] <;> fail)); cbv)
| (refine QC.ff ?_ ?_; (focus (simp only [decide_true, Bool.and_true, Bool.and_self, decide_false, Bool.false_and, reduceCtorEq, not_false_eq_true] <;> fail)); cbv)
| (refine QC.fw ?_; cbv)
| (refine QC.mk (fun hc => ?_) (fun hc => ?_) <;> (try dsimp only at hc) <;> cbv)
| (refine br_mk2 (fun hb => ?_) (fun hb => ?_) <;> (try subst hb) <;> cbv)
| (refine qv (q) (by (first | omega | (simp only [cst] at *; omega) | (simp only [sm] at *; omega))) ?_; cbv)
| (refine qv _ (g1) ?_; cbv)))
        all_goals first
          | exact ⟨rfl, rfl, rfl⟩
          | (obtain ⟨w1, w2, w3⟩ := hin (by (first | omega | (simp only [cst] at *; omega) | (simp only [sm] at *; omega)))
             have e : z = cp * 16 + fp := by
               rw [hz]; exact shl4 _ _ cp fp (by assumption) (by (first | omega | (simp only [cst] at *; omega) | (simp only [sm] at *; omega))) (by (first | omega | (simp only [cst] at *; omega) | (simp only [sm] at *; omega))) (by (first | omega | (simp only [cst] at *; omega) | (simp only [sm] at *; omega)))
             have e2 := hnext w1 w2
             subst w1
             refine ⟨p + 1, ⟨by (first | omega | (simp only [cst] at *; omega) | (simp only [sm] at *; omega)), e2⟩, by (first | omega | (simp only [cst] at *; omega) | (simp only [sm] at *; omega)), ?_⟩
             cbv
             exact ⟨congrArg (Blk.row none 5) (g4 z e), trivial⟩)
      · exfalso
        obtain ⟨k, h1, h2⟩ := hex
        have := hdone k (by (first | omega | (simp only [cst] at *; omega) | (simp only [sm] at *; omega)))
        omega
end Go.Proofs.Ytapcbkcnokoljaa
