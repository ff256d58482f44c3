/- Contract of the other Unhex. -/
import Derived.Test.YtapcbkcnokoljaaOX
namespace Go.Proofs.Ytapcbkcnokoljaa
set_option linter.unusedVariables false
set_option linter.unusedSimpArgs false
open Go.RowKit
set_option maxHeartbeats 4000000
set_option linter.unusedSimpArgs false
theorem runhG (f : Nat → Int) (n : Nat) : ∃ U : Nat → List SV, U 0 = [] ∧ (∀ i, (U i).length = i) ∧ (∀ i x, x = 16 * f (2 * i) + f (2 * i + 1) → apL (U i) [.int .u8 x] = U (i + 1)) ∧ U n = ints .u8 ((List.range n).map fun k => 16 * f (2 * k) + f (2 * k + 1)) := by
  refine ⟨fun i => ints .u8 ((List.range i).map fun k => 16 * f (2 * k) + f (2 * k + 1)), rfl, fun i => by simp [ints], fun i x hx => ?_, rfl⟩
  show apL (ints .u8 ((List.range i).map _)) _ = ints .u8 ((List.range (i + 1)).map _)
  rw [apL_eq, hx, List.range_succ, List.map_append, ← ints_app]
  rfl
def uhS : Nat → List (Nat × SV)
  | 0 => [(4, .nil)]
  | _ + 1 => [(4, .row 4)]
def uhM (U : Nat → List SV) : Nat → List (Nat × Blk)
  | 0 => []
  | k + 1 => [(4, .row none 5 (U (k + 1)))]
theorem runhex_yes (s : ByteArray) (n : Nat) (f : Nat → Int) (hs : s.size = 2 * n) (hn : 0 < n) (hl : s.size ≤ 8000000) (hf : ∀ k, f k = dgI (byteAt s (k : Nat))) (hok : ∀ k, k < 2 * n → 0 ≤ f k) (R : List SV) (hR : R = ints .u8 ((List.range n).map fun k => 16 * f (2 * k) + f (2 * k + 1))) :
    Good 20 (nu [.str s] (.tup [.row 1, .bool true]) (.row none 5 R)) := by
  obtain ⟨U, U0, Ul, Us, Un⟩ := runhG f n
  obtain ⟨F, hF⟩ : ∃ F : Int → Int, ∀ c, F c = dgI c := ⟨_, fun _ => rfl⟩
  have hFb : ∀ c, -1 ≤ F c ∧ F c ≤ 15 := fun c => by rw [hF]; exact dgI_le c
  have hD := fun c : Int => digit_c c (F c) (hF c)
  refine Good.of Try.func20 rfl (by rfl) (by kernel_rfl) ?_
  cbv
  (repeat' (first
| (refine q1w (fun z hz => ?_); (try simp only at hz); cbv)
| (refine rqw ?_; cbv)
| (refine QC.tw ?_; cbv)
| (refine QC.tt ?_ ?_; (focus (simp only [decide_true, Bool.and_true, Bool.and_self] <;> fail)); cbv)
| (refine QC.ff ?_ ?_; (focus (simp only [decide_true, Bool.and_true, Bool.and_self, decide_false, Bool.false_and, reduceCtorEq, not_false_eq_true] <;> fail)); cbv)
| (refine QC.fw ?_; cbv)
| (refine QC.mk (fun hc => ?_) (fun hc => ?_) <;> (try dsimp only at hc) <;> cbv)
| (refine br_mk2 (fun hb => ?_) (fun hb => ?_) <;> (try subst hb) <;> cbv)))
  refine loopQ (A := Nat × Int) (fun p => p.2 = 2 * p.1 ∧ p.1 ≤ n) (fun p => n - p.1) (fun p => (5, .int .i64 p.2) :: uhS p.1) (fun p => uhM U p.1) (0, 0) ⟨rfl, Nat.zero_le _⟩ ?_ ?_
  · cbv
  · intro ⟨i, j⟩ h
    have hj : j = 2 * (i : Int) := h.1
    have hi : i ≤ n := h.2
    clear h
    have hul := Ul i
    have hus := Us i
    have f1 := dgI_le (byteAt s j)
    have f2 := dgI_le (byteAt s (j + 1))
    have f3 : i < n → 0 ≤ F (byteAt s j) ∧ F (byteAt s j) = f (2 * i) := fun h => by
      have := hok (2 * i) (by omega)
      rw [hf] at *
      rw [hF, hj, show (2 * (i : Int)) = ((2 * i : Nat) : Int) by omega]
      exact ⟨this, rfl⟩
    have f4 : i < n → 0 ≤ F (byteAt s (j + 1)) ∧ F (byteAt s (j + 1)) = f (2 * i + 1) := fun h => by
      have := hok (2 * i + 1) (by omega)
      rw [hf] at *
      rw [hF, hj, show (2 * (i : Int) + 1) = ((2 * i + 1 : Nat) : Int) by omega]
      exact ⟨this, rfl⟩
    clear f1 f2
    have hz0 : ∀ z1 z2 z3 : Int, z1 = byteAt s j → z2 = j + 1 → z3 = byteAt s z2 → i < n → 0 ≤ F z1 ∧ 0 ≤ F z3 ∧ 16 * F z1 + F z3 = 16 * f (2 * i) + f (2 * i + 1) := fun z1 z2 z3 h1 h2 h3 h4 => by
      rw [h3, h1, h2]
      have := f3 h4
      have := f4 h4
      omega
    clear f3 f4
    cases i with
    | zero =>
      cbv
      (repeat' (first
| (refine q1w (fun z hz => ?_); (try simp only at hz); cbv)
| (refine rqw ?_; cbv)
| (refine QC.tw ?_; cbv)
| (refine QC.tt ?_ ?_; (focus (simp only [decide_true, Bool.and_true, Bool.and_self] <;> fail)); cbv)
| (refine QC.ff ?_ ?_; (focus (simp only [decide_true, Bool.and_true, Bool.and_self, decide_false, Bool.false_and, reduceCtorEq, not_false_eq_true] <;> fail)); cbv)
| (refine QC.fw ?_; cbv)
| (refine QC.mk (fun hc => ?_) (fun hc => ?_) <;> (try dsimp only at hc) <;> cbv)
| (refine br_mk2 (fun hb => ?_) (fun hb => ?_) <;> (try subst hb) <;> cbv)
| ((refine callq (hD z) rfl rfl ?_; have hb := hFb z; cbv))))
      · exfalso
        have := hz0 _ _ _ (by assumption) (by assumption) (by assumption) hn
        omega
      · exfalso
        have := hz0 _ _ _ (by assumption) (by assumption) (by assumption) hn
        omega
      · have := hz0 _ _ _ (by assumption) (by assumption) (by assumption) hn
        have b1 := hFb
        rename_i z6 h6 z5 h5 z4 h4
        have hk := hus z4 (by omega)
        rw [U0] at hk
        refine ⟨(1, z), ⟨by show z = 2 * ((1 : Nat) : Int); (first | omega | (simp only [cst] at *; omega) | (simp only [sm] at *; omega)), by show 1 ≤ n; omega⟩, by show n - 1 < n - 0; omega, ?_⟩
        cbv
        refine ⟨?_, trivial⟩
        exact congrArg (Blk.row none 5) hk
    | succ i =>
      cbv
      (repeat' (first
| (refine q1w (fun z hz => ?_); (try simp only at hz); cbv)
| (refine rqw ?_; cbv)
| (refine QC.tw ?_; cbv)
| (refine QC.tt ?_ ?_; (focus (simp only [decide_true, Bool.and_true, Bool.and_self] <;> fail)); cbv)
| (refine QC.ff ?_ ?_; (focus (simp only [decide_true, Bool.and_true, Bool.and_self, decide_false, Bool.false_and, reduceCtorEq, not_false_eq_true] <;> fail)); cbv)
| (refine QC.fw ?_; cbv)
| (refine QC.mk (fun hc => ?_) (fun hc => ?_) <;> (try dsimp only at hc) <;> cbv)
| (refine br_mk2 (fun hb => ?_) (fun hb => ?_) <;> (try subst hb) <;> cbv)
| ((refine callq (hD z) rfl rfl ?_; have hb := hFb z; cbv))))
      · exfalso
        have := hz0 _ _ _ (by assumption) (by assumption) (by assumption) (by (first | omega | (simp only [cst] at *; omega) | (simp only [sm] at *; omega)))
        omega
      · exfalso
        have := hz0 _ _ _ (by assumption) (by assumption) (by assumption) (by (first | omega | (simp only [cst] at *; omega) | (simp only [sm] at *; omega)))
        omega
      · have := hz0 _ _ _ (by assumption) (by assumption) (by assumption) (by (first | omega | (simp only [cst] at *; omega) | (simp only [sm] at *; omega)))
        rename_i z6 h6 z5 h5 z4 h4
        have hk := hus z4 (by omega)
        refine ⟨(i + 1 + 1, z), ⟨by show z = 2 * ((i + 1 + 1 : Nat) : Int); (first | omega | (simp only [cst] at *; omega) | (simp only [sm] at *; omega)), by show i + 1 + 1 ≤ n; (first | omega | (simp only [cst] at *; omega) | (simp only [sm] at *; omega))⟩, by show n - (i + 1 + 1) < n - (i + 1); (first | omega | (simp only [cst] at *; omega) | (simp only [sm] at *; omega)), ?_⟩
        cbv
        refine ⟨?_, trivial⟩
        exact congrArg (Blk.row none 5) hk
      · have e : i + 1 = n := by (first | omega | (simp only [cst] at *; omega) | (simp only [sm] at *; omega))
        refine ⟨rfl, ?_, rfl⟩
        show Blk.row none 5 (U (i + 1)) = _
        rw [e, Un, hR]
end Go.Proofs.Ytapcbkcnokoljaa
