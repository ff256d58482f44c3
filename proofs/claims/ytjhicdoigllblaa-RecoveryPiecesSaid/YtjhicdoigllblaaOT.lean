/- Contract of multihopref01.Append. -/
import Derived.Test.YtjhicdoigllblaaOS
namespace Go.Proofs.Ytjhicdoigllblaa
set_option linter.unusedVariables false
set_option linter.unusedSimpArgs false
open Go.RowKit
set_option maxHeartbeats 4000000
theorem rappG (bs : List UInt8) (v : Int) (n : Nat) : ∃ G : Nat → List SV, G 0 = u8l bs ∧ (∀ k, k < n → apL (G k) [.int .u8 (v / 2 ^ (8 * (n - 1 - k)) % 256)] = G (k + 1)) ∧ (∀ k, k ≤ n → (G k).length = bs.length + k) ∧ G n = u8l (bs ++ bytesOf v n) := by
  refine ⟨fun k => u8l (bs ++ (bytesOf v n).take k), by simp, ?_, ?_, ?_⟩
  · intro k hk
    rw [apL_eq, ← digit_val, show [SV.int .u8 ((digit v n k).toNat : Int)] = u8l [digit v n k] from rfl, u8l_app, List.append_assoc]
    congr 2
    rw [List.take_add_one, bytesOf_get v n k hk]; rfl
  · intro k hk; simp [u8l_len, bytesOf_length]; omega
  · simp [List.take_of_length_le (Nat.le_of_eq (bytesOf_length v n))]
theorem rappend_c (bs : List UInt8) (X R : List SV) (v N : Int) (n : Nat) (hX : X = u8l bs) (hN : N = n) (hn : n ≤ 8) (hv : 0 ≤ v ∧ v < 18446744073709551616) (hl : bs.length ≤ 140737488352000) (hR : R = u8l (bs ++ bytesOf v n)) :
    Good 63 (nu [.lst none X, .int .u64 v, .int .i64 N] (.row 1) (.row none 5 R)) := by
  obtain ⟨G, G0, Gs, Gl, Gn⟩ := rappG bs v n
  have hl' : X.length = bs.length := by rw [hX, u8l_len]
  refine Good.of Try.func63 rfl (by rfl) (by kernel_rfl) ?_
  cbv
  (repeat' (first
    | (refine q1 (by first | exact trivial | omega | (dsimp only; omega) | exact pow62 _ (by omega) | exact mul9 (by omega) (by omega) | (simp only [sm] at *; omega)) (fun z hz => ?_); (try simp only at hz); cbv)
    | (refine rq (by first | exact trivial | omega | (dsimp only; omega) | (simp only [sm] at *; omega)) ?_; cbv)
    | (refine QC.tt (by first | omega | (dsimp only; omega) | exact rfl | (simp only [sm] at *; omega)) ?_; cbv)
    | (refine QC.tt ?_ ?_; (focus (simp only [decide_true, Bool.and_true, Bool.and_self] <;> fail)); cbv)
    | (refine QC.ff ?_ ?_; (focus (simp only [decide_true, Bool.and_true, Bool.and_self, decide_false, Bool.false_and, reduceCtorEq, not_false_eq_true] <;> fail)); cbv)
    | (refine QC.ff (by first | omega | (dsimp only; omega) | (simp only [sm] at *; omega)) ?_; cbv)
    | (refine QC.mk (fun hc => ?_) (fun hc => ?_) <;> (try dsimp only at hc) <;> cbv)
    | (refine br_mk2 (fun hb => ?_) (fun hb => ?_) <;> (try subst hb) <;> cbv)))
  refine loopQ (A := Nat × Int) (fun p => p.2 = n - 1 - p.1 ∧ p.1 ≤ n) (fun p => n - p.1) (fun p => [(7, .row 7), (8, .int .i64 p.2), (9, .any), (11, .any)]) (fun p => [(7, .row none 5 (G p.1))]) (0, z) ⟨by show z = (n : Int) - 1 - (0 : Nat); (first | omega | (simp only [cst] at *; omega) | (simp only [sm] at *; omega)), Nat.zero_le _⟩ ?_ ?_
  · cbv
    refine ⟨?_, trivial⟩
    show _ = Blk.row none 5 (G 0)
    rw [G0, hX]
  · intro ⟨i, j⟩ h
    have hj : j = (n : Int) - 1 - (i : Int) := h.1
    have hi : i ≤ n := h.2
    clear h
    have hgs := Gs i
    have hgl := Gl i hi
    cbv
    (repeat' (first
    | (refine q1 (by first | exact trivial | omega | (dsimp only; omega) | exact pow62 _ (by omega) | exact mul9 (by omega) (by omega) | (simp only [sm] at *; omega)) (fun z hz => ?_); (try simp only at hz); cbv)
    | (refine rq (by first | exact trivial | omega | (dsimp only; omega) | (simp only [sm] at *; omega)) ?_; cbv)
    | (refine QC.tt (by first | omega | (dsimp only; omega) | exact rfl | (simp only [sm] at *; omega)) ?_; cbv)
    | (refine QC.tt ?_ ?_; (focus (simp only [decide_true, Bool.and_true, Bool.and_self] <;> fail)); cbv)
    | (refine QC.ff ?_ ?_; (focus (simp only [decide_true, Bool.and_true, Bool.and_self, decide_false, Bool.false_and, reduceCtorEq, not_false_eq_true] <;> fail)); cbv)
    | (refine QC.ff (by first | omega | (dsimp only; omega) | (simp only [sm] at *; omega)) ?_; cbv)
    | (refine QC.mk (fun hc => ?_) (fun hc => ?_) <;> (try dsimp only at hc) <;> cbv)
    | (refine br_mk2 (fun hb => ?_) (fun hb => ?_) <;> (try subst hb) <;> cbv)))
    · have hlt : i < n := by (first | omega | (simp only [cst] at *; omega) | (simp only [sm] at *; omega))
      have hgs := hgs hlt
      rename_i z1 h1 z2 h2 z3 h3 z4 h4
      refine ⟨(i + 1, z), ⟨by show z = (n : Int) - 1 - (i + 1 : Nat); (first | omega | (simp only [cst] at *; omega) | (simp only [sm] at *; omega)), by omega⟩, by show n - (i + 1) < n - i; omega, ?_⟩
      cbv
      refine ⟨?_, trivial⟩
      have e4 : z4 = v / 2 ^ (8 * (n - 1 - i)) % 256 := by rw [h4, h3, show z2.toNat = 8 * (n - 1 - i) by (first | omega | (simp only [cst] at *; omega) | (simp only [sm] at *; omega))]
      rw [← e4] at hgs
      exact congrArg (Blk.row none 5) hgs
    · have e : i = n := by (first | omega | (simp only [cst] at *; omega) | (simp only [sm] at *; omega))
      refine ⟨rfl, ?_, rfl⟩
      show Blk.row none 5 (G i) = _
      rw [e, Gn, hR]
end Go.Proofs.Ytjhicdoigllblaa
