/- Contracts of Hex: the plain law and the two walks. -/
import Derived.Test.YtapcbkcnokoljaaOS
namespace Go.Proofs.Ytapcbkcnokoljaa
set_option linter.unusedVariables false
set_option linter.unusedSimpArgs false
open Go.RowKit
set_option maxHeartbeats 4000000
set_option linter.unusedSimpArgs false
/-- The letter of a hexadecimal digit. -/
def hxd (n : Nat) : UInt8 := if n < 10 then UInt8.ofNat (48 + n) else UInt8.ofNat (87 + n)
def hx2 (b : UInt8) : List UInt8 := [hxd (b.toNat / 16), hxd (b.toNat % 16)]
def hexL (l : List UInt8) : List UInt8 := l.flatMap hx2
def hexB (l : List UInt8) : ByteArray := ⟨(hexL l).toArray⟩
theorem hexL_app (l m : List UInt8) : hexL (l ++ m) = hexL l ++ hexL m := by simp [hexL]
theorem hexL_len : ∀ l : List UInt8, (hexL l).length = 2 * l.length
  | [] => rfl
  | x :: l => by
    have := hexL_len l
    simp only [hexL, List.flatMap_cons, List.length_append, hx2, List.length_cons, List.length_nil] at *
    omega
theorem dig_at : ∀ k, k < 16 → byteAt ⟨#[48, 49, 50, 51, 52, 53, 54, 55, 56, 57, 97, 98, 99, 100, 101, 102]⟩ (k : Nat) = (hxd k).toNat := by decide
theorem dig_cut : ∀ k, k < 16 → (subS ⟨#[48, 49, 50, 51, 52, 53, 54, 55, 56, 57, 97, 98, 99, 100, 101, 102]⟩ (some (k : Nat)) (some ((k : Int) + 1))).data = #[hxd k] := by decide
theorem take_one {A : Type} (l : List A) (i : Nat) (d : A) (h : i < l.length) : l.take (i + 1) = l.take i ++ [l.getD i d] := by
  rw [List.take_add_one]; simp [h]
/-- The rows that Hex goes through. -/
theorem hexG (bs : List UInt8) : ∃ (G : Nat → List SV) (B : Nat → Int), G 0 = [] ∧ (∀ i, i < bs.length → (u8l bs)[i]? = some (.int .u8 (B i)) ∧ 0 ≤ B i ∧ B i ≤ 255 ∧ ∀ x y : Int, x = byteAt ⟨#[48, 49, 50, 51, 52, 53, 54, 55, 56, 57, 97, 98, 99, 100, 101, 102]⟩ (B i / 16) → y = byteAt ⟨#[48, 49, 50, 51, 52, 53, 54, 55, 56, 57, 97, 98, 99, 100, 101, 102]⟩ (B i % 16) → G i ++ [.int .u8 x, .int .u8 y] = G (i + 1)) ∧ (∀ i, i ≤ bs.length → (G i).length = 2 * i) ∧ G bs.length = u8l (hexL bs) := by
  refine ⟨fun i => u8l (hexL (bs.take i)), fun i => ((bs.getD i 0).toNat : Int), by simp [hexL, u8l], ?_, ?_, by simp⟩
  · intro i hi
    have hb := (bs.getD i 0).toNat_lt
    refine ⟨u8l_at i hi, by dsimp only; omega, by dsimp only; omega, ?_⟩
    intro x y hx hy
    dsimp only at *
    rw [take_one bs i 0 hi, hexL_app, ← u8l_app]
    generalize bs.getD i 0 = b at *
    have h1 := dig_at (b.toNat / 16) (by omega)
    have h2 := dig_at (b.toNat % 16) (by omega)
    rw [show ((b.toNat / 16 : Nat) : Int) = (b.toNat : Int) / 16 by omega] at h1
    rw [show ((b.toNat % 16 : Nat) : Int) = (b.toNat : Int) % 16 by omega] at h2
    rw [hx, hy, h1, h2]
    simp [hexL, hx2, u8l]
  · intro i hi
    rw [u8l_len, hexL_len, List.length_take]; omega
theorem hexL_by (bs : List UInt8) : u8l (hexL bs) = O.by' (hexB bs) := by simp [oby, hexB, u8l]
theorem hex_c (bs : List UInt8) (X : List SV) (h : ByteArray) (hX : X = u8l bs) (hl : bs.length ≤ 4000000) (hh : h = hexB bs) :
    Good 21 (pu [.lst none X] (.str h)) := by
  obtain ⟨G, B, G0, Gs, Gl, Gn⟩ := hexG bs
  have hl' : X.length = bs.length := by rw [hX, u8l_len]
  refine Good.of Try.func21 rfl (by rfl) (by kernel_rfl) ?_
  cbv
  (repeat' (first
| (refine q1w (fun z hz => ?_); (try simp only at hz); cbv)
| (refine rqw ?_; cbv)
| (refine QC.tw ?_; cbv)
| (refine QC.tt ?_ ?_; (focus (simp only [decide_true, Bool.and_true, Bool.and_self] <;> fail)); cbv)
| (refine QC.ff ?_ ?_; (focus (simp only [decide_true, Bool.and_true, Bool.and_self, decide_false, Bool.false_and, reduceCtorEq, not_false_eq_true] <;> fail)); cbv)
| (refine QC.fw ?_; cbv)
| (refine QC.mk (fun hc => ?_) (fun hc => ?_) <;> (try dsimp only at hc) <;> cbv)
| (refine br_mk2 (fun hb => ?_) (fun hb => ?_) <;> (try subst hb) <;> cbv)))
  refine loopQ (A := Nat × Int) (fun p => p.2 = p.1 ∧ p.1 ≤ bs.length) (fun p => bs.length - p.1) (fun p => [(3, .row 3), (9, .any), (12, .int .i64 p.2)]) (fun p => [(3, .row none 5 (G p.1))]) (0, 0) ⟨rfl, Nat.zero_le _⟩ ?_ ?_
  · cbv
    refine ⟨?_, trivial⟩
    show _ = Blk.row none 5 (G 0)
    rw [G0]
    simp only [prp]
    rfl
  · intro ⟨i, j⟩ h
    have hj : j = (i : Int) := h.1
    have hi : i ≤ bs.length := h.2
    clear h
    have hgs := Gs i
    have hgl := Gl i hi
    cbv
    (repeat' (first
| (refine q1w (fun z hz => ?_); (try simp only at hz); cbv)
| (refine rqw ?_; cbv)
| (refine QC.tw ?_; cbv)
| (refine QC.tt ?_ ?_; (focus (simp only [decide_true, Bool.and_true, Bool.and_self] <;> fail)); cbv)
| (refine QC.ff ?_ ?_; (focus (simp only [decide_true, Bool.and_true, Bool.and_self, decide_false, Bool.false_and, reduceCtorEq, not_false_eq_true] <;> fail)); cbv)
| (refine QC.fw ?_; cbv)
| (refine QC.mk (fun hc => ?_) (fun hc => ?_) <;> (try dsimp only at hc) <;> cbv)
| (refine br_mk2 (fun hb => ?_) (fun hb => ?_) <;> (try subst hb) <;> cbv)))
    · have hlt : i < bs.length := by (first | omega | (simp only [cst] at *; omega) | (simp only [sm] at *; omega))
      obtain ⟨h1, h2, h3, h4⟩ := hgs hlt
      clear hgs
      generalize B i = b at *
      refine qv (i, .int .u8 b) ⟨hj, by rw [hX]; exact h1⟩ ?_
      cbv
      (repeat' (first
| (refine q1w (fun z hz => ?_); (try simp only at hz); cbv)
| (refine rqw ?_; cbv)
| (refine QC.tw ?_; cbv)
| (refine QC.tt ?_ ?_; (focus (simp only [decide_true, Bool.and_true, Bool.and_self] <;> fail)); cbv)
| (refine QC.ff ?_ ?_; (focus (simp only [decide_true, Bool.and_true, Bool.and_self, decide_false, Bool.false_and, reduceCtorEq, not_false_eq_true] <;> fail)); cbv)
| (refine QC.fw ?_; cbv)
| (refine QC.mk (fun hc => ?_) (fun hc => ?_) <;> (try dsimp only at hc) <;> cbv)
| (refine br_mk2 (fun hb => ?_) (fun hb => ?_) <;> (try subst hb) <;> cbv)))
      have e1 : z = b / 16 := by rw [hz]; rfl
      refine q1 (show 0 ≤ z ∧ z < (16 : Int) by omega) fun x1 hx1 => ?_
      cbv
      (repeat' (first
| (refine q1w (fun z hz => ?_); (try simp only at hz); cbv)
| (refine rqw ?_; cbv)
| (refine QC.tw ?_; cbv)
| (refine QC.tt ?_ ?_; (focus (simp only [decide_true, Bool.and_true, Bool.and_self] <;> fail)); cbv)
| (refine QC.ff ?_ ?_; (focus (simp only [decide_true, Bool.and_true, Bool.and_self, decide_false, Bool.false_and, reduceCtorEq, not_false_eq_true] <;> fail)); cbv)
| (refine QC.fw ?_; cbv)
| (refine QC.mk (fun hc => ?_) (fun hc => ?_) <;> (try dsimp only at hc) <;> cbv)
| (refine br_mk2 (fun hb => ?_) (fun hb => ?_) <;> (try subst hb) <;> cbv)))
      have e2 : z = b % 16 := by
        have h : b.toNat &&& Int.toNat 15 = b.toNat % 16 := Nat.and_two_pow_sub_one_eq_mod b.toNat 4
        rw [hz, h]
        simp only [cst]
        omega
      refine q1 (show 0 ≤ z ∧ z < (16 : Int) by omega) fun x2 hx2 => ?_
      cbv
      (repeat' (first
| (refine q1w (fun z hz => ?_); (try simp only at hz); cbv)
| (refine rqw ?_; cbv)
| (refine QC.tw ?_; cbv)
| (refine QC.tt ?_ ?_; (focus (simp only [decide_true, Bool.and_true, Bool.and_self] <;> fail)); cbv)
| (refine QC.ff ?_ ?_; (focus (simp only [decide_true, Bool.and_true, Bool.and_self, decide_false, Bool.false_and, reduceCtorEq, not_false_eq_true] <;> fail)); cbv)
| (refine QC.fw ?_; cbv)
| (refine QC.mk (fun hc => ?_) (fun hc => ?_) <;> (try dsimp only at hc) <;> cbv)
| (refine br_mk2 (fun hb => ?_) (fun hb => ?_) <;> (try subst hb) <;> cbv)))
      refine ⟨(i + 1, z), ⟨by (first | omega | (simp only [cst] at *; omega) | (simp only [sm] at *; omega)), by omega⟩, by show bs.length - (i + 1) < bs.length - i; omega, ?_⟩
      cbv
      refine ⟨?_, trivial⟩
      have h5 := h4 x1 x2 (by rw [← e1]; exact hx1) (by rw [← e2]; exact hx2)
      rw [← apL_eq] at h5
      exact congrArg (Blk.row none 5) h5
    · have e : i = bs.length := by (first | omega | (simp only [cst] at *; omega) | (simp only [sm] at *; omega))
      refine qv h ?_ ?_
      · show G i = _
        rw [e, Gn, hh, hexL_by]
      cbv
      (repeat' (first
| (refine q1w (fun z hz => ?_); (try simp only at hz); cbv)
| (refine rqw ?_; cbv)
| (refine QC.tw ?_; cbv)
| (refine QC.tt ?_ ?_; (focus (simp only [decide_true, Bool.and_true, Bool.and_self] <;> fail)); cbv)
| (refine QC.ff ?_ ?_; (focus (simp only [decide_true, Bool.and_true, Bool.and_self, decide_false, Bool.false_and, reduceCtorEq, not_false_eq_true] <;> fail)); cbv)
| (refine QC.fw ?_; cbv)
| (refine QC.mk (fun hc => ?_) (fun hc => ?_) <;> (try dsimp only at hc) <;> cbv)
| (refine br_mk2 (fun hb => ?_) (fun hb => ?_) <;> (try subst hb) <;> cbv)))
      exact ⟨rfl, rfl, rfl⟩
end Go.Proofs.Ytapcbkcnokoljaa
