/- Both Encodes and Valids agree; the walk of the law Forms. -/
import Derived.Test.YtfmaicedefhejaaFL
namespace Go.Proofs.Ytfmaicedefhejaa
set_option linter.unusedVariables false
set_option linter.unusedSimpArgs false
open Go.RowKit
set_option maxHeartbeats 8000000
/-- What the encodings of f are. -/
def Enc2 (x R : SV) (e : Int) (v : Bool) : Prop := Good 23 (pu [x] (.tup [R, .int .i64 e])) ∧ Good 24 (pu [x] (.tup [R, .int .i64 e])) ∧
  Good 25 (pu [x] (.bool v)) ∧ Good 26 (pu [x] (.bool v))
theorem encF_len (n t a : Int) (bs : List UInt8) : (encF n t a bs).length = (if a > 0 then 5 else 4) + bs.length := by
  unfold encF
  split <;> simp [bytesOf_length] <;> omega
theorem enc_e (f : Fr) (X : List SV) (hX : X = u8l f.b) (hf : f.fits) : ∃ (R : List SV) (rs : List UInt8) (e : Int) (v : Bool), R = u8l rs ∧ rs.length ≤ 140737488351232 ∧ Enc2 (.agg [.int .i64 f.n, .int .u16 f.t, .int .i64 f.a, .lst none X]) (.lst none R) e v ∧ Good 21 (pu [.lst none R, .lst none R] (.bool true)) := by
  have hb := hf.b
  have hXl : X.length = f.b.length := by rw [hX, u8l_len]
  cases hv : validF f.n f.a f.b.length with
  | true =>
    have hv' := of_decide_eq_true hv
    have hl : (encF f.n f.t f.a f.b).length ≤ 140737488351232 := by rw [encF_len]; split <;> omega
    refine ⟨_, encF f.n f.t f.a f.b, 0, true, rfl, hl, ⟨encode_c f.b X _ f.n f.t f.a hX hv hf.t rfl, rencode_c f.b X _ f.n f.t f.a hX hv hf.t rfl, valid_c X _ _ _ _ true hXl (by omega) hf.n hf.a hv.symm, rvalid_c X _ _ _ _ true hXl (by omega) hf.n hf.a hv.symm⟩, ?_⟩
    exact same_c _ _ _ _ true rfl rfl (by omega) (by omega) (by simp)
  | false =>
    refine ⟨[], [], 1, false, rfl, by simp, ⟨encode_no X _ _ _ _ hXl (by omega) hf.n hf.a hv, rencode_no X _ _ _ _ hXl (by omega) hf.n hf.a hv, valid_c X _ _ _ _ false hXl (by omega) hf.n hf.a hv.symm, rvalid_c X _ _ _ _ false hXl (by omega) hf.n hf.a hv.symm⟩, ?_⟩
    exact same_c [] [] _ _ true rfl rfl (by simp) (by simp) (by simp)
/-- The walk behind the choice: three fragments are compared. -/
def frV4 (f : Fr) (X : List SV) : SV := .agg [.int .i64 f.n, .int .u16 f.t, .int .i64 f.a, .lst none X]
theorem enc3 (f : Fr) (hf : f.fits) : ∃ (X R : List SV) (e : Int) (v : Bool), X = u8l f.b ∧ Enc2 (.agg [.int .i64 f.n, .int .u16 f.t, .int .i64 f.a, .lst none X]) (.lst none R) e v ∧ Good 21 (pu [.lst none R, .lst none R] (.bool true)) := by
  obtain ⟨R, rs, e, v, _, _, h1, h2⟩ := enc_e f _ rfl hf
  exact ⟨_, R, e, v, rfl, h1, h2⟩
end Go.Proofs.Ytfmaicedefhejaa
