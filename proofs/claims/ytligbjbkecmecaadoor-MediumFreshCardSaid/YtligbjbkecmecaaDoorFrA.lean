/- What Deliver gives is memory of its own: three nodes that hear each other, one transmission. -/
import Derived.Test.YtligbjbkecmecaaDoorMC
import Derived.Test.YtligbjbkecmecaaDoorCw
namespace Go.Proofs.YtligbjbkecmecaaDoor
set_option linter.unusedVariables false
set_option linter.unusedSimpArgs false
open Go.RowKit
set_option maxHeartbeats 8000000
set_option linter.unusedSimpArgs false
set_option linter.unusedVariables false
theorem vmF : VM [[0, 256, 256], [256, 0, 256], [256, 256, 0]] := ⟨by simp, by simp, fun i r h => by
  match i, h with
  | 0, h =>
    simp at h; subst h
    exact ⟨rfl, rfl, fun v hv => by simp at hv; omega⟩
  | 1, h =>
    simp at h; subst h
    exact ⟨rfl, rfl, fun v hv => by simp at hv; omega⟩
  | 2, h =>
    simp at h; subst h
    exact ⟨rfl, rfl, fun v hv => by simp at hv; omega⟩⟩
theorem vtF (bs : List UInt8) (h : bs.length ≤ 127) : VT 3 [⟨0, bs⟩] := fun i t ht => by
  match i, ht with
  | 0, ht =>
    simp at ht; subst ht
    exact ⟨by show (-1 : Int) < 0; omega, by show (0 : Int) < 3; omega, h⟩
abbrev fullM : SV := .lst none [.lst none [.int .i64 0, .int .i64 256, .int .i64 256], .lst none [.int .i64 256, .int .i64 0, .int .i64 256], .lst none [.int .i64 256, .int .i64 256, .int .i64 0]]
set_option maxRecDepth 20000 in
theorem dfresh (bs : List UInt8) (B : List SV) (hB : B = u8l bs) (h : bs.length ≤ 127) :
    Good 4 ⟨[fullM, .lst (some 2) [.agg [.int .i64 0, .lst none B]], .lst none []], none, .tup [.lsx (some 3) [.agg [.int .i64 0, .int .i64 1, .row 1], .agg [.int .i64 0, .int .i64 2, .lst none B]], .int .i64 0], .any, .row none 5 B⟩ := by
  have hBl : B.length = bs.length := by rw [hB, u8l_len]
  have g1 : Good 6 (pu [fullM, .lst (some 2) [.agg [.int .i64 0, .lst none B]]] (.bool true)) := vslot_c [[0, 256, 256], [256, 0, 256], [256, 256, 0]] (medV [[0, 256, 256], [256, 0, 256], [256, 256, 0]]) rfl (by simp) (by simp) [⟨0, bs⟩] [.agg [.int .i64 0, .lst none B]] (by rw [hB]; rfl) (by simp) (by simp; omega) true ⟨fun _ => ⟨vmF, vtF bs h⟩, fun _ => rfl⟩
  obtain ⟨n, hn⟩ : ∃ n, B.length = n := ⟨_, rfl⟩
  have hn1 : Int.ofNat n ≤ 127 := by show (n : Int) ≤ 127; omega
  have hn0 : 0 ≤ Int.ofNat n := by show 0 ≤ (n : Int); omega
  have hcp : ∀ (z : Int), z = B.length → O.cp (O.rp z (.int .u8 0)) 0 (O.ln (O.rp z (.int .u8 0))) B = B := fun z hz => by
    rw [oln, ocp, orp, hz]; simp
  refine Good.of Tryd.func4 rfl (by rfl) (by kernel_rfl) ?_
  cbv
  have hmk : True := trivial
  repeat' (first
    | (refine QC.tt (by decide) ?_; cbv)
    | (refine QC.ff (by decide) ?_; cbv)
    | (refine q1w (fun z hz => ?_); (simp [oln] at hz); (have e : (-1 ≤ z ∧ z ≤ 3) ∨ z = 256 := by omega); clear e; subst hz; cbv)
    | (refine q1w (fun z hz => ?_); cbv)
    | (refine rqw ?_; cbv)
    | (refine qvIdx _ (by rfl) (by decide) ?_; cbv)
    | (refine qvArr (by decide) (by decide) ?_; cbv)
    | (refine qvSome _ (by rfl) ?_; cbv)
    | (refine qvRow (by decide) (by decide) ?_; cbv)
    | (refine callq g1 rfl rfl ?_; cbv)
    | (refine chpB ?_; cbv)
    | (refine unrollq 4 ?_; cbv))
  rename_i z1 f1 z2 f2 z3 f3
  have e1 : z1 = (B.length : Int) := f1.trans (by show ((O.ln B : Nat) : Int) = _; rw [oln])
  have e3 : z3 = (B.length : Int) := f3.trans (by show ((O.ln B : Nat) : Int) = _; rw [oln])
  have k1 := hcp z1 e1
  have k3 := hcp z3 e3
  refine ⟨?_, ?_, rfl⟩
  · show SV.tup [.lsx (some 3) [.agg [.int .i64 0, .int .i64 1, .row 1], .agg [.int .i64 0, .int .i64 2, .lst none (O.cp (O.rp z3 (.int .u8 0)) 0 (O.ln (O.rp z3 (.int .u8 0))) B)]], .int .i64 0] = _
    rw [k3]
  · show Blk.row none 5 (O.cp (O.rp z1 (.int .u8 0)) 0 (O.ln (O.rp z1 (.int .u8 0))) B) = _
    rw [k1]
end Go.Proofs.YtligbjbkecmecaaDoor
