/- How the arguments come in; what the package's variable holds. -/
import Derived.Test.YticojcjoikhkmaaDoorRB
import Derived.Test.YticojcjoikhkmaaDoorOpg
import Derived.Test.YticojcjoikhkmaaDoorTie
import Derived.LaidMore
import Derived.MakeChecks
import Derived.LaidHandle
import Derived.LaidLaws
namespace Go.Proofs.YticojcjoikhkmaaDoor
set_option linter.unusedVariables false
set_option linter.unusedSimpArgs false
open Go.RowKit
theorem open_addr {n : Nat} {xs : List SV} (h : wfC tinfo n 32 xs) : ∃ a : Int × Int × Int, True ∧ xs = [.int .i64 a.1, .int .u16 a.2.1, .int .u64 a.2.2] := by
  obtain ⟨hl, n', h⟩ := wf_struct (show tinfo 32 = some _ from rfl) rfl h
  match xs, hl with
  | [a, b, c], _ =>
    obtain ⟨z0, rfl, w0⟩ := wf_int (show tinfo 3 = some _ from rfl) rfl (h (0, 3) (by simp) _ rfl)
    obtain ⟨z1, rfl, w1⟩ := wf_int (show tinfo 28 = some _ from rfl) rfl (h (1, 28) (by simp) _ rfl)
    obtain ⟨z2, rfl, w2⟩ := wf_int (show tinfo 30 = some _ from rfl) rfl (h (2, 30) (by simp) _ rfl)
    exact ⟨(z0, z1, z2), trivial, rfl⟩
theorem open_seen {n : Nat} {xs : List SV} (h : wfC tinfo n 48 xs) : ∃ f : Sn, True ∧ xs = [.int .i64 f.m, .int .u16 f.s, .int .u64 f.e, .int .u8 f.q, .int .i64 f.u] := by
  obtain ⟨hl, n', h⟩ := wf_struct (show tinfo 48 = some _ from rfl) rfl h
  match xs, hl with
  | [a, b, c, d, e], _ =>
    obtain ⟨⟨z0, z1, z2⟩, _, e1⟩ := open_addr (h (0, 32) (by simp) _ rfl)
    obtain ⟨z3, rfl, w3⟩ := wf_int (show tinfo 5 = some _ from rfl) rfl (h (3, 5) (by simp) _ rfl)
    obtain ⟨z4, rfl, w4⟩ := wf_int (show tinfo 3 = some _ from rfl) rfl (h (4, 3) (by simp) _ rfl)
    simp at e1
    obtain ⟨rfl, rfl, rfl⟩ := e1
    exact ⟨⟨z0, z1, z2, z3, z4⟩, trivial, rfl⟩
theorem open_seens {n : Nat} {xs : List SV} (h : wfC tinfo n 25 xs) : ∃ fs : List Sn, fs.length ≤ 3600000000000 ∧ xs = [.lst (some 5) (snL fs)] := by
  have hl : xs.length = 1 := by
    cases n with
    | zero => exact h.elim
    | succ n => obtain ⟨l, c, h1, _⟩ := h; rw [h1]; rfl
  obtain ⟨x, rfl⟩ := List.length_eq_one_iff.1 hl
  obtain ⟨l, n', rfl, h2, h3⟩ := wf_slice (show tinfo 25 = some _ from rfl) rfl (show tinfo 48 = some _ from rfl) h
  obtain ⟨fs, h4, h5⟩ := lst_choose (A := Sn) (p := fun _ => True) (f := Sn.v) l (fun x hx => by
    obtain ⟨ys, g1, g2⟩ := h3 x hx
    obtain ⟨f, g3, g4⟩ := open_seen g1
    exact ⟨f, trivial, by rw [g2, g4]; rfl⟩)
  refine ⟨fs, ?_, by rw [h4]; rfl⟩
  have : l.length = fs.length := by rw [h4]; simp
  simp only at h2
  omega
def laidV : List (String × DataW Unit) := [("multihop/multihoplaw07.one", Rows.laid_multihop_multihoplaw07_one)]
theorem gOne : Tryd.prog.globalNamed "multihop/multihoplaw07.one" = some 0 := by kernel_rfl
theorem tOne : (Tryd.prog.globals[0]?).map (·.type) = some 32 := by kernel_rfl
theorem door_met (os : Os) (args : Array Value) : laidMetH Tryd.prog laidV ((World.doorLaid Tryd.prog 14 os).forCall (fun _ _ => 0) ⟨#[], args, []⟩).memory :=
  laidMetH_of_parts3 (fuel := 8) (laidMet_of_run' 8 (by kernel_rfl) (by kernel_rfl)) (by kernel_rfl) (by kernel_rfl)
theorem globs_of {w : World} (h : laidMetH Tryd.prog laidV w) : GlobsAt w := by
  rw [MakeChecks.laidMetH_plain _ _ _ (by kernel_rfl)] at h
  obtain ⟨ps, ⟨g0, t0, cs0, f0, p0, q0, hg0, ht0, hv0, hd0, _, _⟩, _, _⟩ := h
  obtain rfl := Option.some.inj (gOne.symm.trans hg0)
  obtain rfl := Option.some.inj (tOne.symm.trans ht0)
  have hc := fun i => World.var?_cell hg0 hv0 i
  obtain ⟨xs, n, rfl, hx, hl, hn, hel⟩ := DataW.trod_struct Tryd.underlying32 hd0
  obtain ⟨l⟩ := cs0
  have c3 : Tryd.prog.cellsOf 32 = 3 := by kernel_rfl
  have ci : Tryd.prog.cellsOf 3 = 1 := by kernel_rfl
  have cs : Tryd.prog.cellsOf 28 = 1 := by kernel_rfl
  have ce : Tryd.prog.cellsOf 30 = 1 := by kernel_rfl
  rw [c3] at hl
  match l, hl with
  | [a, b, c], _ =>
    match xs, hn with
    | [x0, x1, x2], _ =>
      have h0 : DataW.trod (fun _ => ()) Tryd.prog w 0 (fun _ => true) false n 3 (([a, b, c].drop 0).take (Tryd.prog.cellsOf 3)) = some x0 := hel 0 _ rfl
      have h1 : DataW.trod (fun _ => ()) Tryd.prog w 0 (fun _ => true) false n 28 (([a, b, c].drop 1).take (Tryd.prog.cellsOf 28)) = some x1 := hel 1 _ rfl
      have h2 : DataW.trod (fun _ => ()) Tryd.prog w 0 (fun _ => true) false n 30 (([a, b, c].drop 2).take (Tryd.prog.cellsOf 30)) = some x2 := hel 2 _ rfl
      obtain ⟨k0, e0, y0, _⟩ := DataW.trod_int Tryd.underlying3 h0
      obtain ⟨k1, e1, y1, _⟩ := DataW.trod_int Tryd.underlying28 h1
      obtain ⟨k2, e2, y2, _⟩ := DataW.trod_int Tryd.underlying30 h2
      rw [ci] at e0
      rw [cs] at e1
      rw [ce] at e2
      simp at e0 e1 e2
      subst e0 e1 e2
      rw [y0, y1, y2] at hx
      simp [Rows.laid_multihop_multihoplaw07_one] at hx
      obtain ⟨⟨rfl, rfl, rfl⟩, _⟩ := hx
      have hb : 0 < w.heap.size := by
        have := hc 0
        simp at this
        exact World.block_lt_of_cell? w _ this
      intro g x hgx
      unfold glob at hgx
      split at hgx
      · injection hgx with hgx; subst hgx
        refine ⟨rfl, .eptr _ (some 3) _ 0 0 0 [.int .i64 2, .int .u16 1, .int .u64 0] hb (fun h => h) (fun j u hj => ?_) rfl ?_⟩
        · rw [Nat.zero_add, hc j]; simpa using hj
        · refine .agg _ _ _ rfl (fun i h1 h2 => ?_)
          match i, h1 with
          | 0, _ => exact .int _ _ _
          | 1, _ => exact .int _ _ _
          | 2, _ => exact .int _ _ _
      · cases hgx
end Go.Proofs.YticojcjoikhkmaaDoor
