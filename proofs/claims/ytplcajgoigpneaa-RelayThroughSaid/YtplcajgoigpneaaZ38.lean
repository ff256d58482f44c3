/- Texts put together: LU. -/
import Derived.Test.YtplcajgoigpneaaZ37
namespace Go.Proofs.Ytplcajgoigpneaa
set_option linter.unusedVariables false
set_option linter.unusedSimpArgs false
open Go.RowKit
structure Ad3 where
  a : Int
  b : Int
  c : Int
structure Ad3.fits (x : Ad3) : Prop where
  a : -9223372036854775808 ≤ x.a ∧ x.a ≤ 9223372036854775807
  b : 0 ≤ x.b ∧ x.b ≤ 65535
  c : 0 ≤ x.c ∧ x.c ≤ 18446744073709551615
theorem open_addr {n : Nat} {xs : List SV} (h : wfC tinfo n 28 xs) : ∃ a : Ad3, a.fits ∧ xs = [.int .i64 a.a, .int .u16 a.b, .int .u64 a.c] := by
  obtain ⟨hl, n', h⟩ := wf_struct (show tinfo 28 = some _ from rfl) rfl h
  match xs, hl with
  | [a, b, c], _ =>
    obtain ⟨z0, rfl, w0⟩ := wf_int (show tinfo 3 = some _ from rfl) rfl (h (0, 3) (by simp) _ rfl)
    obtain ⟨z1, rfl, w1⟩ := wf_int (show tinfo 24 = some _ from rfl) rfl (h (1, 24) (by simp) _ rfl)
    obtain ⟨z2, rfl, w2⟩ := wf_int (show tinfo 26 = some _ from rfl) rfl (h (2, 26) (by simp) _ rfl)
    exact ⟨⟨z0, z1, z2⟩, ⟨bounds_i64 w0, bounds_u16 w1, bounds_u64 w2⟩, rfl⟩
theorem open_sw {n : Nat} {xs : List SV} (h : wfC tinfo n 43 xs) : ∃ f : Sw, f.fits ∧ xs = [.int .i64 f.a, .int .u16 f.b, .int .u64 f.c, .int .u16 f.t, .int .i64 f.d, .int .u16 f.e, .int .u64 f.f, .int .u16 f.u, .int .i64 f.z, .int .i64 f.l, .int .i64 f.w] := by
  obtain ⟨hl, n', h⟩ := wf_struct (show tinfo 43 = some _ from rfl) rfl h
  match xs, hl with
  | [a, b, c, d, e, f, g, i, j, k, l], _ =>
    obtain ⟨⟨z0, z1, z2⟩, f1, e1⟩ := open_addr (h (0, 28) (by simp) _ rfl)
    obtain ⟨z3, rfl, w3⟩ := wf_int (show tinfo 23 = some _ from rfl) rfl (h (3, 23) (by simp) _ rfl)
    obtain ⟨⟨z4, z5, z6⟩, f2, e2⟩ := open_addr (h (4, 28) (by simp) _ rfl)
    obtain ⟨z7, rfl, w7⟩ := wf_int (show tinfo 23 = some _ from rfl) rfl (h (7, 23) (by simp) _ rfl)
    obtain ⟨z8, rfl, w8⟩ := wf_int (show tinfo 3 = some _ from rfl) rfl (h (8, 3) (by simp) _ rfl)
    obtain ⟨z9, rfl, w9⟩ := wf_int (show tinfo 3 = some _ from rfl) rfl (h (9, 3) (by simp) _ rfl)
    obtain ⟨z10, rfl, w10⟩ := wf_int (show tinfo 3 = some _ from rfl) rfl (h (10, 3) (by simp) _ rfl)
    simp at e1 e2
    obtain ⟨rfl, rfl, rfl⟩ := e1
    obtain ⟨rfl, rfl, rfl⟩ := e2
    exact ⟨⟨z0, z1, z2, z3, z4, z5, z6, z7, z8, z9, z10⟩, ⟨f1.a, f1.b, f1.c, bounds_u16 w3, f2.a, f2.b, f2.c, bounds_u16 w7, bounds_i64 w8, bounds_i64 w9, bounds_i64 w10⟩, rfl⟩
theorem open_sws {n : Nat} {xs : List SV} (h : wfC tinfo n 22 xs) : ∃ fs : List Sw, ((∀ f ∈ fs, f.fits) ∧ fs.length ≤ 3600000000000) ∧ xs = [.lst (some 11) (swL fs)] := by
  have hl : xs.length = 1 := by
    cases n with
    | zero => exact h.elim
    | succ n => obtain ⟨l, c, h1, _⟩ := h; rw [h1]; rfl
  obtain ⟨x, rfl⟩ := List.length_eq_one_iff.1 hl
  obtain ⟨l, n', rfl, h2, h3⟩ := wf_slice (show tinfo 22 = some _ from rfl) rfl (show tinfo 43 = some _ from rfl) h
  obtain ⟨fs, h4, h5⟩ := lst_choose (A := Sw) (p := Sw.fits) (f := Sw.v) l (fun x hx => by
    obtain ⟨ys, g1, g2⟩ := h3 x hx
    obtain ⟨f, g3, g4⟩ := open_sw g1
    exact ⟨f, g3, by rw [g2, g4]; rfl⟩)
  refine ⟨fs, ⟨h5, ?_⟩, by rw [h4]; rfl⟩
  have : l.length = fs.length := by rw [h4]; simp
  simp only at h2
  omega
theorem open_u16s {n : Nat} {xs : List SV} (h : wfC tinfo n 55 xs) : ∃ r : List Int, ((∀ v ∈ r, 0 ≤ v ∧ v ≤ 65535) ∧ r.length ≤ 140737488351232) ∧ xs = [.lst none (ints .u16 r)] := by
  have hl : xs.length = 1 := by
    cases n with
    | zero => exact h.elim
    | succ n => obtain ⟨l, c, h1, _⟩ := h; rw [h1]; rfl
  obtain ⟨x, rfl⟩ := List.length_eq_one_iff.1 hl
  obtain ⟨l, n', rfl, h2, h3⟩ := wf_slice (show tinfo 55 = some _ from rfl) rfl (show tinfo 23 = some _ from rfl) h
  obtain ⟨r, h4, h5⟩ := lst_choose (A := Int) (p := fun v => 0 ≤ v ∧ v ≤ 65535) (f := SV.int .u16) l (fun x hx => by
    obtain ⟨ys, g1, g2⟩ := h3 x hx
    cases n' with
    | zero => exact g1.elim
    | succ n' =>
      obtain ⟨z, g3, g4⟩ := g1
      exact ⟨z, bounds_u16 g4, by rw [g2, g3]; rfl⟩)
  refine ⟨r, ⟨h5, ?_⟩, by rw [h4]; rfl⟩
  have : l.length = r.length := by rw [h4]; simp
  simp only at h2
  omega
end Go.Proofs.Ytplcajgoigpneaa
