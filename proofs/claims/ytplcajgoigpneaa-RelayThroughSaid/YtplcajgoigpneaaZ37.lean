/- Texts put together: FO. -/
import Derived.Test.YtplcajgoigpneaaZ36
namespace Go.Proofs.Ytplcajgoigpneaa
set_option linter.unusedVariables false
set_option linter.unusedSimpArgs false
open Go.RowKit
theorem open_frag {n : Nat} {xs : List SV} (h : wfC tinfo n 31 xs) : ∃ f : Fr, f.fits ∧ xs = [.int .i64 f.n, .int .u16 f.t, .int .i64 f.a, .lst none (u8l f.b)] := by
  obtain ⟨hl, n', h⟩ := wf_struct (show tinfo 31 = some _ from rfl) rfl h
  match xs, hl with
  | [a, b, c, d], _ =>
    obtain ⟨z0, rfl, w0⟩ := wf_int (show tinfo 3 = some _ from rfl) rfl (h (0, 3) (by simp) _ rfl)
    obtain ⟨z1, rfl, w1⟩ := wf_int (show tinfo 23 = some _ from rfl) rfl (h (1, 23) (by simp) _ rfl)
    obtain ⟨z2, rfl, w2⟩ := wf_int (show tinfo 3 = some _ from rfl) rfl (h (2, 3) (by simp) _ rfl)
    obtain ⟨bs, rfl, w3⟩ := wf_bytes (h (3, 29) (by simp) _ rfl)
    have b0 := bounds_i64 w0
    have b1 := bounds_u16 w1
    have b2 := bounds_i64 w2
    exact ⟨⟨z0, z1, z2, bs⟩, ⟨b0, b1, b2, w3⟩, rfl⟩
theorem open_frags {n : Nat} {xs : List SV} (h : wfC tinfo n 37 xs) : ∃ fs : List Fr, ((∀ f ∈ fs, f.fits) ∧ fs.length ≤ 3000000000000) ∧ xs = [.lst (some 4) (frL fs)] := by
  have hl : xs.length = 1 := by
    cases n with
    | zero => exact h.elim
    | succ n => obtain ⟨l, c, h1, _⟩ := h; rw [h1]; rfl
  obtain ⟨x, rfl⟩ := List.length_eq_one_iff.1 hl
  obtain ⟨l, n', rfl, h2, h3⟩ := wf_slice (show tinfo 37 = some _ from rfl) rfl (show tinfo 31 = some _ from rfl) h
  obtain ⟨fs, h4, h5⟩ := lst_choose (A := Fr) (p := Fr.fits) (f := Fr.v) l (fun x hx => by
    obtain ⟨ys, g1, g2⟩ := h3 x hx
    obtain ⟨f, g3, g4⟩ := open_frag g1
    exact ⟨f, g3, by rw [g2, g4]; rfl⟩)
  refine ⟨fs, ⟨h5, ?_⟩, by rw [h4]; rfl⟩
  have : l.length = fs.length := by rw [h4]; simp
  simp only at h2
  omega
end Go.Proofs.Ytplcajgoigpneaa
