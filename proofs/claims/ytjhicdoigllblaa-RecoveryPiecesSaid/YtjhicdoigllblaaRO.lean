/- How pieces, senders and receivers come in. -/
import Derived.Test.YtjhicdoigllblaaVF
import Derived.Test.YtjhicdoigllblaaOpg
namespace Go.Proofs.Ytjhicdoigllblaa
set_option linter.unusedVariables false
set_option linter.unusedSimpArgs false
open Go.RowKit
theorem wf_bool {T : Nat → Option TI} {n t : Nat} {i : TI} {x : SV} (ht : T t = some i) (hk : i.kind = .bool) (h : wfC T n t [x]) : ∃ b, x = .bool b := by
  cases n with
  | zero => exact h.elim
  | succ n =>
    unfold wfC at h
    rw [ht] at h
    simp only [hk] at h
    obtain ⟨b, hb⟩ := h
    injection hb with hb
    exact ⟨b, hb⟩
theorem open_bss {n : Nat} {x : SV} (h : wfC tinfo n 22 [x]) : ∃ ps : List (List UInt8), x = .lst none (rowsB ps) ∧ (∀ p ∈ ps, p.length ≤ 140737488351232) ∧ ps.length ≤ 5864062014805 := by
  obtain ⟨l, n', rfl, h2, h3⟩ := wf_slice (show tinfo 22 = some _ from rfl) rfl (show tinfo 26 = some _ from rfl) h
  obtain ⟨ps, h4, h5⟩ := lst_choose (A := List UInt8) (p := fun p => p.length ≤ 140737488351232) (f := fun b => .lst none (u8l b)) l (fun x hx => by
    obtain ⟨ys, g1, g2⟩ := h3 x hx
    obtain ⟨bs, g3, g4⟩ := open_bytes g1
    exact ⟨bs, g3, by rw [g2, g4]; rfl⟩)
  refine ⟨ps, by rw [h4]; rfl, h5, ?_⟩
  have : l.length = ps.length := by rw [h4]; simp
  simp only at h2
  omega
structure Pce.fits (p : Pce) : Prop where
  t : 0 ≤ p.tag ∧ p.tag ≤ 255
  n : -9223372036854775808 ≤ p.n ∧ p.n ≤ 9223372036854775807
  c : -9223372036854775808 ≤ p.c ∧ p.c ≤ 9223372036854775807
  d : p.d.length ≤ 140737488351232
theorem open_piece {n : Nat} {xs : List SV} (h : wfC tinfo n 51 xs) : ∃ p : Pce, p.fits ∧ xs = [.int .u8 p.tag, .int .i64 p.n, .int .i64 p.c, .bool p.ack, .lst none (u8l p.d)] := by
  obtain ⟨hl, n', h⟩ := wf_struct (show tinfo 51 = some _ from rfl) rfl h
  match xs, hl with
  | [a, b, c, d, e], _ =>
    obtain ⟨z0, rfl, w0⟩ := wf_int (show tinfo 5 = some _ from rfl) rfl (h (0, 5) (by simp) _ rfl)
    obtain ⟨z1, rfl, w1⟩ := wf_int (show tinfo 3 = some _ from rfl) rfl (h (1, 3) (by simp) _ rfl)
    obtain ⟨z2, rfl, w2⟩ := wf_int (show tinfo 3 = some _ from rfl) rfl (h (2, 3) (by simp) _ rfl)
    obtain ⟨k, rfl⟩ := wf_bool (show tinfo 4 = some _ from rfl) rfl (h (3, 4) (by simp) _ rfl)
    obtain ⟨bs, rfl, w3⟩ := wf_bytes (h (4, 26) (by simp) _ rfl)
    have b0 := bounds_u8 w0
    have b1 := bounds_i64 w1
    have b2 := bounds_i64 w2
    exact ⟨⟨z0, z1, z2, k, bs⟩, ⟨b0, b1, b2, w3⟩, rfl⟩
theorem open_sender {n : Nat} {xs : List SV} (h : wfC tinfo n 25 xs) : ∃ s : Snd, s.fits ∧ xs = [.int .i64 s.st, .int .u8 s.tag, .lst none (rowsB s.ps), .int .u32 s.ak, .int .i64 s.rd, .int .i64 s.un] := by
  obtain ⟨hl, n', h⟩ := wf_struct (show tinfo 25 = some _ from rfl) rfl h
  match xs, hl with
  | [a, b, c, d, e, f], _ =>
    obtain ⟨z0, rfl, w0⟩ := wf_int (show tinfo 3 = some _ from rfl) rfl (h (0, 3) (by simp) _ rfl)
    obtain ⟨z1, rfl, w1⟩ := wf_int (show tinfo 5 = some _ from rfl) rfl (h (1, 5) (by simp) _ rfl)
    obtain ⟨ps, rfl, w2, w3⟩ := open_bss (h (2, 22) (by simp) _ rfl)
    obtain ⟨z3, rfl, w4⟩ := wf_int (show tinfo 23 = some _ from rfl) rfl (h (3, 23) (by simp) _ rfl)
    obtain ⟨z4, rfl, w5⟩ := wf_int (show tinfo 3 = some _ from rfl) rfl (h (4, 3) (by simp) _ rfl)
    obtain ⟨z5, rfl, w6⟩ := wf_int (show tinfo 3 = some _ from rfl) rfl (h (5, 3) (by simp) _ rfl)
    exact ⟨⟨z0, z1, ps, z3, z4, z5⟩, ⟨bounds_i64 w0, bounds_u8 w1, bounds_u32 w4, bounds_i64 w5, bounds_i64 w6, w3, w2⟩, rfl⟩
structure Rcv where
  tag : Int
  cnt : Int
  ps : List (List UInt8)
  hv : Int
  dn : Bool
structure Rcv.fits (r : Rcv) : Prop where
  tag : 0 ≤ r.tag ∧ r.tag ≤ 255
  cnt : -9223372036854775808 ≤ r.cnt ∧ r.cnt ≤ 9223372036854775807
  hv : 0 ≤ r.hv ∧ r.hv ≤ 4294967295
  n : r.ps.length ≤ 5864062014805
  b : ∀ p ∈ r.ps, p.length ≤ 140737488351232
theorem open_receiver {n : Nat} {xs : List SV} (h : wfC tinfo n 55 xs) : ∃ r : Rcv, r.fits ∧ xs = [.int .u8 r.tag, .int .i64 r.cnt, .lst none (rowsB r.ps), .int .u32 r.hv, .bool r.dn] := by
  obtain ⟨hl, n', h⟩ := wf_struct (show tinfo 55 = some _ from rfl) rfl h
  match xs, hl with
  | [a, b, c, d, e], _ =>
    obtain ⟨z0, rfl, w0⟩ := wf_int (show tinfo 5 = some _ from rfl) rfl (h (0, 5) (by simp) _ rfl)
    obtain ⟨z1, rfl, w1⟩ := wf_int (show tinfo 3 = some _ from rfl) rfl (h (1, 3) (by simp) _ rfl)
    obtain ⟨ps, rfl, w2, w3⟩ := open_bss (h (2, 22) (by simp) _ rfl)
    obtain ⟨z3, rfl, w4⟩ := wf_int (show tinfo 23 = some _ from rfl) rfl (h (3, 23) (by simp) _ rfl)
    obtain ⟨k, rfl⟩ := wf_bool (show tinfo 4 = some _ from rfl) rfl (h (4, 4) (by simp) _ rfl)
    exact ⟨⟨z0, z1, ps, z3, k⟩, ⟨bounds_u8 w0, bounds_i64 w1, bounds_u32 w4, w3, w2⟩, rfl⟩
end Go.Proofs.Ytjhicdoigllblaa
