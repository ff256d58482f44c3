/- Begin, Next and Acknowledge of both sides over plain senders. -/
import Derived.Test.YtjhicdoigllblaaWk
import Derived.Test.YtjhicdoigllblaaVE
import Derived.Test.YtjhicdoigllblaaVG
import Derived.Test.YtjhicdoigllblaaVH
import Derived.Test.YtjhicdoigllblaaVI
import Derived.Test.YtjhicdoigllblaaOS
namespace Go.Proofs.Ytjhicdoigllblaa
set_option linter.unusedVariables false
set_option linter.unusedSimpArgs false
open Go.RowKit
set_option maxHeartbeats 8000000
noncomputable def vs (s : Snd) : Bool := @decide (VS s) (Classical.propDecidable _)
theorem vs_iff (s : Snd) : vs s = true ↔ VS s := by rw [vs]; exact @decide_eq_true_iff _ (Classical.propDecidable _)
def zS : Snd := ⟨0, 0, [], 0, 0, 0⟩
/-- A sender with its list of pieces. -/
abbrev Snd.w (s : Snd) (R : List SV) : SV := .agg [.int .i64 s.st, .int .u8 s.tag, .lst none R, .int .u32 s.ak, .int .i64 s.rd, .int .i64 s.un]
def begP (b : List UInt8) (tag room : Int) : Snd × Int :=
  if room ≤ 4 then (zS, 2) else if b.length = 0 ∨ 32 ≤ ((b.length : Int) - 1) / (room - 4) then (zS, 3)
  else (⟨1, tag, chk (room - 4).toNat b (nPc b.length (room - 4).toNat), 0, 0, 0⟩, 0)
noncomputable def nextP (s : Snd) (now : Int) : Snd × List Pce × Int :=
  if vs s = false then (zS, [], 1)
  else if now < 0 ∨ 1099511627776 < now then (zS, [], 2)
  else if s.st ≠ 1 ∨ now < s.un then (s, [], 0)
  else if s.rd = 8 then ({ s with st := 3 }, [], 0)
  else ({ s with rd := s.rd + 1, un := min (now + 8) 1099511627776 }, mark (pre s.tag s.ps s.ak (min (opn s.ak s.ps.length).length 8)), 0)
noncomputable def ackP (s : Snd) (t m : Int) : Snd × Int :=
  if vs s = false then (zS, 1) else if s.tag ≠ t then (zS, 9) else if s.st ≠ 1 then (s, 0) else (ackS s m, 0)
theorem wk_zero : Wk (.agg [.int .i64 0, .int .u8 0, .nil, .int .u32 0, .int .i64 0, .int .i64 0]) zS.v :=
  .agg ⟨.rfl' _, .rfl' _, .nil _, .rfl' _, .rfl' _, .rfl' _, trivial⟩
theorem beg_wk (b : List UInt8) (tag room : Int) : ∃ X, begX b tag room = (X, (begP b tag room).2) ∧ Wk X (begP b tag room).1.v := by
  unfold begX begP
  split
  · exact ⟨_, rfl, wk_zero⟩
  split
  · exact ⟨_, rfl, wk_zero⟩
  · exact ⟨_, rfl, .rfl' _⟩
theorem next_wk (s : Snd) (now : Int) : ∃ X, nextX s (vs s) now = (X, (nextP s now).2.1, (nextP s now).2.2) ∧ Wk X (nextP s now).1.v := by
  unfold nextX nextP
  split
  · exact ⟨_, rfl, wk_zero⟩
  split
  · exact ⟨_, rfl, wk_zero⟩
  split
  · exact ⟨_, rfl, .rfl' _⟩
  split
  · exact ⟨_, rfl, .rfl' _⟩
  · exact ⟨_, rfl, .rfl' _⟩
theorem ack_wk (s : Snd) (t m : Int) : ∃ X, ackX s (vs s) t m = (X, (ackP s t m).2) ∧ Wk X (ackP s t m).1.v := by
  unfold ackX ackP
  split
  · exact ⟨_, rfl, wk_zero⟩
  split
  · exact ⟨_, rfl, wk_zero⟩
  split
  · exact ⟨_, rfl, .rfl' _⟩
  · exact ⟨_, rfl, .rfl' _⟩
theorem begin_p (b : List UInt8) (B : List SV) (hB : B = u8l b) (hb : b.length ≤ 140737488351232) (tag room : Int) (hr : -9223372036854775808 ≤ room ∧ room ≤ 9223372036854775807) (s : Snd) (R : List SV) (hR : R = rowsB s.ps) (e : Int) (hX : begP b tag room = (s, e)) :
    Good 24 (pu [.lst none B, .int .u8 tag, .int .i64 room] (.tup [s.w R, .int .i64 e])) := by
  obtain ⟨X, h1, h2⟩ := beg_wk b tag room
  rw [hX] at h1 h2
  exact (begin_c b B hB hb tag room hr X e h1).res (.tup ⟨by rw [hR]; exact h2, .rfl' _, trivial⟩)
theorem rbegin_p (b : List UInt8) (B : List SV) (hB : B = u8l b) (hb : b.length ≤ 140737488351232) (tag room : Int) (hr : -9223372036854775808 ≤ room ∧ room ≤ 9223372036854775807) (s : Snd) (R : List SV) (hR : R = rowsB s.ps) (e : Int) (hX : begP b tag room = (s, e)) :
    Good 25 (pu [.lst none B, .int .u8 tag, .int .i64 room] (.tup [s.w R, .int .i64 e])) := by
  obtain ⟨X, h1, h2⟩ := beg_wk b tag room
  rw [hX] at h1 h2
  exact (rbegin_c b B hB hb tag room hr X e h1).res (.tup ⟨by rw [hR]; exact h2, .rfl' _, trivial⟩)
theorem next_p (s : Snd) (R : List SV) (hR : R = rowsB s.ps) (hf : s.fits) (now : Int) (hnow : -9223372036854775808 ≤ now ∧ now ≤ 9223372036854775807) (s' : Snd) (R' : List SV) (hR' : R' = rowsB s'.ps) (l : List Pce) (L : List SV) (hL : L = pcL l) (e : Int) (hX : nextP s now = (s', l, e)) :
    Good 15 (pu [s.w R, .int .i64 now] (.tup [s'.w R', .lst (some 5) L, .int .i64 e])) := by
  obtain ⟨X, h1, h2⟩ := next_wk s now
  rw [hX] at h1 h2
  exact (nx_c _ _ _ _ _ _ R hR hf _ (vs_iff s) now hnow X l L hL e h1).res (.tup ⟨by rw [hR']; exact h2, .rfl' _, .rfl' _, trivial⟩)
theorem rnext_p (s : Snd) (R : List SV) (hR : R = rowsB s.ps) (hf : s.fits) (now : Int) (hnow : -9223372036854775808 ≤ now ∧ now ≤ 9223372036854775807) (s' : Snd) (R' : List SV) (hR' : R' = rowsB s'.ps) (l : List Pce) (L : List SV) (hL : L = pcL l) (e : Int) (hX : nextP s now = (s', l, e)) :
    Good 16 (pu [s.w R, .int .i64 now] (.tup [s'.w R', .lst (some 5) L, .int .i64 e])) := by
  obtain ⟨X, h1, h2⟩ := next_wk s now
  rw [hX] at h1 h2
  exact (rnx_c _ _ _ _ _ _ R hR hf _ (vs_iff s) now hnow X l L hL e h1).res (.tup ⟨by rw [hR']; exact h2, .rfl' _, .rfl' _, trivial⟩)
theorem ack_p (s : Snd) (R : List SV) (hR : R = rowsB s.ps) (hf : s.fits) (t m : Int) (ht : 0 ≤ t ∧ t ≤ 255) (hm : 0 ≤ m ∧ m ≤ 4294967295) (s' : Snd) (R' : List SV) (hR' : R' = rowsB s'.ps) (e : Int) (hX : ackP s t m = (s', e)) :
    Good 17 (pu [s.w R, .int .u8 t, .int .u32 m] (.tup [s'.w R', .int .i64 e])) := by
  obtain ⟨X, h1, h2⟩ := ack_wk s t m
  rw [hX] at h1 h2
  exact (ack_c _ _ _ _ _ _ R hR hf _ (vs_iff s) t m ht hm X e h1).res (.tup ⟨by rw [hR']; exact h2, .rfl' _, trivial⟩)
theorem rack_p (s : Snd) (R : List SV) (hR : R = rowsB s.ps) (hf : s.fits) (t m : Int) (ht : 0 ≤ t ∧ t ≤ 255) (hm : 0 ≤ m ∧ m ≤ 4294967295) (s' : Snd) (R' : List SV) (hR' : R' = rowsB s'.ps) (e : Int) (hX : ackP s t m = (s', e)) :
    Good 18 (pu [s.w R, .int .u8 t, .int .u32 m] (.tup [s'.w R', .int .i64 e])) := by
  obtain ⟨X, h1, h2⟩ := ack_wk s t m
  rw [hX] at h1 h2
  exact (rack_c _ _ _ _ _ _ R hR hf _ (vs_iff s) t m ht hm X e h1).res (.tup ⟨by rw [hR']; exact h2, .rfl' _, trivial⟩)
theorem zS_fits : zS.fits := ⟨by decide, by decide, by decide, by decide, by decide, by decide, fun p hp => by cases hp⟩
theorem next_fits (s : Snd) (now : Int) (hf : s.fits) : (nextP s now).1.fits := by
  unfold nextP
  split
  · exact zS_fits
  rename_i hv
  have v := (vs_iff s).1 (by simpa using hv)
  split
  · exact zS_fits
  split
  · exact hf
  split
  · exact ⟨by dsimp only; omega, hf.tag, hf.ak, hf.rd, hf.un, hf.n, hf.b⟩
  · exact ⟨hf.st, hf.tag, hf.ak, by have := v.r1; have := v.r2; dsimp only; omega, by dsimp only; omega, hf.n, hf.b⟩
theorem ack_fits (s : Snd) (t m : Int) (hf : s.fits) : (ackP s t m).1.fits := by
  unfold ackP
  split
  · exact zS_fits
  rename_i hv
  have v := (vs_iff s).1 (by simpa using hv)
  split
  · exact zS_fits
  split
  · exact hf
  · rw [ackS]
    dsimp only
    split
    · exact ⟨by dsimp only; omega, hf.tag, hf.ak, hf.rd, hf.un, hf.n, hf.b⟩
    · exact ⟨by dsimp only; have := hf.st; split <;> omega, hf.tag, ackO_b _ _ (ackW_b _ _ v.n2) hf.ak, by dsimp only; have := hf.rd; split <;> omega, by dsimp only; omega, hf.n, hf.b⟩
theorem beg_fits (b : List UInt8) (tag room : Int) (ht : 0 ≤ tag ∧ tag ≤ 255) (hb : b.length ≤ 140737488351232) : (begP b tag room).1.fits := by
  unfold begP
  split
  · exact zS_fits
  split
  · exact zS_fits
  · rename_i h1 h2
    refine ⟨by dsimp only; omega, ht, by dsimp only; omega, by dsimp only; omega, by dsimp only; omega, ?_, ?_⟩
    · dsimp only
      rw [chk_len, nPc]
      have : (b.length - 1) / (room - 4).toNat < 32 := by
        have h3 : ((b.length : Int) - 1) / (room - 4) = (((b.length - 1) / (room - 4).toNat : Nat) : Int) := by
          rw [Int.natCast_ediv]
          congr 1 <;> omega
        omega
      omega
    · intro p hp
      simp only [chk, List.mem_map] at hp
      obtain ⟨i, _, rfl⟩ := hp
      rw [List.length_take, List.length_drop]
      omega
end Go.Proofs.Ytjhicdoigllblaa
