/- The walk of the law RecoveryPieces. -/
import Derived.Test.YtjhicdoigllblaaVK
import Derived.Test.YtjhicdoigllblaaVN
import Derived.Test.YtjhicdoigllblaaRO
namespace Go.Proofs.Ytjhicdoigllblaa
set_option linter.unusedVariables false
set_option linter.unusedSimpArgs false
open Go.RowKit
set_option maxHeartbeats 16000000
/-- What the law does with one text. -/
theorem text_e (X : List SV) (x : List UInt8) (hX : X = u8l x) (hl : x.length ≤ 140737488351236) : ∃ (t n c : Int) (k : Bool) (D : List SV) (e t' m' : Int) (k' : Bool),
    Good 44 (pu [.lst none X] (.tup [.agg [.int .u8 t, .int .i64 n, .int .i64 c, .bool k, .lst none D], .int .i64 e])) ∧
    Good 45 (pu [.lst none X] (.tup [.agg [.int .u8 t, .int .i64 n, .int .i64 c, .bool k, .lst none D], .int .i64 e])) ∧
    Good 46 (pu [.lst none X] (.tup [.int .u8 t', .int .u32 m', .bool k'])) ∧ Good 47 (pu [.lst none X] (.tup [.int .u8 t', .int .u32 m', .bool k'])) ∧
    Good 48 (pu [.agg [.int .u8 t, .int .i64 n, .int .i64 c, .bool k, .lst none D], .agg [.int .u8 t, .int .i64 n, .int .i64 c, .bool k, .lst none D]] (.bool true)) := by
  obtain ⟨p, D, e, hD, hl2, g1, g2⟩ := dec_e x X hX hl
  obtain ⟨t', m', k', g3, g4⟩ := decack_e x X hX (by omega)
  exact ⟨_, _, _, _, D, e, t', m', k', g1, g2, g3, g4, samepiece_r p D hD hl2⟩
/-- What the law does with one piece. -/
theorem piece_e (t n c : Int) (k : Bool) (d : List UInt8) (D : List SV) (hD : D = u8l d) (ht : 0 ≤ t ∧ t ≤ 255) (hl : d.length ≤ 140737488351232) :
    ∃ (C : List SV) (cs : List UInt8) (e : Int) (r : Bool), C = u8l cs ∧ cs.length ≤ d.length + 4 ∧ (valP n c d.length = false → cs.length = 0) ∧ (valP n c d.length = true → 1 ≤ cs.length) ∧ Good 39 (pu [.agg [.int .u8 t, .int .i64 n, .int .i64 c, .bool k, .lst none D]] (.tup [.lst none C, .int .i64 e])) ∧
      Good 40 (pu [.agg [.int .u8 t, .int .i64 n, .int .i64 c, .bool k, .lst none D]] (.tup [.lst none C, .int .i64 e])) ∧
      Good 41 (pu [.agg [.int .u8 t, .int .i64 n, .int .i64 c, .bool k, .lst none D]] (.bool r)) ∧ Good 42 (pu [.agg [.int .u8 t, .int .i64 n, .int .i64 c, .bool k, .lst none D]] (.bool r)) ∧
      Good 28 (pu [.lst none C, .lst none C] (.bool true)) := by
  obtain ⟨C, cs, e, r, h1, h2, h3, h4, g1, g2, g3, g4⟩ := enc2_e t n c k d D hD ht hl
  exact ⟨C, cs, e, r, h1, h2, h3, h4, g1, g2, g3, g4, same_c cs cs C C true h1 h1 (by omega) (by omega) (by simp)⟩
theorem u8l_one (z : Int) (h : 0 ≤ z ∧ z ≤ 255) : ∃ b : UInt8, [SV.int .u8 z] = u8l [b] := by
  obtain ⟨b, hb⟩ := u8_of z h
  exact ⟨b, by rw [hb]; rfl⟩
theorem texts_e (b : List UInt8) (B : List SV) (hB : B = u8l b) (hb : b.length ≤ 140737488351232) (cs : List UInt8) (C : List SV) (hC : C = u8l cs) (hcl : cs.length ≤ b.length + 4) (ab : List UInt8) (A : List SV) (hA : A = u8l ab) (hab : ab.length = 6)
    (t za zc y : Int) (ht : 0 ≤ t ∧ t ≤ 255) (hza : 0 ≤ za ∧ za ≤ 255) (hzc : 0 ≤ zc ∧ zc ≤ 255) (hy : 0 ≤ y ∧ y ≤ 255) :
    ∀ i, i < 6 → ∃ (X : List SV) (x : List UInt8), ([.lst none B, .lst none C, .lst none (O.ap [.int .u8 232, .int .u8 t, .int .u8 za, .int .u8 zc] B), .lst none A, .lst none (O.ap [.int .u8 234] B), .lst none (apL A [.int .u8 y])] : List SV)[i]? = some (.lst none X) ∧ X = u8l x ∧ x.length ≤ 140737488351236 := by
  intro i hi
  obtain ⟨b1, e1⟩ := u8l_one t ht
  obtain ⟨b2, e2⟩ := u8l_one za hza
  obtain ⟨b3, e3⟩ := u8l_one zc hzc
  obtain ⟨b4, e4⟩ := u8l_one y hy
  rcases (show i = 0 ∨ i = 1 ∨ i = 2 ∨ i = 3 ∨ i = 4 ∨ i = 5 by omega) with rfl | rfl | rfl | rfl | rfl | rfl
  · exact ⟨B, b, rfl, hB, by omega⟩
  · exact ⟨C, cs, rfl, hC, by omega⟩
  · refine ⟨_, [232] ++ [b1] ++ [b2] ++ [b3] ++ b, rfl, ?_, by simp; omega⟩
    rw [oap, ← u8l_app, ← u8l_app, ← u8l_app, ← u8l_app, ← e1, ← e2, ← e3, ← hB]; rfl
  · exact ⟨A, ab, rfl, hA, by omega⟩
  · refine ⟨_, [234] ++ b, rfl, ?_, by simp; omega⟩
    rw [oap, ← u8l_app, ← hB]; rfl
  · refine ⟨_, ab ++ [b4], rfl, ?_, by simp; omega⟩
    rw [apL_eq, ← u8l_app, ← e4, ← hA]
end Go.Proofs.Ytjhicdoigllblaa
