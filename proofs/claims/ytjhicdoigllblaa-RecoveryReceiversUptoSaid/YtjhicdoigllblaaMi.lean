/- Texts put together: XN. -/
import Derived.Test.YtjhicdoigllblaaMh
namespace Go.Proofs.Ytjhicdoigllblaa
set_option linter.unusedVariables false
set_option linter.unusedSimpArgs false
open Go.RowKit
theorem receivers_l (x0 : Rcv) (hf0 : x0.fits) (hl0 : x0.ps.flatten.length ≤ 140737488351232) (p0 : Pce) (hp0 : p0.fits) (zs : List Int) (hz : ∀ v ∈ zs, -9223372036854775808 ≤ v ∧ v ≤ 9223372036854775807) :
    Good 6 (pu [x0.w (rowsB x0.ps), pceV p0 (u8l p0.d), .lst none (ints .i64 zs)] (.bool true)) := by
  obtain ⟨T, hT⟩ : ∃ T, T = (ints .i64 zs).take 400 := ⟨_, rfl⟩
  have t0 : Tp T 0 := hT ▸ tape1 zs hz
  obtain ⟨s, R, c1, v1, v2, v3, v4, v5, t1, gS⟩ := sender_e t0
  have hn1 : 1 ≤ s.ps.length ∧ s.ps.length ≤ 32 := ⟨v1.n1, v1.n2⟩
  obtain ⟨r, Q, c2, r1, r2, r3, r4, r5, t2, gC⟩ := receiver_e t1 s R v3 v2 v4 hn1
  obtain ⟨np, hnp⟩ : ∃ np : Int, np = s.ps.length := ⟨_, rfl⟩
  obtain ⟨zn, c3, p3, u3, t3, g3⟩ := next_e t2 np (by omega)
  obtain ⟨n, hzn⟩ : ∃ n : Nat, zn = n := Int.eq_ofNat_of_zero_le p3
  obtain ⟨v6, c4, p4, u4, t4, g4⟩ := next_e t3 6 (by omega)
  obtain ⟨qa, c5, t5, g5⟩ := bool_e t4 2 (by omega)
  obtain ⟨y, c6, t6, g6⟩ := bool_e t5 4 (by omega)
  obtain ⟨st, stg, ps, ak, rd, un⟩ := s
  obtain ⟨rtg, rcn, rps, rhv, rdn⟩ := r
  dsimp only at v3 v4 hn1 r2 r3 r4 r5 hnp gS gC
  have hstg : 0 ≤ stg ∧ stg ≤ 255 := v2.tag
  have hnl : n < ps.length := by omega
  cases y
  · obtain ⟨k, c8, p8, u8, t8, g8⟩ := next_e t6 4 (by omega)
    rcases (show k = 0 ∨ k = 1 ∨ k = 2 ∨ k = 3 by omega) with rfl | rfl | rfl | rfl
    · exact receivers_00 x0 _ rfl hf0 hl0 p0 _ rfl hp0 _ T hT st stg ak rd un ps R c1 hstg v3 v4 hn1 gS rtg rcn rhv rdn rps Q c2 r1 r2 r3 r4 r5 gC np hnp n zn c3 hzn hnl g3 v6 c4 ⟨p4, u4⟩ g4 qa c5 g5 c6 c6 c8 t8 [] (by simp) g6 g8
    · cases rdn
      · exact receivers_10f x0 _ rfl hf0 hl0 p0 _ rfl hp0 _ T hT st stg ak rd un ps R c1 hstg v3 v4 hn1 gS rtg rcn rhv _ rps Q c2 r1 r2 r3 r4 r5 gC np hnp n zn c3 hzn hnl g3 v6 c4 ⟨p4, u4⟩ g4 qa c5 g5 c6 c6 c8 t8 [] (by simp) g6 rfl g8
      · exact receivers_10t x0 _ rfl hf0 hl0 p0 _ rfl hp0 _ T hT st stg ak rd un ps R c1 hstg v3 v4 hn1 gS rtg rcn rhv _ rps Q c2 r1 r2 r3 r4 r5 gC np hnp n zn c3 hzn hnl g3 v6 c4 ⟨p4, u4⟩ g4 qa c5 g5 c6 c6 c8 t8 [] (by simp) g6 rfl g8
    · exact receivers_20 x0 _ rfl hf0 hl0 p0 _ rfl hp0 _ T hT st stg ak rd un ps R c1 hstg v3 v4 hn1 gS rtg rcn rhv rdn rps Q c2 r1 r2 r3 r4 r5 gC np hnp n zn c3 hzn hnl g3 v6 c4 ⟨p4, u4⟩ g4 qa c5 g5 c6 c6 c8 t8 [] (by simp) g6 g8
    · exact receivers_30 x0 _ rfl hf0 hl0 p0 _ rfl hp0 _ T hT st stg ak rd un ps R c1 hstg v3 v4 hn1 gS rtg rcn rhv rdn rps Q c2 r1 r2 r3 r4 r5 gC np hnp n zn c3 hzn hnl g3 v6 c4 ⟨p4, u4⟩ g4 qa c5 g5 c6 c6 c8 t8 [] (by simp) g6 g8
  · obtain ⟨bs, c7, p7, t7, gB⟩ := bytes_e t6 3 (by omega)
    have hbs : bs.length ≤ 3 := by omega
    obtain ⟨k, c8, p8, u8, t8, g8⟩ := next_e t7 4 (by omega)
    rcases (show k = 0 ∨ k = 1 ∨ k = 2 ∨ k = 3 by omega) with rfl | rfl | rfl | rfl
    · exact receivers_01 x0 _ rfl hf0 hl0 p0 _ rfl hp0 _ T hT st stg ak rd un ps R c1 hstg v3 v4 hn1 gS rtg rcn rhv rdn rps Q c2 r1 r2 r3 r4 r5 gC np hnp n zn c3 hzn hnl g3 v6 c4 ⟨p4, u4⟩ g4 qa c5 g5 c6 c7 c8 t8 bs hbs g6 gB g8
    · cases rdn
      · exact receivers_11f x0 _ rfl hf0 hl0 p0 _ rfl hp0 _ T hT st stg ak rd un ps R c1 hstg v3 v4 hn1 gS rtg rcn rhv _ rps Q c2 r1 r2 r3 r4 r5 gC np hnp n zn c3 hzn hnl g3 v6 c4 ⟨p4, u4⟩ g4 qa c5 g5 c6 c7 c8 t8 bs hbs g6 rfl gB g8
      · exact receivers_11t x0 _ rfl hf0 hl0 p0 _ rfl hp0 _ T hT st stg ak rd un ps R c1 hstg v3 v4 hn1 gS rtg rcn rhv _ rps Q c2 r1 r2 r3 r4 r5 gC np hnp n zn c3 hzn hnl g3 v6 c4 ⟨p4, u4⟩ g4 qa c5 g5 c6 c7 c8 t8 bs hbs g6 rfl gB g8
    · exact receivers_21 x0 _ rfl hf0 hl0 p0 _ rfl hp0 _ T hT st stg ak rd un ps R c1 hstg v3 v4 hn1 gS rtg rcn rhv rdn rps Q c2 r1 r2 r3 r4 r5 gC np hnp n zn c3 hzn hnl g3 v6 c4 ⟨p4, u4⟩ g4 qa c5 g5 c6 c7 c8 t8 bs hbs g6 gB g8
    · exact receivers_31 x0 _ rfl hf0 hl0 p0 _ rfl hp0 _ T hT st stg ak rd un ps R c1 hstg v3 v4 hn1 gS rtg rcn rhv rdn rps Q c2 r1 r2 r3 r4 r5 gC np hnp n zn c3 hzn hnl g3 v6 c4 ⟨p4, u4⟩ g4 qa c5 g5 c6 c7 c8 t8 bs hbs g6 gB g8
end Go.Proofs.Ytjhicdoigllblaa
