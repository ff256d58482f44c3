/- Texts put together: LG LH LU. -/
import Derived.Test.YtgfpjhddojhfpaaGreatZ14
import Derived.Test.YtgfpjhddojhfpaaGreatZ15
import Derived.Test.YtgfpjhddojhfpaaGreatZ16
import Derived.Test.YtgfpjhddojhfpaaGreatZ17
import Derived.Test.YtgfpjhddojhfpaaGreatZ18
namespace Go.Proofs.YtgfpjhddojhfpaaGreat
set_option linter.unusedVariables false
set_option linter.unusedSimpArgs false
open Go.RowKit
set_option maxHeartbeats 4000000
set_option linter.unusedSimpArgs false
set_option linter.unusedVariables false
set_option maxRecDepth 20000 in
theorem parse_u (k : Int) (q pn dm ds de um us ue : Int) (P : List SV) (p : List UInt8) (hP : P = u8l p) (hpl : p.length ≤ 127) (ok : (Fr.mk k true false false q pn dm ds de um us ue 0 0 p []).Ok) (hk : k = 1 ∨ k = 3)
    (hd : (dm = 2 ∧ de = 0) ∨ (dm = 3 ∧ ds = 0)) (hu : (um = 2 ∧ ue = 0) ∨ (um = 3 ∧ us = 0)) (X : List SV) (hX : X = u8l (Fr.mk k true false false q pn dm ds de um us ue 0 0 p []).body) :
    Good 52 (pu [.lst none X] (.tup [frS k true false false q pn dm ds de um us ue 0 0 P [], .bool true])) := by
  have okq : 0 ≤ q ∧ q ≤ 255 := ok.q
  have okpn : 0 ≤ pn ∧ pn ≤ 65535 := ok.pn
  have okds : 0 ≤ ds ∧ ds ≤ 65535 := ok.ds
  have okde : u6 de := ok.de
  have okus : 0 ≤ us ∧ us ≤ 65535 := ok.us
  have okue : u6 ue := ok.ue
  clear ok
  have bb := fb_bits k true false false hk
  have bm := mb_bits dm um (by omega) (by omega)
  obtain ⟨w1, hw1⟩ : ∃ y : Int, y = fbI k true false false := ⟨_, rfl⟩
  obtain ⟨w2, hw2⟩ : ∃ y : Int, y = 64 * dm + 16 * um := ⟨_, rfl⟩
  have r1 : 0 ≤ w1 ∧ w1 ≤ 255 := by rw [hw1]; exact (fb_or k true false false (by omega)).2
  have r2 : 0 ≤ w2 ∧ w2 ≤ 255 := by omega
  rw [← hw1] at bb
  rw [← hw2] at bm
  obtain ⟨e6, he6⟩ : ∃ y, y = p := ⟨_, rfl⟩
  obtain ⟨e5, he5⟩ : ∃ y, y = adrB um us ue ++ e6 := ⟨_, rfl⟩
  obtain ⟨e4, he4⟩ : ∃ y, y = adrB dm ds de ++ e5 := ⟨_, rfl⟩
  obtain ⟨e3, he3⟩ : ∃ y, y = bytesOf pn 2 ++ e4 := ⟨_, rfl⟩
  obtain ⟨e2, he2⟩ : ∃ y, y = [b8 q] ++ e3 := ⟨_, rfl⟩
  obtain ⟨e1, he1⟩ : ∃ y, y = [b8 w2] ++ e2 := ⟨_, rfl⟩
  have hX0 : X = u8l ([b8 w1] ++ e1) := by
    rw [hX, he1, he2, he3, he4, he5, he6, hw1, hw2]
    congr 1
    show [b8 (fbI k true false false), b8 (64 * dm + 16 * um), b8 q] ++ ((if k = 2 then [] else bytesOf pn 2 ++ adrB dm ds de ++ adrB um us ue) ++ []) ++ p ++ [] = _
    rw [if_neg (by omega)]
    simp only [List.append_assoc, List.cons_append, List.nil_append, List.append_nil]
  have n6 : e6.length ≤ 136 := by rw [he6]; omega
  have g1 := adrB_len um us ue
  have g2 := adrB_len dm ds de
  have n5 : e5.length ≤ 144 := by rw [he5]; simp only [List.length_append]; omega
  have n4 : e4.length ≤ 152 := by rw [he4]; simp only [List.length_append]; omega
  have n3 : e3.length ≤ 154 := by rw [he3]; simp only [List.length_append, bytesOf_length]; omega
  have n2 : e2.length ≤ 155 := by rw [he2]; simp only [List.length_append, List.length_cons, List.length_nil]; omega
  have n1 : e1.length ≤ 156 := by rw [he1]; simp only [List.length_append, List.length_cons, List.length_nil]; omega
  obtain ⟨X1, h1⟩ : ∃ y, y = u8l e1 := ⟨_, rfl⟩
  obtain ⟨X2, h2⟩ : ∃ y, y = u8l e2 := ⟨_, rfl⟩
  obtain ⟨X3, h3⟩ : ∃ y, y = u8l e3 := ⟨_, rfl⟩
  obtain ⟨X4, h4⟩ : ∃ y, y = u8l e4 := ⟨_, rfl⟩
  obtain ⟨X5, h5⟩ : ∃ y, y = u8l e5 := ⟨_, rfl⟩
  obtain ⟨X6, h6⟩ : ∃ y, y = u8l e6 := ⟨_, rfl⟩
  have c1 := next_rd [b8 w1] e1 1 false X X1 1 w1 hX0 rfl (by omega) (by omega) rfl (be1 w1 r1).symm h1
  have c2 := next_rd [b8 w2] e2 1 false X1 X2 1 w2 (by rw [h1, he1]) rfl (by omega) (by omega) rfl (be1 w2 r2).symm h2
  have c3 := next_rd [b8 q] e3 1 false X2 X3 1 q (by rw [h2, he2]) rfl (by omega) (by omega) rfl (be1 q okq).symm h3
  have c4 := next_rd (bytesOf pn 2) e4 2 false X3 X4 2 pn (by rw [h3, he3]) (bytesOf_length _ _) (by omega) (by omega) rfl (by rw [be_of pn 2 (by omega) (by omega)]) h4
  have c5 := addr_rd dm ds de e5 false X4 X5 okds okde hd (by rw [h4, he4]) (by omega) h5
  have c6 := addr_rd um us ue e6 false X5 X6 okus okue hu (by rw [h5, he5]) (by omega) h6
  have hX6 : X6 = P := by rw [h6, he6, hP]
  have hPl : P.length = p.length := by rw [hP, u8l_len]
  have hX6l : X6.length = p.length := by rw [hX6, hPl]
  have b1 := bb.1
  have b2 : ((w1.toNat &&& Int.toNat 32 : Nat) : Int) = 32 := bb.2.1
  have b3 : ((w1.toNat &&& Int.toNat 16 : Nat) : Int) = 0 := bb.2.2.1
  have b4 : ((w1.toNat &&& Int.toNat 8 : Nat) : Int) = 0 := bb.2.2.2
  have b5 := bm.1
  have b6 := bm.2
  clear bb bm he1 he2 he3 he4 he5 he6 h1 h2 h3 h4 h5 h6 hX hX0 n1 n2 n3 n4 n5 n6 hw1
  refine Good.of Tryz.func52 rfl (by rfl) (by kernel_rfl) ?_
  cbv
  (repeat' (first
| (refine q1w (fun z hz => ?_); (try simp only at hz); cbv)
| (refine rqw ?_; cbv)
| (refine rqk ?_; cbv)
| (refine chpA ?_; cbv)
| (refine QC.tw ?_; cbv)
| (refine QC.t3 ?_; cbv)
| (refine QC.f3 ?_; cbv)
| (refine QC.fw ?_; cbv)
| (refine QC.mk (fun hc => ?_) (fun hc => ?_) <;> (try dsimp only at hc) <;> cbv)
| (refine br_mk2 (fun hb => ?_) (fun hb => ?_) <;> (try subst hb) <;> cbv)
| (refine callq (c1) rfl rfl ?_; cbv)
| (refine callq (c2) rfl rfl ?_; cbv)
| (refine callq (c3) rfl rfl ?_; cbv)
| (refine callq (c4) rfl rfl ?_; cbv)
| (refine callq (c5) rfl rfl ?_; cbv)
| (refine callq (c6) rfl rfl ?_; cbv)))
  rename_i y1 f1 y2 f2
  have p6 : (2 : Int) ^ Int.toNat 6 = 64 := rfl
  have q1' : w1 = y1 := by omega
  have q2' : w2 = y2 := by omega
  subst q1'
  subst q2'
  have ek : k = z := by rw [hz, p6, b1]
  subst ek
  (repeat' (first
| (refine q1w (fun z hz => ?_); (try simp only at hz); cbv)
| (refine rqw ?_; cbv)
| (refine rqk ?_; cbv)
| (refine chpA ?_; cbv)
| (refine QC.tw ?_; cbv)
| (refine QC.t3 ?_; cbv)
| (refine QC.f3 ?_; cbv)
| (refine QC.fw ?_; cbv)
| (refine QC.mk (fun hc => ?_) (fun hc => ?_) <;> (try dsimp only at hc) <;> cbv)
| (refine br_mk2 (fun hb => ?_) (fun hb => ?_) <;> (try subst hb) <;> cbv)
| (refine callq (c1) rfl rfl ?_; cbv)
| (refine callq (c2) rfl rfl ?_; cbv)
| (refine callq (c3) rfl rfl ?_; cbv)
| (refine callq (c4) rfl rfl ?_; cbv)
| (refine callq (c5) rfl rfl ?_; cbv)
| (refine callq (c6) rfl rfl ?_; cbv)))
  rename_i a1 t1 a2 t2 a3 t3 a4 t4
  have eq4 : q = a4 := by omega
  subst eq4
  have ep : pn = z := by omega
  subst ep
  refine unrollq 3 ?_
  cbv
  (repeat' (first
| (refine q1w (fun z hz => ?_); (try simp only at hz); cbv)
| (refine rqw ?_; cbv)
| (refine rqk ?_; cbv)
| (refine chpA ?_; cbv)
| (refine QC.tw ?_; cbv)
| (refine QC.t3 ?_; cbv)
| (refine QC.f3 ?_; cbv)
| (refine QC.fw ?_; cbv)
| (refine QC.mk (fun hc => ?_) (fun hc => ?_) <;> (try dsimp only at hc) <;> cbv)
| (refine br_mk2 (fun hb => ?_) (fun hb => ?_) <;> (try subst hb) <;> cbv)))
  rename_i i1 j1 i2 j2
  have e6 : i2.toNat = 6 := by omega
  rw [e6] at hz
  have ez : z = w2 / 64 := by rw [hz]; rfl
  have bz : 0 ≤ z ∧ z ≤ 255 := by omega
  clear hz
  refine q1 ⟨by omega, by omega, by omega, by omega⟩ fun y hy => ?_
  have ey : dm = y := by rw [hy, ez]; exact b5.symm
  subst ey
  cbv
  (repeat' (first
| (refine q1w (fun z hz => ?_); (try simp only at hz); cbv)
| (refine rqw ?_; cbv)
| (refine rqk ?_; cbv)
| (refine chpA ?_; cbv)
| (refine QC.tw ?_; cbv)
| (refine QC.t3 ?_; cbv)
| (refine QC.f3 ?_; cbv)
| (refine QC.fw ?_; cbv)
| (refine QC.mk (fun hc => ?_) (fun hc => ?_) <;> (try dsimp only at hc) <;> cbv)
| (refine br_mk2 (fun hb => ?_) (fun hb => ?_) <;> (try subst hb) <;> cbv)
| ((refine qxArr (by decide) (by decide) ?_; cbv))
| (refine callq (c5) rfl rfl ?_; cbv)
| (refine callq (c6) rfl rfl ?_; cbv)))
  rename_i i3 j3 i4 j4
  have e4 : i4.toNat = 4 := by (first | omega | (simp only [cst] at *; omega) | (simp only [sm] at *; omega))
  rw [e4] at hz
  have ez : z = w2 / 16 := by rw [hz]; rfl
  have bz : 0 ≤ z ∧ z ≤ 255 := by omega
  clear hz
  refine q1 ⟨by omega, by omega, by omega, by omega⟩ fun y hy => ?_
  have ey : um = y := by rw [hy, ez]; exact b6.symm
  subst ey
  cbv
  (repeat' (first
| (refine q1w (fun z hz => ?_); (try simp only at hz); cbv)
| (refine rqw ?_; cbv)
| (refine rqk ?_; cbv)
| (refine chpA ?_; cbv)
| (refine QC.tw ?_; cbv)
| (refine QC.t3 ?_; cbv)
| (refine QC.f3 ?_; cbv)
| (refine QC.fw ?_; cbv)
| (refine QC.mk (fun hc => ?_) (fun hc => ?_) <;> (try dsimp only at hc) <;> cbv)
| (refine br_mk2 (fun hb => ?_) (fun hb => ?_) <;> (try subst hb) <;> cbv)
| ((refine qxArr (by decide) (by decide) ?_; cbv))
| (refine callq (c5) rfl rfl ?_; cbv)
| (refine callq (c6) rfl rfl ?_; cbv)))
  refine qv 1 ⟨by show _ = (1 : Int); omega, by omega⟩ ?_
  cbv
  (repeat' (first
| (refine q1w (fun z hz => ?_); (try simp only at hz); cbv)
| (refine rqw ?_; cbv)
| (refine rqk ?_; cbv)
| (refine chpA ?_; cbv)
| (refine QC.tw ?_; cbv)
| (refine QC.t3 ?_; cbv)
| (refine QC.f3 ?_; cbv)
| (refine QC.fw ?_; cbv)
| (refine QC.mk (fun hc => ?_) (fun hc => ?_) <;> (try dsimp only at hc) <;> cbv)
| (refine br_mk2 (fun hb => ?_) (fun hb => ?_) <;> (try subst hb) <;> cbv)
| ((refine qxArr (by decide) (by decide) ?_; cbv))
| (refine callq (c5) rfl rfl ?_; cbv)
| (refine callq (c6) rfl rfl ?_; cbv)))
  have e3 : z.toNat = p.length := by (first | omega | (simp only [cst] at *; omega) | (simp only [sm] at *; omega))
  have eP : O.tk z X6 = P := by rw [otk, e3, hX6, ← hPl, List.take_length]
  have eM : O.dr z X6 = [] := by rw [odr, e3, hX6, ← hPl, List.drop_length]
  refine ⟨?_, rfl, rfl⟩
  show SV.tup [SV.agg [_, _, _, _, _, _, _, _, _, _, _, _, _, _, .lst none (O.tk z X6), .lst none (O.dr z X6)], _] = _
  rw [eP, eM]
set_option maxRecDepth 20000 in
theorem decode_u (k : Int) (q pn dm ds de um us ue : Int) (P : List SV) (p : List UInt8) (hP : P = u8l p) (ok : (Fr.mk k true false false q pn dm ds de um us ue 0 0 p []).Ok)
    (hv : (Fr.mk k true false false q pn dm ds de um us ue 0 0 p []).valid = true) (hk2 : k ≠ 2) (X : List SV) (hX : X = u8l (Fr.mk k true false false q pn dm ds de um us ue 0 0 p []).enc) :
    Good 11 (pu [.lst none X] (.tup [frS k true false false q pn dm ds de um us ue 0 0 P [], .int .i64 0])) := by
  obtain ⟨b1, b2, b3, b4, b5, b6, b7, b8'⟩ := fr_len _ hv hk2
  have ft := (Fr.fits hv).p
  have hw := check_enc (Fr.mk k true false false q pn dm ds de um us ue 0 0 p [])
  obtain ⟨e, he⟩ : ∃ y, y = (Fr.mk k true false false q pn dm ds de um us ue 0 0 p []).enc := ⟨_, rfl⟩
  obtain ⟨b, hb⟩ : ∃ y, y = (Fr.mk k true false false q pn dm ds de um us ue 0 0 p []).body := ⟨_, rfl⟩
  rw [← he] at b1 b4 hw hX
  rw [← hb] at b4
  have heb : e = b ++ crcL b := by rw [he, hb]; rfl
  have hXl : X.length = e.length := by rw [hX, u8l_len]
  have hel : e.length ≤ 127 := by omega
  have hel5 : 5 ≤ e.length := by omega
  have c1 := check_c e X hX (by omega) (by omega) true (decide_eq_true hw).symm
  have c2 := fun Y hY => parse_u k q pn dm ds de um us ue P p hP ft ok b7 b5 b6 Y (by rw [← hb]; exact hY)
  have c3 := encode_yes k true false false q pn dm ds de um us ue 0 0 P [] p [] hP rfl ok hv hk2 (by simp) X (by rw [hX, he])
  have c4 := equal_c e e X X hX hX true (by simp)
  clear b1 b2 b3 b5 b6 b7 b8' hv ok hw
  refine Good.of Tryz.func11 rfl (by rfl) (by kernel_rfl) ?_
  cbv
  (repeat' (first
| (refine q1w (fun z hz => ?_); (try simp only at hz); cbv)
| (refine rqw ?_; cbv)
| (refine rqk ?_; cbv)
| (refine chpA ?_; cbv)
| (refine QC.tw ?_; cbv)
| (refine QC.t3 ?_; cbv)
| (refine QC.f3 ?_; cbv)
| (refine QC.fw ?_; cbv)
| (refine QC.mk (fun hc => ?_) (fun hc => ?_) <;> (try dsimp only at hc) <;> cbv)
| (refine br_mk2 (fun hb => ?_) (fun hb => ?_) <;> (try subst hb) <;> cbv)
| (refine callq (c1) rfl rfl ?_; cbv)))
  have ez : z.toNat = b.length := by (first | omega | (simp only [cst] at *; omega) | (simp only [sm] at *; omega))
  refine callq (c2 (O.tk z X) (by rw [otk, hX, heb, u8l_take, ez, List.take_left])) rfl rfl ?_
  cbv
  (repeat' (first
| (refine q1w (fun z hz => ?_); (try simp only at hz); cbv)
| (refine rqw ?_; cbv)
| (refine rqk ?_; cbv)
| (refine chpA ?_; cbv)
| (refine QC.tw ?_; cbv)
| (refine QC.t3 ?_; cbv)
| (refine QC.f3 ?_; cbv)
| (refine QC.fw ?_; cbv)
| (refine QC.mk (fun hc => ?_) (fun hc => ?_) <;> (try dsimp only at hc) <;> cbv)
| (refine br_mk2 (fun hb => ?_) (fun hb => ?_) <;> (try subst hb) <;> cbv)
| (refine callq (c3) rfl rfl ?_; cbv)
| (refine callq (c4) rfl rfl ?_; cbv)))
  exact ⟨rfl, rfl, rfl⟩
end Go.Proofs.YtgfpjhddojhfpaaGreat
namespace Go.Proofs.YtgfpjhddojhfpaaGreat
set_option linter.unusedVariables false
set_option linter.unusedSimpArgs false
open Go.RowKit
set_option maxHeartbeats 4000000
set_option linter.unusedSimpArgs false
set_option linter.unusedVariables false
theorem validA (q : Int) : Good 59 (pu [akT q] (.bool true)) :=
  valid_c 2 false false false q 0 0 0 0 0 0 0 0 0 [] [] [] [] rfl rfl ⟨by decide, by decide⟩ true (by
    show true = (if (2 : Int) = 2 then ackV false false 0 0 0 0 0 0 0 0 0 0 0 else _)
    rw [if_pos rfl]; unfold ackV; exact (decide_eq_true (by decide)).symm)
theorem header_a (q : Int) (hq : 0 ≤ q ∧ q ≤ 255) : Good 61 (nu [akT q] (.row 1) (.row none 5 (u8l [128, 0, b8 q]))) := by
  have c1 := validA q
  have g1 := flag_c false 32 0 rfl
  have g2 := flag_c false 16 0 rfl
  have g3 := flag_c false 8 0 rfl
  have e : u8l [128, 0, b8 q] = [SV.int .u8 128, .int .u8 0, .int .u8 q] := by
    show [SV.int .u8 _, SV.int .u8 _, SV.int .u8 (b8 q).toNat] = _
    rw [b8_val hq]; rfl
  rw [e]
  refine Good.of Tryz.func61 rfl (by rfl) (by kernel_rfl) ?_
  cbv
  (repeat' (first
| (refine q1w (fun z hz => ?_); (try simp only at hz); cbv)
| (refine rqw ?_; cbv)
| (refine rqk ?_; cbv)
| (refine chpA ?_; cbv)
| (refine QC.tw ?_; cbv)
| (refine QC.t3 ?_; cbv)
| (refine QC.f3 ?_; cbv)
| (refine QC.fw ?_; cbv)
| (refine QC.mk (fun hc => ?_) (fun hc => ?_) <;> (try dsimp only at hc) <;> cbv)
| (refine br_mk2 (fun hb => ?_) (fun hb => ?_) <;> (try subst hb) <;> cbv)
| (refine callq (c1) rfl rfl ?_; cbv)
| (refine callq (g1) rfl rfl ?_; cbv)
| (refine callq (g2) rfl rfl ?_; cbv)
| (refine callq (g3) rfl rfl ?_; cbv)))
  rename_i a1 h1 a2 h2
  have p6 : (2 : Int) ^ Int.toNat 6 = 64 := rfl
  have e2 : a2 = 128 := by rw [h2, h1, p6]; rfl
  have e3 : z = 128 := by rw [hz, e2]; rfl
  clear h2 hz h1
  subst e3
  refine q1 ⟨by decide, by decide, by decide, by decide⟩ fun z hz => ?_
  have e3 : z = 128 := by rw [hz]; rfl
  clear hz
  subst e3
  cbv
  (repeat' (first
| (refine q1w (fun z hz => ?_); (try simp only at hz); cbv)
| (refine rqw ?_; cbv)
| (refine rqk ?_; cbv)
| (refine chpA ?_; cbv)
| (refine QC.tw ?_; cbv)
| (refine QC.t3 ?_; cbv)
| (refine QC.f3 ?_; cbv)
| (refine QC.fw ?_; cbv)
| (refine QC.mk (fun hc => ?_) (fun hc => ?_) <;> (try dsimp only at hc) <;> cbv)
| (refine br_mk2 (fun hb => ?_) (fun hb => ?_) <;> (try subst hb) <;> cbv)
| (refine callq (g1) rfl rfl ?_; cbv)
| (refine callq (g2) rfl rfl ?_; cbv)
| (refine callq (g3) rfl rfl ?_; cbv)))
  have hmk : True := trivial
  rename_i x1 f1 x2 f2 x3 f3 x4 f4 x5 f5
  have p4 : (2 : Int) ^ Int.toNat 4 = 16 := rfl
  have d1 : x1 = 128 := by rw [f1]; rfl
  have d3 : x3 = 0 := by rw [f3, f2, p6]; rfl
  have d5 : x5 = 0 := by rw [f5, f4, p4]; rfl
  have d6 : z = 0 := by rw [hz, d3, d5]; rfl
  refine ⟨rfl, ?_, rfl⟩
  rw [d1, d6]
  show Blk.row none _ (O.ap _ []) = _
  rw [oap, List.append_nil]
theorem encode_a (q : Int) (hq : 0 ≤ q ∧ q ≤ 255) (R : List SV) (hR : R = u8l ([128, 0, b8 q] ++ crcL [128, 0, b8 q])) : Good 18 (nu [akT q] (.tup [.row 1, .int .i64 0]) (.row none 5 R)) := by
  have c1 := validA q
  have c2 := header_a q hq
  obtain ⟨H, hH⟩ : ∃ y, y = u8l [128, 0, b8 q] := ⟨_, rfl⟩
  rw [← hH] at c2
  have c3 := crcAppend_c [128, 0, b8 q] H R hH (by simp) hR
  have hHl : H.length = 3 := by rw [hH]; rfl
  clear hR hH
  refine Good.of Tryz.func18 rfl (by rfl) (by kernel_rfl) ?_
  cbv
  (repeat' (first
| (refine q1w (fun z hz => ?_); (try simp only at hz); cbv)
| (refine rqw ?_; cbv)
| (refine rqk ?_; cbv)
| (refine chpA ?_; cbv)
| (refine QC.tw ?_; cbv)
| (refine QC.t3 ?_; cbv)
| (refine QC.f3 ?_; cbv)
| (refine QC.fw ?_; cbv)
| (refine QC.mk (fun hc => ?_) (fun hc => ?_) <;> (try dsimp only at hc) <;> cbv)
| (refine br_mk2 (fun hb => ?_) (fun hb => ?_) <;> (try subst hb) <;> cbv)
| (refine callq (c1) rfl rfl ?_; cbv)
| (refine callq (c2) rfl rfl ?_; cbv)))
  have hA : apL H [] = H := by rw [apL_eq, List.append_nil]
  unfold apL at hA
  rw [hA]
  (refine callq (c3) rfl rfl ?_; cbv; (repeat' (first
| (refine q1w (fun z hz => ?_); (try simp only at hz); cbv)
| (refine rqw ?_; cbv)
| (refine rqk ?_; cbv)
| (refine chpA ?_; cbv)
| (refine QC.tw ?_; cbv)
| (refine QC.t3 ?_; cbv)
| (refine QC.f3 ?_; cbv)
| (refine QC.fw ?_; cbv)
| (refine QC.mk (fun hc => ?_) (fun hc => ?_) <;> (try dsimp only at hc) <;> cbv)
| (refine br_mk2 (fun hb => ?_) (fun hb => ?_) <;> (try subst hb) <;> cbv))))
  exact ⟨rfl, rfl, rfl⟩
end Go.Proofs.YtgfpjhddojhfpaaGreat
namespace Go.Proofs.YtgfpjhddojhfpaaGreat
set_option linter.unusedVariables false
set_option linter.unusedSimpArgs false
open Go.RowKit
set_option maxHeartbeats 4000000
set_option linter.unusedSimpArgs false
set_option linter.unusedVariables false
inductive Md (n nx : Nat) : Int → Int → Int → Int → Int → Int → Int → Int → Int → Prop
  | e (h : nx = n) : Md n nx 0 0 0 0 0 0 0 0 0
  | b1 (h : nx < n) (a w : Int) (ha : 0 ≤ a ∧ a ≤ 3) (hw : 1 ≤ w ∧ w ≤ 7) : Md n nx 1 a 1 0 3 2 w 0 (12 * a + 7 - w)
  | b2 (h : nx < n) (a c : Int) (ha : 0 ≤ a ∧ a ≤ 3) (hc : 1 ≤ c ∧ c ≤ 2) : Md n nx 1 a 2 0 3 c 0 0 (12 * a + 9 - c)
  | w (h : nx < n) (a l : Int) (ha : 1 ≤ a ∧ a ≤ 4) (hl : 1 ≤ l ∧ l ≤ 3) : Md n nx 2 a 0 0 0 0 0 l (12 * a - l)
theorem Md.pos {n nx : Nat} {ph a b0 b1 b2 b3 b4 lf pos : Int} (h : Md n nx ph a b0 b1 b2 b3 b4 lf pos) : 0 ≤ pos ∧ pos ≤ 47 ∧ nx ≤ n := by
  cases h <;> omega
theorem md_begin (n nx : Nat) (h : nx < n) (a d : Int) (ha : 0 ≤ a ∧ a ≤ 3) : ∃ w st pos : Int, w = d % 8 ∧ ((1 ≤ w ∧ st = 1) ∨ (w = 0 ∧ st = 2)) ∧ Md n nx 1 a st 0 3 2 w 0 pos ∧ 12 * a ≤ pos := by
  by_cases h0 : d % 8 = 0
  · exact ⟨0, 2, _, h0.symm, .inr ⟨rfl, rfl⟩, .b2 h a 2 ha (by omega), by omega⟩
  · exact ⟨d % 8, 1, _, rfl, .inl ⟨by omega, rfl⟩, .b1 h a (d % 8) ha (by omega), by omega⟩
def Fok (n : Nat) (F : List SV) (p : Nat → List UInt8) : Prop := F.length = n ∧ ∀ i, i < n → (p i).length ≤ 4 ∧ F[i]? = some (frT i (u8l (p i)))
theorem Fok.q {n : Nat} {F : List SV} {p : Nat → List UInt8} (h : Fok n F p) (k : Nat) : Qok (F.drop k) := fun i x hx => by
  rw [List.getElem?_drop] at hx
  have hlt := (List.getElem?_eq_some_iff.1 hx).1
  have h1 := h.2 (k + i) (by rw [← h.1]; exact hlt)
  rw [h1.2] at hx
  injection hx with hx
  exact ⟨_, _, hx.symm, by rw [u8l_len]; exact h1.1⟩
theorem Fok.c {n : Nat} {F : List SV} {p : Nat → List UInt8} (h : Fok n F p) (k : Nat) (hk : k < n) : F.drop k = frT k (u8l (p k)) :: F.drop (k + 1) := by
  have h1 := h.2 k hk
  obtain ⟨hlt, e⟩ := List.getElem?_eq_some_iff.1 h1.2
  rw [List.drop_eq_getElem_cons hlt, e]
theorem step_any (n nx : Nat) (hn : n ≤ 5) (F : List SV) (p : Nat → List UInt8) (hF : Fok n F p) (ph at_ b0 b1 b2 b3 b4 lf pos : Int) (M : Md n nx ph at_ b0 b1 b2 b3 b4 lf pos) (hnx : nx < n) (ack : Bool) (ans d : Int) (hd : 0 ≤ d ∧ d ≤ 4294967295) (hack : ack = true → ph = 2 ∧ ans = nx) :
    ∃ (nx' : Nat) (ph' at' c0 c1 c2 c3 c4 lf' pos' : Int) (sent : Bool) (O : List SV), Good 43 (pu [lkS (F.drop nx) ph at_ b0 b1 b2 b3 b4 lf, slS ack ans d] (.tup [lkS (F.drop nx') ph' at' c0 c1 c2 c3 c4 lf', .bool sent, .lst (some 18) O])) ∧
      Md n nx' ph' at' c0 c1 c2 c3 c4 lf' pos' ∧ ((O = [] ∧ nx' = nx ∧ pos + 1 ≤ pos' ∧ (sent = true → ph' = 2)) ∨ (∃ (P : List SV) (sn : Bool) (a : Int), O = [ocS nx P sn a] ∧ nx' = nx + 1 ∧ sent = false ∧ (sn = true → ack = true))) := by
  have hQ := hF.q nx
  have hc := hF.c nx hnx
  have hl : (F.drop nx).length = n - nx := by rw [List.length_drop, hF.1]
  have hP : (u8l (p nx)).length ≤ 4 := by rw [u8l_len]; exact (hF.2 nx hnx).1
  have hL0 : (F.drop nx)[0]? = some (frT nx (u8l (p nx))) := by rw [hc]; rfl
  have hQ16 : (F.drop nx).length ≤ 16 := by omega
  have hq : 0 < (F.drop nx).length ∧ (F.drop nx).length ≤ 16 := by omega
  have hl' : (F.drop (nx + 1)).length = n - (nx + 1) := by rw [List.length_drop, hF.1]
  cases M with
  | e h => omega
  | b1 h a w ha hw =>
    have hv := lvalid1 (F.drop nx) hQ hq at_ b4 ha hw
    by_cases h2 : 2 ≤ b4
    · exact ⟨nx, 1, at_, 1, 0, 3, 2, b4 - 1, 0, _, false, [], step1 _ hQ hQ16 at_ 1 2 b4 1 2 (b4 - 1) ans d ack hv (.inl rfl) (bstep1 b4 (b4 - 1) d ⟨h2, hw.2⟩ rfl), .b1 h at_ (b4 - 1) ha (by omega), .inl ⟨rfl, rfl, by omega, fun h => by cases h⟩⟩
    · have e : b4 = 1 := by omega
      subst e
      exact ⟨nx, 1, at_, 2, 0, 3, 2, 0, 0, _, false, [], step1 _ hQ hQ16 at_ 1 2 1 2 2 0 ans d ack hv (.inr rfl) (bstep2 d), .b2 h at_ 2 ha (by omega), .inl ⟨rfl, rfl, by omega, fun h => by cases h⟩⟩
  | b2 h a c ha hc2 =>
    have hv := lvalid2 (F.drop nx) hQ hq at_ b3 ha hc2
    by_cases h2 : b3 = 2
    · subst h2
      exact ⟨nx, 1, at_, 2, 0, 3, 1, 0, 0, _, false, [], step1 _ hQ hQ16 at_ 2 2 0 2 1 0 ans d ack hv (.inr rfl) (bstep3 d), .b2 h at_ 1 ha (by omega), .inl ⟨rfl, rfl, by omega, fun h => by cases h⟩⟩
    · have e : b3 = 1 := by omega
      subst e
      exact ⟨nx, 2, at_ + 1, 0, 0, 0, 0, 0, 3, _, true, [], step2 _ hQ hQ16 nx (u8l (p nx)) hL0 at_ (at_ + 1) ans d ack ha rfl hv, .w h (at_ + 1) 3 (by omega) (by omega), .inl ⟨rfl, rfl, by omega, fun _ => rfl⟩⟩
  | w h a l ha hl3 =>
    have hv := lvalid3 (F.drop nx) hQ hq at_ lf ha hl3
    cases hk : ack with
    | true =>
      obtain ⟨_, rfl⟩ := hack hk
      by_cases hlast : nx + 1 < n
      · obtain ⟨w, st, pos', hw, hst, hM, _⟩ := md_begin n (nx + 1) hlast 0 d (by omega)
        exact ⟨nx + 1, 1, 0, st, 0, 3, 2, w, 0, pos', false, _, step6 _ _ hQ hQ16 nx (u8l (p nx)) hc hP (by omega) at_ lf d w st hd hw hst hv, hM, .inr ⟨_, _, _, rfl, rfl, rfl, fun _ => rfl⟩⟩
      · have e : F.drop (nx + 1) = [] := List.length_eq_zero_iff.1 (by omega)
        refine ⟨nx + 1, 0, 0, 0, 0, 0, 0, 0, 0, 0, false, _, ?_, .e (by omega), .inr ⟨u8l (p nx), true, at_, rfl, rfl, rfl, fun _ => rfl⟩⟩
        rw [e]
        exact step8 _ hQ hQ16 nx (u8l (p nx)) (by rw [hc, e]) hP at_ lf d hv
    | false =>
      by_cases h2 : 2 ≤ lf
      · exact ⟨nx, 2, at_, 0, 0, 0, 0, 0, lf - 1, _, false, [], step3 _ hQ hQ16 at_ lf (lf - 1) ans d ⟨h2, hl3.2⟩ rfl hv, .w h at_ (lf - 1) ha (by omega), .inl ⟨rfl, rfl, by omega, fun h => by cases h⟩⟩
      · have e : lf = 1 := by omega
        subst e
        by_cases h3 : at_ ≤ 3
        · obtain ⟨w, st, pos', hw, hst, hM, hp⟩ := md_begin n nx h at_ d (by omega)
          exact ⟨nx, 1, at_, st, 0, 3, 2, w, 0, pos', false, [], step4 _ hQ hQ16 at_ ans d w st h3 hd hw hst hv, hM, .inl ⟨rfl, rfl, by omega, fun h => by cases h⟩⟩
        · by_cases hlast : nx + 1 < n
          · obtain ⟨w, st, pos', hw, hst, hM, _⟩ := md_begin n (nx + 1) hlast 0 d (by omega)
            exact ⟨nx + 1, 1, 0, st, 0, 3, 2, w, 0, pos', false, _, step5 _ _ hQ hQ16 nx (u8l (p nx)) hc hP (by omega) at_ ans d w st (by omega) hd hw hst hv, hM, .inr ⟨_, _, _, rfl, rfl, rfl, fun h => by cases h⟩⟩
          · have e : F.drop (nx + 1) = [] := List.length_eq_zero_iff.1 (by omega)
            refine ⟨nx + 1, 0, 0, 0, 0, 0, 0, 0, 0, 0, false, _, ?_, .e (by omega), .inr ⟨u8l (p nx), false, at_, rfl, rfl, rfl, fun h => by cases h⟩⟩
            rw [e]
            exact step7 _ hQ hQ16 nx (u8l (p nx)) (by rw [hc, e]) hP at_ ans d (by omega) hv
structure SeenR (g : List Nat) (l : List Sn) : Prop where
  q : l.map Sn.q = g.map (fun (k : Nat) => (k : Int))
  a : ∀ x ∈ l, x.m = 3 ∧ x.s = 0 ∧ x.e = 144115188075855873 ∧ 16 ≤ x.u ∧ x.u ≤ 18
theorem asc_len : ∀ (g : List Nat) (m N : Nat), g.Pairwise (· < ·) → (∀ k ∈ g, m ≤ k ∧ k < N) → g.length ≤ N - m
  | [], _, _, _, _ => by simp
  | x :: g, m, N, h, h2 => by
    have h3 := List.pairwise_cons.1 h
    have hx := h2 x (by simp)
    have := asc_len g (x + 1) N h3.2 fun k hk => ⟨by have := h3.1 k hk; omega, (h2 k (by simp [hk])).2⟩
    simp only [List.length_cons]
    omega
theorem VS_of (l : List Sn) (h1 : l.length ≤ 32) (h2 : ∀ x ∈ l, someA x.m x.s x.e = true ∧ timeT x.u = true) (h3 : l.Pairwise fun x y => hitS y.m y.s y.e y.q x = false) : VS l := by
  refine ⟨h1, fun i x hx => ?_⟩
  obtain ⟨hi, rfl⟩ := List.getElem?_eq_some_iff.1 hx
  obtain ⟨h4, h5⟩ := h2 _ (List.getElem_mem hi)
  simp only [ok1, h4, h5, Bool.true_and, Bool.not_eq_true']
  refine List.any_eq_false.2 fun y hy => ?_
  obtain ⟨k, hk, rfl⟩ := List.mem_iff_getElem.1 hy
  rw [List.length_take] at hk
  rw [List.getElem_take]
  have := (List.pairwise_iff_getElem.1 h3) k i (by omega) hi (by omega)
  simp [this]
theorem rec_any (g : List Nat) (l : List Sn) (nx : Nat) (now : Int) (h : SeenR g l) (hg : g.Pairwise (· < ·)) (hn : ∀ k ∈ g, k ≤ nx) (hnx : nx < 5) (hnow : 0 ≤ now ∧ now ≤ 2) :
    ∃ (l' : List Sn) (b : Bool), Good 45 (pu [.lst (some 5) (snL l), .agg [.int .i64 3, .int .u16 0, .int .u64 144115188075855873], .int .u8 nx, .int .i64 now] (.tup [.lst (some 5) (snL l'), .bool (!b), .int .i64 0])) ∧
      (b = true → nx ∈ g ∧ l' = l) ∧ (b = false → nx ∉ g ∧ SeenR (g ++ [nx]) l' ∧ (g ++ [nx]).Pairwise (· < ·) ∧ ∀ k ∈ g ++ [nx], k ≤ nx) := by
  have hlen : l.length = g.length := by have := congrArg List.length h.q; simpa using this
  have hgl : g.length ≤ 5 := by have := asc_len g 0 5 hg fun k hk => ⟨Nat.zero_le _, by have := hn k hk; omega⟩; omega
  have hpr : pruneF l now = l := by
    unfold pruneF
    rw [List.filter_eq_self]
    intro x hx
    have := (h.a x hx).2.2.2
    exact decide_eq_true (by omega)
  have hv : VS l := by
    refine VS_of l (by omega) (fun x hx => ?_) ?_
    · have := h.a x hx
      unfold someA timeT
      exact ⟨decide_eq_true (by omega), decide_eq_true (by omega)⟩
    · rw [List.pairwise_iff_getElem]
      intro i j hi hj hij
      have e1 : (l.map Sn.q)[i]'(by simpa using hi) = ((g[i]'(by omega) : Nat) : Int) := by simp [h.q]
      have e2 : (l.map Sn.q)[j]'(by simpa using hj) = ((g[j]'(by omega) : Nat) : Int) := by simp [h.q]
      simp only [List.getElem_map] at e1 e2
      have := (List.pairwise_iff_getElem.1 hg) i j (by omega) (by omega) hij
      exact decide_eq_false (by rintro ⟨_, _, _, e⟩; omega)
  have hany : l.any (hitS 3 0 144115188075855873 nx) = true ↔ nx ∈ g := by
    rw [List.any_eq_true]
    constructor
    · rintro ⟨x, hx, hh⟩
      have hh := (of_decide_eq_true hh).2.2.2
      have : x.q ∈ l.map Sn.q := List.mem_map.2 ⟨x, hx, rfl⟩
      rw [h.q] at this
      obtain ⟨k, hk, e⟩ := List.mem_map.1 this
      have e3 : k = nx := by omega
      rw [← e3]; exact hk
    · intro hm
      have : (nx : Int) ∈ g.map (fun (k : Nat) => (k : Int)) := List.mem_map.2 ⟨nx, hm, rfl⟩
      rw [← h.q] at this
      obtain ⟨x, hx, e⟩ := List.mem_map.1 this
      have ha := h.a x hx
      exact ⟨x, hx, decide_eq_true ⟨ha.1, ha.2.1, ha.2.2.1, e⟩⟩
  have c := fun b hb R' hR' => record_c l (snL l) rfl 3 0 144115188075855873 nx now hv (by decide) (decide_eq_true (by omega)) (snL l) R' b hb (by rw [hpr]) hR'
  by_cases hm : nx ∈ g
  · have hb : true = (pruneF l now).any (hitS 3 0 144115188075855873 nx) := by rw [hpr]; exact (hany.2 hm).symm
    exact ⟨l, true, c true hb _ (by rw [if_pos rfl, hpr]), fun _ => ⟨hm, rfl⟩, fun h => by cases h⟩
  · have hb : false = (pruneF l now).any (hitS 3 0 144115188075855873 nx) := by
      rw [hpr]
      cases hx : l.any (hitS 3 0 144115188075855873 nx) with
      | false => rfl
      | true => exact absurd (hany.1 hx) hm
    refine ⟨l ++ [newS 3 0 144115188075855873 nx now], false, c false hb _ (by rw [if_neg (by simp), hpr, addS, if_neg (by omega)]), fun h => (by cases h), fun _ => ⟨hm, ⟨?_, fun x hx => ?_⟩, ?_, fun k hk => ?_⟩⟩
    · simp [h.q, newS]
    · rcases List.mem_append.1 hx with hx | hx
      · exact h.a x hx
      · simp only [List.mem_singleton] at hx
        subst hx
        exact ⟨rfl, rfl, rfl, by show 16 ≤ min (now + 16) 1099511627776 ∧ min (now + 16) 1099511627776 ≤ 18; omega⟩
    · rw [List.pairwise_append]
      exact ⟨hg, by simp, fun a ha b hb => by
        simp only [List.mem_singleton] at hb
        subst hb
        have := hn a ha
        have : a ≠ b := fun e => hm (e ▸ ha)
        omega⟩
    · rcases List.mem_append.1 hk with hk | hk
      · exact hn k hk
      · simp only [List.mem_singleton] at hk; omega
end Go.Proofs.YtgfpjhddojhfpaaGreat
