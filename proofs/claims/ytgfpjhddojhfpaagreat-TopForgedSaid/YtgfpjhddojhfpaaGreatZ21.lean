/- Texts put together: JF JG JI. -/
import Derived.Test.YtgfpjhddojhfpaaGreatZ03
import Derived.Test.YtgfpjhddojhfpaaGreatZ04
import Derived.Test.YtgfpjhddojhfpaaGreatZ07
import Derived.Test.YtgfpjhddojhfpaaGreatZ11
import Derived.Test.YtgfpjhddojhfpaaGreatZ16
import Derived.Test.YtgfpjhddojhfpaaGreatZ18
import Derived.Test.YtgfpjhddojhfpaaGreatZ19
import Derived.Test.YtgfpjhddojhfpaaGreatZ20
namespace Go.Proofs.YtgfpjhddojhfpaaGreat
set_option linter.unusedVariables false
set_option linter.unusedSimpArgs false
open Go.RowKit
set_option maxHeartbeats 4000000
set_option linter.unusedSimpArgs false
set_option linter.unusedVariables false
theorem opened_no (k : Int) (ac pe : Bool) (q pn dm ds de ct : Int) (P M : List SV) (p m : List UInt8) (hP : P = u8l p) (hM : M = u8l m)
    (hk : k ≠ 2) (ok : (Fr.mk k ac pe true q pn dm ds de 3 0 144115188075855873 ct 1 p m).Ok)
    (hv : (Fr.mk k ac pe true q pn dm ds de 3 0 144115188075855873 ct 1 p m).valid = true) (E : List SV) (hE : E = u8l (Fr.mk k ac pe true q pn dm ds de 3 0 144115188075855873 ct 1 p m).enc) (e : Int) (he : e ≠ 0)
    (c2 : Good 50 (pu [gS 0 9 [peS 0 4294967295], frS k ac pe true q pn dm ds de 3 0 144115188075855873 ct 1 P M] (.tup [.agg [.nil, .int .u32 0, .int .u32 0, .int .u32 0, .nil], .int .i64 e]))) :
    Good 19 (pu [gS 0 9 [peS 0 4294967295], .lst none E] (.tup [gS 0 9 [peS 0 4294967295], .nil, .bool false])) := by
  have c1 := decode_yes k ac pe q pn dm ds de 3 0 144115188075855873 ct 1 P M p m hP hM ok hv hk E hE
  clear hv ok
  refine Good.of Tryz.func19 rfl (by rfl) (by kernel_rfl) ?_
  cbv
  (repeat' (first
| (refine q1w (fun z hz => ?_); (try simp only at hz); cbv)
| (refine rqw ?_; cbv)
| (refine rqk ?_; cbv)
| (refine chpA ?_; cbv)
| (refine QC.tw ?_; cbv)
| (refine QC.t3 ?_; cbv)
| (refine QC.f3 ?_; cbv)
| (refine QC.fw ?_; cbv)
| (refine QC.mk (fun hc => ?_) (fun hc => ?_) <;> (try dsimp only at hc) <;> cbv)
| (refine br_mk2 (fun hb => ?_) (fun hb => ?_) <;> (try subst hb) <;> cbv)
| (refine callq (c1) rfl rfl ?_; cbv)
| (refine callq (c2) rfl rfl ?_; cbv)))
  exact ⟨rfl, rfl, rfl⟩
theorem opened_yes (k : Int) (ac pe : Bool) (q pn dm ds de ct : Int) (P M : List SV) (p m : List UInt8) (hP : P = u8l p) (hM : M = u8l m)
    (hk : k ≠ 2) (ok : (Fr.mk k ac pe true q pn dm ds de 3 0 144115188075855873 ct 1 p m).Ok)
    (hv : (Fr.mk k ac pe true q pn dm ds de 3 0 144115188075855873 ct 1 p m).valid = true) (E : List SV) (hE : E = u8l (Fr.mk k ac pe true q pn dm ds de 3 0 144115188075855873 ct 1 p m).enc) (w : Int)
    (c2 : Good 50 (pu [gS 0 9 [peS 0 4294967295], frS k ac pe true q pn dm ds de 3 0 144115188075855873 ct 1 P M] (.tup [gS 0 9 [peS ct w], .int .i64 0]))) :
    Good 19 (pu [gS 0 9 [peS 0 4294967295], .lst none E] (.tup [gS 0 9 [peS ct w], .lst none P, .bool true])) := by
  have c1 := decode_yes k ac pe q pn dm ds de 3 0 144115188075855873 ct 1 P M p m hP hM ok hv hk E hE
  clear hv ok
  refine Good.of Tryz.func19 rfl (by rfl) (by kernel_rfl) ?_
  cbv
  (repeat' (first
| (refine q1w (fun z hz => ?_); (try simp only at hz); cbv)
| (refine rqw ?_; cbv)
| (refine rqk ?_; cbv)
| (refine chpA ?_; cbv)
| (refine QC.tw ?_; cbv)
| (refine QC.t3 ?_; cbv)
| (refine QC.f3 ?_; cbv)
| (refine QC.fw ?_; cbv)
| (refine QC.mk (fun hc => ?_) (fun hc => ?_) <;> (try dsimp only at hc) <;> cbv)
| (refine br_mk2 (fun hb => ?_) (fun hb => ?_) <;> (try subst hb) <;> cbv)
| (refine callq (c1) rfl rfl ?_; cbv)
| (refine callq (c2) rfl rfl ?_; cbv)))
  exact ⟨rfl, rfl, rfl⟩
theorem opened_c (k : Int) (ac pe : Bool) (q pn dm ds de ct : Int) (p m : List UInt8)
    (hk : k ≠ 2) (ok : (Fr.mk k ac pe true q pn dm ds de 3 0 144115188075855873 ct 1 p m).Ok)
    (hv : (Fr.mk k ac pe true q pn dm ds de 3 0 144115188075855873 ct 1 p m).valid = true) (E : List SV) (hE : E = u8l (Fr.mk k ac pe true q pn dm ds de 3 0 144115188075855873 ct 1 p m).enc) :
    ∃ (r : Bool) (c w : Int) (PB : List SV), (r = true → tagP (Fr.mk k ac pe true q pn dm ds de 3 0 144115188075855873 ct 1 p m).hdr 4 = m) ∧ Good 19 (pu [gS 0 9 [peS 0 4294967295], .lst none E] (.tup [gS 0 9 [peS c w], .lst none PB, .bool r])) := by
  have hpl : p.length ≤ 127 := (Fr.fits hv).p
  have hml : m.length = 4 := (fr_len _ hv hk).2.2.2.2.2.2.2 rfl
  have hhl : (Fr.mk k ac pe true q pn dm ds de 3 0 144115188075855873 ct 1 p m).hdr.length ≤ 100000 := by have := Fr.hdr_len (Fr.fits hv); omega
  have okct : 0 ≤ ct ∧ ct ≤ 4294967295 := ok.ct
  have wk : ∀ x z, Wk (.tup [x, .nil, z]) (.tup [x, .lst none [], z]) := fun x z => Wk.tup ⟨Wk.rfl' _, Wk.nil none, Wk.rfl' _, trivial⟩
  by_cases hT : tagP (Fr.mk k ac pe true q pn dm ds de 3 0 144115188075855873 ct 1 p m).hdr 4 = m
  · by_cases h0 : ct = 0
    · subst h0
      have c2 := open_old k ac pe q pn dm ds de (u8l p) (u8l m) p m rfl rfl (by omega) hml hk ok hv hhl hT
      exact ⟨false, 0, 4294967295, [], (fun h => by cases h), (opened_no k ac pe q pn dm ds de 0 _ _ p m rfl rfl hk ok hv E hE 13 (by omega) c2).res (wk _ _)⟩
    · obtain ⟨w, hw⟩ : ∃ w : Int, w = (((((4294967295 : Int) * 2 ^ (ct - 0).toNat % 4294967296).toNat ||| Int.toNat 1 : Nat)) : Int) := ⟨_, rfl⟩
      have c2 := open_new k ac pe q pn dm ds de ct (by omega) (u8l p) (u8l m) p m rfl rfl (by omega) hml hk ok hv hhl hT w hw
      exact ⟨true, ct, w, _, fun _ => hT, opened_yes k ac pe q pn dm ds de ct _ _ p m rfl rfl hk ok hv E hE w c2⟩
  · have c2 := open_key k ac pe q pn dm ds de 3 0 144115188075855873 ct 0 9 0 4294967295 (u8l p) (u8l m) p m rfl rfl (by omega) hml (by omega) (by omega) rfl hk ok hv hhl hT
    exact ⟨false, 0, 4294967295, [], (fun h => by cases h), (opened_no k ac pe q pn dm ds de ct _ _ p m rfl rfl hk ok hv E hE 12 (by omega) c2).res (wk _ _)⟩
end Go.Proofs.YtgfpjhddojhfpaaGreat
namespace Go.Proofs.YtgfpjhddojhfpaaGreat
set_option linter.unusedVariables false
set_option linter.unusedSimpArgs false
open Go.RowKit
set_option maxHeartbeats 4000000
set_option linter.unusedSimpArgs false
set_option linter.unusedVariables false
abbrev frQ (k : Int) (ac pe : Bool) (q pn dm ds de ct : Int) (P M : List SV) : SV := frS k ac pe true q pn dm ds de 3 0 144115188075855873 ct 1 P M
structure FFacts (x : SV) (M : List SV) (v : Bool) (H : List SV) (r : Bool) (E : List SV) (g : Bool) (c w : Int) (PB : List SV) : Prop where
  c1 : Good 14 (pu [x] (.bool v))
  c2 : v = true → Good 17 (nu [x] (.row 1) (.row none 5 H))
  c3 : v = true → Good 15 (pu [keyA, .lst none H, .lst none M] (.bool r))
  c4 : v = true → Good 18 (nu [x] (.tup [.row 1, .int .i64 0]) (.row none 5 E))
  c5 : v = true → Good 19 (pu [gS 0 9 [peS 0 4294967295], .lst none E] (.tup [gS 0 9 [peS c w], .lst none PB, .bool g]))
  c6 : v = true → g = true → r = true
  c7 : v = false → Good 18 (pu [x] (.tup [.lst none [], .int .i64 1]))
theorem ffacts (k : Int) (ac pe : Bool) (q pn dm ds de ct : Int) (p m : List UInt8) (ok : (Fr.mk k ac pe true q pn dm ds de 3 0 144115188075855873 ct 1 p m).Ok) (hpl : p.length ≤ 140737488355000) (hml : m.length ≤ 140737488355000) :
    ∃ v H r E g c w PB, FFacts (frQ k ac pe q pn dm ds de ct (u8l p) (u8l m)) (u8l m) v H r E g c w PB := by
  obtain ⟨v, hv⟩ : ∃ v, v = (Fr.mk k ac pe true q pn dm ds de 3 0 144115188075855873 ct 1 p m).valid := ⟨_, rfl⟩
  have c1 := rvalid_c k ac pe q pn dm ds de 3 0 144115188075855873 ct 1 (u8l p) (u8l m) p m rfl (u8l_len _) (by omega) hpl ok v hv
  cases v with
  | false =>
    exact ⟨false, [], false, [], false, 0, 0, [], c1, (fun h => by cases h), (fun h => by cases h), (fun h => by cases h), (fun h => by cases h), (fun h => by cases h),
      fun _ => encode_no k ac pe true q pn dm ds de 3 0 144115188075855873 ct 1 (u8l p) (u8l m) p m (u8l_len _) (u8l_len _) ⟨by omega, by omega⟩ hv.symm⟩
  | true =>
    have hv := hv.symm
    have hk2 : k ≠ 2 := by
      rintro rfl
      have : (if (2 : Int) = 2 then ackV ac true pn dm ds de 3 0 144115188075855873 ct 1 p.length m.length else _) = true := hv
      rw [if_pos rfl, ackV, decide_eq_true_eq] at this
      simp at this
    obtain ⟨_, _, _, _, b5, b6, b7, b8'⟩ := fr_len _ hv hk2
    have hm4 : m.length = 4 := b8' rfl
    have fd : dm = 2 ∨ dm = 3 := by
      have b5 : (dm = 2 ∧ de = 0) ∨ (dm = 3 ∧ ds = 0) := b5
      omega
    have fk : k = 1 ∨ k = 3 := b7
    have hhl := Fr.hdr_len (Fr.fits hv)
    obtain ⟨g, c, w, PB, hg, c5⟩ := opened_c k ac pe q pn dm ds de ct p m hk2 ok hv _ rfl
    refine ⟨true, _, decide (tagP (Fr.mk k ac pe true q pn dm ds de 3 0 144115188075855873 ct 1 p m).hdr 4 = m), _, g, c, w, PB, c1,
      fun _ => rHeader_c k ac pe q pn dm ds de 3 0 144115188075855873 ct 1 (u8l p) (u8l m) p m rfl (u8l_len _) (by omega) hpl ok hv fk fd (by omega) _ rfl,
      fun _ => rverify_c _ m _ (u8l m) rfl (by omega) rfl hm4 _ rfl,
      fun _ => encode_yes k ac pe true q pn dm ds de 3 0 144115188075855873 ct 1 (u8l p) (u8l m) p m rfl rfl ok hv hk2 (by omega) _ rfl,
      fun _ => c5, fun _ h => decide_eq_true (hg h), fun h => by cases h⟩
theorem ffacts2 (k : Int) (ac pe : Bool) (q pn dm ds de ct : Int) (p m : List UInt8) (ok : (Fr.mk k ac pe true q pn dm ds de 3 0 144115188075855873 ct 1 p m).Ok) (hpl : p.length ≤ 140737488355000) (hml : m.length ≤ 140737488355000)
    (p0 m0 : List UInt8) (h0 : p0.length ≤ 60) (g0 : m0.length = 4) (P0 M0 P1 M1 : List SV) (hP0 : P0 = u8l p0) (hM0 : M0 = u8l m0) (hP1 : P1 = u8l p) (hM1 : M1 = u8l m) :
    ∃ (K Q N D S A C W1 W2 : Nat → Int) (AC PE V R G : Nat → Bool) (P M H E PB : Nat → List SV), (∀ i, i < 2 → [frQ 1 true false 0 1 3 0 144115188075855874 1 P0 M0, frQ k ac pe q pn dm ds de ct P1 M1][i]? = some (frQ (K i) (AC i) (PE i) (Q i) (N i) (D i) (S i) (A i) (C i) (P i) (M i))) ∧
      ∀ i, i < 2 → FFacts (frQ (K i) (AC i) (PE i) (Q i) (N i) (D i) (S i) (A i) (C i) (P i) (M i)) (M i) (V i) (H i) (R i) (E i) (G i) (W1 i) (W2 i) (PB i) := by
  obtain ⟨v, H, r, E, g, c, w, PB, ff⟩ := ffacts k ac pe q pn dm ds de ct p m ok hpl hml
  obtain ⟨v', H', r', E', g', c', w', PB', ff'⟩ := ffacts 1 true false 0 1 3 0 144115188075855874 1 p0 m0 (lawF_ok p0 m0 true 1 1 (by omega) (by omega)) (by omega) (by omega)
  rw [← hP1, ← hM1] at ff
  rw [← hP0, ← hM0] at ff'
  refine ⟨fun i => if i = 0 then 1 else k, fun i => if i = 0 then 0 else q, fun i => if i = 0 then 1 else pn, fun i => if i = 0 then 3 else dm, fun i => if i = 0 then 0 else ds, fun i => if i = 0 then 144115188075855874 else de, fun i => if i = 0 then 1 else ct, fun i => if i = 0 then c' else c, fun i => if i = 0 then w' else w,
    fun i => if i = 0 then true else ac, fun i => if i = 0 then false else pe, fun i => if i = 0 then v' else v, fun i => if i = 0 then r' else r, fun i => if i = 0 then g' else g, fun i => if i = 0 then P0 else P1, fun i => if i = 0 then M0 else M1, fun i => if i = 0 then H' else H, fun i => if i = 0 then E' else E, fun i => if i = 0 then PB' else PB, ?_, ?_⟩
  · intro i hi
    match i, hi with
    | 0, _ => rfl
    | 1, _ => rfl
  · intro i hi
    match i, hi with
    | 0, _ => exact ff'
    | 1, _ => exact ff
end Go.Proofs.YtgfpjhddojhfpaaGreat
namespace Go.Proofs.YtgfpjhddojhfpaaGreat
set_option linter.unusedVariables false
set_option linter.unusedSimpArgs false
open Go.RowKit
theorem wf_boolX {n : Nat} {x : SV} (h : wfC tinfo n 4 [x]) : ∃ b, x = .bool b := by
  cases n with
  | zero => exact h.elim
  | succ n =>
    simp only [wfC, show tinfo 4 = some ⟨.bool, 1, 1, .bool false⟩ from rfl] at h
    obtain ⟨b, h⟩ := h
    simp at h
    exact ⟨b, h⟩
theorem open_addr {n : Nat} {xs : List SV} (h : wfC tinfo n 28 xs) : ∃ m s e : Int, (0 ≤ s ∧ s ≤ 65535) ∧ u6 e ∧ xs = [.int .i64 m, .int .u16 s, .int .u64 e] := by
  obtain ⟨hl, n', h⟩ := wf_struct (show tinfo 28 = some _ from rfl) rfl h
  match xs, hl with
  | [a, b, c], _ =>
    obtain ⟨z0, rfl, w0⟩ := wf_int (show tinfo 3 = some _ from rfl) rfl (h (0, 3) (by simp) _ rfl)
    obtain ⟨z1, rfl, w1⟩ := wf_int (show tinfo 24 = some _ from rfl) rfl (h (1, 24) (by simp) _ rfl)
    obtain ⟨z2, rfl, w2⟩ := wf_int (show tinfo 26 = some _ from rfl) rfl (h (2, 26) (by simp) _ rfl)
    have b1 := bounds_u16 w1
    have b2 := bounds_u64 w2
    exact ⟨z0, z1, z2, b1, by unfold u6; omega, rfl⟩
structure FrIn (f : Fr) : Prop where
  ok : f.Ok
  p : f.P.length ≤ 140737488351232
  m : f.M.length ≤ 140737488351232
abbrev Fr.cells (f : Fr) : List SV := [.int .i64 f.k, .bool f.ac, .bool f.pe, .bool f.se, .int .u8 f.q, .int .u16 f.pn, .int .i64 f.dm, .int .u16 f.ds, .int .u64 f.de, .int .i64 f.um, .int .u16 f.us, .int .u64 f.ue, .int .u32 f.ct, .int .u8 f.ky, .lst none (u8l f.P), .lst none (u8l f.M)]
theorem open_frame {n : Nat} {xs : List SV} (h : wfC tinfo n 32 xs) : ∃ f : Fr, FrIn f ∧ xs = f.cells := by
  obtain ⟨hl, n', h⟩ := wf_struct (show tinfo 32 = some _ from rfl) rfl h
  match xs, hl with
  | [x0, x1, x2, x3, x4, x5, x6, x7, x8, x9, x10, x11, x12, x13, x14, x15], _ =>
    obtain ⟨z0, rfl, w0⟩ := wf_int (show tinfo 3 = some _ from rfl) rfl (h (0, 3) (by simp) _ rfl)
    obtain ⟨z1, rfl⟩ := wf_boolX (h (1, 4) (by simp) _ rfl)
    obtain ⟨z2, rfl⟩ := wf_boolX (h (2, 4) (by simp) _ rfl)
    obtain ⟨z3, rfl⟩ := wf_boolX (h (3, 4) (by simp) _ rfl)
    obtain ⟨z4, rfl, w4⟩ := wf_int (show tinfo 5 = some _ from rfl) rfl (h (4, 5) (by simp) _ rfl)
    obtain ⟨z5, rfl, w5⟩ := wf_int (show tinfo 23 = some _ from rfl) rfl (h (5, 23) (by simp) _ rfl)
    obtain ⟨dm, ds, de, a1, a2, a3⟩ := open_addr (h (6, 28) (by simp) _ rfl)
    obtain ⟨um, us, ue, b1, b2, b3⟩ := open_addr (h (9, 28) (by simp) _ rfl)
    obtain ⟨z12, rfl, w12⟩ := wf_int (show tinfo 29 = some _ from rfl) rfl (h (12, 29) (by simp) _ rfl)
    obtain ⟨z13, rfl, w13⟩ := wf_int (show tinfo 5 = some _ from rfl) rfl (h (13, 5) (by simp) _ rfl)
    obtain ⟨p, rfl, w14⟩ := wf_bytes (h (14, 30) (by simp) _ rfl)
    obtain ⟨m, rfl, w15⟩ := wf_bytes (h (15, 30) (by simp) _ rfl)
    have c4 := bounds_u8 w4
    have c5 := bounds_u16 w5
    have c12 := bounds_u32 w12
    have c13 := bounds_u8 w13
    have a7 : [x6, x7, x8] = [SV.int .i64 dm, .int .u16 ds, .int .u64 de] := a3
    have b7 : [x9, x10, x11] = [SV.int .i64 um, .int .u16 us, .int .u64 ue] := b3
    simp only [List.cons.injEq, and_true] at a7 b7
    obtain ⟨rfl, rfl, rfl⟩ := a7
    obtain ⟨rfl, rfl, rfl⟩ := b7
    exact ⟨⟨z0, z1, z2, z3, z4, z5, dm, ds, de, um, us, ue, z12, z13, p, m⟩, ⟨⟨c4, c5, a1, a2, b1, b2, c12, c13⟩, w14, w15⟩, rfl⟩
end Go.Proofs.YtgfpjhddojhfpaaGreat
