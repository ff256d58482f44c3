/- MediumFresh: the walk of the law. -/
import Derived.Test.YtligbjbkecmecaaDoorFrA
import Derived.Test.YtligbjbkecmecaaDoorFrB
namespace Go.Proofs.YtligbjbkecmecaaDoor
set_option linter.unusedVariables false
set_option linter.unusedSimpArgs false
open Go.RowKit
set_option maxHeartbeats 8000000
set_option linter.unusedSimpArgs false
set_option linter.unusedVariables false
/-- What the row is while its elements are counted up, and what they were. -/
theorem upG (ys : List UInt8) (Y : List SV) (hY : Y = u8l ys) : ∃ (G : Nat → List SV) (v : Nat → Int), G 0 = Y ∧ (∀ i, (G i).length = ys.length) ∧ (∀ i, i < ys.length → 0 ≤ v i ∧ v i ≤ 255 ∧ Y[i]? = some (.int .u8 (v i)) ∧ (G i)[i]? = some (.int .u8 (v i))) ∧
    ∀ i z, i < ys.length → z = (v i + 1) % 256 → O.st (G i) i (.int .u8 z) = G (i + 1) := by
  obtain ⟨v, hv⟩ : ∃ v : Nat → Int, ∀ i, v i = ((ys.getD i 0).toNat : Int) := ⟨_, fun _ => rfl⟩
  refine ⟨fun i => (ys.take i).map (fun b => SV.int .u8 (((b.toNat : Int) + 1) % 256)) ++ u8l (ys.drop i), v, by simp [hY], fun i => by simp [u8l]; omega, fun i hi => ?_, fun i z hi hz => ?_⟩
  · have h1 := (ys.getD i 0).toNat_lt
    have e : ys.getD i 0 = ys[i] := by simp [List.getD, hi]
    have hvi := hv i
    refine ⟨by omega, by omega, ?_, ?_⟩
    · rw [hvi, hY, u8l, List.getElem?_map, List.getElem?_eq_getElem hi, e]; rfl
    · dsimp only
      rw [hvi, List.getElem?_append_right (by simp; omega), List.length_map, List.length_take, Nat.min_eq_left (by omega), Nat.sub_self, u8l, List.getElem?_map, List.getElem?_drop, Nat.add_zero, List.getElem?_eq_getElem hi, e]; rfl
  · dsimp only
    have e : ys.getD i 0 = ys[i] := by simp [List.getD, hi]
    rw [ost, List.set_append_right _ _ (by simp; omega), List.length_map, List.length_take, Nat.min_eq_left (by omega), Nat.sub_self, List.take_add_one, List.getElem?_eq_getElem hi, List.drop_eq_getElem_cons hi, hz, hv, e, List.map_append, List.append_assoc]
    rfl
set_option maxRecDepth 20000 in
theorem fresh_c (bs : List UInt8) (X : List SV) (hX : X = u8l bs) (hl : bs.length ≤ 140737488351232) : Good 3 (pu [.lst none X] (.bool true)) := by
  have gk := known_law
  have hXl : X.length = bs.length := by rw [hX, u8l_len]
  by_cases hb : bs.length ≤ 127
  · obtain ⟨ys, hyd⟩ : ∃ ys, ys = bs := ⟨_, rfl⟩
    have hY : X = u8l ys := by rw [hX, hyd]
    have hys : ys.length ≤ 127 := by rw [hyd]; exact hb
    have hYl : X.length ≤ 127 := by omega
    obtain ⟨G, v, G0, Gl, Gv, Gs⟩ := upG ys X hY
    refine Good.of Tryd.func3 rfl (by rfl) (by kernel_rfl) ?_
    cbv
    (repeat' (first
| (refine q1w (fun z hz => ?_); (try simp only at hz); cbv)
| (refine rqw ?_; cbv)
| (refine rqk ?_; cbv)
| (refine chpA ?_; cbv)
| (refine QC.tw ?_; cbv)
| (refine QC.t3 ?_; cbv)
| (refine QC.f3 ?_; cbv)
| (refine QC.fw ?_; cbv)
| (refine QC.mk (fun hc => ?_) (fun hc => ?_) <;> (try dsimp only at hc) <;> cbv)
| (refine br_mk2 (fun hb => ?_) (fun hb => ?_) <;> (try subst hb) <;> cbv)
| ((refine qvIdx _ (by rfl) (by decide) ?_; cbv))))
    have hmk : True := trivial
    refine callq (dfresh ys X hY hys) rfl rfl ?_
    cbv
    (repeat' (first
| (refine q1w (fun z hz => ?_); (try simp only at hz); cbv)
| (refine rqw ?_; cbv)
| (refine rqk ?_; cbv)
| (refine chpA ?_; cbv)
| (refine QC.tw ?_; cbv)
| (refine QC.t3 ?_; cbv)
| (refine QC.f3 ?_; cbv)
| (refine QC.fw ?_; cbv)
| (refine QC.mk (fun hc => ?_) (fun hc => ?_) <;> (try dsimp only at hc) <;> cbv)
| (refine br_mk2 (fun hb => ?_) (fun hb => ?_) <;> (try subst hb) <;> cbv)
| ((refine qvIdx _ (by rfl) (by decide) ?_; cbv))))
    · exact absurd rfl hc
    refine loopQ (A := Nat × Int) (fun p => p.2 = p.1 ∧ p.1 ≤ ys.length) (fun p => ys.length - p.1) (fun p => [(7, .int .i64 p.2)]) (fun p => [(29, .row none 5 (G p.1))]) (0, 0) ⟨rfl, Nat.zero_le _⟩ ?_ ?_
    · cbv
      exact ⟨congrArg (Blk.row none 5) G0.symm, trivial⟩
    intro ⟨i, j⟩ hh
    have hj : j = (i : Int) := hh.1
    have hi : i ≤ ys.length := hh.2
    clear hh
    have hjb : 0 ≤ j ∧ j ≤ 127 := by omega
    have hmk2 : True := trivial
    cbv
    (repeat' (first
| (refine q1w (fun z hz => ?_); (try simp only at hz); cbv)
| (refine rqw ?_; cbv)
| (refine rqk ?_; cbv)
| (refine chpA ?_; cbv)
| (refine QC.tw ?_; cbv)
| (refine QC.t3 ?_; cbv)
| (refine QC.f3 ?_; cbv)
| (refine QC.fw ?_; cbv)
| (refine QC.mk (fun hc => ?_) (fun hc => ?_) <;> (try dsimp only at hc) <;> cbv)
| (refine br_mk2 (fun hb => ?_) (fun hb => ?_) <;> (try subst hb) <;> cbv)
| ((refine qvIdx _ (by rfl) (by decide) ?_; cbv))))
    · have hj1 : j = (i : Int) := hj
      have hz1 : z = (ys.length : Int) := hz.trans (by show ((O.ln X : Nat) : Int) = _; rw [oln, hY, u8l_len])
      have hlt : i < ys.length := by omega
      obtain ⟨w1, w2, w3, w4⟩ := Gv i hlt
      refine qv i ⟨hj, by rw [oln, Gl]; exact hlt⟩ ?_
      cbv
      (repeat' (first
| (refine q1w (fun z hz => ?_); (try simp only at hz); cbv)
| (refine rqw ?_; cbv)
| (refine rqk ?_; cbv)
| (refine chpA ?_; cbv)
| (refine QC.tw ?_; cbv)
| (refine QC.t3 ?_; cbv)
| (refine QC.f3 ?_; cbv)
| (refine QC.fw ?_; cbv)
| (refine QC.mk (fun hc => ?_) (fun hc => ?_) <;> (try dsimp only at hc) <;> cbv)
| (refine br_mk2 (fun hb => ?_) (fun hb => ?_) <;> (try subst hb) <;> cbv)))
      refine qv _ w4 ?_
      cbv
      (repeat' (first
| (refine q1w (fun z hz => ?_); (try simp only at hz); cbv)
| (refine rqw ?_; cbv)
| (refine rqk ?_; cbv)
| (refine chpA ?_; cbv)
| (refine QC.tw ?_; cbv)
| (refine QC.t3 ?_; cbv)
| (refine QC.f3 ?_; cbv)
| (refine QC.fw ?_; cbv)
| (refine QC.mk (fun hc => ?_) (fun hc => ?_) <;> (try dsimp only at hc) <;> cbv)
| (refine br_mk2 (fun hb => ?_) (fun hb => ?_) <;> (try subst hb) <;> cbv)))
      have hgs := Gs i z hlt hz
      refine qv i ⟨hj, by rw [oln, Gl]; exact hlt⟩ ?_
      cbv
      have hmk3 : True := trivial
      refine rq (by show i < O.ln (G i); rw [oln, Gl]; exact hlt) ?_
      cbv
      (repeat' (first
| (refine q1w (fun z hz => ?_); (try simp only at hz); cbv)
| (refine rqw ?_; cbv)
| (refine rqk ?_; cbv)
| (refine chpA ?_; cbv)
| (refine QC.tw ?_; cbv)
| (refine QC.t3 ?_; cbv)
| (refine QC.f3 ?_; cbv)
| (refine QC.fw ?_; cbv)
| (refine QC.mk (fun hc => ?_) (fun hc => ?_) <;> (try dsimp only at hc) <;> cbv)
| (refine br_mk2 (fun hb => ?_) (fun hb => ?_) <;> (try subst hb) <;> cbv)))
      have hj2 : j = (i : Int) := hj
      refine ⟨(i + 1, z), ⟨by show z = ((i + 1 : Nat) : Int); omega, hlt⟩, by show ys.length - (i + 1) < ys.length - i; omega, ?_⟩
      cbv
      exact ⟨congrArg (Blk.row none 5) hgs, trivial⟩
    · have hj1 : j = (i : Int) := hj
      have hmk3 : True := trivial
      (repeat' (first
| (refine q1w (fun z hz => ?_); (try simp only at hz); cbv)
| (refine rqw ?_; cbv)
| (refine rqk ?_; cbv)
| (refine chpA ?_; cbv)
| (refine QC.tw ?_; cbv)
| (refine QC.t3 ?_; cbv)
| (refine QC.f3 ?_; cbv)
| (refine QC.fw ?_; cbv)
| (refine QC.mk (fun hc => ?_) (fun hc => ?_) <;> (try dsimp only at hc) <;> cbv)
| (refine br_mk2 (fun hb => ?_) (fun hb => ?_) <;> (try subst hb) <;> cbv)))
      refine loopQ (A := Nat × Int) (fun p => p.2 = p.1 ∧ p.1 ≤ ys.length) (fun p => ys.length - p.1) (fun p => [(8, .int .i64 p.2)]) (fun p => []) (0, 0) ⟨rfl, Nat.zero_le _⟩ ?_ ?_
      · cbv
      intro ⟨i2, j2⟩ hh
      have hjj : j2 = (i2 : Int) := hh.1
      have hii : i2 ≤ ys.length := hh.2
      clear hh
      have hjb2 : 0 ≤ j2 ∧ j2 ≤ 127 := by omega
      have hmk4 : True := trivial
      cbv
      (repeat' (first
| (refine q1w (fun z hz => ?_); (try simp only at hz); cbv)
| (refine rqw ?_; cbv)
| (refine rqk ?_; cbv)
| (refine chpA ?_; cbv)
| (refine QC.tw ?_; cbv)
| (refine QC.t3 ?_; cbv)
| (refine QC.f3 ?_; cbv)
| (refine QC.fw ?_; cbv)
| (refine QC.mk (fun hc => ?_) (fun hc => ?_) <;> (try dsimp only at hc) <;> cbv)
| (refine br_mk2 (fun hb => ?_) (fun hb => ?_) <;> (try subst hb) <;> cbv)
| (refine callq (gk) rfl rfl ?_; cbv)))
      · have hj3 : j2 = (i2 : Int) := hjj
        have hz2 : z = (ys.length : Int) := hz.trans (by show ((O.ln X : Nat) : Int) = _; rw [oln, hY, u8l_len])
        have hlt : i2 < ys.length := by omega
        obtain ⟨w1, w2, w3, w4⟩ := Gv i2 hlt
        have hxl : i2 < O.ln X := by rw [oln, hY, u8l_len]; exact hlt
        refine qv (i2, _) ⟨hjj, w3⟩ ?_
        cbv
        (repeat' (first
| (refine q1w (fun z hz => ?_); (try simp only at hz); cbv)
| (refine rqw ?_; cbv)
| (refine rqk ?_; cbv)
| (refine chpA ?_; cbv)
| (refine QC.tw ?_; cbv)
| (refine QC.t3 ?_; cbv)
| (refine QC.f3 ?_; cbv)
| (refine QC.fw ?_; cbv)
| (refine QC.mk (fun hc => ?_) (fun hc => ?_) <;> (try dsimp only at hc) <;> cbv)
| (refine br_mk2 (fun hb => ?_) (fun hb => ?_) <;> (try subst hb) <;> cbv)))
        refine qv i2 ⟨hjj, hxl⟩ ?_
        cbv
        (repeat' (first
| (refine q1w (fun z hz => ?_); (try simp only at hz); cbv)
| (refine rqw ?_; cbv)
| (refine rqk ?_; cbv)
| (refine chpA ?_; cbv)
| (refine QC.tw ?_; cbv)
| (refine QC.t3 ?_; cbv)
| (refine QC.f3 ?_; cbv)
| (refine QC.fw ?_; cbv)
| (refine QC.mk (fun hc => ?_) (fun hc => ?_) <;> (try dsimp only at hc) <;> cbv)
| (refine br_mk2 (fun hb => ?_) (fun hb => ?_) <;> (try subst hb) <;> cbv)))
        refine qv _ w3 ?_
        cbv
        (repeat' (first
| (refine q1w (fun z hz => ?_); (try simp only at hz); cbv)
| (refine rqw ?_; cbv)
| (refine rqk ?_; cbv)
| (refine chpA ?_; cbv)
| (refine QC.tw ?_; cbv)
| (refine QC.t3 ?_; cbv)
| (refine QC.f3 ?_; cbv)
| (refine QC.fw ?_; cbv)
| (refine QC.mk (fun hc => ?_) (fun hc => ?_) <;> (try dsimp only at hc) <;> cbv)
| (refine br_mk2 (fun hb => ?_) (fun hb => ?_) <;> (try subst hb) <;> cbv)
| ((refine qvIdx _ (by rfl) (by decide) ?_; cbv))))
        refine qv (i2, _) ⟨hjj, w3⟩ ?_
        cbv
        (repeat' (first
| (refine q1w (fun z hz => ?_); (try simp only at hz); cbv)
| (refine rqw ?_; cbv)
| (refine rqk ?_; cbv)
| (refine chpA ?_; cbv)
| (refine QC.tw ?_; cbv)
| (refine QC.t3 ?_; cbv)
| (refine QC.f3 ?_; cbv)
| (refine QC.fw ?_; cbv)
| (refine QC.mk (fun hc => ?_) (fun hc => ?_) <;> (try dsimp only at hc) <;> cbv)
| (refine br_mk2 (fun hb => ?_) (fun hb => ?_) <;> (try subst hb) <;> cbv)))
        refine qv i2 ⟨hjj, hxl⟩ ?_
        cbv
        (repeat' (first
| (refine q1w (fun z hz => ?_); (try simp only at hz); cbv)
| (refine rqw ?_; cbv)
| (refine rqk ?_; cbv)
| (refine chpA ?_; cbv)
| (refine QC.tw ?_; cbv)
| (refine QC.t3 ?_; cbv)
| (refine QC.f3 ?_; cbv)
| (refine QC.fw ?_; cbv)
| (refine QC.mk (fun hc => ?_) (fun hc => ?_) <;> (try dsimp only at hc) <;> cbv)
| (refine br_mk2 (fun hb => ?_) (fun hb => ?_) <;> (try subst hb) <;> cbv)))
        refine qv _ w3 ?_
        cbv
        (repeat' (first
| (refine q1w (fun z hz => ?_); (try simp only at hz); cbv)
| (refine rqw ?_; cbv)
| (refine rqk ?_; cbv)
| (refine chpA ?_; cbv)
| (refine QC.tw ?_; cbv)
| (refine QC.t3 ?_; cbv)
| (refine QC.f3 ?_; cbv)
| (refine QC.fw ?_; cbv)
| (refine QC.mk (fun hc => ?_) (fun hc => ?_) <;> (try dsimp only at hc) <;> cbv)
| (refine br_mk2 (fun hb => ?_) (fun hb => ?_) <;> (try subst hb) <;> cbv)))
        have hj4 : j2 = (i2 : Int) := hjj
        refine ⟨(i2 + 1, z), ⟨by show z = ((i2 + 1 : Nat) : Int); omega, hlt⟩, by show ys.length - (i2 + 1) < ys.length - i2; omega, ?_⟩
        cbv
      · exact ⟨rfl, rfl, rfl⟩
  · obtain ⟨ys, hyd⟩ : ∃ ys, ys = bs.take 127 := ⟨_, rfl⟩
    have hY : O.tk 127 X = u8l ys := by rw [otk, hX, hyd, u8l_take]; rfl
    have hys : ys.length ≤ 127 := by rw [hyd, List.length_take]; omega
    have hYl : (O.tk 127 X).length ≤ 127 := by rw [hY, u8l_len]; exact hys
    obtain ⟨G, v, G0, Gl, Gv, Gs⟩ := upG ys (O.tk 127 X) hY
    refine Good.of Tryd.func3 rfl (by rfl) (by kernel_rfl) ?_
    cbv
    (repeat' (first
| (refine q1w (fun z hz => ?_); (try simp only at hz); cbv)
| (refine rqw ?_; cbv)
| (refine rqk ?_; cbv)
| (refine chpA ?_; cbv)
| (refine QC.tw ?_; cbv)
| (refine QC.t3 ?_; cbv)
| (refine QC.f3 ?_; cbv)
| (refine QC.fw ?_; cbv)
| (refine QC.mk (fun hc => ?_) (fun hc => ?_) <;> (try dsimp only at hc) <;> cbv)
| (refine br_mk2 (fun hb => ?_) (fun hb => ?_) <;> (try subst hb) <;> cbv)
| ((refine qvIdx _ (by rfl) (by decide) ?_; cbv))))
    have hmk : True := trivial
    refine callq (dfresh ys (O.tk 127 X) hY hys) rfl rfl ?_
    cbv
    (repeat' (first
| (refine q1w (fun z hz => ?_); (try simp only at hz); cbv)
| (refine rqw ?_; cbv)
| (refine rqk ?_; cbv)
| (refine chpA ?_; cbv)
| (refine QC.tw ?_; cbv)
| (refine QC.t3 ?_; cbv)
| (refine QC.f3 ?_; cbv)
| (refine QC.fw ?_; cbv)
| (refine QC.mk (fun hc => ?_) (fun hc => ?_) <;> (try dsimp only at hc) <;> cbv)
| (refine br_mk2 (fun hb => ?_) (fun hb => ?_) <;> (try subst hb) <;> cbv)
| ((refine qvIdx _ (by rfl) (by decide) ?_; cbv))))
    · exact absurd rfl hc
    refine loopQ (A := Nat × Int) (fun p => p.2 = p.1 ∧ p.1 ≤ ys.length) (fun p => ys.length - p.1) (fun p => [(7, .int .i64 p.2)]) (fun p => [(29, .row none 5 (G p.1))]) (0, 0) ⟨rfl, Nat.zero_le _⟩ ?_ ?_
    · cbv
      exact ⟨congrArg (Blk.row none 5) G0.symm, trivial⟩
    intro ⟨i, j⟩ hh
    have hj : j = (i : Int) := hh.1
    have hi : i ≤ ys.length := hh.2
    clear hh
    have hjb : 0 ≤ j ∧ j ≤ 127 := by omega
    have hmk2 : True := trivial
    cbv
    (repeat' (first
| (refine q1w (fun z hz => ?_); (try simp only at hz); cbv)
| (refine rqw ?_; cbv)
| (refine rqk ?_; cbv)
| (refine chpA ?_; cbv)
| (refine QC.tw ?_; cbv)
| (refine QC.t3 ?_; cbv)
| (refine QC.f3 ?_; cbv)
| (refine QC.fw ?_; cbv)
| (refine QC.mk (fun hc => ?_) (fun hc => ?_) <;> (try dsimp only at hc) <;> cbv)
| (refine br_mk2 (fun hb => ?_) (fun hb => ?_) <;> (try subst hb) <;> cbv)
| ((refine qvIdx _ (by rfl) (by decide) ?_; cbv))))
    · have hj1 : j = (i : Int) := hj
      have hz1 : z = (ys.length : Int) := hz.trans (by show ((O.ln (O.tk 127 X) : Nat) : Int) = _; rw [oln, hY, u8l_len])
      have hlt : i < ys.length := by omega
      obtain ⟨w1, w2, w3, w4⟩ := Gv i hlt
      refine qv i ⟨hj, by rw [oln, Gl]; exact hlt⟩ ?_
      cbv
      (repeat' (first
| (refine q1w (fun z hz => ?_); (try simp only at hz); cbv)
| (refine rqw ?_; cbv)
| (refine rqk ?_; cbv)
| (refine chpA ?_; cbv)
| (refine QC.tw ?_; cbv)
| (refine QC.t3 ?_; cbv)
| (refine QC.f3 ?_; cbv)
| (refine QC.fw ?_; cbv)
| (refine QC.mk (fun hc => ?_) (fun hc => ?_) <;> (try dsimp only at hc) <;> cbv)
| (refine br_mk2 (fun hb => ?_) (fun hb => ?_) <;> (try subst hb) <;> cbv)))
      refine qv _ w4 ?_
      cbv
      (repeat' (first
| (refine q1w (fun z hz => ?_); (try simp only at hz); cbv)
| (refine rqw ?_; cbv)
| (refine rqk ?_; cbv)
| (refine chpA ?_; cbv)
| (refine QC.tw ?_; cbv)
| (refine QC.t3 ?_; cbv)
| (refine QC.f3 ?_; cbv)
| (refine QC.fw ?_; cbv)
| (refine QC.mk (fun hc => ?_) (fun hc => ?_) <;> (try dsimp only at hc) <;> cbv)
| (refine br_mk2 (fun hb => ?_) (fun hb => ?_) <;> (try subst hb) <;> cbv)))
      have hgs := Gs i z hlt hz
      refine qv i ⟨hj, by rw [oln, Gl]; exact hlt⟩ ?_
      cbv
      have hmk3 : True := trivial
      refine rq (by show i < O.ln (G i); rw [oln, Gl]; exact hlt) ?_
      cbv
      (repeat' (first
| (refine q1w (fun z hz => ?_); (try simp only at hz); cbv)
| (refine rqw ?_; cbv)
| (refine rqk ?_; cbv)
| (refine chpA ?_; cbv)
| (refine QC.tw ?_; cbv)
| (refine QC.t3 ?_; cbv)
| (refine QC.f3 ?_; cbv)
| (refine QC.fw ?_; cbv)
| (refine QC.mk (fun hc => ?_) (fun hc => ?_) <;> (try dsimp only at hc) <;> cbv)
| (refine br_mk2 (fun hb => ?_) (fun hb => ?_) <;> (try subst hb) <;> cbv)))
      have hj2 : j = (i : Int) := hj
      refine ⟨(i + 1, z), ⟨by show z = ((i + 1 : Nat) : Int); omega, hlt⟩, by show ys.length - (i + 1) < ys.length - i; omega, ?_⟩
      cbv
      exact ⟨congrArg (Blk.row none 5) hgs, trivial⟩
    · have hj1 : j = (i : Int) := hj
      have hmk3 : True := trivial
      (repeat' (first
| (refine q1w (fun z hz => ?_); (try simp only at hz); cbv)
| (refine rqw ?_; cbv)
| (refine rqk ?_; cbv)
| (refine chpA ?_; cbv)
| (refine QC.tw ?_; cbv)
| (refine QC.t3 ?_; cbv)
| (refine QC.f3 ?_; cbv)
| (refine QC.fw ?_; cbv)
| (refine QC.mk (fun hc => ?_) (fun hc => ?_) <;> (try dsimp only at hc) <;> cbv)
| (refine br_mk2 (fun hb => ?_) (fun hb => ?_) <;> (try subst hb) <;> cbv)))
      refine loopQ (A := Nat × Int) (fun p => p.2 = p.1 ∧ p.1 ≤ ys.length) (fun p => ys.length - p.1) (fun p => [(8, .int .i64 p.2)]) (fun p => []) (0, 0) ⟨rfl, Nat.zero_le _⟩ ?_ ?_
      · cbv
      intro ⟨i2, j2⟩ hh
      have hjj : j2 = (i2 : Int) := hh.1
      have hii : i2 ≤ ys.length := hh.2
      clear hh
      have hjb2 : 0 ≤ j2 ∧ j2 ≤ 127 := by omega
      have hmk4 : True := trivial
      cbv
      (repeat' (first
| (refine q1w (fun z hz => ?_); (try simp only at hz); cbv)
| (refine rqw ?_; cbv)
| (refine rqk ?_; cbv)
| (refine chpA ?_; cbv)
| (refine QC.tw ?_; cbv)
| (refine QC.t3 ?_; cbv)
| (refine QC.f3 ?_; cbv)
| (refine QC.fw ?_; cbv)
| (refine QC.mk (fun hc => ?_) (fun hc => ?_) <;> (try dsimp only at hc) <;> cbv)
| (refine br_mk2 (fun hb => ?_) (fun hb => ?_) <;> (try subst hb) <;> cbv)
| (refine callq (gk) rfl rfl ?_; cbv)))
      · have hj3 : j2 = (i2 : Int) := hjj
        have hz2 : z = (ys.length : Int) := hz.trans (by show ((O.ln (O.tk 127 X) : Nat) : Int) = _; rw [oln, hY, u8l_len])
        have hlt : i2 < ys.length := by omega
        obtain ⟨w1, w2, w3, w4⟩ := Gv i2 hlt
        have hxl : i2 < O.ln (O.tk 127 X) := by rw [oln, hY, u8l_len]; exact hlt
        refine qv (i2, _) ⟨hjj, w3⟩ ?_
        cbv
        (repeat' (first
| (refine q1w (fun z hz => ?_); (try simp only at hz); cbv)
| (refine rqw ?_; cbv)
| (refine rqk ?_; cbv)
| (refine chpA ?_; cbv)
| (refine QC.tw ?_; cbv)
| (refine QC.t3 ?_; cbv)
| (refine QC.f3 ?_; cbv)
| (refine QC.fw ?_; cbv)
| (refine QC.mk (fun hc => ?_) (fun hc => ?_) <;> (try dsimp only at hc) <;> cbv)
| (refine br_mk2 (fun hb => ?_) (fun hb => ?_) <;> (try subst hb) <;> cbv)))
        refine qv i2 ⟨hjj, hxl⟩ ?_
        cbv
        (repeat' (first
| (refine q1w (fun z hz => ?_); (try simp only at hz); cbv)
| (refine rqw ?_; cbv)
| (refine rqk ?_; cbv)
| (refine chpA ?_; cbv)
| (refine QC.tw ?_; cbv)
| (refine QC.t3 ?_; cbv)
| (refine QC.f3 ?_; cbv)
| (refine QC.fw ?_; cbv)
| (refine QC.mk (fun hc => ?_) (fun hc => ?_) <;> (try dsimp only at hc) <;> cbv)
| (refine br_mk2 (fun hb => ?_) (fun hb => ?_) <;> (try subst hb) <;> cbv)))
        refine qv _ w3 ?_
        cbv
        (repeat' (first
| (refine q1w (fun z hz => ?_); (try simp only at hz); cbv)
| (refine rqw ?_; cbv)
| (refine rqk ?_; cbv)
| (refine chpA ?_; cbv)
| (refine QC.tw ?_; cbv)
| (refine QC.t3 ?_; cbv)
| (refine QC.f3 ?_; cbv)
| (refine QC.fw ?_; cbv)
| (refine QC.mk (fun hc => ?_) (fun hc => ?_) <;> (try dsimp only at hc) <;> cbv)
| (refine br_mk2 (fun hb => ?_) (fun hb => ?_) <;> (try subst hb) <;> cbv)
| ((refine qvIdx _ (by rfl) (by decide) ?_; cbv))))
        refine qv (i2, _) ⟨hjj, w3⟩ ?_
        cbv
        (repeat' (first
| (refine q1w (fun z hz => ?_); (try simp only at hz); cbv)
| (refine rqw ?_; cbv)
| (refine rqk ?_; cbv)
| (refine chpA ?_; cbv)
| (refine QC.tw ?_; cbv)
| (refine QC.t3 ?_; cbv)
| (refine QC.f3 ?_; cbv)
| (refine QC.fw ?_; cbv)
| (refine QC.mk (fun hc => ?_) (fun hc => ?_) <;> (try dsimp only at hc) <;> cbv)
| (refine br_mk2 (fun hb => ?_) (fun hb => ?_) <;> (try subst hb) <;> cbv)))
        refine qv i2 ⟨hjj, hxl⟩ ?_
        cbv
        (repeat' (first
| (refine q1w (fun z hz => ?_); (try simp only at hz); cbv)
| (refine rqw ?_; cbv)
| (refine rqk ?_; cbv)
| (refine chpA ?_; cbv)
| (refine QC.tw ?_; cbv)
| (refine QC.t3 ?_; cbv)
| (refine QC.f3 ?_; cbv)
| (refine QC.fw ?_; cbv)
| (refine QC.mk (fun hc => ?_) (fun hc => ?_) <;> (try dsimp only at hc) <;> cbv)
| (refine br_mk2 (fun hb => ?_) (fun hb => ?_) <;> (try subst hb) <;> cbv)))
        refine qv _ w3 ?_
        cbv
        (repeat' (first
| (refine q1w (fun z hz => ?_); (try simp only at hz); cbv)
| (refine rqw ?_; cbv)
| (refine rqk ?_; cbv)
| (refine chpA ?_; cbv)
| (refine QC.tw ?_; cbv)
| (refine QC.t3 ?_; cbv)
| (refine QC.f3 ?_; cbv)
| (refine QC.fw ?_; cbv)
| (refine QC.mk (fun hc => ?_) (fun hc => ?_) <;> (try dsimp only at hc) <;> cbv)
| (refine br_mk2 (fun hb => ?_) (fun hb => ?_) <;> (try subst hb) <;> cbv)))
        have hj4 : j2 = (i2 : Int) := hjj
        refine ⟨(i2 + 1, z), ⟨by show z = ((i2 + 1 : Nat) : Int); omega, hlt⟩, by show ys.length - (i2 + 1) < ys.length - i2; omega, ?_⟩
        cbv
      · exact ⟨rfl, rfl, rfl⟩
end Go.Proofs.YtligbjbkecmecaaDoor
