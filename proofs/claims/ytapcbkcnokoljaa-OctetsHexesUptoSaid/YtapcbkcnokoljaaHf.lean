/- The law OctetsHexes. -/
import Derived.Test.YtapcbkcnokoljaaHx
namespace Go.Proofs.Ytapcbkcnokoljaa
set_option linter.unusedVariables false
set_option linter.unusedSimpArgs false
open Go.RowKit
set_option maxHeartbeats 4000000
set_option linter.unusedSimpArgs false
theorem mod2_c (v n : Int) (hv : -9223372036854775808 ≤ v ∧ v ≤ 9223372036854775807) (hn : 1 ≤ n ∧ n ≤ 1000000000000) : Good 10 (pu [.int .i64 v, .int .i64 n] (.int .i64 (v % n))) := by
  have h1 := Int.tmod_lt_of_pos v (show 0 < n by omega)
  have h2 := Int.lt_tmod_of_pos v (show 0 < n by omega)
  have h3 : v % n = if v.tmod n < 0 then v.tmod n + n else v.tmod n := by
    have e : v % n = v.tmod n % n := by
      conv => lhs; rw [← Int.tmod_add_mul_tdiv v n]
      rw [Int.add_mul_emod_self_left]
    rw [e]
    split
    · rw [← Int.add_emod_right]
      exact Int.emod_eq_of_lt (by omega) (by omega)
    · exact Int.emod_eq_of_lt (by omega) (by omega)
  generalize hr : v % n = r at *
  refine Good.of Try.func10 rfl (by rfl) (by kernel_rfl) ?_
  cbv
  (repeat' (first
| (refine q1w (fun z hz => ?_); (try simp only at hz); cbv)
| (refine rqw ?_; cbv)
| (refine QC.tw ?_; cbv)
| (refine QC.tt ?_ ?_; (focus (simp only [decide_true, Bool.and_true, Bool.and_self] <;> fail)); cbv)
| (refine QC.ff ?_ ?_; (focus (simp only [decide_true, Bool.and_true, Bool.and_self, decide_false, Bool.false_and, reduceCtorEq, not_false_eq_true] <;> fail)); cbv)
| (refine QC.fw ?_; cbv)
| (refine QC.mk (fun hc => ?_) (fun hc => ?_) <;> (try dsimp only at hc) <;> cbv)
| (refine br_mk2 (fun hb => ?_) (fun hb => ?_) <;> (try subst hb) <;> cbv)))
  all_goals refine ⟨?_, rfl, rfl⟩
  · rw [h3, if_pos (by omega), hz]; rename_i y hy; rw [hy.1]
  · rw [h3, if_neg (by omega), hz.1]
/-- What the two Unhex answer to a text. -/
theorem both_e (t : ByteArray) (ht : t.size ≤ 4000000) :
    (∃ Y, Good 19 (nu [.str t] (.tup [.row 1, .bool true]) (.row none 5 Y)) ∧ Good 20 (nu [.str t] (.tup [.row 1, .bool true]) (.row none 5 Y)) ∧ Good 14 (pu [.lst none Y, .lst none Y] (.bool true))) ∨
    (Good 19 (nu [.str t] (.tup [.row 1, .bool true]) (.row none 5 [])) ∧ Good 20 (pu [.str t] (.tup [.lst none [], .bool true])) ∧ Good 14 (pu [.lst none [], .lst none []] (.bool true))) ∨
    (Good 19 (pu [.str t] (.tup [.lst none [], .bool false])) ∧ Good 20 (pu [.str t] (.tup [.lst none [], .bool false])) ∧ Good 14 (pu [.lst none [], .lst none []] (.bool true))) := by
  have s0 := same_c [] [] [] [] true rfl rfl (by simp) (by simp) (by simp)
  rcases text_e t with ⟨n, f, t1, t2, t3⟩ | h
  · by_cases hn : n = 0
    · subst hn
      exact .inr (.inl ⟨unhex_yes t 0 f t1 (by omega) t2 t3 [] rfl, runhex_nil t t1, s0⟩)
    · have hu := unhL_ints f n (fun k hk => ⟨t3 k hk, by rw [t2]; exact (dgI_le _).2⟩)
      have hl : (unhL f n).length = n := by simp [unhL]
      exact .inl ⟨_, unhex_yes t n f t1 (by omega) t2 t3 _ rfl, runhex_yes t n f t1 (by omega) (by omega) t2 t3 _ rfl, same_c _ _ _ _ true hu hu (by omega) (by omega) (by simp)⟩
  · exact .inr (.inr ⟨unhex_no t (by omega) h, runhex_no t (by omega) h, s0⟩)
/-- A byte of a text put elsewhere. -/
theorem spoil (h : ByteArray) (j : Nat) (n : Int) (hn : 0 ≤ n ∧ n ≤ 255) : ∃ g : ByteArray, O.st (O.by' h) j (.int .u8 n) = O.by' g ∧ g.size = h.size := by
  refine ⟨⟨(h.data.toList.set j (UInt8.ofNat n.toNat)).toArray⟩, ?_, ?_⟩
  · have e : SV.int .u8 n = (fun b : UInt8 => SV.int .u8 b.toNat) (UInt8.ofNat n.toNat) := by
      show SV.int .u8 n = SV.int .u8 ((UInt8.ofNat n.toNat).toNat : Int)
      rw [UInt8.toNat_ofNat']
      congr 1
      omega
    rw [oby, oby, ost, e, ← List.map_set]
  · show (h.data.toList.set j _).toArray.size = h.data.size
    simp
theorem hexes_c (bs : List UInt8) (X : List SV) (s : ByteArray) (at' y : Int) (hX : X = u8l bs) (hb : bs.length ≤ 1048576) (hs : s.size ≤ 1048576) (ha : -9223372036854775808 ≤ at' ∧ at' ≤ 9223372036854775807) (hy : 0 ≤ y ∧ y ≤ 255) :
    Good 5 (pu [.lst none X, .str s, .int .i64 at', .int .u8 y] (.bool true)) := by
  have hk := known_c
  obtain ⟨h, hh⟩ : ∃ h, h = hexB bs := ⟨_, rfl⟩
  have hsz : h.size = 2 * bs.length := by rw [hh, hexB_size]
  have c1 := rhex_c bs X h hX (by omega) hh
  have c2 := hex_c bs X h hX (by omega) hh
  clear hh
  by_cases h0 : h.size = 0
  · obtain ⟨g, g1, g2⟩ : ∃ g : ByteArray, [] = O.by' g ∧ g.size = 0 := ⟨⟨#[]⟩, by rw [oby]; rfl, rfl⟩
    refine Good.of Try.func5 rfl (by rfl) (by kernel_rfl) ?_
    cbv
    (repeat' (first
| (refine q1w (fun z hz => ?_); (try simp only at hz); cbv)
| (refine rqw ?_; cbv)
| (refine QC.tw ?_; cbv)
| (refine QC.tt ?_ ?_; (focus (simp only [decide_true, Bool.and_true, Bool.and_self] <;> fail)); cbv)
| (refine QC.ff ?_ ?_; (focus (simp only [decide_true, Bool.and_true, Bool.and_self, decide_false, Bool.false_and, reduceCtorEq, not_false_eq_true] <;> fail)); cbv)
| (refine QC.fw ?_; cbv)
| (refine QC.mk (fun hc => ?_) (fun hc => ?_) <;> (try dsimp only at hc) <;> cbv)
| (refine br_mk2 (fun hb => ?_) (fun hb => ?_) <;> (try subst hb) <;> cbv)
| (refine callq (c1) rfl rfl ?_; cbv)
| ((refine qv g g1 ?_; cbv))))
    have hT : ∀ i : Nat, i < 3 → ∃ t, [SV.str s, SV.str h, SV.str g][i]? = some (.str t) ∧ t.size ≤ 4000000 := fun i hi => by
      match i, hi with
      | 0, _ => exact ⟨s, rfl, by omega⟩
      | 1, _ => exact ⟨h, rfl, by omega⟩
      | 2, _ => exact ⟨g, rfl, by omega⟩
      | _ + 3, h => omega
    refine loopQ (A := Nat × Int) (fun p => p.2 = p.1 ∧ p.1 ≤ 3) (fun p => 3 - p.1) (fun p => [(12, .int .i64 p.2)]) (fun p => []) (0, 0) ⟨rfl, by omega⟩ ?_ ?_
    · cbv
    · intro ⟨i, j'⟩ hI
      have hji : j' = (i : Int) := hI.1
      have hi : i ≤ 3 := hI.2
      clear hI
      have hT := hT i
      cbv
      (repeat' (first
| (refine q1w (fun z hz => ?_); (try simp only at hz); cbv)
| (refine rqw ?_; cbv)
| (refine QC.tw ?_; cbv)
| (refine QC.tt ?_ ?_; (focus (simp only [decide_true, Bool.and_true, Bool.and_self] <;> fail)); cbv)
| (refine QC.ff ?_ ?_; (focus (simp only [decide_true, Bool.and_true, Bool.and_self, decide_false, Bool.false_and, reduceCtorEq, not_false_eq_true] <;> fail)); cbv)
| (refine QC.fw ?_; cbv)
| (refine QC.mk (fun hc => ?_) (fun hc => ?_) <;> (try dsimp only at hc) <;> cbv)
| (refine br_mk2 (fun hb => ?_) (fun hb => ?_) <;> (try subst hb) <;> cbv)))
      · obtain ⟨t, t1, t2⟩ := hT (by (first | omega | (simp only [cst] at *; omega) | (simp only [sm] at *; omega)))
        rcases both_e t t2 with ⟨Y, d1, d2, d3⟩ | ⟨d1, d2, d3⟩ | ⟨d1, d2, d3⟩
        all_goals
          refine qv i (by (first | omega | (simp only [cst] at *; omega) | (simp only [sm] at *; omega))) ?_
          cbv
          (repeat' (first
| (refine q1w (fun z hz => ?_); (try simp only at hz); cbv)
| (refine rqw ?_; cbv)
| (refine QC.tw ?_; cbv)
| (refine QC.tt ?_ ?_; (focus (simp only [decide_true, Bool.and_true, Bool.and_self] <;> fail)); cbv)
| (refine QC.ff ?_ ?_; (focus (simp only [decide_true, Bool.and_true, Bool.and_self, decide_false, Bool.false_and, reduceCtorEq, not_false_eq_true] <;> fail)); cbv)
| (refine QC.fw ?_; cbv)
| (refine QC.mk (fun hc => ?_) (fun hc => ?_) <;> (try dsimp only at hc) <;> cbv)
| (refine br_mk2 (fun hb => ?_) (fun hb => ?_) <;> (try subst hb) <;> cbv)
| ((refine qv i (by (first | omega | (simp only [cst] at *; omega) | (simp only [sm] at *; omega))) ?_; cbv))
| ((refine qv _ t1 ?_; cbv))
| (refine callq (d1) rfl rfl ?_; cbv)
| (refine callq (d2) rfl rfl ?_; cbv)
| (refine callq (d3) rfl rfl ?_; cbv)))
          refine ⟨(i + 1, z), ⟨by show z = ((i + 1 : Nat) : Int); (first | omega | (simp only [cst] at *; omega) | (simp only [sm] at *; omega)), by show i + 1 ≤ 3; (first | omega | (simp only [cst] at *; omega) | (simp only [sm] at *; omega))⟩, by show 3 - (i + 1) < 3 - i; (first | omega | (simp only [cst] at *; omega) | (simp only [sm] at *; omega)), ?_⟩
          cbv
      · (repeat' (first
| (refine q1w (fun z hz => ?_); (try simp only at hz); cbv)
| (refine rqw ?_; cbv)
| (refine QC.tw ?_; cbv)
| (refine QC.tt ?_ ?_; (focus (simp only [decide_true, Bool.and_true, Bool.and_self] <;> fail)); cbv)
| (refine QC.ff ?_ ?_; (focus (simp only [decide_true, Bool.and_true, Bool.and_self, decide_false, Bool.false_and, reduceCtorEq, not_false_eq_true] <;> fail)); cbv)
| (refine QC.fw ?_; cbv)
| (refine QC.mk (fun hc => ?_) (fun hc => ?_) <;> (try dsimp only at hc) <;> cbv)
| (refine br_mk2 (fun hb => ?_) (fun hb => ?_) <;> (try subst hb) <;> cbv)
| (refine callq (hk) rfl rfl ?_; cbv)
| (refine callq (c2) rfl rfl ?_; cbv)))
        all_goals exact ⟨rfl, rfl, rfl⟩
  · obtain ⟨m, hm⟩ : ∃ m, m = at' % (h.size : Int) := ⟨_, rfl⟩
    have hm1 : 0 ≤ m := by rw [hm]; exact Int.emod_nonneg _ (by omega)
    have hm2 : m < h.size := by rw [hm]; exact Int.emod_lt_of_pos _ (by omega)
    obtain ⟨k, hk1⟩ : ∃ k : Int, k = h.size := ⟨_, rfl⟩
    have c3 := mod2_c at' k ha (by omega)
    rw [hk1, ← hm, ← hk1] at c3
    obtain ⟨j, hj⟩ : ∃ j : Nat, m = j := ⟨m.toNat, by omega⟩
    obtain ⟨g, g1, g2⟩ := spoil h j y hy
    have hj0 : j < h.size := by omega
    clear hm
    have hbl : O.ln (O.by' h) = h.size := by rw [oln, oby]; show _ = h.data.size; simp
    refine Good.of Try.func5 rfl (by rfl) (by kernel_rfl) ?_
    cbv
    (repeat' (first
| (refine q1w (fun z hz => ?_); (try simp only at hz); cbv)
| (refine rqw ?_; cbv)
| (refine QC.tw ?_; cbv)
| (refine QC.tt ?_ ?_; (focus (simp only [decide_true, Bool.and_true, Bool.and_self] <;> fail)); cbv)
| (refine QC.ff ?_ ?_; (focus (simp only [decide_true, Bool.and_true, Bool.and_self, decide_false, Bool.false_and, reduceCtorEq, not_false_eq_true] <;> fail)); cbv)
| (refine QC.fw ?_; cbv)
| (refine QC.mk (fun hc => ?_) (fun hc => ?_) <;> (try dsimp only at hc) <;> cbv)
| (refine br_mk2 (fun hb => ?_) (fun hb => ?_) <;> (try subst hb) <;> cbv)
| (refine callq (c1) rfl rfl ?_; cbv)))
    have e : z = k := by
      rw [hz, hk1]
      show ((O.ln (O.by' h) : Nat) : Int) = _
      rw [hbl]
    subst e
    have hjl : m = (j : Int) ∧ j < O.ln (O.by' h) := ⟨hj, by rw [hbl]; exact hj0⟩
    (repeat' (first
| (refine q1w (fun z hz => ?_); (try simp only at hz); cbv)
| (refine rqw ?_; cbv)
| (refine QC.tw ?_; cbv)
| (refine QC.tt ?_ ?_; (focus (simp only [decide_true, Bool.and_true, Bool.and_self] <;> fail)); cbv)
| (refine QC.ff ?_ ?_; (focus (simp only [decide_true, Bool.and_true, Bool.and_self, decide_false, Bool.false_and, reduceCtorEq, not_false_eq_true] <;> fail)); cbv)
| (refine QC.fw ?_; cbv)
| (refine QC.mk (fun hc => ?_) (fun hc => ?_) <;> (try dsimp only at hc) <;> cbv)
| (refine br_mk2 (fun hb => ?_) (fun hb => ?_) <;> (try subst hb) <;> cbv)
| (refine callq (c3) rfl rfl ?_; cbv)
| ((refine qv j hjl ?_; cbv))
| ((refine rq hjl.2 ?_; cbv))
| ((refine qv g g1 ?_; cbv))))
    have hT : ∀ i : Nat, i < 3 → ∃ t, [SV.str s, SV.str h, SV.str g][i]? = some (.str t) ∧ t.size ≤ 4000000 := fun i hi => by
      match i, hi with
      | 0, _ => exact ⟨s, rfl, by omega⟩
      | 1, _ => exact ⟨h, rfl, by omega⟩
      | 2, _ => exact ⟨g, rfl, by omega⟩
      | _ + 3, h => omega
    refine loopQ (A := Nat × Int) (fun p => p.2 = p.1 ∧ p.1 ≤ 3) (fun p => 3 - p.1) (fun p => [(12, .int .i64 p.2)]) (fun p => []) (0, 0) ⟨rfl, by omega⟩ ?_ ?_
    · cbv
    · intro ⟨i, j'⟩ hI
      have hji : j' = (i : Int) := hI.1
      have hi : i ≤ 3 := hI.2
      clear hI
      have hT := hT i
      cbv
      (repeat' (first
| (refine q1w (fun z hz => ?_); (try simp only at hz); cbv)
| (refine rqw ?_; cbv)
| (refine QC.tw ?_; cbv)
| (refine QC.tt ?_ ?_; (focus (simp only [decide_true, Bool.and_true, Bool.and_self] <;> fail)); cbv)
| (refine QC.ff ?_ ?_; (focus (simp only [decide_true, Bool.and_true, Bool.and_self, decide_false, Bool.false_and, reduceCtorEq, not_false_eq_true] <;> fail)); cbv)
| (refine QC.fw ?_; cbv)
| (refine QC.mk (fun hc => ?_) (fun hc => ?_) <;> (try dsimp only at hc) <;> cbv)
| (refine br_mk2 (fun hb => ?_) (fun hb => ?_) <;> (try subst hb) <;> cbv)))
      · obtain ⟨t, t1, t2⟩ := hT (by (first | omega | (simp only [cst] at *; omega) | (simp only [sm] at *; omega)))
        rcases both_e t t2 with ⟨Y, d1, d2, d3⟩ | ⟨d1, d2, d3⟩ | ⟨d1, d2, d3⟩
        all_goals
          refine qv i (by (first | omega | (simp only [cst] at *; omega) | (simp only [sm] at *; omega))) ?_
          cbv
          (repeat' (first
| (refine q1w (fun z hz => ?_); (try simp only at hz); cbv)
| (refine rqw ?_; cbv)
| (refine QC.tw ?_; cbv)
| (refine QC.tt ?_ ?_; (focus (simp only [decide_true, Bool.and_true, Bool.and_self] <;> fail)); cbv)
| (refine QC.ff ?_ ?_; (focus (simp only [decide_true, Bool.and_true, Bool.and_self, decide_false, Bool.false_and, reduceCtorEq, not_false_eq_true] <;> fail)); cbv)
| (refine QC.fw ?_; cbv)
| (refine QC.mk (fun hc => ?_) (fun hc => ?_) <;> (try dsimp only at hc) <;> cbv)
| (refine br_mk2 (fun hb => ?_) (fun hb => ?_) <;> (try subst hb) <;> cbv)
| ((refine qv i (by (first | omega | (simp only [cst] at *; omega) | (simp only [sm] at *; omega))) ?_; cbv))
| ((refine qv _ t1 ?_; cbv))
| (refine callq (d1) rfl rfl ?_; cbv)
| (refine callq (d2) rfl rfl ?_; cbv)
| (refine callq (d3) rfl rfl ?_; cbv)))
          refine ⟨(i + 1, z), ⟨by show z = ((i + 1 : Nat) : Int); (first | omega | (simp only [cst] at *; omega) | (simp only [sm] at *; omega)), by show i + 1 ≤ 3; (first | omega | (simp only [cst] at *; omega) | (simp only [sm] at *; omega))⟩, by show 3 - (i + 1) < 3 - i; (first | omega | (simp only [cst] at *; omega) | (simp only [sm] at *; omega)), ?_⟩
          cbv
      · (repeat' (first
| (refine q1w (fun z hz => ?_); (try simp only at hz); cbv)
| (refine rqw ?_; cbv)
| (refine QC.tw ?_; cbv)
| (refine QC.tt ?_ ?_; (focus (simp only [decide_true, Bool.and_true, Bool.and_self] <;> fail)); cbv)
| (refine QC.ff ?_ ?_; (focus (simp only [decide_true, Bool.and_true, Bool.and_self, decide_false, Bool.false_and, reduceCtorEq, not_false_eq_true] <;> fail)); cbv)
| (refine QC.fw ?_; cbv)
| (refine QC.mk (fun hc => ?_) (fun hc => ?_) <;> (try dsimp only at hc) <;> cbv)
| (refine br_mk2 (fun hb => ?_) (fun hb => ?_) <;> (try subst hb) <;> cbv)
| (refine callq (hk) rfl rfl ?_; cbv)
| (refine callq (c2) rfl rfl ?_; cbv)))
        all_goals exact ⟨rfl, rfl, rfl⟩
end Go.Proofs.Ytapcbkcnokoljaa
