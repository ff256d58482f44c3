/- Texts put together: Fb. -/
import Derived.Test.YtapcbkcnokoljaaZ06
namespace Go.Proofs.Ytapcbkcnokoljaa
set_option linter.unusedVariables false
set_option linter.unusedSimpArgs false
open Go.RowKit
set_option maxHeartbeats 8000000
structure Wrap (p : Prop) : Prop where
  h : p
theorem fresh_c (bs : List UInt8) (X : List SV) (v N : Int) (hX : X = u8l bs) (hl : bs.length ≤ 140737488351232) (hv : 0 ≤ v ∧ v < 18446744073709551616) (hN : -9223372036854775808 ≤ N ∧ N ≤ 9223372036854775807) :
    Good 7 (pu [.lst none X, .int .u64 v, .int .i64 N] (.bool true)) := by
  have hXl : X.length = bs.length := by rw [hX, u8l_len]
  obtain ⟨n, hn⟩ : ∃ n, n = bs.length := ⟨_, rfl⟩
  obtain ⟨n16, hn16⟩ : ∃ n16, n16 = n + 16 := ⟨_, rfl⟩
  obtain ⟨m1, p1, u1, g1⟩ : ∃ r, 0 ≤ r ∧ r < 8 ∧ Good 10 (pu [.int .i64 N, .int .i64 8] (.int .i64 r)) := ⟨_, Int.emod_nonneg _ (by omega), Int.emod_lt_of_pos _ (by omega), mod_c N 8 hN (by omega)⟩
  obtain ⟨N1, hN1⟩ : ∃ N1 : Int, N1 = 1 + m1 := ⟨_, rfl⟩
  obtain ⟨n1, hn1⟩ : ∃ n1 : Nat, N1 = n1 := Int.eq_ofNat_of_zero_le (by omega)
  have hrow : ∀ z : Int, z = n + 16 → O.sg (O.cp (O.rp z (.int .u8 0)) 0 n X) 0 n = u8l bs ∧ (O.cp (O.rp z (.int .u8 0)) 0 n X).length = n + 16 ∧ ∀ i, n ≤ i → i < n + 16 → (O.cp (O.rp z (.int .u8 0)) 0 n X)[i]? = some (.int .u8 0) := fun z hz => by
    have e1 : z.toNat = n + 16 := by omega
    have e2 : X.take n = X := List.take_of_length_le (by omega)
    rw [ocp, orp, osg, e1, e2, List.take_zero, List.nil_append, Nat.zero_add, List.drop_replicate, hXl, ← hn, Nat.min_self, List.drop_zero]
    refine ⟨by rw [List.take_left' (by omega), hX], by simp; omega, fun i h1 h2 => ?_⟩
    rw [List.getElem?_append_right (by omega), List.getElem?_replicate, if_pos (by omega)]
  have g2 := fun z hz => append_c bs (O.sg (O.cp (O.rp z (.int .u8 0)) 0 n X) 0 n) _ v N1 n1 (hrow z hz).1 hn1 (by omega) hv (by omega) rfl
  have hvb : validB bs (8 * n : Int) = true := by
    have := (validB_iff bs (8 * n)).2 ⟨by omega, fun j hj => by simp [bitAt, List.getD, List.getElem?_eq_none (show bs.length ≤ j / 8 by omega)]⟩
    simpa using this
  obtain ⟨l8, hl8⟩ : ∃ l8 : Int, l8 = 8 * n := ⟨_, rfl⟩
  obtain ⟨m8, hm8⟩ : ∃ m8 : Int, m8 = l8 + 64 := ⟨_, rfl⟩
  rw [← hl8] at hvb
  have g3 := fun z hz => appendBits_n bs (O.sg (O.cp (O.rp z (.int .u8 0)) 0 n X) 0 n) _ l8 v 64 m8 (8 * n) 64 (hrow z hz).1 (by omega) (by omega) hvb rfl (by omega) hv hm8 rfl
  obtain ⟨A1, hA1⟩ : ∃ A1 : List UInt8, A1 = bs ++ bytesOf v n1 := ⟨_, rfl⟩
  obtain ⟨A2, hA2⟩ : ∃ A2 : List UInt8, A2 = appBits bs (8 * n) v 64 := ⟨_, rfl⟩
  rw [← hA1] at g2
  rw [← hA2] at g3
  have hl1 : A1.length = n + n1 := by rw [hA1]; simp [bytesOf_length]; omega
  have hl2 : A2.length = n + 8 := by rw [hA2]; simp [appBits, rowP_length]; omega
  obtain ⟨V, hV⟩ : ∃ V : List UInt8 → List SV, ∀ l, V l = u8l l := ⟨u8l, fun _ => rfl⟩
  rw [← hV] at g2 g3
  have hVl : ∀ l, (V l).length = l.length := fun l => by rw [hV, u8l_len]
  have hVg : ∀ (l : List UInt8) (i : Nat), i < l.length → ∃ y : Int, 0 ≤ y ∧ y ≤ 255 ∧ (V l)[i]? = some (.int .u8 y) := fun l i hi => ⟨((l.getD i 0).toNat : Int), Int.natCast_nonneg _, by have := UInt8.toNat_lt (l.getD i 0); omega, by rw [hV]; exact u8l_at i hi⟩
  have hVs : ∀ (l : List UInt8) (i : Nat) (y : Int), 0 ≤ y ∧ y ≤ 255 → i < l.length → ∃ k : List UInt8, k.length = l.length ∧ O.st (V l) i (.int .u8 y) = V k := fun l i y hy hi => ⟨l.set i (UInt8.ofNat y.toNat), by simp, by
    rw [ost, hV, hV, ← u8l_set]
    congr 2
    simp only [UInt8.toNat_ofNat']
    omega⟩
  have g4 := fun z hz => same_c bs bs (O.sg (O.cp (O.rp z (.int .u8 0)) 0 n X) 0 n) X true (hrow z hz).1 hX (by omega) (by omega) (by simp)
  have gk := known_c
  have hV1 : (V A1).length = n + n1 := by rw [hVl, hl1]
  have hV2 : (V A2).length = n + 8 := by rw [hVl, hl2]
  have hle16 : n ≤ n16 := by omega
  have hi16 : (n16 : Int) = n + 16 := by omega
  have hn11 : 1 ≤ n1 := by omega
  have W1 := Wrap.mk hrow
  have W2 := Wrap.mk g2
  have W3 := Wrap.mk g3
  have W4 := Wrap.mk g4
  have W5 := Wrap.mk (And.intro hVl (And.intro hVg hVs))
  clear hrow g2 g3 g4 hVl hVg hVs hV hA1 hA2 hvb hX
  refine Good.of Try.func7 rfl (by rfl) (by kernel_rfl) ?_
  cbv
  (repeat' (first
| (refine q1w (fun z hz => ?_); (try simp only at hz); cbv)
| (refine rqw ?_; cbv)
| (refine rq (show kfitQ _ _ from by simp [kfitQ, IntKind.min, IntKind.max, IntKind.signed, IntKind.bits]; omega) ?_; cbv)
| (refine QC.tw ?_; cbv)
| (refine QC.tt ?_ ?_; (focus (simp only [decide_true, Bool.and_true, Bool.and_self] <;> fail)); cbv)
| (refine QC.ff ?_ ?_; (focus (simp only [decide_true, Bool.and_true, Bool.and_self, decide_false, Bool.false_and, reduceCtorEq, not_false_eq_true] <;> fail)); cbv)
| (refine QC.fw ?_; cbv)
| (refine QC.mk (fun hc => ?_) (fun hc => ?_) <;> (try dsimp only at hc) <;> cbv)
| (refine br_mk2 (fun hb => ?_) (fun hb => ?_) <;> (try subst hb) <;> cbv)))
  refine chpB ?_
  cbv
  refine qv n16 ⟨rfl, by (first | omega | (simp only [cst] at *; omega) | (simp only [sm] at *; omega)), by (first | omega | (simp only [cst] at *; omega) | (simp only [sm] at *; omega)), by show (1 : Int) * z ≤ _; (first | omega | (simp only [cst] at *; omega) | (simp only [sm] at *; omega))⟩ ?_
  cbv
  (repeat' (first
| (refine q1w (fun z hz => ?_); (try simp only at hz); cbv)
| (refine rqw ?_; cbv)
| (refine rq (show kfitQ _ _ from by simp [kfitQ, IntKind.min, IntKind.max, IntKind.signed, IntKind.bits]; omega) ?_; cbv)
| (refine QC.tw ?_; cbv)
| (refine QC.tt ?_ ?_; (focus (simp only [decide_true, Bool.and_true, Bool.and_self] <;> fail)); cbv)
| (refine QC.ff ?_ ?_; (focus (simp only [decide_true, Bool.and_true, Bool.and_self, decide_false, Bool.false_and, reduceCtorEq, not_false_eq_true] <;> fail)); cbv)
| (refine QC.fw ?_; cbv)
| (refine QC.mk (fun hc => ?_) (fun hc => ?_) <;> (try dsimp only at hc) <;> cbv)
| (refine br_mk2 (fun hb => ?_) (fun hb => ?_) <;> (try subst hb) <;> cbv)))
  refine chpB ?_
  cbv
  have hz16 : z = n + 16 := by (first | omega | (simp only [cst] at *; omega) | (simp only [sm] at *; omega))
  refine qv (n, 0, n) ⟨show n = 0 + O.ln X from by rw [oln]; omega, hle16, show 0 + n ≤ O.ln (O.rp z (.int .u8 0)) from by rw [oln, orp, List.length_replicate]; (first | omega | (simp only [cst] at *; omega) | (simp only [sm] at *; omega)), rfl, show n = O.ln X from by rw [oln]; omega⟩ ?_
  cbv
  (repeat' (first
| (refine q1w (fun z hz => ?_); (try simp only at hz); cbv)
| (refine rqw ?_; cbv)
| (refine rq (show kfitQ _ _ from by simp [kfitQ, IntKind.min, IntKind.max, IntKind.signed, IntKind.bits]; omega) ?_; cbv)
| (refine chpA ?_; cbv)
| (refine QC.tw ?_; cbv)
| (refine QC.tt ?_ ?_; (focus (simp only [decide_true, Bool.and_true, Bool.and_self] <;> fail)); cbv)
| (refine QC.ff ?_ ?_; (focus (simp only [decide_true, Bool.and_true, Bool.and_self, decide_false, Bool.false_and, reduceCtorEq, not_false_eq_true] <;> fail)); cbv)
| (refine QC.fw ?_; cbv)
| (refine QC.mk (fun hc => ?_) (fun hc => ?_) <;> (try dsimp only at hc) <;> cbv)
| (refine br_mk2 (fun hb => ?_) (fun hb => ?_) <;> (try subst hb) <;> cbv)))
  (refine callq (g1) rfl rfl ?_; cbv; (repeat' (first
| (refine q1w (fun z hz => ?_); (try simp only at hz); cbv)
| (refine rqw ?_; cbv)
| (refine rq (show kfitQ _ _ from by simp [kfitQ, IntKind.min, IntKind.max, IntKind.signed, IntKind.bits]; omega) ?_; cbv)
| (refine chpA ?_; cbv)
| (refine QC.tw ?_; cbv)
| (refine QC.tt ?_ ?_; (focus (simp only [decide_true, Bool.and_true, Bool.and_self] <;> fail)); cbv)
| (refine QC.ff ?_ ?_; (focus (simp only [decide_true, Bool.and_true, Bool.and_self, decide_false, Bool.false_and, reduceCtorEq, not_false_eq_true] <;> fail)); cbv)
| (refine QC.fw ?_; cbv)
| (refine QC.mk (fun hc => ?_) (fun hc => ?_) <;> (try dsimp only at hc) <;> cbv)
| (refine br_mk2 (fun hb => ?_) (fun hb => ?_) <;> (try subst hb) <;> cbv))))
  rename_i z17 hz17 z16 hz18
  have e : N1 = z := by (first | omega | (simp only [cst] at *; omega) | (simp only [sm] at *; omega))
  subst e
  have g2 := W2.h z16 hz16
  (refine callq (g2) rfl rfl ?_; cbv; (repeat' (first
| (refine q1w (fun z hz => ?_); (try simp only at hz); cbv)
| (refine rqw ?_; cbv)
| (refine rq (show kfitQ _ _ from by simp [kfitQ, IntKind.min, IntKind.max, IntKind.signed, IntKind.bits]; omega) ?_; cbv)
| (refine chpA ?_; cbv)
| (refine QC.tw ?_; cbv)
| (refine QC.tt ?_ ?_; (focus (simp only [decide_true, Bool.and_true, Bool.and_self] <;> fail)); cbv)
| (refine QC.ff ?_ ?_; (focus (simp only [decide_true, Bool.and_true, Bool.and_self, decide_false, Bool.false_and, reduceCtorEq, not_false_eq_true] <;> fail)); cbv)
| (refine QC.fw ?_; cbv)
| (refine QC.mk (fun hc => ?_) (fun hc => ?_) <;> (try dsimp only at hc) <;> cbv)
| (refine br_mk2 (fun hb => ?_) (fun hb => ?_) <;> (try subst hb) <;> cbv))))
  have e : l8 = z := by (first | omega | (simp only [cst] at *; omega) | (simp only [sm] at *; omega))
  subst e
  have g3 := W3.h z16 hz16
  (refine callq (g3) rfl rfl ?_; cbv; (repeat' (first
| (refine q1w (fun z hz => ?_); (try simp only at hz); cbv)
| (refine rqw ?_; cbv)
| (refine rq (show kfitQ _ _ from by simp [kfitQ, IntKind.min, IntKind.max, IntKind.signed, IntKind.bits]; omega) ?_; cbv)
| (refine chpA ?_; cbv)
| (refine QC.tw ?_; cbv)
| (refine QC.tt ?_ ?_; (focus (simp only [decide_true, Bool.and_true, Bool.and_self] <;> fail)); cbv)
| (refine QC.ff ?_ ?_; (focus (simp only [decide_true, Bool.and_true, Bool.and_self, decide_false, Bool.false_and, reduceCtorEq, not_false_eq_true] <;> fail)); cbv)
| (refine QC.fw ?_; cbv)
| (refine QC.mk (fun hc => ?_) (fun hc => ?_) <;> (try dsimp only at hc) <;> cbv)
| (refine br_mk2 (fun hb => ?_) (fun hb => ?_) <;> (try subst hb) <;> cbv))))
  refine loopQ (A := Nat × Int × List UInt8) (fun p => p.2.1 = p.1 ∧ p.1 ≤ n + n1 ∧ p.2.2.length = n + n1) (fun p => n + n1 - p.1) (fun p => [(12, .int .i64 p.2.1)]) (fun p => [(27, .row none 5 (V p.2.2))]) (0, 0, A1) ⟨rfl, Nat.zero_le _, hl1⟩ ?_ ?_
  · cbv
    exact ⟨rfl, trivial⟩
  · intro ⟨i, j, k⟩ hh
    have hj : j = (i : Int) := hh.1
    have hi : i ≤ n + n1 := hh.2.1
    have hk : k.length = n + n1 := hh.2.2
    have hVk := W5.h.1 k
    clear hh
    have hmk : True := trivial
    cbv
    (repeat' (first
| (refine q1w (fun z hz => ?_); (try simp only at hz); cbv)
| (refine rqw ?_; cbv)
| (refine rq (show kfitQ _ _ from by simp [kfitQ, IntKind.min, IntKind.max, IntKind.signed, IntKind.bits]; omega) ?_; cbv)
| (refine chpA ?_; cbv)
| (refine QC.tw ?_; cbv)
| (refine QC.tt ?_ ?_; (focus (simp only [decide_true, Bool.and_true, Bool.and_self] <;> fail)); cbv)
| (refine QC.ff ?_ ?_; (focus (simp only [decide_true, Bool.and_true, Bool.and_self, decide_false, Bool.false_and, reduceCtorEq, not_false_eq_true] <;> fail)); cbv)
| (refine QC.fw ?_; cbv)
| (refine QC.mk (fun hc => ?_) (fun hc => ?_) <;> (try dsimp only at hc) <;> cbv)
| (refine br_mk2 (fun hb => ?_) (fun hb => ?_) <;> (try subst hb) <;> cbv)))
    · have hlt : i < n + n1 := by (first | omega | (simp only [cst] at *; omega) | (simp only [sm] at *; omega))
      obtain ⟨y, y0, y1, hy⟩ := W5.h.2.1 k i (by omega)
      refine qv i ⟨hj, show i < O.ln (V k) from by rw [oln]; omega⟩ ?_
      cbv
      (repeat' (first
| (refine q1w (fun z hz => ?_); (try simp only at hz); cbv)
| (refine rqw ?_; cbv)
| (refine rq (show kfitQ _ _ from by simp [kfitQ, IntKind.min, IntKind.max, IntKind.signed, IntKind.bits]; omega) ?_; cbv)
| (refine chpA ?_; cbv)
| (refine QC.tw ?_; cbv)
| (refine QC.tt ?_ ?_; (focus (simp only [decide_true, Bool.and_true, Bool.and_self] <;> fail)); cbv)
| (refine QC.ff ?_ ?_; (focus (simp only [decide_true, Bool.and_true, Bool.and_self, decide_false, Bool.false_and, reduceCtorEq, not_false_eq_true] <;> fail)); cbv)
| (refine QC.fw ?_; cbv)
| (refine QC.mk (fun hc => ?_) (fun hc => ?_) <;> (try dsimp only at hc) <;> cbv)
| (refine br_mk2 (fun hb => ?_) (fun hb => ?_) <;> (try subst hb) <;> cbv)))
      (refine qv _ (hy) ?_; cbv; (repeat' (first
| (refine q1w (fun z hz => ?_); (try simp only at hz); cbv)
| (refine rqw ?_; cbv)
| (refine rq (show kfitQ _ _ from by simp [kfitQ, IntKind.min, IntKind.max, IntKind.signed, IntKind.bits]; omega) ?_; cbv)
| (refine chpA ?_; cbv)
| (refine QC.tw ?_; cbv)
| (refine QC.tt ?_ ?_; (focus (simp only [decide_true, Bool.and_true, Bool.and_self] <;> fail)); cbv)
| (refine QC.ff ?_ ?_; (focus (simp only [decide_true, Bool.and_true, Bool.and_self, decide_false, Bool.false_and, reduceCtorEq, not_false_eq_true] <;> fail)); cbv)
| (refine QC.fw ?_; cbv)
| (refine QC.mk (fun hc => ?_) (fun hc => ?_) <;> (try dsimp only at hc) <;> cbv)
| (refine br_mk2 (fun hb => ?_) (fun hb => ?_) <;> (try subst hb) <;> cbv))))
      refine qv i ⟨hj, show i < O.ln (V k) from by rw [oln]; omega⟩ ?_
      cbv
      have hzr : 0 ≤ z ∧ z ≤ 255 := by omega
      obtain ⟨k', hk', hst⟩ := W5.h.2.2 k i z hzr (by omega)
      (repeat' (first
| (refine q1w (fun z hz => ?_); (try simp only at hz); cbv)
| (refine rqw ?_; cbv)
| (refine rq (show kfitQ _ _ from by simp [kfitQ, IntKind.min, IntKind.max, IntKind.signed, IntKind.bits]; omega) ?_; cbv)
| (refine chpA ?_; cbv)
| (refine QC.tw ?_; cbv)
| (refine QC.tt ?_ ?_; (focus (simp only [decide_true, Bool.and_true, Bool.and_self] <;> fail)); cbv)
| (refine QC.ff ?_ ?_; (focus (simp only [decide_true, Bool.and_true, Bool.and_self, decide_false, Bool.false_and, reduceCtorEq, not_false_eq_true] <;> fail)); cbv)
| (refine QC.fw ?_; cbv)
| (refine QC.mk (fun hc => ?_) (fun hc => ?_) <;> (try dsimp only at hc) <;> cbv)
| (refine br_mk2 (fun hb => ?_) (fun hb => ?_) <;> (try subst hb) <;> cbv)))
      refine ⟨(i + 1, z, k'), ⟨by show z = ((i + 1 : Nat) : Int); (first | omega | (simp only [cst] at *; omega) | (simp only [sm] at *; omega)), by show i + 1 ≤ n + n1; omega, by show k'.length = n + n1; omega⟩, by show n + n1 - (i + 1) < n + n1 - i; omega, ?_⟩
      cbv
      exact ⟨congrArg (Blk.row none 5) hst, trivial⟩
    · refine loopQ (A := Nat × Int × List UInt8) (fun p => p.2.1 = p.1 ∧ p.1 ≤ n + 8 ∧ p.2.2.length = n + 8) (fun p => n + 8 - p.1) (fun p => [(13, .int .i64 p.2.1)]) (fun p => [(36, .row none 5 (V p.2.2))]) (0, 0, A2) ⟨rfl, Nat.zero_le _, hl2⟩ ?_ ?_
      · cbv
        exact ⟨rfl, trivial⟩
      · intro ⟨i, j, k⟩ hh
        have hj : j = (i : Int) := hh.1
        have hi : i ≤ n + 8 := hh.2.1
        have hk : k.length = n + 8 := hh.2.2
        have hVk := W5.h.1 k
        clear hh
        have hmk : True := trivial
        cbv
        (repeat' (first
| (refine q1w (fun z hz => ?_); (try simp only at hz); cbv)
| (refine rqw ?_; cbv)
| (refine rq (show kfitQ _ _ from by simp [kfitQ, IntKind.min, IntKind.max, IntKind.signed, IntKind.bits]; omega) ?_; cbv)
| (refine QC.tw ?_; cbv)
| (refine QC.tt ?_ ?_; (focus (simp only [decide_true, Bool.and_true, Bool.and_self] <;> fail)); cbv)
| (refine QC.ff ?_ ?_; (focus (simp only [decide_true, Bool.and_true, Bool.and_self, decide_false, Bool.false_and, reduceCtorEq, not_false_eq_true] <;> fail)); cbv)
| (refine QC.fw ?_; cbv)
| (refine QC.mk (fun hc => ?_) (fun hc => ?_) <;> (try dsimp only at hc) <;> cbv)
| (refine br_mk2 (fun hb => ?_) (fun hb => ?_) <;> (try subst hb) <;> cbv)))
        · have hlt : i < n + 8 := by (first | omega | (simp only [cst] at *; omega) | (simp only [sm] at *; omega))
          obtain ⟨y, y0, y1, hy⟩ := W5.h.2.1 k i (by omega)
          refine qv i ⟨hj, show i < O.ln (V k) from by rw [oln]; omega⟩ ?_
          cbv
          (repeat' (first
| (refine q1w (fun z hz => ?_); (try simp only at hz); cbv)
| (refine rqw ?_; cbv)
| (refine rq (show kfitQ _ _ from by simp [kfitQ, IntKind.min, IntKind.max, IntKind.signed, IntKind.bits]; omega) ?_; cbv)
| (refine chpA ?_; cbv)
| (refine QC.tw ?_; cbv)
| (refine QC.tt ?_ ?_; (focus (simp only [decide_true, Bool.and_true, Bool.and_self] <;> fail)); cbv)
| (refine QC.ff ?_ ?_; (focus (simp only [decide_true, Bool.and_true, Bool.and_self, decide_false, Bool.false_and, reduceCtorEq, not_false_eq_true] <;> fail)); cbv)
| (refine QC.fw ?_; cbv)
| (refine QC.mk (fun hc => ?_) (fun hc => ?_) <;> (try dsimp only at hc) <;> cbv)
| (refine br_mk2 (fun hb => ?_) (fun hb => ?_) <;> (try subst hb) <;> cbv)))
          (refine qv _ (hy) ?_; cbv; (repeat' (first
| (refine q1w (fun z hz => ?_); (try simp only at hz); cbv)
| (refine rqw ?_; cbv)
| (refine rq (show kfitQ _ _ from by simp [kfitQ, IntKind.min, IntKind.max, IntKind.signed, IntKind.bits]; omega) ?_; cbv)
| (refine chpA ?_; cbv)
| (refine QC.tw ?_; cbv)
| (refine QC.tt ?_ ?_; (focus (simp only [decide_true, Bool.and_true, Bool.and_self] <;> fail)); cbv)
| (refine QC.ff ?_ ?_; (focus (simp only [decide_true, Bool.and_true, Bool.and_self, decide_false, Bool.false_and, reduceCtorEq, not_false_eq_true] <;> fail)); cbv)
| (refine QC.fw ?_; cbv)
| (refine QC.mk (fun hc => ?_) (fun hc => ?_) <;> (try dsimp only at hc) <;> cbv)
| (refine br_mk2 (fun hb => ?_) (fun hb => ?_) <;> (try subst hb) <;> cbv))))
          refine qv i ⟨hj, show i < O.ln (V k) from by rw [oln]; omega⟩ ?_
          cbv
          have hzr : 0 ≤ z ∧ z ≤ 255 := by omega
          obtain ⟨k', hk', hst⟩ := W5.h.2.2 k i z hzr (by omega)
          (repeat' (first
| (refine q1w (fun z hz => ?_); (try simp only at hz); cbv)
| (refine rqw ?_; cbv)
| (refine rq (show kfitQ _ _ from by simp [kfitQ, IntKind.min, IntKind.max, IntKind.signed, IntKind.bits]; omega) ?_; cbv)
| (refine chpA ?_; cbv)
| (refine QC.tw ?_; cbv)
| (refine QC.tt ?_ ?_; (focus (simp only [decide_true, Bool.and_true, Bool.and_self] <;> fail)); cbv)
| (refine QC.ff ?_ ?_; (focus (simp only [decide_true, Bool.and_true, Bool.and_self, decide_false, Bool.false_and, reduceCtorEq, not_false_eq_true] <;> fail)); cbv)
| (refine QC.fw ?_; cbv)
| (refine QC.mk (fun hc => ?_) (fun hc => ?_) <;> (try dsimp only at hc) <;> cbv)
| (refine br_mk2 (fun hb => ?_) (fun hb => ?_) <;> (try subst hb) <;> cbv)))
          refine ⟨(i + 1, z, k'), ⟨by show z = ((i + 1 : Nat) : Int); (first | omega | (simp only [cst] at *; omega) | (simp only [sm] at *; omega)), by show i + 1 ≤ n + 8; omega, by show k'.length = n + 8; omega⟩, by show n + 8 - (i + 1) < n + 8 - i; omega, ?_⟩
          cbv
          exact ⟨congrArg (Blk.row none 5) hst, trivial⟩
        · refine chpB ?_
          cbv
          refine qv (0, n16, some n16) ⟨0, n16, rfl, by (first | omega | (simp only [cst] at *; omega) | (simp only [sm] at *; omega)), Nat.zero_le _, show 0 + n16 ≤ O.ln (O.cp (O.rp z16 (.int .u8 0)) 0 n X) from by rw [oln, (W1.h z16 hz16).2.1]; omega, Nat.le_refl _, rfl⟩ ?_
          cbv
          (repeat' (first
| (refine q1w (fun z hz => ?_); (try simp only at hz); cbv)
| (refine rqw ?_; cbv)
| (refine rq (show kfitQ _ _ from by simp [kfitQ, IntKind.min, IntKind.max, IntKind.signed, IntKind.bits]; omega) ?_; cbv)
| (refine chpA ?_; cbv)
| (refine QC.tw ?_; cbv)
| (refine QC.tt ?_ ?_; (focus (simp only [decide_true, Bool.and_true, Bool.and_self] <;> fail)); cbv)
| (refine QC.ff ?_ ?_; (focus (simp only [decide_true, Bool.and_true, Bool.and_self, decide_false, Bool.false_and, reduceCtorEq, not_false_eq_true] <;> fail)); cbv)
| (refine QC.fw ?_; cbv)
| (refine QC.mk (fun hc => ?_) (fun hc => ?_) <;> (try dsimp only at hc) <;> cbv)
| (refine br_mk2 (fun hb => ?_) (fun hb => ?_) <;> (try subst hb) <;> cbv)))
          have hz0 : z = (n : Int) := by (first | omega | (simp only [cst] at *; omega) | (simp only [sm] at *; omega))
          refine loopQ (A := Nat × Int) (fun p => p.2 = p.1 ∧ n ≤ p.1 ∧ p.1 ≤ n + 16) (fun p => n + 16 - p.1) (fun p => [(15, .int .i64 p.2)]) (fun p => []) (n, z) ⟨hz0, Nat.le_refl _, by show n ≤ n + 16; omega⟩ ?_ ?_
          · cbv
          · intro ⟨i, j⟩ hh
            have hj : j = (i : Int) := hh.1
            have hi : n ≤ i := hh.2.1
            have hi2 : i ≤ n + 16 := hh.2.2
            clear hh
            have hmk : True := trivial
            cbv
            (repeat' (first
| (refine q1w (fun z hz => ?_); (try simp only at hz); cbv)
| (refine rqw ?_; cbv)
| (refine rq (show kfitQ _ _ from by simp [kfitQ, IntKind.min, IntKind.max, IntKind.signed, IntKind.bits]; omega) ?_; cbv)
| (refine chpA ?_; cbv)
| (refine QC.tw ?_; cbv)
| (refine QC.tt ?_ ?_; (focus (simp only [decide_true, Bool.and_true, Bool.and_self] <;> fail)); cbv)
| (refine QC.ff ?_ ?_; (focus (simp only [decide_true, Bool.and_true, Bool.and_self, decide_false, Bool.false_and, reduceCtorEq, not_false_eq_true] <;> fail)); cbv)
| (refine QC.fw ?_; cbv)
| (refine QC.mk (fun hc => ?_) (fun hc => ?_) <;> (try dsimp only at hc) <;> cbv)
| (refine br_mk2 (fun hb => ?_) (fun hb => ?_) <;> (try subst hb) <;> cbv)))
            · have hlt : i < n + 16 := by (first | omega | (simp only [cst] at *; omega) | (simp only [sm] at *; omega))
              have hy := (W1.h z16 hz16).2.2 i hi hlt
              have hml := (W1.h z16 hz16).2.1
              refine qv i ⟨hj, show i < O.ln (O.sg (O.cp (O.rp z16 (.int .u8 0)) 0 n X) 0 n16) from by rw [oln, osg, List.length_take, List.drop_zero, hml]; omega⟩ ?_
              cbv
              (repeat' (first
| (refine q1w (fun z hz => ?_); (try simp only at hz); cbv)
| (refine rqw ?_; cbv)
| (refine rq (show kfitQ _ _ from by simp [kfitQ, IntKind.min, IntKind.max, IntKind.signed, IntKind.bits]; omega) ?_; cbv)
| (refine chpA ?_; cbv)
| (refine QC.tw ?_; cbv)
| (refine QC.tt ?_ ?_; (focus (simp only [decide_true, Bool.and_true, Bool.and_self] <;> fail)); cbv)
| (refine QC.ff ?_ ?_; (focus (simp only [decide_true, Bool.and_true, Bool.and_self, decide_false, Bool.false_and, reduceCtorEq, not_false_eq_true] <;> fail)); cbv)
| (refine QC.fw ?_; cbv)
| (refine QC.mk (fun hc => ?_) (fun hc => ?_) <;> (try dsimp only at hc) <;> cbv)
| (refine br_mk2 (fun hb => ?_) (fun hb => ?_) <;> (try subst hb) <;> cbv)))
              refine qv (.int .u8 0) (by
                clear hj hi hi2 hlt
                cases i with
                | zero => exact hy
                | succ i' =>
                  show (O.cp (O.rp z16 (.int .u8 0)) 0 n X)[(Nat.add 0 i').succ]? = some (SV.int .u8 0)
                  rw [show (Nat.add 0 i').succ = i' + 1 from congrArg Nat.succ (Nat.zero_add i')]
                  exact hy) ?_
              cbv
              (repeat' (first
| (refine q1w (fun z hz => ?_); (try simp only at hz); cbv)
| (refine rqw ?_; cbv)
| (refine rq (show kfitQ _ _ from by simp [kfitQ, IntKind.min, IntKind.max, IntKind.signed, IntKind.bits]; omega) ?_; cbv)
| (refine chpA ?_; cbv)
| (refine QC.tw ?_; cbv)
| (refine QC.tt ?_ ?_; (focus (simp only [decide_true, Bool.and_true, Bool.and_self] <;> fail)); cbv)
| (refine QC.ff ?_ ?_; (focus (simp only [decide_true, Bool.and_true, Bool.and_self, decide_false, Bool.false_and, reduceCtorEq, not_false_eq_true] <;> fail)); cbv)
| (refine QC.fw ?_; cbv)
| (refine QC.mk (fun hc => ?_) (fun hc => ?_) <;> (try dsimp only at hc) <;> cbv)
| (refine br_mk2 (fun hb => ?_) (fun hb => ?_) <;> (try subst hb) <;> cbv)))
              refine ⟨(i + 1, z), ⟨by show z = ((i + 1 : Nat) : Int); (first | omega | (simp only [cst] at *; omega) | (simp only [sm] at *; omega)), by show n ≤ i + 1; omega, by show i + 1 ≤ n + 16; omega⟩, by show n + 16 - (i + 1) < n + 16 - i; omega, ?_⟩
              cbv
            · have g4 := W4.h z16 hz16
              (refine callq (gk) rfl rfl ?_; cbv; (repeat' (first
| (refine q1w (fun z hz => ?_); (try simp only at hz); cbv)
| (refine rqw ?_; cbv)
| (refine rq (show kfitQ _ _ from by simp [kfitQ, IntKind.min, IntKind.max, IntKind.signed, IntKind.bits]; omega) ?_; cbv)
| (refine chpA ?_; cbv)
| (refine QC.tw ?_; cbv)
| (refine QC.tt ?_ ?_; (focus (simp only [decide_true, Bool.and_true, Bool.and_self] <;> fail)); cbv)
| (refine QC.ff ?_ ?_; (focus (simp only [decide_true, Bool.and_true, Bool.and_self, decide_false, Bool.false_and, reduceCtorEq, not_false_eq_true] <;> fail)); cbv)
| (refine QC.fw ?_; cbv)
| (refine QC.mk (fun hc => ?_) (fun hc => ?_) <;> (try dsimp only at hc) <;> cbv)
| (refine br_mk2 (fun hb => ?_) (fun hb => ?_) <;> (try subst hb) <;> cbv))))
              (refine callq (g4) rfl rfl ?_; cbv; (repeat' (first
| (refine q1w (fun z hz => ?_); (try simp only at hz); cbv)
| (refine rqw ?_; cbv)
| (refine rq (show kfitQ _ _ from by simp [kfitQ, IntKind.min, IntKind.max, IntKind.signed, IntKind.bits]; omega) ?_; cbv)
| (refine chpA ?_; cbv)
| (refine QC.tw ?_; cbv)
| (refine QC.tt ?_ ?_; (focus (simp only [decide_true, Bool.and_true, Bool.and_self] <;> fail)); cbv)
| (refine QC.ff ?_ ?_; (focus (simp only [decide_true, Bool.and_true, Bool.and_self, decide_false, Bool.false_and, reduceCtorEq, not_false_eq_true] <;> fail)); cbv)
| (refine QC.fw ?_; cbv)
| (refine QC.mk (fun hc => ?_) (fun hc => ?_) <;> (try dsimp only at hc) <;> cbv)
| (refine br_mk2 (fun hb => ?_) (fun hb => ?_) <;> (try subst hb) <;> cbv))))
              exact ⟨rfl, rfl, rfl⟩
theorem fresh_l (zs : List Int) (hz : ∀ v ∈ zs, 0 ≤ v ∧ v ≤ 255) (hl : zs.length ≤ 140737488351232) (v N : Int) (hv : 0 ≤ v ∧ v ≤ 18446744073709551615) (hN : -9223372036854775808 ≤ N ∧ N ≤ 9223372036854775807) :
    Good 7 (pu [.lst none (ints .u8 zs), .int .u64 v, .int .i64 N] (.bool true)) := by
  obtain ⟨bs, h1, h2⟩ := u8l_of zs hz
  exact fresh_c bs _ v N h1 (by omega) (by omega) hN
end Go.Proofs.Ytapcbkcnokoljaa
