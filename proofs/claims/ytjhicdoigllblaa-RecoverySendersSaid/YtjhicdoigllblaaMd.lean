/- Texts put together: VK VL Ob XA XB XC XD Opn Opg RO VW XE XF. -/
import Derived.Test.YtjhicdoigllblaaMc
import Derived.Test.YtjhicdoigllblaaRows
import Derived.ProofKit
import Derived.OpenShut
import Derived.ShutString
import Derived.SizedLaws
import Derived.Lib.SmallJoins
/- The document's comparisons of a thing with itself. -/
namespace Go.Proofs.Ytjhicdoigllblaa
set_option linter.unusedVariables false
set_option linter.unusedSimpArgs false
open Go.RowKit
set_option maxHeartbeats 8000000
theorem lists_r (ps : List (List UInt8)) (R : List SV) (hR : R = rowsB ps) (hn : ps.length ≤ 5864062014805) (hb : ∀ p ∈ ps, p.length ≤ 140737488351232) : Good 60 (pu [.lst none R, .lst none R] (.bool true)) := by
  have hRl : R.length = ps.length := by rw [hR, rowsB_len]
  have hE := fun i hi => rowsB_at hR i hi
  refine Good.of Try.func60 rfl (by rfl) (by kernel_rfl) ?_
  cbv
  (repeat' (first
| (refine q1w (fun z hz => ?_); (try simp only at hz); cbv)
| (refine rqw ?_; cbv)
| (refine QC.tw ?_; cbv)
| (refine QC.tt ?_ ?_; (focus (simp only [decide_true, Bool.and_true, Bool.and_self] <;> fail)); cbv)
| (refine QC.ff ?_ ?_; (focus (simp only [decide_true, Bool.and_true, Bool.and_self, decide_false, Bool.false_and, reduceCtorEq, not_false_eq_true] <;> fail)); cbv)
| (refine QC.fw ?_; cbv)
| (refine QC.mk (fun hc => ?_) (fun hc => ?_) <;> (try dsimp only at hc) <;> cbv)
| (refine br_mk2 (fun hb => ?_) (fun hb => ?_) <;> (try subst hb) <;> cbv)))
  refine loopQ (A := Nat × Int) (fun p => p.2 = p.1 ∧ p.1 ≤ ps.length) (fun p => ps.length - p.1) (fun p => [(5, .int .i64 p.2)]) (fun p => []) (0, 0) ⟨rfl, Nat.zero_le _⟩ ?_ ?_
  · cbv
  · intro ⟨i, j⟩ hi0
    have hj : j = (i : Int) := hi0.1
    have hi : i ≤ ps.length := hi0.2
    clear hi0
    have hmk : True := trivial
    cbv
    (repeat' (first
| (refine q1w (fun z hz => ?_); (try simp only at hz); cbv)
| (refine rqw ?_; cbv)
| (refine QC.tw ?_; cbv)
| (refine QC.tt ?_ ?_; (focus (simp only [decide_true, Bool.and_true, Bool.and_self] <;> fail)); cbv)
| (refine QC.ff ?_ ?_; (focus (simp only [decide_true, Bool.and_true, Bool.and_self, decide_false, Bool.false_and, reduceCtorEq, not_false_eq_true] <;> fail)); cbv)
| (refine QC.fw ?_; cbv)
| (refine QC.mk (fun hc => ?_) (fun hc => ?_) <;> (try dsimp only at hc) <;> cbv)
| (refine br_mk2 (fun hb => ?_) (fun hb => ?_) <;> (try subst hb) <;> cbv)))
    · have hlt : i < ps.length := by (first | omega | (simp only [cst] at *; omega) | (simp only [sm] at *; omega))
      obtain ⟨b, B, hbi, hB, hEi⟩ := hE i hlt
      have hbl := hb b (List.mem_of_getElem? hbi)
      have g := same_c b b B B true hB hB (by omega) (by omega) (by simp)
      clear hE hR hbi
      skip
      (refine qv (i, _) ⟨hj, hEi⟩ ?_; cbv; (repeat' (first
| (refine q1w (fun z hz => ?_); (try simp only at hz); cbv)
| (refine rqw ?_; cbv)
| (refine QC.tw ?_; cbv)
| (refine QC.tt ?_ ?_; (focus (simp only [decide_true, Bool.and_true, Bool.and_self] <;> fail)); cbv)
| (refine QC.ff ?_ ?_; (focus (simp only [decide_true, Bool.and_true, Bool.and_self, decide_false, Bool.false_and, reduceCtorEq, not_false_eq_true] <;> fail)); cbv)
| (refine QC.fw ?_; cbv)
| (refine QC.mk (fun hc => ?_) (fun hc => ?_) <;> (try dsimp only at hc) <;> cbv)
| (refine br_mk2 (fun hb => ?_) (fun hb => ?_) <;> (try subst hb) <;> cbv))))
      (refine qv (i, _) ⟨hj, hEi⟩ ?_; cbv; (repeat' (first
| (refine q1w (fun z hz => ?_); (try simp only at hz); cbv)
| (refine rqw ?_; cbv)
| (refine QC.tw ?_; cbv)
| (refine QC.tt ?_ ?_; (focus (simp only [decide_true, Bool.and_true, Bool.and_self] <;> fail)); cbv)
| (refine QC.ff ?_ ?_; (focus (simp only [decide_true, Bool.and_true, Bool.and_self, decide_false, Bool.false_and, reduceCtorEq, not_false_eq_true] <;> fail)); cbv)
| (refine QC.fw ?_; cbv)
| (refine QC.mk (fun hc => ?_) (fun hc => ?_) <;> (try dsimp only at hc) <;> cbv)
| (refine br_mk2 (fun hb => ?_) (fun hb => ?_) <;> (try subst hb) <;> cbv))))
      (refine callq (g) rfl rfl ?_; cbv; (repeat' (first
| (refine q1w (fun z hz => ?_); (try simp only at hz); cbv)
| (refine rqw ?_; cbv)
| (refine QC.tw ?_; cbv)
| (refine QC.tt ?_ ?_; (focus (simp only [decide_true, Bool.and_true, Bool.and_self] <;> fail)); cbv)
| (refine QC.ff ?_ ?_; (focus (simp only [decide_true, Bool.and_true, Bool.and_self, decide_false, Bool.false_and, reduceCtorEq, not_false_eq_true] <;> fail)); cbv)
| (refine QC.fw ?_; cbv)
| (refine QC.mk (fun hc => ?_) (fun hc => ?_) <;> (try dsimp only at hc) <;> cbv)
| (refine br_mk2 (fun hb => ?_) (fun hb => ?_) <;> (try subst hb) <;> cbv))))
      refine ⟨(i + 1, z), ⟨by show z = ((i + 1 : Nat) : Int); (first | omega | (simp only [cst] at *; omega) | (simp only [sm] at *; omega)), by show i + 1 ≤ ps.length; omega⟩, by show ps.length - (i + 1) < ps.length - i; omega, ?_⟩
      cbv
    · exact ⟨rfl, rfl, rfl⟩
theorem samesender_r (s : Snd) (R : List SV) (hR : R = rowsB s.ps) (hf : s.fits) : Good 21 (pu [s.w R, s.w R] (.bool true)) := by
  have g := lists_r s.ps R hR hf.n hf.b
  refine Good.of Try.func21 rfl (by rfl) (by kernel_rfl) ?_
  cbv
  (repeat' (first
| (refine q1w (fun z hz => ?_); (try simp only at hz); cbv)
| (refine rqw ?_; cbv)
| (refine QC.tw ?_; cbv)
| (refine QC.tt ?_ ?_; (focus (simp only [decide_true, Bool.and_true, Bool.and_self] <;> fail)); cbv)
| (refine QC.ff ?_ ?_; (focus (simp only [decide_true, Bool.and_true, Bool.and_self, decide_false, Bool.false_and, reduceCtorEq, not_false_eq_true] <;> fail)); cbv)
| (refine QC.fw ?_; cbv)
| (refine QC.mk (fun hc => ?_) (fun hc => ?_) <;> (try dsimp only at hc) <;> cbv)
| (refine br_mk2 (fun hb => ?_) (fun hb => ?_) <;> (try subst hb) <;> cbv)))
  (refine callq (g) rfl rfl ?_; cbv; (repeat' (first
| (refine q1w (fun z hz => ?_); (try simp only at hz); cbv)
| (refine rqw ?_; cbv)
| (refine QC.tw ?_; cbv)
| (refine QC.tt ?_ ?_; (focus (simp only [decide_true, Bool.and_true, Bool.and_self] <;> fail)); cbv)
| (refine QC.ff ?_ ?_; (focus (simp only [decide_true, Bool.and_true, Bool.and_self, decide_false, Bool.false_and, reduceCtorEq, not_false_eq_true] <;> fail)); cbv)
| (refine QC.fw ?_; cbv)
| (refine QC.mk (fun hc => ?_) (fun hc => ?_) <;> (try dsimp only at hc) <;> cbv)
| (refine br_mk2 (fun hb => ?_) (fun hb => ?_) <;> (try subst hb) <;> cbv))))
  exact ⟨rfl, rfl, rfl⟩
theorem samepiece_r (p : Pce) (B : List SV) (hB : B = u8l p.d) (hb : p.d.length ≤ 140737488351232) : Good 48 (pu [.agg [.int .u8 p.tag, .int .i64 p.n, .int .i64 p.c, .bool p.ack, .lst none B], .agg [.int .u8 p.tag, .int .i64 p.n, .int .i64 p.c, .bool p.ack, .lst none B]] (.bool true)) := by
  have g := same_c p.d p.d B B true hB hB (by omega) (by omega) (by simp)
  obtain ⟨pt, pn, pc, pa, pd⟩ := p
  clear hB hb
  cases pa <;> refine Good.of Try.func48 rfl (by rfl) (by kernel_rfl) ?_
  · cbv
    (repeat' (first
| (refine q1w (fun z hz => ?_); (try simp only at hz); cbv)
| (refine rqw ?_; cbv)
| (refine QC.tw ?_; cbv)
| (refine QC.tt ?_ ?_; (focus (simp only [decide_true, Bool.and_true, Bool.and_self] <;> fail)); cbv)
| (refine QC.ff ?_ ?_; (focus (simp only [decide_true, Bool.and_true, Bool.and_self, decide_false, Bool.false_and, reduceCtorEq, not_false_eq_true] <;> fail)); cbv)
| (refine QC.fw ?_; cbv)
| (refine QC.mk (fun hc => ?_) (fun hc => ?_) <;> (try dsimp only at hc) <;> cbv)
| (refine br_mk2 (fun hb => ?_) (fun hb => ?_) <;> (try subst hb) <;> cbv)))
    (refine callq (g) rfl rfl ?_; cbv; (repeat' (first
| (refine q1w (fun z hz => ?_); (try simp only at hz); cbv)
| (refine rqw ?_; cbv)
| (refine QC.tw ?_; cbv)
| (refine QC.tt ?_ ?_; (focus (simp only [decide_true, Bool.and_true, Bool.and_self] <;> fail)); cbv)
| (refine QC.ff ?_ ?_; (focus (simp only [decide_true, Bool.and_true, Bool.and_self, decide_false, Bool.false_and, reduceCtorEq, not_false_eq_true] <;> fail)); cbv)
| (refine QC.fw ?_; cbv)
| (refine QC.mk (fun hc => ?_) (fun hc => ?_) <;> (try dsimp only at hc) <;> cbv)
| (refine br_mk2 (fun hb => ?_) (fun hb => ?_) <;> (try subst hb) <;> cbv))))
    exact ⟨rfl, rfl, rfl⟩
  · cbv
    (repeat' (first
| (refine q1w (fun z hz => ?_); (try simp only at hz); cbv)
| (refine rqw ?_; cbv)
| (refine QC.tw ?_; cbv)
| (refine QC.tt ?_ ?_; (focus (simp only [decide_true, Bool.and_true, Bool.and_self] <;> fail)); cbv)
| (refine QC.ff ?_ ?_; (focus (simp only [decide_true, Bool.and_true, Bool.and_self, decide_false, Bool.false_and, reduceCtorEq, not_false_eq_true] <;> fail)); cbv)
| (refine QC.fw ?_; cbv)
| (refine QC.mk (fun hc => ?_) (fun hc => ?_) <;> (try dsimp only at hc) <;> cbv)
| (refine br_mk2 (fun hb => ?_) (fun hb => ?_) <;> (try subst hb) <;> cbv)))
    (refine callq (g) rfl rfl ?_; cbv; (repeat' (first
| (refine q1w (fun z hz => ?_); (try simp only at hz); cbv)
| (refine rqw ?_; cbv)
| (refine QC.tw ?_; cbv)
| (refine QC.tt ?_ ?_; (focus (simp only [decide_true, Bool.and_true, Bool.and_self] <;> fail)); cbv)
| (refine QC.ff ?_ ?_; (focus (simp only [decide_true, Bool.and_true, Bool.and_self, decide_false, Bool.false_and, reduceCtorEq, not_false_eq_true] <;> fail)); cbv)
| (refine QC.fw ?_; cbv)
| (refine QC.mk (fun hc => ?_) (fun hc => ?_) <;> (try dsimp only at hc) <;> cbv)
| (refine br_mk2 (fun hb => ?_) (fun hb => ?_) <;> (try subst hb) <;> cbv))))
    exact ⟨rfl, rfl, rfl⟩
theorem samepieces_r (l : List Pce) (L : List SV) (hL : L = pcL l) (hn : l.length ≤ 2000000000) (hb : ∀ p ∈ l, p.d.length ≤ 140737488351232) : Good 22 (pu [.lst (some 5) L, .lst (some 5) L] (.bool true)) := by
  have hLl : L.length = l.length := by rw [hL, pcL_len]
  have hE : ∀ i, i < l.length → ∃ (p : Pce) (B : List SV), l[i]? = some p ∧ B = u8l p.d ∧ L[i]? = some (.agg [.int .u8 p.tag, .int .i64 p.n, .int .i64 p.c, .bool p.ack, .lst none B]) := fun i hi => ⟨l[i], _, List.getElem?_eq_getElem hi, rfl, by rw [hL, pcL, List.getElem?_map, List.getElem?_eq_getElem hi]; rfl⟩
  refine Good.of Try.func22 rfl (by rfl) (by kernel_rfl) ?_
  cbv
  (repeat' (first
| (refine q1w (fun z hz => ?_); (try simp only at hz); cbv)
| (refine rqw ?_; cbv)
| (refine QC.tw ?_; cbv)
| (refine QC.tt ?_ ?_; (focus (simp only [decide_true, Bool.and_true, Bool.and_self] <;> fail)); cbv)
| (refine QC.ff ?_ ?_; (focus (simp only [decide_true, Bool.and_true, Bool.and_self, decide_false, Bool.false_and, reduceCtorEq, not_false_eq_true] <;> fail)); cbv)
| (refine QC.fw ?_; cbv)
| (refine QC.mk (fun hc => ?_) (fun hc => ?_) <;> (try dsimp only at hc) <;> cbv)
| (refine br_mk2 (fun hb => ?_) (fun hb => ?_) <;> (try subst hb) <;> cbv)))
  refine loopQ (A := Nat × Int) (fun p => p.2 = p.1 ∧ p.1 ≤ l.length) (fun p => l.length - p.1) (fun p => [(5, .int .i64 p.2)]) (fun p => []) (0, 0) ⟨rfl, Nat.zero_le _⟩ ?_ ?_
  · cbv
  · intro ⟨i, j⟩ hi0
    have hj : j = (i : Int) := hi0.1
    have hi : i ≤ l.length := hi0.2
    clear hi0
    have hmk : True := trivial
    cbv
    (repeat' (first
| (refine q1w (fun z hz => ?_); (try simp only at hz); cbv)
| (refine rqw ?_; cbv)
| (refine QC.tw ?_; cbv)
| (refine QC.tt ?_ ?_; (focus (simp only [decide_true, Bool.and_true, Bool.and_self] <;> fail)); cbv)
| (refine QC.ff ?_ ?_; (focus (simp only [decide_true, Bool.and_true, Bool.and_self, decide_false, Bool.false_and, reduceCtorEq, not_false_eq_true] <;> fail)); cbv)
| (refine QC.fw ?_; cbv)
| (refine QC.mk (fun hc => ?_) (fun hc => ?_) <;> (try dsimp only at hc) <;> cbv)
| (refine br_mk2 (fun hb => ?_) (fun hb => ?_) <;> (try subst hb) <;> cbv)))
    · have hlt : i < l.length := by (first | omega | (simp only [cst] at *; omega) | (simp only [sm] at *; omega))
      obtain ⟨p, B, hbi, hB, hEi⟩ := hE i hlt
      have hbl := hb p (List.mem_of_getElem? hbi)
      have g := samepiece_r p B hB hbl
      clear hE hL hbi
      skip
      (refine qv (i, _) ⟨hj, hEi⟩ ?_; cbv; (repeat' (first
| (refine q1w (fun z hz => ?_); (try simp only at hz); cbv)
| (refine rqw ?_; cbv)
| (refine QC.tw ?_; cbv)
| (refine QC.tt ?_ ?_; (focus (simp only [decide_true, Bool.and_true, Bool.and_self] <;> fail)); cbv)
| (refine QC.ff ?_ ?_; (focus (simp only [decide_true, Bool.and_true, Bool.and_self, decide_false, Bool.false_and, reduceCtorEq, not_false_eq_true] <;> fail)); cbv)
| (refine QC.fw ?_; cbv)
| (refine QC.mk (fun hc => ?_) (fun hc => ?_) <;> (try dsimp only at hc) <;> cbv)
| (refine br_mk2 (fun hb => ?_) (fun hb => ?_) <;> (try subst hb) <;> cbv))))
      (refine qv (i, _) ⟨hj, hEi⟩ ?_; cbv; (repeat' (first
| (refine q1w (fun z hz => ?_); (try simp only at hz); cbv)
| (refine rqw ?_; cbv)
| (refine QC.tw ?_; cbv)
| (refine QC.tt ?_ ?_; (focus (simp only [decide_true, Bool.and_true, Bool.and_self] <;> fail)); cbv)
| (refine QC.ff ?_ ?_; (focus (simp only [decide_true, Bool.and_true, Bool.and_self, decide_false, Bool.false_and, reduceCtorEq, not_false_eq_true] <;> fail)); cbv)
| (refine QC.fw ?_; cbv)
| (refine QC.mk (fun hc => ?_) (fun hc => ?_) <;> (try dsimp only at hc) <;> cbv)
| (refine br_mk2 (fun hb => ?_) (fun hb => ?_) <;> (try subst hb) <;> cbv))))
      (refine callq (g) rfl rfl ?_; cbv; (repeat' (first
| (refine q1w (fun z hz => ?_); (try simp only at hz); cbv)
| (refine rqw ?_; cbv)
| (refine QC.tw ?_; cbv)
| (refine QC.tt ?_ ?_; (focus (simp only [decide_true, Bool.and_true, Bool.and_self] <;> fail)); cbv)
| (refine QC.ff ?_ ?_; (focus (simp only [decide_true, Bool.and_true, Bool.and_self, decide_false, Bool.false_and, reduceCtorEq, not_false_eq_true] <;> fail)); cbv)
| (refine QC.fw ?_; cbv)
| (refine QC.mk (fun hc => ?_) (fun hc => ?_) <;> (try dsimp only at hc) <;> cbv)
| (refine br_mk2 (fun hb => ?_) (fun hb => ?_) <;> (try subst hb) <;> cbv))))
      refine ⟨(i + 1, z), ⟨by show z = ((i + 1 : Nat) : Int); (first | omega | (simp only [cst] at *; omega) | (simp only [sm] at *; omega)), by show i + 1 ≤ l.length; omega⟩, by show l.length - (i + 1) < l.length - i; omega, ?_⟩
      cbv
    · exact ⟨rfl, rfl, rfl⟩
/-- The concrete senders of the sanity check. -/
theorem known_vs (ps : List (List UInt8)) (hp : ps = [[0, 0, 0, 0], [0, 0, 0, 0], [0, 0]]) (st ak rd un : Int) (ha : (st = 1 ∧ (ak = 0 ∨ ak = 5))) (hr : 0 ≤ rd ∧ rd ≤ 8) (hu : 0 ≤ un ∧ un ≤ 1099511627776) : vs ⟨st, 1, ps, ak, rd, un⟩ = true := by
  subst hp
  refine (vs_iff _).2 ⟨by simp, by simp, by simp, ?_, hr.1, hr.2, hu.1, hu.2, ?_, ?_⟩
  · show ak ≤ allI 3
    rw [show allI 3 = 7 from rfl]; omega
  · intro h
    have : ak = allI 3 := h
    rw [show allI 3 = 7 from rfl] at this; omega
  · intro _; exact .inl ha.1
theorem opn0 : opn 0 3 = [0, 1, 2] := by decide
theorem opn5 : opn 5 3 = [1] := by decide
theorem known_c : Good 26 (pu [] (.bool true)) := by
  obtain ⟨ps, hps⟩ : ∃ ps : List (List UInt8), ps = [[0, 0, 0, 0], [0, 0, 0, 0], [0, 0]] := ⟨_, rfl⟩
  have hl : ps.length = 3 := by rw [hps]; rfl
  obtain ⟨R, hR⟩ : ∃ R, R = rowsB ps := ⟨_, rfl⟩
  have hf : ∀ st ak rd un : Int, 0 ≤ st ∧ st ≤ 3 → 0 ≤ ak ∧ ak ≤ 7 → 0 ≤ rd ∧ rd ≤ 8 → 0 ≤ un ∧ un ≤ 100 → Snd.fits ⟨st, 1, ps, ak, rd, un⟩ := fun st ak rd un h1 h2 h3 h4 =>
    ⟨by dsimp only; omega, by dsimp only; omega, by dsimp only; omega, by dsimp only; omega, by dsimp only; omega, by dsimp only; omega, by
      dsimp only; rw [hps]; decide⟩
  have g1 := begin_p (List.replicate 10 0) (O.rp 10 (.int .u8 0)) (by rw [orp]; rfl) (by decide) 1 8 (by decide) ⟨1, 1, ps, 0, 0, 0⟩ R hR 0 (by rw [hps]; rfl)
  have n1 : nextP ⟨1, 1, ps, 0, 0, 0⟩ 0 = (⟨1, 1, ps, 0, 1, 8⟩, mark (pre 1 ps 0 3), 0) := by
    rw [nextP, if_neg (by rw [known_vs ps hps 1 0 0 0 (by decide) (by decide) (by decide)]; simp), if_neg (by decide), if_neg (by dsimp only; omega), if_neg (by dsimp only; omega)]
    dsimp only
    rw [hl, opn0]; rfl
  have n2 : ackP ⟨1, 1, ps, 0, 1, 8⟩ 1 5 = (⟨1, 1, ps, 5, 0, 0⟩, 0) := by
    rw [ackP, if_neg (by rw [known_vs ps hps 1 0 1 8 (by decide) (by decide) (by decide)]; simp), if_neg (by dsimp only; omega), if_neg (by dsimp only; omega), ackS]
    dsimp only
    rw [hl, show ackW 5 3 = 5 from rfl, show ackO 5 0 = 5 from rfl, show ackD 5 0 = 5 from rfl, show allI 3 = 7 from rfl, if_neg (by decide), if_neg (by decide), if_neg (by decide)]
  have n3 : nextP ⟨1, 1, ps, 5, 0, 0⟩ 3 = (⟨1, 1, ps, 5, 1, 11⟩, mark (pre 1 ps 5 1), 0) := by
    rw [nextP, if_neg (by rw [known_vs ps hps 1 5 0 0 (by decide) (by decide) (by decide)]; simp), if_neg (by decide), if_neg (by dsimp only; omega), if_neg (by dsimp only; omega)]
    dsimp only
    rw [hl, opn5]; rfl
  obtain ⟨L1, hL1⟩ : ∃ L, L = pcL (mark (pre 1 ps 0 3)) := ⟨_, rfl⟩
  obtain ⟨L2, hL2⟩ : ∃ L, L = pcL (mark (pre 1 ps 5 1)) := ⟨_, rfl⟩
  have e1 : L1.length = 3 ∧ ∃ B, L1[2]? = some (.agg [.int .u8 1, .int .i64 2, .int .i64 3, .bool true, .lst none B]) := by
    rw [hL1, hps]; exact ⟨rfl, _, rfl⟩
  have e2 : L2.length = 1 ∧ ∃ B, L2[0]? = some (.agg [.int .u8 1, .int .i64 1, .int .i64 3, .bool true, .lst none B]) := by
    rw [hL2, hps]; exact ⟨rfl, _, rfl⟩
  have g2 := next_p ⟨1, 1, ps, 0, 0, 0⟩ R hR (hf _ _ _ _ (by decide) (by decide) (by decide) (by decide)) 0 (by decide) _ R hR _ L1 hL1 0 n1
  have g3 := ack_p ⟨1, 1, ps, 0, 1, 8⟩ R hR (hf _ _ _ _ (by decide) (by decide) (by decide) (by decide)) 1 5 (by decide) (by decide) _ R hR 0 n2
  have g4 := next_p ⟨1, 1, ps, 5, 0, 0⟩ R hR (hf _ _ _ _ (by decide) (by decide) (by decide) (by decide)) 3 (by decide) _ R hR _ L2 hL2 0 n3
  have e3 := e1.1
  obtain ⟨B1, e4⟩ := e1.2
  have e5 := e2.1
  obtain ⟨B2, e6⟩ := e2.2
  clear e1 e2 hL1 hL2 n1 n2 n3 hf hR hps hl
  refine Good.of Try.func26 rfl (by rfl) (by kernel_rfl) ?_
  cbv
  have hmk : True := trivial
  (repeat' (first
| (refine q1w (fun z hz => ?_); (try simp only at hz); cbv)
| (refine rqw ?_; cbv)
| (refine QC.tw ?_; cbv)
| (refine QC.tt ?_ ?_; (focus (simp only [decide_true, Bool.and_true, Bool.and_self] <;> fail)); cbv)
| (refine QC.ff ?_ ?_; (focus (simp only [decide_true, Bool.and_true, Bool.and_self, decide_false, Bool.false_and, reduceCtorEq, not_false_eq_true] <;> fail)); cbv)
| (refine QC.fw ?_; cbv)
| (refine QC.mk (fun hc => ?_) (fun hc => ?_) <;> (try dsimp only at hc) <;> cbv)
| (refine br_mk2 (fun hb => ?_) (fun hb => ?_) <;> (try subst hb) <;> cbv)))
  (refine callq (g1) rfl rfl ?_; cbv; (repeat' (first
| (refine q1w (fun z hz => ?_); (try simp only at hz); cbv)
| (refine rqw ?_; cbv)
| (refine QC.tw ?_; cbv)
| (refine QC.tt ?_ ?_; (focus (simp only [decide_true, Bool.and_true, Bool.and_self] <;> fail)); cbv)
| (refine QC.ff ?_ ?_; (focus (simp only [decide_true, Bool.and_true, Bool.and_self, decide_false, Bool.false_and, reduceCtorEq, not_false_eq_true] <;> fail)); cbv)
| (refine QC.fw ?_; cbv)
| (refine QC.mk (fun hc => ?_) (fun hc => ?_) <;> (try dsimp only at hc) <;> cbv)
| (refine br_mk2 (fun hb => ?_) (fun hb => ?_) <;> (try subst hb) <;> cbv))))
  (refine callq (g2) rfl rfl ?_; cbv; (repeat' (first
| (refine q1w (fun z hz => ?_); (try simp only at hz); cbv)
| (refine rqw ?_; cbv)
| (refine QC.tw ?_; cbv)
| (refine QC.tt ?_ ?_; (focus (simp only [decide_true, Bool.and_true, Bool.and_self] <;> fail)); cbv)
| (refine QC.ff ?_ ?_; (focus (simp only [decide_true, Bool.and_true, Bool.and_self, decide_false, Bool.false_and, reduceCtorEq, not_false_eq_true] <;> fail)); cbv)
| (refine QC.fw ?_; cbv)
| (refine QC.mk (fun hc => ?_) (fun hc => ?_) <;> (try dsimp only at hc) <;> cbv)
| (refine br_mk2 (fun hb => ?_) (fun hb => ?_) <;> (try subst hb) <;> cbv))))
  (refine callq (g3) rfl rfl ?_; cbv; (repeat' (first
| (refine q1w (fun z hz => ?_); (try simp only at hz); cbv)
| (refine rqw ?_; cbv)
| (refine QC.tw ?_; cbv)
| (refine QC.tt ?_ ?_; (focus (simp only [decide_true, Bool.and_true, Bool.and_self] <;> fail)); cbv)
| (refine QC.ff ?_ ?_; (focus (simp only [decide_true, Bool.and_true, Bool.and_self, decide_false, Bool.false_and, reduceCtorEq, not_false_eq_true] <;> fail)); cbv)
| (refine QC.fw ?_; cbv)
| (refine QC.mk (fun hc => ?_) (fun hc => ?_) <;> (try dsimp only at hc) <;> cbv)
| (refine br_mk2 (fun hb => ?_) (fun hb => ?_) <;> (try subst hb) <;> cbv))))
  (refine callq (g4) rfl rfl ?_; cbv; (repeat' (first
| (refine q1w (fun z hz => ?_); (try simp only at hz); cbv)
| (refine rqw ?_; cbv)
| (refine QC.tw ?_; cbv)
| (refine QC.tt ?_ ?_; (focus (simp only [decide_true, Bool.and_true, Bool.and_self] <;> fail)); cbv)
| (refine QC.ff ?_ ?_; (focus (simp only [decide_true, Bool.and_true, Bool.and_self, decide_false, Bool.false_and, reduceCtorEq, not_false_eq_true] <;> fail)); cbv)
| (refine QC.fw ?_; cbv)
| (refine QC.mk (fun hc => ?_) (fun hc => ?_) <;> (try dsimp only at hc) <;> cbv)
| (refine br_mk2 (fun hb => ?_) (fun hb => ?_) <;> (try subst hb) <;> cbv))))
  (refine qv (2, _) ⟨rfl, e4⟩ ?_; cbv; (repeat' (first
| (refine q1w (fun z hz => ?_); (try simp only at hz); cbv)
| (refine rqw ?_; cbv)
| (refine QC.tw ?_; cbv)
| (refine QC.tt ?_ ?_; (focus (simp only [decide_true, Bool.and_true, Bool.and_self] <;> fail)); cbv)
| (refine QC.ff ?_ ?_; (focus (simp only [decide_true, Bool.and_true, Bool.and_self, decide_false, Bool.false_and, reduceCtorEq, not_false_eq_true] <;> fail)); cbv)
| (refine QC.fw ?_; cbv)
| (refine QC.mk (fun hc => ?_) (fun hc => ?_) <;> (try dsimp only at hc) <;> cbv)
| (refine br_mk2 (fun hb => ?_) (fun hb => ?_) <;> (try subst hb) <;> cbv))))
  (refine qv (0, _) ⟨rfl, e6⟩ ?_; cbv; (repeat' (first
| (refine q1w (fun z hz => ?_); (try simp only at hz); cbv)
| (refine rqw ?_; cbv)
| (refine QC.tw ?_; cbv)
| (refine QC.tt ?_ ?_; (focus (simp only [decide_true, Bool.and_true, Bool.and_self] <;> fail)); cbv)
| (refine QC.ff ?_ ?_; (focus (simp only [decide_true, Bool.and_true, Bool.and_self, decide_false, Bool.false_and, reduceCtorEq, not_false_eq_true] <;> fail)); cbv)
| (refine QC.fw ?_; cbv)
| (refine QC.mk (fun hc => ?_) (fun hc => ?_) <;> (try dsimp only at hc) <;> cbv)
| (refine br_mk2 (fun hb => ?_) (fun hb => ?_) <;> (try subst hb) <;> cbv))))
  exact ⟨rfl, rfl, rfl⟩
end Go.Proofs.Ytjhicdoigllblaa
/- The sender of a datagram that fits: plain laws. -/
namespace Go.Proofs.Ytjhicdoigllblaa
set_option linter.unusedVariables false
set_option linter.unusedSimpArgs false
open Go.RowKit
theorem tape1 (zs : List Int) (hz : ∀ v ∈ zs, -9223372036854775808 ≤ v ∧ v ≤ 9223372036854775807) : Tp ((ints .i64 zs).take 400) 0 :=
  ⟨⟨zs.take 400, by simp [ints], fun v hv => hz v (List.mem_of_mem_take hv), by rw [List.length_take]; omega⟩, by omega⟩
/-- A list of pieces that a sender may have. -/
structure Pcs (ps : List (List UInt8)) : Prop where
  n1 : 1 ≤ ps.length
  n2 : ps.length ≤ 32
  ne : ∀ p ∈ ps, p ≠ []
  b : ∀ p ∈ ps, p.length ≤ 140737488351232
theorem Pcs.fits {ps : List (List UInt8)} (h : Pcs ps) {st tag ak rd un : Int} (h1 : 0 ≤ st ∧ st ≤ 3) (h2 : 0 ≤ tag ∧ tag ≤ 255) (h3 : 0 ≤ ak ∧ ak ≤ 4294967295) (h4 : 0 ≤ rd ∧ rd ≤ 8) (h5 : 0 ≤ un ∧ un ≤ 1099511627776) : Snd.fits ⟨st, tag, ps, ak, rd, un⟩ :=
  ⟨by dsimp only; omega, h2, h3, by dsimp only; omega, by dsimp only; omega, by have := h.n2; dsimp only; omega, h.b⟩
theorem allI_pos {n : Nat} (h : 1 ≤ n) : 1 ≤ allI n := by
  rw [allI_nat]
  have : 2 ^ 1 ≤ 2 ^ n := Nat.pow_le_pow_right (by omega) h
  omega
theorem Pcs.vs {ps : List (List UInt8)} (h : Pcs ps) {st tag ak rd un : Int} (h1 : st = 1 ∨ st = 3) (h3 : ak < allI ps.length) (h4 : 0 ≤ rd ∧ rd ≤ 8) (h5 : 0 ≤ un ∧ un ≤ 1099511627776) : vs ⟨st, tag, ps, ak, rd, un⟩ = true :=
  (vs_iff _).2 ⟨h.n1, h.n2, h.ne, by dsimp only; omega, h4.1, h4.2, h5.1, h5.2, fun e => by dsimp only at e; omega, fun _ => h1⟩
theorem Pcs.vs2 {ps : List (List UInt8)} (h : Pcs ps) {tag ak rd un : Int} (h3 : ak = allI ps.length) (h4 : 0 ≤ rd ∧ rd ≤ 8) (h5 : 0 ≤ un ∧ un ≤ 1099511627776) : Go.Proofs.Ytjhicdoigllblaa.vs ⟨2, tag, ps, ak, rd, un⟩ = true :=
  (vs_iff _).2 ⟨h.n1, h.n2, h.ne, by dsimp only; omega, h4.1, h4.2, h5.1, h5.2, fun e => rfl, fun e => absurd h3 e⟩
/-- What Begin makes of a datagram that fits. -/
theorem beg_ok (b : List UInt8) (tag : Int) (sz : Nat) (hb : b.length ≤ 140737488351232) (h1 : 1 ≤ b.length) (hs : 1 ≤ sz) (hn : (b.length - 1) / sz < 32) :
    begP b tag (4 + sz) = (⟨1, tag, chk sz b (nPc b.length sz), 0, 0, 0⟩, 0) ∧ Pcs (chk sz b (nPc b.length sz)) := by
  have e1 : (4 + (sz : Int) - 4).toNat = sz := by omega
  have e2 : ((b.length : Int) - 1) / (4 + (sz : Int) - 4) = (((b.length - 1) / sz : Nat) : Int) := by
    rw [show (4 + (sz : Int) - 4) = sz by omega, show ((b.length : Int) - 1) = ((b.length - 1 : Nat) : Int) by omega]
    exact (Int.natCast_ediv _ _).symm
  refine ⟨?_, ?_, ?_, ?_, ?_⟩
  · rw [begP, if_neg (show ¬ (4 + (sz : Int) ≤ 4) by omega), if_neg (show ¬ (b.length = 0 ∨ 32 ≤ ((b.length : Int) - 1) / (4 + (sz : Int) - 4)) by rw [e2]; omega), e1]
  · rw [chk_len, nPc]; exact Nat.le_add_left 1 _
  · rw [chk_len, nPc]; exact hn
  · intro p hp
    simp only [chk, List.mem_map, List.mem_range] at hp
    obtain ⟨i, hi, rfl⟩ := hp
    have := nPc_lt h1 hs hi
    intro e
    have := congrArg List.length e
    rw [List.length_take, List.length_drop, List.length_nil] at this
    omega
  · intro p hp
    simp only [chk, List.mem_map] at hp
    obtain ⟨i, _, rfl⟩ := hp
    rw [List.length_take, List.length_drop]
    omega
theorem nextP_send {ps : List (List UInt8)} (h : Pcs ps) {tag ak rd un now : Int} (hak : 0 ≤ ak ∧ ak < allI ps.length) (hrd : 0 ≤ rd ∧ rd < 8) (hun : 0 ≤ un ∧ un ≤ 1099511627776) (hnow : un ≤ now ∧ now ≤ 1099511627776) :
    nextP ⟨1, tag, ps, ak, rd, un⟩ now = (⟨1, tag, ps, ak, rd + 1, min (now + 8) 1099511627776⟩, mark (pre tag ps ak (min (opn ak ps.length).length 8)), 0) ∧ 1 ≤ (opn ak ps.length).length := by
  refine ⟨?_, opn_pos hak.1 (by omega) (by omega)⟩
  rw [nextP, if_neg (by rw [h.vs (.inl rfl) hak.2 (by omega) hun]; simp), if_neg (by omega), if_neg (by dsimp only; omega), if_neg (by dsimp only; omega)]
theorem nextP_wait {ps : List (List UInt8)} (h : Pcs ps) {tag ak rd un now : Int} (hak : 0 ≤ ak ∧ ak < allI ps.length) (hrd : 0 ≤ rd ∧ rd ≤ 8) (hun : 0 ≤ un ∧ un ≤ 1099511627776) (hnow : 0 ≤ now ∧ now < un) :
    nextP ⟨1, tag, ps, ak, rd, un⟩ now = (⟨1, tag, ps, ak, rd, un⟩, [], 0) := by
  rw [nextP, if_neg (by rw [h.vs (.inl rfl) hak.2 hrd hun]; simp), if_neg (by omega), if_pos (by dsimp only; omega)]
theorem nextP_fail {ps : List (List UInt8)} (h : Pcs ps) {tag ak un now : Int} (hak : 0 ≤ ak ∧ ak < allI ps.length) (hun : 0 ≤ un ∧ un ≤ 1099511627776) (hnow : un ≤ now ∧ now ≤ 1099511627776) :
    nextP ⟨1, tag, ps, ak, 8, un⟩ now = (⟨3, tag, ps, ak, 8, un⟩, [], 0) := by
  rw [nextP, if_neg (by rw [h.vs (.inl rfl) hak.2 (by omega) hun]; simp), if_neg (by omega), if_neg (by dsimp only; omega), if_pos (by dsimp only)]
theorem sent_len (tag : Int) (ps : List (List UInt8)) (ak : Int) : (mark (pre tag ps ak (min (opn ak ps.length).length 8))).length = min (opn ak ps.length).length 8 := by
  rw [mark_len, pre_len _ _ _ _ (by omega)]
end Go.Proofs.Ytjhicdoigllblaa
/- The way of a loop whose round is given by existence alone: one end for all. -/
namespace Go.Proofs.Ytjhicdoigllblaa
set_option linter.unusedVariables false
set_option linter.unusedSimpArgs false
/-- From a0 on, the rounds R, as long as C: a set S of states that the loop goes through, all of which lead to the one end. -/
theorem orbit {A : Type} (I C : A → Prop) (μ : A → Nat) (R : A → A → Prop) (h : ∀ a, I a → C a → ∃ a', I a' ∧ μ a' < μ a ∧ R a a') (a0 : A) (h0 : I a0) :
    ∃ (fin : A) (S : A → Prop), S a0 ∧ (∀ a, S a → I a) ∧ (∀ a, S a → C a → ∃ a', S a' ∧ μ a' < μ a ∧ R a a') ∧ (∀ a, S a → ¬ C a → a = fin) ∧ I fin ∧ ¬ C fin := by
  have key : ∀ n a, μ a = n → I a → ∃ (fin : A) (S : A → Prop), S a ∧ (∀ a, S a → I a) ∧ (∀ a, S a → C a → ∃ a', S a' ∧ μ a' < μ a ∧ R a a') ∧ (∀ a, S a → ¬ C a → a = fin) ∧ I fin ∧ ¬ C fin := by
    intro n
    induction n using Nat.strongRecOn with
    | _ n ih =>
      intro a hn hI
      by_cases hC : C a
      · obtain ⟨a', h1, h2, h3⟩ := h a hI hC
        obtain ⟨fin, S, s0, s1, s2, s3, s4, s5⟩ := ih (μ a') (hn ▸ h2) a' rfl h1
        refine ⟨fin, fun x => x = a ∨ S x, .inl rfl, fun x hx => ?_, fun x hx hc => ?_, fun x hx hc => ?_, s4, s5⟩
        · rcases hx with rfl | hx
          · exact hI
          · exact s1 x hx
        · rcases hx with rfl | hx
          · exact ⟨a', .inr s0, h2, h3⟩
          · obtain ⟨y, y1, y2, y3⟩ := s2 x hx hc
            exact ⟨y, .inr y1, y2, y3⟩
        · rcases hx with rfl | hx
          · exact absurd hC hc
          · exact s3 x hx hc
      · exact ⟨a, fun x => x = a, rfl, fun x hx => hx ▸ hI, fun x hx hc => absurd (hx ▸ hc) hC, fun x hx _ => hx, hI, hC⟩
  exact key _ a0 rfl h0
end Go.Proofs.Ytjhicdoigllblaa
/- The tape's words and times. -/
namespace Go.Proofs.Ytjhicdoigllblaa
set_option linter.unusedVariables false
set_option linter.unusedSimpArgs false
open Go.RowKit
set_option maxHeartbeats 8000000
theorem word_e {L : List SV} {a : Int} (h : Tp L a) : ∃ v b, 0 ≤ v ∧ v ≤ 18446744073709551615 ∧ Tp L b ∧
    Good 50 (le 81 (.agg [.lst none L, .int .i64 a]) [] (.int .u64 v) (.agg [.lst none L, .int .i64 b])) := by
  obtain ⟨r1, b1, p1, u1, t1, g1⟩ := next_e h 65536 (by omega)
  obtain ⟨r2, b2, p2, u2, t2, g2⟩ := next_e t1 5 (by omega)
  obtain ⟨v, hv⟩ : ∃ v, v = if r2 = 0 then r1 else if r2 = 1 then r1 * 281474976710656 + r1 else if r2 = 2 then 9223372036854775808 + r1 else if r2 = 3 then 18446744073709551615 - r1 % 4 else r1 % 4 := ⟨_, rfl⟩
  refine ⟨v, b2, ?_, ?_, t2, ?_⟩
  · rw [hv]; repeat' split
    all_goals omega
  · rw [hv]; repeat' split
    all_goals omega
  · refine Good.of Try.func50 rfl (by rfl) (by kernel_rfl) ?_
    cbv
    have hmk : True := trivial
    (repeat' (first
| (refine q1w (fun z hz => ?_); (try simp only at hz); cbv)
| (refine rqw ?_; cbv)
| (refine QC.tw ?_; cbv)
| (refine QC.tt ?_ ?_; (focus (simp only [decide_true, Bool.and_true, Bool.and_self] <;> fail)); cbv)
| (refine QC.ff ?_ ?_; (focus (simp only [decide_true, Bool.and_true, Bool.and_self, decide_false, Bool.false_and, reduceCtorEq, not_false_eq_true] <;> fail)); cbv)
| (refine QC.fw ?_; cbv)
| (refine QC.mk (fun hc => ?_) (fun hc => ?_) <;> (try dsimp only at hc) <;> cbv)
| (refine br_mk2 (fun hb => ?_) (fun hb => ?_) <;> (try subst hb) <;> cbv)))
    (refine callq (g1) rfl rfl ?_; cbv; (repeat' (first
| (refine q1w (fun z hz => ?_); (try simp only at hz); cbv)
| (refine rqw ?_; cbv)
| (refine QC.tw ?_; cbv)
| (refine QC.tt ?_ ?_; (focus (simp only [decide_true, Bool.and_true, Bool.and_self] <;> fail)); cbv)
| (refine QC.ff ?_ ?_; (focus (simp only [decide_true, Bool.and_true, Bool.and_self, decide_false, Bool.false_and, reduceCtorEq, not_false_eq_true] <;> fail)); cbv)
| (refine QC.fw ?_; cbv)
| (refine QC.mk (fun hc => ?_) (fun hc => ?_) <;> (try dsimp only at hc) <;> cbv)
| (refine br_mk2 (fun hb => ?_) (fun hb => ?_) <;> (try subst hb) <;> cbv))))
    (refine callq (g2) rfl rfl ?_; cbv; (repeat' (first
| (refine q1w (fun z hz => ?_); (try simp only at hz); cbv)
| (refine rqw ?_; cbv)
| (refine QC.tw ?_; cbv)
| (refine QC.tt ?_ ?_; (focus (simp only [decide_true, Bool.and_true, Bool.and_self] <;> fail)); cbv)
| (refine QC.ff ?_ ?_; (focus (simp only [decide_true, Bool.and_true, Bool.and_self, decide_false, Bool.false_and, reduceCtorEq, not_false_eq_true] <;> fail)); cbv)
| (refine QC.fw ?_; cbv)
| (refine QC.mk (fun hc => ?_) (fun hc => ?_) <;> (try dsimp only at hc) <;> cbv)
| (refine br_mk2 (fun hb => ?_) (fun hb => ?_) <;> (try subst hb) <;> cbv))))
    all_goals
      (try simp only [show (2 : Int) ^ Int.toNat 48 = 281474976710656 from rfl] at *)
      have hzv : z = v := by
        rw [hv]
        repeat' split
        all_goals omega
      subst hzv
      exact ⟨rfl, rfl, rfl⟩
theorem now_e {L : List SV} {a : Int} (h : Tp L a) : ∃ t b, (-1 ≤ t ∧ t ≤ 1099511627777) ∧ Tp L b ∧
    Good 13 (le 81 (.agg [.lst none L, .int .i64 a]) [] (.int .i64 t) (.agg [.lst none L, .int .i64 b])) := by
  obtain ⟨n1, b1, p1, u1, t1, g1⟩ := next_e h 60 (by omega)
  obtain ⟨n2, b2, p2, u2, t2, g2⟩ := next_e t1 60 (by omega)
  obtain ⟨n3, b3, p3, u3, t3, g3⟩ := next_e t2 60 (by omega)
  obtain ⟨n4, b4, p4, u4, t4, g4⟩ := next_e t3 6 (by omega)
  rcases (show n4 = 0 ∨ n4 = 1 ∨ n4 = 2 ∨ n4 = 3 ∨ n4 = 4 ∨ n4 = 5 by omega) with e | e | e | e | e | e
  all_goals subst e
  · refine ⟨n1, b4, by omega, t4, ?_⟩
    refine Good.of Try.func13 rfl (by rfl) (by kernel_rfl) ?_
    cbv
    (repeat' (first
| (refine q1w (fun z hz => ?_); (try simp only at hz); cbv)
| (refine rqw ?_; cbv)
| (refine QC.tw ?_; cbv)
| (refine QC.tt ?_ ?_; (focus (simp only [decide_true, Bool.and_true, Bool.and_self] <;> fail)); cbv)
| (refine QC.ff ?_ ?_; (focus (simp only [decide_true, Bool.and_true, Bool.and_self, decide_false, Bool.false_and, reduceCtorEq, not_false_eq_true] <;> fail)); cbv)
| (refine QC.fw ?_; cbv)
| (refine QC.mk (fun hc => ?_) (fun hc => ?_) <;> (try dsimp only at hc) <;> cbv)
| (refine br_mk2 (fun hb => ?_) (fun hb => ?_) <;> (try subst hb) <;> cbv)))
    (refine callq (g1) rfl rfl ?_; cbv; (repeat' (first
| (refine q1w (fun z hz => ?_); (try simp only at hz); cbv)
| (refine rqw ?_; cbv)
| (refine QC.tw ?_; cbv)
| (refine QC.tt ?_ ?_; (focus (simp only [decide_true, Bool.and_true, Bool.and_self] <;> fail)); cbv)
| (refine QC.ff ?_ ?_; (focus (simp only [decide_true, Bool.and_true, Bool.and_self, decide_false, Bool.false_and, reduceCtorEq, not_false_eq_true] <;> fail)); cbv)
| (refine QC.fw ?_; cbv)
| (refine QC.mk (fun hc => ?_) (fun hc => ?_) <;> (try dsimp only at hc) <;> cbv)
| (refine br_mk2 (fun hb => ?_) (fun hb => ?_) <;> (try subst hb) <;> cbv))))
    (refine callq (g2) rfl rfl ?_; cbv; (repeat' (first
| (refine q1w (fun z hz => ?_); (try simp only at hz); cbv)
| (refine rqw ?_; cbv)
| (refine QC.tw ?_; cbv)
| (refine QC.tt ?_ ?_; (focus (simp only [decide_true, Bool.and_true, Bool.and_self] <;> fail)); cbv)
| (refine QC.ff ?_ ?_; (focus (simp only [decide_true, Bool.and_true, Bool.and_self, decide_false, Bool.false_and, reduceCtorEq, not_false_eq_true] <;> fail)); cbv)
| (refine QC.fw ?_; cbv)
| (refine QC.mk (fun hc => ?_) (fun hc => ?_) <;> (try dsimp only at hc) <;> cbv)
| (refine br_mk2 (fun hb => ?_) (fun hb => ?_) <;> (try subst hb) <;> cbv))))
    (refine callq (g3) rfl rfl ?_; cbv; (repeat' (first
| (refine q1w (fun z hz => ?_); (try simp only at hz); cbv)
| (refine rqw ?_; cbv)
| (refine QC.tw ?_; cbv)
| (refine QC.tt ?_ ?_; (focus (simp only [decide_true, Bool.and_true, Bool.and_self] <;> fail)); cbv)
| (refine QC.ff ?_ ?_; (focus (simp only [decide_true, Bool.and_true, Bool.and_self, decide_false, Bool.false_and, reduceCtorEq, not_false_eq_true] <;> fail)); cbv)
| (refine QC.fw ?_; cbv)
| (refine QC.mk (fun hc => ?_) (fun hc => ?_) <;> (try dsimp only at hc) <;> cbv)
| (refine br_mk2 (fun hb => ?_) (fun hb => ?_) <;> (try subst hb) <;> cbv))))
    (refine callq (g4) rfl rfl ?_; cbv; (repeat' (first
| (refine q1w (fun z hz => ?_); (try simp only at hz); cbv)
| (refine rqw ?_; cbv)
| (refine QC.tw ?_; cbv)
| (refine QC.tt ?_ ?_; (focus (simp only [decide_true, Bool.and_true, Bool.and_self] <;> fail)); cbv)
| (refine QC.ff ?_ ?_; (focus (simp only [decide_true, Bool.and_true, Bool.and_self, decide_false, Bool.false_and, reduceCtorEq, not_false_eq_true] <;> fail)); cbv)
| (refine QC.fw ?_; cbv)
| (refine QC.mk (fun hc => ?_) (fun hc => ?_) <;> (try dsimp only at hc) <;> cbv)
| (refine br_mk2 (fun hb => ?_) (fun hb => ?_) <;> (try subst hb) <;> cbv))))
    refine qv 0 (by simp only [sm]; exact ⟨rfl, by decide⟩) ?_
    cbv
    refine qv _ rfl ?_
    cbv
    (repeat' (first
| (refine q1w (fun z hz => ?_); (try simp only at hz); cbv)
| (refine rqw ?_; cbv)
| (refine QC.tw ?_; cbv)
| (refine QC.tt ?_ ?_; (focus (simp only [decide_true, Bool.and_true, Bool.and_self] <;> fail)); cbv)
| (refine QC.ff ?_ ?_; (focus (simp only [decide_true, Bool.and_true, Bool.and_self, decide_false, Bool.false_and, reduceCtorEq, not_false_eq_true] <;> fail)); cbv)
| (refine QC.fw ?_; cbv)
| (refine QC.mk (fun hc => ?_) (fun hc => ?_) <;> (try dsimp only at hc) <;> cbv)
| (refine br_mk2 (fun hb => ?_) (fun hb => ?_) <;> (try subst hb) <;> cbv)))
    exact ⟨rfl, rfl, rfl⟩
  · refine ⟨n2, b4, by omega, t4, ?_⟩
    refine Good.of Try.func13 rfl (by rfl) (by kernel_rfl) ?_
    cbv
    (repeat' (first
| (refine q1w (fun z hz => ?_); (try simp only at hz); cbv)
| (refine rqw ?_; cbv)
| (refine QC.tw ?_; cbv)
| (refine QC.tt ?_ ?_; (focus (simp only [decide_true, Bool.and_true, Bool.and_self] <;> fail)); cbv)
| (refine QC.ff ?_ ?_; (focus (simp only [decide_true, Bool.and_true, Bool.and_self, decide_false, Bool.false_and, reduceCtorEq, not_false_eq_true] <;> fail)); cbv)
| (refine QC.fw ?_; cbv)
| (refine QC.mk (fun hc => ?_) (fun hc => ?_) <;> (try dsimp only at hc) <;> cbv)
| (refine br_mk2 (fun hb => ?_) (fun hb => ?_) <;> (try subst hb) <;> cbv)))
    (refine callq (g1) rfl rfl ?_; cbv; (repeat' (first
| (refine q1w (fun z hz => ?_); (try simp only at hz); cbv)
| (refine rqw ?_; cbv)
| (refine QC.tw ?_; cbv)
| (refine QC.tt ?_ ?_; (focus (simp only [decide_true, Bool.and_true, Bool.and_self] <;> fail)); cbv)
| (refine QC.ff ?_ ?_; (focus (simp only [decide_true, Bool.and_true, Bool.and_self, decide_false, Bool.false_and, reduceCtorEq, not_false_eq_true] <;> fail)); cbv)
| (refine QC.fw ?_; cbv)
| (refine QC.mk (fun hc => ?_) (fun hc => ?_) <;> (try dsimp only at hc) <;> cbv)
| (refine br_mk2 (fun hb => ?_) (fun hb => ?_) <;> (try subst hb) <;> cbv))))
    (refine callq (g2) rfl rfl ?_; cbv; (repeat' (first
| (refine q1w (fun z hz => ?_); (try simp only at hz); cbv)
| (refine rqw ?_; cbv)
| (refine QC.tw ?_; cbv)
| (refine QC.tt ?_ ?_; (focus (simp only [decide_true, Bool.and_true, Bool.and_self] <;> fail)); cbv)
| (refine QC.ff ?_ ?_; (focus (simp only [decide_true, Bool.and_true, Bool.and_self, decide_false, Bool.false_and, reduceCtorEq, not_false_eq_true] <;> fail)); cbv)
| (refine QC.fw ?_; cbv)
| (refine QC.mk (fun hc => ?_) (fun hc => ?_) <;> (try dsimp only at hc) <;> cbv)
| (refine br_mk2 (fun hb => ?_) (fun hb => ?_) <;> (try subst hb) <;> cbv))))
    (refine callq (g3) rfl rfl ?_; cbv; (repeat' (first
| (refine q1w (fun z hz => ?_); (try simp only at hz); cbv)
| (refine rqw ?_; cbv)
| (refine QC.tw ?_; cbv)
| (refine QC.tt ?_ ?_; (focus (simp only [decide_true, Bool.and_true, Bool.and_self] <;> fail)); cbv)
| (refine QC.ff ?_ ?_; (focus (simp only [decide_true, Bool.and_true, Bool.and_self, decide_false, Bool.false_and, reduceCtorEq, not_false_eq_true] <;> fail)); cbv)
| (refine QC.fw ?_; cbv)
| (refine QC.mk (fun hc => ?_) (fun hc => ?_) <;> (try dsimp only at hc) <;> cbv)
| (refine br_mk2 (fun hb => ?_) (fun hb => ?_) <;> (try subst hb) <;> cbv))))
    (refine callq (g4) rfl rfl ?_; cbv; (repeat' (first
| (refine q1w (fun z hz => ?_); (try simp only at hz); cbv)
| (refine rqw ?_; cbv)
| (refine QC.tw ?_; cbv)
| (refine QC.tt ?_ ?_; (focus (simp only [decide_true, Bool.and_true, Bool.and_self] <;> fail)); cbv)
| (refine QC.ff ?_ ?_; (focus (simp only [decide_true, Bool.and_true, Bool.and_self, decide_false, Bool.false_and, reduceCtorEq, not_false_eq_true] <;> fail)); cbv)
| (refine QC.fw ?_; cbv)
| (refine QC.mk (fun hc => ?_) (fun hc => ?_) <;> (try dsimp only at hc) <;> cbv)
| (refine br_mk2 (fun hb => ?_) (fun hb => ?_) <;> (try subst hb) <;> cbv))))
    refine qv 1 (by simp only [sm]; exact ⟨rfl, by decide⟩) ?_
    cbv
    refine qv _ rfl ?_
    cbv
    (repeat' (first
| (refine q1w (fun z hz => ?_); (try simp only at hz); cbv)
| (refine rqw ?_; cbv)
| (refine QC.tw ?_; cbv)
| (refine QC.tt ?_ ?_; (focus (simp only [decide_true, Bool.and_true, Bool.and_self] <;> fail)); cbv)
| (refine QC.ff ?_ ?_; (focus (simp only [decide_true, Bool.and_true, Bool.and_self, decide_false, Bool.false_and, reduceCtorEq, not_false_eq_true] <;> fail)); cbv)
| (refine QC.fw ?_; cbv)
| (refine QC.mk (fun hc => ?_) (fun hc => ?_) <;> (try dsimp only at hc) <;> cbv)
| (refine br_mk2 (fun hb => ?_) (fun hb => ?_) <;> (try subst hb) <;> cbv)))
    exact ⟨rfl, rfl, rfl⟩
  · refine ⟨n3, b4, by omega, t4, ?_⟩
    refine Good.of Try.func13 rfl (by rfl) (by kernel_rfl) ?_
    cbv
    (repeat' (first
| (refine q1w (fun z hz => ?_); (try simp only at hz); cbv)
| (refine rqw ?_; cbv)
| (refine QC.tw ?_; cbv)
| (refine QC.tt ?_ ?_; (focus (simp only [decide_true, Bool.and_true, Bool.and_self] <;> fail)); cbv)
| (refine QC.ff ?_ ?_; (focus (simp only [decide_true, Bool.and_true, Bool.and_self, decide_false, Bool.false_and, reduceCtorEq, not_false_eq_true] <;> fail)); cbv)
| (refine QC.fw ?_; cbv)
| (refine QC.mk (fun hc => ?_) (fun hc => ?_) <;> (try dsimp only at hc) <;> cbv)
| (refine br_mk2 (fun hb => ?_) (fun hb => ?_) <;> (try subst hb) <;> cbv)))
    (refine callq (g1) rfl rfl ?_; cbv; (repeat' (first
| (refine q1w (fun z hz => ?_); (try simp only at hz); cbv)
| (refine rqw ?_; cbv)
| (refine QC.tw ?_; cbv)
| (refine QC.tt ?_ ?_; (focus (simp only [decide_true, Bool.and_true, Bool.and_self] <;> fail)); cbv)
| (refine QC.ff ?_ ?_; (focus (simp only [decide_true, Bool.and_true, Bool.and_self, decide_false, Bool.false_and, reduceCtorEq, not_false_eq_true] <;> fail)); cbv)
| (refine QC.fw ?_; cbv)
| (refine QC.mk (fun hc => ?_) (fun hc => ?_) <;> (try dsimp only at hc) <;> cbv)
| (refine br_mk2 (fun hb => ?_) (fun hb => ?_) <;> (try subst hb) <;> cbv))))
    (refine callq (g2) rfl rfl ?_; cbv; (repeat' (first
| (refine q1w (fun z hz => ?_); (try simp only at hz); cbv)
| (refine rqw ?_; cbv)
| (refine QC.tw ?_; cbv)
| (refine QC.tt ?_ ?_; (focus (simp only [decide_true, Bool.and_true, Bool.and_self] <;> fail)); cbv)
| (refine QC.ff ?_ ?_; (focus (simp only [decide_true, Bool.and_true, Bool.and_self, decide_false, Bool.false_and, reduceCtorEq, not_false_eq_true] <;> fail)); cbv)
| (refine QC.fw ?_; cbv)
| (refine QC.mk (fun hc => ?_) (fun hc => ?_) <;> (try dsimp only at hc) <;> cbv)
| (refine br_mk2 (fun hb => ?_) (fun hb => ?_) <;> (try subst hb) <;> cbv))))
    (refine callq (g3) rfl rfl ?_; cbv; (repeat' (first
| (refine q1w (fun z hz => ?_); (try simp only at hz); cbv)
| (refine rqw ?_; cbv)
| (refine QC.tw ?_; cbv)
| (refine QC.tt ?_ ?_; (focus (simp only [decide_true, Bool.and_true, Bool.and_self] <;> fail)); cbv)
| (refine QC.ff ?_ ?_; (focus (simp only [decide_true, Bool.and_true, Bool.and_self, decide_false, Bool.false_and, reduceCtorEq, not_false_eq_true] <;> fail)); cbv)
| (refine QC.fw ?_; cbv)
| (refine QC.mk (fun hc => ?_) (fun hc => ?_) <;> (try dsimp only at hc) <;> cbv)
| (refine br_mk2 (fun hb => ?_) (fun hb => ?_) <;> (try subst hb) <;> cbv))))
    (refine callq (g4) rfl rfl ?_; cbv; (repeat' (first
| (refine q1w (fun z hz => ?_); (try simp only at hz); cbv)
| (refine rqw ?_; cbv)
| (refine QC.tw ?_; cbv)
| (refine QC.tt ?_ ?_; (focus (simp only [decide_true, Bool.and_true, Bool.and_self] <;> fail)); cbv)
| (refine QC.ff ?_ ?_; (focus (simp only [decide_true, Bool.and_true, Bool.and_self, decide_false, Bool.false_and, reduceCtorEq, not_false_eq_true] <;> fail)); cbv)
| (refine QC.fw ?_; cbv)
| (refine QC.mk (fun hc => ?_) (fun hc => ?_) <;> (try dsimp only at hc) <;> cbv)
| (refine br_mk2 (fun hb => ?_) (fun hb => ?_) <;> (try subst hb) <;> cbv))))
    refine qv 2 (by simp only [sm]; exact ⟨rfl, by decide⟩) ?_
    cbv
    refine qv _ rfl ?_
    cbv
    (repeat' (first
| (refine q1w (fun z hz => ?_); (try simp only at hz); cbv)
| (refine rqw ?_; cbv)
| (refine QC.tw ?_; cbv)
| (refine QC.tt ?_ ?_; (focus (simp only [decide_true, Bool.and_true, Bool.and_self] <;> fail)); cbv)
| (refine QC.ff ?_ ?_; (focus (simp only [decide_true, Bool.and_true, Bool.and_self, decide_false, Bool.false_and, reduceCtorEq, not_false_eq_true] <;> fail)); cbv)
| (refine QC.fw ?_; cbv)
| (refine QC.mk (fun hc => ?_) (fun hc => ?_) <;> (try dsimp only at hc) <;> cbv)
| (refine br_mk2 (fun hb => ?_) (fun hb => ?_) <;> (try subst hb) <;> cbv)))
    exact ⟨rfl, rfl, rfl⟩
  · refine ⟨1099511627776, b4, by omega, t4, ?_⟩
    refine Good.of Try.func13 rfl (by rfl) (by kernel_rfl) ?_
    cbv
    (repeat' (first
| (refine q1w (fun z hz => ?_); (try simp only at hz); cbv)
| (refine rqw ?_; cbv)
| (refine QC.tw ?_; cbv)
| (refine QC.tt ?_ ?_; (focus (simp only [decide_true, Bool.and_true, Bool.and_self] <;> fail)); cbv)
| (refine QC.ff ?_ ?_; (focus (simp only [decide_true, Bool.and_true, Bool.and_self, decide_false, Bool.false_and, reduceCtorEq, not_false_eq_true] <;> fail)); cbv)
| (refine QC.fw ?_; cbv)
| (refine QC.mk (fun hc => ?_) (fun hc => ?_) <;> (try dsimp only at hc) <;> cbv)
| (refine br_mk2 (fun hb => ?_) (fun hb => ?_) <;> (try subst hb) <;> cbv)))
    (refine callq (g1) rfl rfl ?_; cbv; (repeat' (first
| (refine q1w (fun z hz => ?_); (try simp only at hz); cbv)
| (refine rqw ?_; cbv)
| (refine QC.tw ?_; cbv)
| (refine QC.tt ?_ ?_; (focus (simp only [decide_true, Bool.and_true, Bool.and_self] <;> fail)); cbv)
| (refine QC.ff ?_ ?_; (focus (simp only [decide_true, Bool.and_true, Bool.and_self, decide_false, Bool.false_and, reduceCtorEq, not_false_eq_true] <;> fail)); cbv)
| (refine QC.fw ?_; cbv)
| (refine QC.mk (fun hc => ?_) (fun hc => ?_) <;> (try dsimp only at hc) <;> cbv)
| (refine br_mk2 (fun hb => ?_) (fun hb => ?_) <;> (try subst hb) <;> cbv))))
    (refine callq (g2) rfl rfl ?_; cbv; (repeat' (first
| (refine q1w (fun z hz => ?_); (try simp only at hz); cbv)
| (refine rqw ?_; cbv)
| (refine QC.tw ?_; cbv)
| (refine QC.tt ?_ ?_; (focus (simp only [decide_true, Bool.and_true, Bool.and_self] <;> fail)); cbv)
| (refine QC.ff ?_ ?_; (focus (simp only [decide_true, Bool.and_true, Bool.and_self, decide_false, Bool.false_and, reduceCtorEq, not_false_eq_true] <;> fail)); cbv)
| (refine QC.fw ?_; cbv)
| (refine QC.mk (fun hc => ?_) (fun hc => ?_) <;> (try dsimp only at hc) <;> cbv)
| (refine br_mk2 (fun hb => ?_) (fun hb => ?_) <;> (try subst hb) <;> cbv))))
    (refine callq (g3) rfl rfl ?_; cbv; (repeat' (first
| (refine q1w (fun z hz => ?_); (try simp only at hz); cbv)
| (refine rqw ?_; cbv)
| (refine QC.tw ?_; cbv)
| (refine QC.tt ?_ ?_; (focus (simp only [decide_true, Bool.and_true, Bool.and_self] <;> fail)); cbv)
| (refine QC.ff ?_ ?_; (focus (simp only [decide_true, Bool.and_true, Bool.and_self, decide_false, Bool.false_and, reduceCtorEq, not_false_eq_true] <;> fail)); cbv)
| (refine QC.fw ?_; cbv)
| (refine QC.mk (fun hc => ?_) (fun hc => ?_) <;> (try dsimp only at hc) <;> cbv)
| (refine br_mk2 (fun hb => ?_) (fun hb => ?_) <;> (try subst hb) <;> cbv))))
    (refine callq (g4) rfl rfl ?_; cbv; (repeat' (first
| (refine q1w (fun z hz => ?_); (try simp only at hz); cbv)
| (refine rqw ?_; cbv)
| (refine QC.tw ?_; cbv)
| (refine QC.tt ?_ ?_; (focus (simp only [decide_true, Bool.and_true, Bool.and_self] <;> fail)); cbv)
| (refine QC.ff ?_ ?_; (focus (simp only [decide_true, Bool.and_true, Bool.and_self, decide_false, Bool.false_and, reduceCtorEq, not_false_eq_true] <;> fail)); cbv)
| (refine QC.fw ?_; cbv)
| (refine QC.mk (fun hc => ?_) (fun hc => ?_) <;> (try dsimp only at hc) <;> cbv)
| (refine br_mk2 (fun hb => ?_) (fun hb => ?_) <;> (try subst hb) <;> cbv))))
    refine qv 3 (by simp only [sm]; exact ⟨rfl, by decide⟩) ?_
    cbv
    refine qv _ rfl ?_
    cbv
    (repeat' (first
| (refine q1w (fun z hz => ?_); (try simp only at hz); cbv)
| (refine rqw ?_; cbv)
| (refine QC.tw ?_; cbv)
| (refine QC.tt ?_ ?_; (focus (simp only [decide_true, Bool.and_true, Bool.and_self] <;> fail)); cbv)
| (refine QC.ff ?_ ?_; (focus (simp only [decide_true, Bool.and_true, Bool.and_self, decide_false, Bool.false_and, reduceCtorEq, not_false_eq_true] <;> fail)); cbv)
| (refine QC.fw ?_; cbv)
| (refine QC.mk (fun hc => ?_) (fun hc => ?_) <;> (try dsimp only at hc) <;> cbv)
| (refine br_mk2 (fun hb => ?_) (fun hb => ?_) <;> (try subst hb) <;> cbv)))
    exact ⟨rfl, rfl, rfl⟩
  · refine ⟨1099511627777, b4, by omega, t4, ?_⟩
    refine Good.of Try.func13 rfl (by rfl) (by kernel_rfl) ?_
    cbv
    (repeat' (first
| (refine q1w (fun z hz => ?_); (try simp only at hz); cbv)
| (refine rqw ?_; cbv)
| (refine QC.tw ?_; cbv)
| (refine QC.tt ?_ ?_; (focus (simp only [decide_true, Bool.and_true, Bool.and_self] <;> fail)); cbv)
| (refine QC.ff ?_ ?_; (focus (simp only [decide_true, Bool.and_true, Bool.and_self, decide_false, Bool.false_and, reduceCtorEq, not_false_eq_true] <;> fail)); cbv)
| (refine QC.fw ?_; cbv)
| (refine QC.mk (fun hc => ?_) (fun hc => ?_) <;> (try dsimp only at hc) <;> cbv)
| (refine br_mk2 (fun hb => ?_) (fun hb => ?_) <;> (try subst hb) <;> cbv)))
    (refine callq (g1) rfl rfl ?_; cbv; (repeat' (first
| (refine q1w (fun z hz => ?_); (try simp only at hz); cbv)
| (refine rqw ?_; cbv)
| (refine QC.tw ?_; cbv)
| (refine QC.tt ?_ ?_; (focus (simp only [decide_true, Bool.and_true, Bool.and_self] <;> fail)); cbv)
| (refine QC.ff ?_ ?_; (focus (simp only [decide_true, Bool.and_true, Bool.and_self, decide_false, Bool.false_and, reduceCtorEq, not_false_eq_true] <;> fail)); cbv)
| (refine QC.fw ?_; cbv)
| (refine QC.mk (fun hc => ?_) (fun hc => ?_) <;> (try dsimp only at hc) <;> cbv)
| (refine br_mk2 (fun hb => ?_) (fun hb => ?_) <;> (try subst hb) <;> cbv))))
    (refine callq (g2) rfl rfl ?_; cbv; (repeat' (first
| (refine q1w (fun z hz => ?_); (try simp only at hz); cbv)
| (refine rqw ?_; cbv)
| (refine QC.tw ?_; cbv)
| (refine QC.tt ?_ ?_; (focus (simp only [decide_true, Bool.and_true, Bool.and_self] <;> fail)); cbv)
| (refine QC.ff ?_ ?_; (focus (simp only [decide_true, Bool.and_true, Bool.and_self, decide_false, Bool.false_and, reduceCtorEq, not_false_eq_true] <;> fail)); cbv)
| (refine QC.fw ?_; cbv)
| (refine QC.mk (fun hc => ?_) (fun hc => ?_) <;> (try dsimp only at hc) <;> cbv)
| (refine br_mk2 (fun hb => ?_) (fun hb => ?_) <;> (try subst hb) <;> cbv))))
    (refine callq (g3) rfl rfl ?_; cbv; (repeat' (first
| (refine q1w (fun z hz => ?_); (try simp only at hz); cbv)
| (refine rqw ?_; cbv)
| (refine QC.tw ?_; cbv)
| (refine QC.tt ?_ ?_; (focus (simp only [decide_true, Bool.and_true, Bool.and_self] <;> fail)); cbv)
| (refine QC.ff ?_ ?_; (focus (simp only [decide_true, Bool.and_true, Bool.and_self, decide_false, Bool.false_and, reduceCtorEq, not_false_eq_true] <;> fail)); cbv)
| (refine QC.fw ?_; cbv)
| (refine QC.mk (fun hc => ?_) (fun hc => ?_) <;> (try dsimp only at hc) <;> cbv)
| (refine br_mk2 (fun hb => ?_) (fun hb => ?_) <;> (try subst hb) <;> cbv))))
    (refine callq (g4) rfl rfl ?_; cbv; (repeat' (first
| (refine q1w (fun z hz => ?_); (try simp only at hz); cbv)
| (refine rqw ?_; cbv)
| (refine QC.tw ?_; cbv)
| (refine QC.tt ?_ ?_; (focus (simp only [decide_true, Bool.and_true, Bool.and_self] <;> fail)); cbv)
| (refine QC.ff ?_ ?_; (focus (simp only [decide_true, Bool.and_true, Bool.and_self, decide_false, Bool.false_and, reduceCtorEq, not_false_eq_true] <;> fail)); cbv)
| (refine QC.fw ?_; cbv)
| (refine QC.mk (fun hc => ?_) (fun hc => ?_) <;> (try dsimp only at hc) <;> cbv)
| (refine br_mk2 (fun hb => ?_) (fun hb => ?_) <;> (try subst hb) <;> cbv))))
    refine qv 4 (by simp only [sm]; exact ⟨rfl, by decide⟩) ?_
    cbv
    refine qv _ rfl ?_
    cbv
    (repeat' (first
| (refine q1w (fun z hz => ?_); (try simp only at hz); cbv)
| (refine rqw ?_; cbv)
| (refine QC.tw ?_; cbv)
| (refine QC.tt ?_ ?_; (focus (simp only [decide_true, Bool.and_true, Bool.and_self] <;> fail)); cbv)
| (refine QC.ff ?_ ?_; (focus (simp only [decide_true, Bool.and_true, Bool.and_self, decide_false, Bool.false_and, reduceCtorEq, not_false_eq_true] <;> fail)); cbv)
| (refine QC.fw ?_; cbv)
| (refine QC.mk (fun hc => ?_) (fun hc => ?_) <;> (try dsimp only at hc) <;> cbv)
| (refine br_mk2 (fun hb => ?_) (fun hb => ?_) <;> (try subst hb) <;> cbv)))
    exact ⟨rfl, rfl, rfl⟩
  · refine ⟨-1, b4, by omega, t4, ?_⟩
    refine Good.of Try.func13 rfl (by rfl) (by kernel_rfl) ?_
    cbv
    (repeat' (first
| (refine q1w (fun z hz => ?_); (try simp only at hz); cbv)
| (refine rqw ?_; cbv)
| (refine QC.tw ?_; cbv)
| (refine QC.tt ?_ ?_; (focus (simp only [decide_true, Bool.and_true, Bool.and_self] <;> fail)); cbv)
| (refine QC.ff ?_ ?_; (focus (simp only [decide_true, Bool.and_true, Bool.and_self, decide_false, Bool.false_and, reduceCtorEq, not_false_eq_true] <;> fail)); cbv)
| (refine QC.fw ?_; cbv)
| (refine QC.mk (fun hc => ?_) (fun hc => ?_) <;> (try dsimp only at hc) <;> cbv)
| (refine br_mk2 (fun hb => ?_) (fun hb => ?_) <;> (try subst hb) <;> cbv)))
    (refine callq (g1) rfl rfl ?_; cbv; (repeat' (first
| (refine q1w (fun z hz => ?_); (try simp only at hz); cbv)
| (refine rqw ?_; cbv)
| (refine QC.tw ?_; cbv)
| (refine QC.tt ?_ ?_; (focus (simp only [decide_true, Bool.and_true, Bool.and_self] <;> fail)); cbv)
| (refine QC.ff ?_ ?_; (focus (simp only [decide_true, Bool.and_true, Bool.and_self, decide_false, Bool.false_and, reduceCtorEq, not_false_eq_true] <;> fail)); cbv)
| (refine QC.fw ?_; cbv)
| (refine QC.mk (fun hc => ?_) (fun hc => ?_) <;> (try dsimp only at hc) <;> cbv)
| (refine br_mk2 (fun hb => ?_) (fun hb => ?_) <;> (try subst hb) <;> cbv))))
    (refine callq (g2) rfl rfl ?_; cbv; (repeat' (first
| (refine q1w (fun z hz => ?_); (try simp only at hz); cbv)
| (refine rqw ?_; cbv)
| (refine QC.tw ?_; cbv)
| (refine QC.tt ?_ ?_; (focus (simp only [decide_true, Bool.and_true, Bool.and_self] <;> fail)); cbv)
| (refine QC.ff ?_ ?_; (focus (simp only [decide_true, Bool.and_true, Bool.and_self, decide_false, Bool.false_and, reduceCtorEq, not_false_eq_true] <;> fail)); cbv)
| (refine QC.fw ?_; cbv)
| (refine QC.mk (fun hc => ?_) (fun hc => ?_) <;> (try dsimp only at hc) <;> cbv)
| (refine br_mk2 (fun hb => ?_) (fun hb => ?_) <;> (try subst hb) <;> cbv))))
    (refine callq (g3) rfl rfl ?_; cbv; (repeat' (first
| (refine q1w (fun z hz => ?_); (try simp only at hz); cbv)
| (refine rqw ?_; cbv)
| (refine QC.tw ?_; cbv)
| (refine QC.tt ?_ ?_; (focus (simp only [decide_true, Bool.and_true, Bool.and_self] <;> fail)); cbv)
| (refine QC.ff ?_ ?_; (focus (simp only [decide_true, Bool.and_true, Bool.and_self, decide_false, Bool.false_and, reduceCtorEq, not_false_eq_true] <;> fail)); cbv)
| (refine QC.fw ?_; cbv)
| (refine QC.mk (fun hc => ?_) (fun hc => ?_) <;> (try dsimp only at hc) <;> cbv)
| (refine br_mk2 (fun hb => ?_) (fun hb => ?_) <;> (try subst hb) <;> cbv))))
    (refine callq (g4) rfl rfl ?_; cbv; (repeat' (first
| (refine q1w (fun z hz => ?_); (try simp only at hz); cbv)
| (refine rqw ?_; cbv)
| (refine QC.tw ?_; cbv)
| (refine QC.tt ?_ ?_; (focus (simp only [decide_true, Bool.and_true, Bool.and_self] <;> fail)); cbv)
| (refine QC.ff ?_ ?_; (focus (simp only [decide_true, Bool.and_true, Bool.and_self, decide_false, Bool.false_and, reduceCtorEq, not_false_eq_true] <;> fail)); cbv)
| (refine QC.fw ?_; cbv)
| (refine QC.mk (fun hc => ?_) (fun hc => ?_) <;> (try dsimp only at hc) <;> cbv)
| (refine br_mk2 (fun hb => ?_) (fun hb => ?_) <;> (try subst hb) <;> cbv))))
    refine qv 5 (by simp only [sm]; exact ⟨rfl, by decide⟩) ?_
    cbv
    refine qv _ rfl ?_
    cbv
    (repeat' (first
| (refine q1w (fun z hz => ?_); (try simp only at hz); cbv)
| (refine rqw ?_; cbv)
| (refine QC.tw ?_; cbv)
| (refine QC.tt ?_ ?_; (focus (simp only [decide_true, Bool.and_true, Bool.and_self] <;> fail)); cbv)
| (refine QC.ff ?_ ?_; (focus (simp only [decide_true, Bool.and_true, Bool.and_self, decide_false, Bool.false_and, reduceCtorEq, not_false_eq_true] <;> fail)); cbv)
| (refine QC.fw ?_; cbv)
| (refine QC.mk (fun hc => ?_) (fun hc => ?_) <;> (try dsimp only at hc) <;> cbv)
| (refine br_mk2 (fun hb => ?_) (fun hb => ?_) <;> (try subst hb) <;> cbv)))
    exact ⟨rfl, rfl, rfl⟩
end Go.Proofs.Ytjhicdoigllblaa
/- The tape's sender. -/
namespace Go.Proofs.Ytjhicdoigllblaa
set_option linter.unusedVariables false
set_option linter.unusedSimpArgs false
open Go.RowKit
set_option maxHeartbeats 16000000
/-- A sender that keeps its pieces, through Next. -/
theorem nextP_vs {P : List (List UInt8)} {s : Snd} (h : VS s) (hp : s.ps = P) (now : Int) (hn : 0 ≤ now ∧ now ≤ 1099511627776) : ∃ s' l, nextP s now = (s', l, 0) ∧ VS s' ∧ s'.ps = P ∧ s'.tag = s.tag := by
  have r1 := h.r1
  have r2 := h.r2
  unfold nextP
  rw [if_neg (by rw [(vs_iff _).2 h]; simp), if_neg (by omega)]
  split
  · exact ⟨_, _, rfl, h, hp, rfl⟩
  rename_i h3
  have hst : s.st = 1 := by omega
  have hne : s.ak ≠ allI s.ps.length := fun e => by have := h.d e; omega
  split
  · exact ⟨_, _, rfl, ⟨h.n1, h.n2, h.ne, h.ak, h.r1, h.r2, h.u1, h.u2, fun e => absurd e hne, fun _ => .inr rfl⟩, hp, rfl⟩
  · exact ⟨_, _, rfl, ⟨h.n1, h.n2, h.ne, h.ak, by dsimp only; omega, by dsimp only; omega, by dsimp only; omega, by dsimp only; omega, fun e => absurd e hne, fun _ => .inl hst⟩, hp, rfl⟩
theorem ackP_vs {P : List (List UInt8)} {s : Snd} (h : VS s) (hp : s.ps = P) (h0 : 0 ≤ s.ak) (m : Int) (hm : 0 ≤ m ∧ m ≤ 4294967295) : ∃ s', ackP s s.tag m = (s', 0) ∧ VS s' ∧ s'.ps = P ∧ s'.tag = s.tag ∧ 0 ≤ s'.ak := by
  have r1 := h.r1
  have r2 := h.r2
  unfold ackP
  rw [if_neg (by rw [(vs_iff _).2 h]; simp), if_neg (by simp)]
  split
  · exact ⟨_, rfl, h, hp, rfl, h0⟩
  rename_i h3
  have hst : s.st = 1 := by omega
  have hne : s.ak ≠ allI s.ps.length := fun e => by have := h.d e; omega
  unfold ackS
  dsimp only
  split
  · exact ⟨_, rfl, ⟨h.n1, h.n2, h.ne, h.ak, h.r1, h.r2, h.u1, h.u2, fun e => absurd e hne, fun _ => .inr rfl⟩, hp, rfl, h0⟩
  · have hw : ackW m s.ps.length ≤ allI s.ps.length := by
      have h1 := Nat.and_le_right (n := m.toNat) (m := (allI s.ps.length).toNat)
      have := allI_pos h.n1
      rw [ackW]; omega
    have hle := h.ak
    have ho : ackO (ackW m s.ps.length) s.ak ≤ allI s.ps.length ∧ 0 ≤ ackO (ackW m s.ps.length) s.ak := by
      have hb := ackW_b m s.ps.length h.n2
      rw [allI_nat] at hw hle ⊢
      have p1 : 1 ≤ 2 ^ s.ps.length := Nat.one_le_two_pow
      have := Nat.or_lt_two_pow (show s.ak.toNat < 2 ^ s.ps.length by omega) (show (ackW m s.ps.length).toNat < 2 ^ s.ps.length by omega)
      rw [ackO]; omega
    refine ⟨_, rfl, ⟨h.n1, h.n2, h.ne, ho.1, ?_, ?_, by dsimp only; omega, by dsimp only; omega, fun e => if_pos e, fun e => .inl ((if_neg e).trans hst)⟩, hp, rfl, ho.2⟩
    · dsimp only; split <;> omega
    · dsimp only; split <;> omega
theorem VS.fits {s : Snd} (h : VS s) (h0 : 0 ≤ s.ak) (ht : 0 ≤ s.tag ∧ s.tag ≤ 255) (hb : ∀ p ∈ s.ps, p.length ≤ 140737488351232) : s.fits := by
  have h2 := h.n2
  have b := allI_b (n := s.ps.length) (by omega)
  have := h.ak
  have := h.r1
  have := h.r2
  have := h.u1
  have := h.u2
  refine ⟨?_, ht, by omega, by omega, by omega, by omega, hb⟩
  by_cases e : s.ak = allI s.ps.length
  · have := h.d e; omega
  · have := h.a e; omega
structure SnSt where
  k : Nat
  c : Int
  now : Int
  s : Snd
/-- A sender that has been reached. -/
structure SnI (P : List (List UInt8)) (tag : Int) (L : List SV) (a : SnSt) : Prop where
  tp : Tp L a.c
  n1 : 0 ≤ a.now
  n2 : a.now + 12 * a.k ≤ 96
  v : VS a.s
  ps : a.s.ps = P
  tag : a.s.tag = tag
  ak : 0 ≤ a.s.ak
def SnR (R L : List SV) (a b : SnSt) : Prop := ∃ (s1 : Snd) (l : List SV) (y : Bool) (c1 : Int) (d : Int) (c2 : Int),
  Good 16 (pu [a.s.w R, .int .i64 a.now] (.tup [s1.w R, .lst (some 5) l, .int .i64 0])) ∧
  Good 30 (le 81 (.agg [.lst none L, .int .i64 a.c]) [.int .i64 2] (.bool y) (.agg [.lst none L, .int .i64 c1])) ∧
  (y = true → ∃ v, 0 ≤ v ∧ v ≤ 18446744073709551615 ∧ Good 50 (le 81 (.agg [.lst none L, .int .i64 c1]) [] (.int .u64 v) (.agg [.lst none L, .int .i64 c2])) ∧
    ∀ m, m = v % 4294967296 → Good 18 (pu [s1.w R, .int .u8 s1.tag, .int .u32 m] (.tup [b.s.w R, .int .i64 0]))) ∧
  (y = false → c2 = c1 ∧ b.s = s1) ∧ 0 ≤ d ∧ d < 12 ∧
  Good 12 (le 81 (.agg [.lst none L, .int .i64 c2]) [.int .i64 12] (.int .i64 d) (.agg [.lst none L, .int .i64 b.c])) ∧ b.now = a.now + d ∧ b.k + 1 = a.k
theorem sn_round {P : List (List UInt8)} {R L : List SV} (hR : R = rowsB P) {tag : Int} (ht : 0 ≤ tag ∧ tag ≤ 255) (hb : ∀ p ∈ P, p.length ≤ 140737488351232) (a : SnSt) (h : SnI P tag L a) (hk : 0 < a.k) : ∃ b, SnI P tag L b ∧ b.k < a.k ∧ SnR R L a b := by
  obtain ⟨k, c, now, s⟩ := a
  have hn1 : 0 ≤ now := h.n1
  have hn2 : now + 12 * k ≤ 96 := h.n2
  have hk : 0 < k := hk
  obtain ⟨s1, l, x1, x2, x3, x4⟩ := nextP_vs h.v h.ps now (by omega)
  have hsf : s.fits := h.v.fits h.ak (by rw [h.tag]; exact ht) (by rw [h.ps]; exact hb)
  have hak1 : 0 ≤ s1.ak := by
    have := next_fits s now hsf
    rw [x1] at this
    exact this.ak.1
  have hs1f : s1.fits := x2.fits hak1 (by rw [x4, h.tag]; exact ht) (by rw [x3]; exact hb)
  have g1 := rnext_p s R (by rw [h.ps]; exact hR) hsf now (by omega) s1 R (by rw [x3]; exact hR) l _ rfl 0 x1
  obtain ⟨y, c1, t1, g2⟩ := bool_e h.tp 2 (by omega)
  cases y
  · obtain ⟨d, c3, p1, p2, t3, g3⟩ := next_e t1 12 (by omega)
    exact ⟨⟨k - 1, c3, now + d, s1⟩, ⟨t3, by dsimp only; omega, by dsimp only; omega, x2, x3, x4.trans h.tag, hak1⟩, by dsimp only; omega, s1, _, false, c1, d, c1, g1, g2, (fun h => by cases h), fun _ => ⟨rfl, rfl⟩, p1, p2, g3, rfl, by dsimp only; omega⟩
  · obtain ⟨v, c2, v1, v2, t2, gw⟩ := word_e t1
    have hm : 0 ≤ v % 4294967296 ∧ v % 4294967296 ≤ 4294967295 := by omega
    obtain ⟨s2, y1, y2, y3, y4, y5⟩ := ackP_vs x2 x3 hak1 (v % 4294967296) hm
    have ga := rack_p s1 R (by rw [x3]; exact hR) hs1f s1.tag (v % 4294967296) (by rw [x4, h.tag]; exact ht) hm s2 R (by rw [y3]; exact hR) 0 y1
    obtain ⟨d, c3, p1, p2, t3, g3⟩ := next_e t2 12 (by omega)
    exact ⟨⟨k - 1, c3, now + d, s2⟩, ⟨t3, by dsimp only; omega, by dsimp only; omega, y2, y3, y4.trans (x4.trans h.tag), y5⟩, by dsimp only; omega, s1, _, true, c1, d, c2, g1, g2, fun _ => ⟨v, v1, v2, gw, fun m hm => by subst hm; exact ga⟩, (fun h => by cases h), p1, p2, g3, rfl, by dsimp only; omega⟩
end Go.Proofs.Ytjhicdoigllblaa
/- The tape's sender: its contract. -/
namespace Go.Proofs.Ytjhicdoigllblaa
set_option linter.unusedVariables false
set_option linter.unusedSimpArgs false
open Go.RowKit
set_option maxHeartbeats 16000000
theorem sender_e {L : List SV} {a : Int} (h : Tp L a) : ∃ (s : Snd) (R : List SV) (c : Int), VS s ∧ s.fits ∧ R = rowsB s.ps ∧ (∀ p ∈ s.ps, p.length ≤ 200) ∧ s.tag ≤ 2 ∧ Tp L c ∧
    Good 11 (le 81 (.agg [.lst none L, .int .i64 a]) [] (s.w R) (.agg [.lst none L, .int .i64 c])) := by
  obtain ⟨r1, b1, p1, u1, t1, g1⟩ := next_e h 150 (by omega)
  obtain ⟨N, hN⟩ : ∃ N, N = 1 + r1 := ⟨_, rfl⟩
  obtain ⟨R0, ys, b2, hR0, hyl, hy, t2, g2⟩ := fill_e t1 N (by omega)
  obtain ⟨bs, hbs, hbl⟩ := u8l_of ys hy
  have hRb : R0 = u8l bs := hR0.trans hbs
  obtain ⟨r3, b3, p3, u3, t3, g3⟩ := next_e t2 3 (by omega)
  obtain ⟨r4, b4, p4, u4, t4, g4⟩ := next_e t3 30 (by omega)
  obtain ⟨sz, hsz⟩ : ∃ sz, sz = (5 + r4).toNat := ⟨_, rfl⟩
  obtain ⟨q1', P0⟩ := beg_ok bs r3 sz (by omega) (by omega) (by omega) (by rw [Nat.div_lt_iff_lt_mul (by omega)]; omega)
  obtain ⟨P, hP⟩ : ∃ P, P = chk sz bs (nPc bs.length sz) := ⟨_, rfl⟩
  rw [← hP] at q1' P0
  have hPb : ∀ p ∈ P, p.length ≤ 200 := fun p hp => by
    rw [hP] at hp
    simp only [chk, List.mem_map] at hp
    obtain ⟨i, _, rfl⟩ := hp
    rw [List.length_take, List.length_drop]
    omega
  obtain ⟨R, hR⟩ : ∃ R, R = rowsB P := ⟨_, rfl⟩
  obtain ⟨rm, hrm⟩ : ∃ rm : Int, rm = 4 + sz := ⟨_, rfl⟩
  have g5 := rbegin_p bs R0 hRb (by omega) r3 (4 + sz) (by omega) ⟨1, r3, P, 0, 0, 0⟩ R hR 0 q1'
  rw [← hrm] at g5
  obtain ⟨r6, b6, p6, u6, t6, g6⟩ := next_e t4 8 (by omega)
  obtain ⟨k0, hk0⟩ : ∃ k0 : Nat, r6 = k0 := Int.eq_ofNat_of_zero_le p6
  have hall := allI_pos P0.n1
  have hI0 : SnI P r3 L ⟨k0, b6, 0, ⟨1, r3, P, 0, 0, 0⟩⟩ := ⟨t6, Int.le_refl _, by dsimp only; omega, ⟨P0.n1, P0.n2, P0.ne, by dsimp only; omega, by dsimp only; omega, by dsimp only; omega, by dsimp only; omega, by dsimp only; omega, fun e => by dsimp only at e; omega, fun _ => .inl rfl⟩, rfl, rfl, Int.le_refl _⟩
  obtain ⟨fin, S, s0, sI, sR, sE, fI, fC⟩ := orbit (SnI P r3 L) (fun a => 0 < a.k) (fun a => a.k) (SnR R L) (sn_round hR (by omega) P0.b) _ hI0
  have hIb : ∀ a, S a → a.k ≤ 8 ∧ 0 ≤ a.now ∧ a.now ≤ 96 := fun a ha => by
    have := (sI a ha).n1
    have := (sI a ha).n2
    omega
  refine ⟨fin.s, R, fin.c, fI.v, fI.v.fits fI.ak (by rw [fI.tag]; omega) (by rw [fI.ps]; exact P0.b), by rw [fI.ps]; exact hR, by rw [fI.ps]; exact hPb, by rw [fI.tag]; omega, fI.tp, ?_⟩
  clear sI fI hI0 hP hPb P0 q1' hRb hR0 hbs hR
  obtain ⟨fk, fc, fnow, fs⟩ := fin
  refine Good.of Try.func11 rfl (by rfl) (by kernel_rfl) ?_
  cbv
  have hmk : True := trivial
  (repeat' (first
| (refine q1w (fun z hz => ?_); (try simp only at hz); cbv)
| (refine rqw ?_; cbv)
| (refine QC.tw ?_; cbv)
| (refine QC.tt ?_ ?_; (focus (simp only [decide_true, Bool.and_true, Bool.and_self] <;> fail)); cbv)
| (refine QC.ff ?_ ?_; (focus (simp only [decide_true, Bool.and_true, Bool.and_self, decide_false, Bool.false_and, reduceCtorEq, not_false_eq_true] <;> fail)); cbv)
| (refine QC.fw ?_; cbv)
| (refine QC.mk (fun hc => ?_) (fun hc => ?_) <;> (try dsimp only at hc) <;> cbv)
| (refine br_mk2 (fun hb => ?_) (fun hb => ?_) <;> (try subst hb) <;> cbv)))
  (refine callq (g1) rfl rfl ?_; cbv; (repeat' (first
| (refine q1w (fun z hz => ?_); (try simp only at hz); cbv)
| (refine rqw ?_; cbv)
| (refine QC.tw ?_; cbv)
| (refine QC.tt ?_ ?_; (focus (simp only [decide_true, Bool.and_true, Bool.and_self] <;> fail)); cbv)
| (refine QC.ff ?_ ?_; (focus (simp only [decide_true, Bool.and_true, Bool.and_self, decide_false, Bool.false_and, reduceCtorEq, not_false_eq_true] <;> fail)); cbv)
| (refine QC.fw ?_; cbv)
| (refine QC.mk (fun hc => ?_) (fun hc => ?_) <;> (try dsimp only at hc) <;> cbv)
| (refine br_mk2 (fun hb => ?_) (fun hb => ?_) <;> (try subst hb) <;> cbv))))
  have hzN := hz.trans hN.symm
  subst hzN
  (refine callq (g2) rfl rfl ?_; cbv; (repeat' (first
| (refine q1w (fun z hz => ?_); (try simp only at hz); cbv)
| (refine rqw ?_; cbv)
| (refine QC.tw ?_; cbv)
| (refine QC.tt ?_ ?_; (focus (simp only [decide_true, Bool.and_true, Bool.and_self] <;> fail)); cbv)
| (refine QC.ff ?_ ?_; (focus (simp only [decide_true, Bool.and_true, Bool.and_self, decide_false, Bool.false_and, reduceCtorEq, not_false_eq_true] <;> fail)); cbv)
| (refine QC.fw ?_; cbv)
| (refine QC.mk (fun hc => ?_) (fun hc => ?_) <;> (try dsimp only at hc) <;> cbv)
| (refine br_mk2 (fun hb => ?_) (fun hb => ?_) <;> (try subst hb) <;> cbv))))
  (refine callq (g3) rfl rfl ?_; cbv; (repeat' (first
| (refine q1w (fun z hz => ?_); (try simp only at hz); cbv)
| (refine rqw ?_; cbv)
| (refine QC.tw ?_; cbv)
| (refine QC.tt ?_ ?_; (focus (simp only [decide_true, Bool.and_true, Bool.and_self] <;> fail)); cbv)
| (refine QC.ff ?_ ?_; (focus (simp only [decide_true, Bool.and_true, Bool.and_self, decide_false, Bool.false_and, reduceCtorEq, not_false_eq_true] <;> fail)); cbv)
| (refine QC.fw ?_; cbv)
| (refine QC.mk (fun hc => ?_) (fun hc => ?_) <;> (try dsimp only at hc) <;> cbv)
| (refine br_mk2 (fun hb => ?_) (fun hb => ?_) <;> (try subst hb) <;> cbv))))
  (refine callq (g4) rfl rfl ?_; cbv; (repeat' (first
| (refine q1w (fun z hz => ?_); (try simp only at hz); cbv)
| (refine rqw ?_; cbv)
| (refine QC.tw ?_; cbv)
| (refine QC.tt ?_ ?_; (focus (simp only [decide_true, Bool.and_true, Bool.and_self] <;> fail)); cbv)
| (refine QC.ff ?_ ?_; (focus (simp only [decide_true, Bool.and_true, Bool.and_self, decide_false, Bool.false_and, reduceCtorEq, not_false_eq_true] <;> fail)); cbv)
| (refine QC.fw ?_; cbv)
| (refine QC.mk (fun hc => ?_) (fun hc => ?_) <;> (try dsimp only at hc) <;> cbv)
| (refine br_mk2 (fun hb => ?_) (fun hb => ?_) <;> (try subst hb) <;> cbv))))
  rename_i z3 hz3
  have e3 : z3 = r3 := by (first | omega | (simp only [cst] at *; omega) | (simp only [sm] at *; omega))
  have e4 : z = rm := by (first | omega | (simp only [cst] at *; omega) | (simp only [sm] at *; omega))
  subst e3
  subst e4
  (refine callq (g5) rfl rfl ?_; cbv; (repeat' (first
| (refine q1w (fun z hz => ?_); (try simp only at hz); cbv)
| (refine rqw ?_; cbv)
| (refine QC.tw ?_; cbv)
| (refine QC.tt ?_ ?_; (focus (simp only [decide_true, Bool.and_true, Bool.and_self] <;> fail)); cbv)
| (refine QC.ff ?_ ?_; (focus (simp only [decide_true, Bool.and_true, Bool.and_self, decide_false, Bool.false_and, reduceCtorEq, not_false_eq_true] <;> fail)); cbv)
| (refine QC.fw ?_; cbv)
| (refine QC.mk (fun hc => ?_) (fun hc => ?_) <;> (try dsimp only at hc) <;> cbv)
| (refine br_mk2 (fun hb => ?_) (fun hb => ?_) <;> (try subst hb) <;> cbv))))
  (refine callq (g6) rfl rfl ?_; cbv; (repeat' (first
| (refine q1w (fun z hz => ?_); (try simp only at hz); cbv)
| (refine rqw ?_; cbv)
| (refine QC.tw ?_; cbv)
| (refine QC.tt ?_ ?_; (focus (simp only [decide_true, Bool.and_true, Bool.and_self] <;> fail)); cbv)
| (refine QC.ff ?_ ?_; (focus (simp only [decide_true, Bool.and_true, Bool.and_self, decide_false, Bool.false_and, reduceCtorEq, not_false_eq_true] <;> fail)); cbv)
| (refine QC.fw ?_; cbv)
| (refine QC.mk (fun hc => ?_) (fun hc => ?_) <;> (try dsimp only at hc) <;> cbv)
| (refine br_mk2 (fun hb => ?_) (fun hb => ?_) <;> (try subst hb) <;> cbv))))
  refine loopQ (A := SnSt × Int) (fun p => S p.1 ∧ p.2 = p.1.k) (fun p => p.1.k) (fun p => [(6, .int .i64 p.2), (5, .int .i64 p.1.now)]) (fun p => [(0, .chunk 81 (.agg [.lst none L, .int .i64 p.1.c])), (3, .chunk 25 (p.1.s.w R))]) (⟨k0, b6, 0, ⟨1, _, P, 0, 0, 0⟩⟩, r6) ⟨s0, hk0⟩ ?_ ?_
  · cbv
    repeat' (first | exact rfl | exact trivial | apply And.intro)
  · intro ⟨⟨k, c, now, s⟩, i⟩ hh
    have hS : S ⟨k, c, now, s⟩ := hh.1
    have hi : i = (k : Int) := hh.2
    have hb := hIb _ hS
    have hE := sE _ hS
    have hR := sR _ hS
    have hn1 : 0 ≤ now ∧ now ≤ 96 := hb.2
    have hkb : k ≤ 8 := hb.1
    have hib : i ≤ 8 := by omega
    clear hh hIb sE sR hb hS
    have hml : True := trivial
    cbv
    (repeat' (first
| (refine q1w (fun z hz => ?_); (try simp only at hz); cbv)
| (refine rqw ?_; cbv)
| (refine QC.tw ?_; cbv)
| (refine QC.tt ?_ ?_; (focus (simp only [decide_true, Bool.and_true, Bool.and_self] <;> fail)); cbv)
| (refine QC.ff ?_ ?_; (focus (simp only [decide_true, Bool.and_true, Bool.and_self, decide_false, Bool.false_and, reduceCtorEq, not_false_eq_true] <;> fail)); cbv)
| (refine QC.fw ?_; cbv)
| (refine QC.mk (fun hc => ?_) (fun hc => ?_) <;> (try dsimp only at hc) <;> cbv)
| (refine br_mk2 (fun hb => ?_) (fun hb => ?_) <;> (try subst hb) <;> cbv)))
    · have hk : 0 < k := by (first | omega | (simp only [cst] at *; omega) | (simp only [sm] at *; omega))
      obtain ⟨⟨k', c', now', s'⟩, hS', hlt, s1, l, y, c1, d, c2, e1, e2, e3, e4, e5, e6, e7, e8, e9⟩ := hR hk
      have e8 : now' = now + d := e8
      have e9 : k' + 1 = k := e9
      (refine callq (e1) rfl rfl ?_; cbv; (repeat' (first
| (refine q1w (fun z hz => ?_); (try simp only at hz); cbv)
| (refine rqw ?_; cbv)
| (refine QC.tw ?_; cbv)
| (refine QC.tt ?_ ?_; (focus (simp only [decide_true, Bool.and_true, Bool.and_self] <;> fail)); cbv)
| (refine QC.ff ?_ ?_; (focus (simp only [decide_true, Bool.and_true, Bool.and_self, decide_false, Bool.false_and, reduceCtorEq, not_false_eq_true] <;> fail)); cbv)
| (refine QC.fw ?_; cbv)
| (refine QC.mk (fun hc => ?_) (fun hc => ?_) <;> (try dsimp only at hc) <;> cbv)
| (refine br_mk2 (fun hb => ?_) (fun hb => ?_) <;> (try subst hb) <;> cbv))))
      (refine callq (e2) rfl rfl ?_; cbv; (repeat' (first
| (refine q1w (fun z hz => ?_); (try simp only at hz); cbv)
| (refine rqw ?_; cbv)
| (refine QC.tw ?_; cbv)
| (refine QC.tt ?_ ?_; (focus (simp only [decide_true, Bool.and_true, Bool.and_self] <;> fail)); cbv)
| (refine QC.ff ?_ ?_; (focus (simp only [decide_true, Bool.and_true, Bool.and_self, decide_false, Bool.false_and, reduceCtorEq, not_false_eq_true] <;> fail)); cbv)
| (refine QC.fw ?_; cbv)
| (refine QC.mk (fun hc => ?_) (fun hc => ?_) <;> (try dsimp only at hc) <;> cbv)
| (refine br_mk2 (fun hb => ?_) (fun hb => ?_) <;> (try subst hb) <;> cbv))))
      · obtain ⟨v, v1, v2, ew, ea⟩ := e3 rfl
        (refine callq (ew) rfl rfl ?_; cbv; (repeat' (first
| (refine q1w (fun z hz => ?_); (try simp only at hz); cbv)
| (refine rqw ?_; cbv)
| (refine QC.tw ?_; cbv)
| (refine QC.tt ?_ ?_; (focus (simp only [decide_true, Bool.and_true, Bool.and_self] <;> fail)); cbv)
| (refine QC.ff ?_ ?_; (focus (simp only [decide_true, Bool.and_true, Bool.and_self, decide_false, Bool.false_and, reduceCtorEq, not_false_eq_true] <;> fail)); cbv)
| (refine QC.fw ?_; cbv)
| (refine QC.mk (fun hc => ?_) (fun hc => ?_) <;> (try dsimp only at hc) <;> cbv)
| (refine br_mk2 (fun hb => ?_) (fun hb => ?_) <;> (try subst hb) <;> cbv))))
        have ea := ea z (by (first | omega | (simp only [cst] at *; omega) | (simp only [sm] at *; omega)))
        (refine callq (ea) rfl rfl ?_; cbv; (repeat' (first
| (refine q1w (fun z hz => ?_); (try simp only at hz); cbv)
| (refine rqw ?_; cbv)
| (refine QC.tw ?_; cbv)
| (refine QC.tt ?_ ?_; (focus (simp only [decide_true, Bool.and_true, Bool.and_self] <;> fail)); cbv)
| (refine QC.ff ?_ ?_; (focus (simp only [decide_true, Bool.and_true, Bool.and_self, decide_false, Bool.false_and, reduceCtorEq, not_false_eq_true] <;> fail)); cbv)
| (refine QC.fw ?_; cbv)
| (refine QC.mk (fun hc => ?_) (fun hc => ?_) <;> (try dsimp only at hc) <;> cbv)
| (refine br_mk2 (fun hb => ?_) (fun hb => ?_) <;> (try subst hb) <;> cbv))))
        (refine callq (e7) rfl rfl ?_; cbv; (repeat' (first
| (refine q1w (fun z hz => ?_); (try simp only at hz); cbv)
| (refine rqw ?_; cbv)
| (refine QC.tw ?_; cbv)
| (refine QC.tt ?_ ?_; (focus (simp only [decide_true, Bool.and_true, Bool.and_self] <;> fail)); cbv)
| (refine QC.ff ?_ ?_; (focus (simp only [decide_true, Bool.and_true, Bool.and_self, decide_false, Bool.false_and, reduceCtorEq, not_false_eq_true] <;> fail)); cbv)
| (refine QC.fw ?_; cbv)
| (refine QC.mk (fun hc => ?_) (fun hc => ?_) <;> (try dsimp only at hc) <;> cbv)
| (refine br_mk2 (fun hb => ?_) (fun hb => ?_) <;> (try subst hb) <;> cbv))))
        rename_i zn hzn
        have hzn : zn = now' := by (first | omega | (simp only [cst] at *; omega) | (simp only [sm] at *; omega))
        subst hzn
        refine ⟨(⟨k', c', zn, s'⟩, z), ⟨hS', by show z = (k' : Int); (first | omega | (simp only [cst] at *; omega) | (simp only [sm] at *; omega))⟩, by show k' < k; omega, ?_⟩
        cbv
        repeat' (first | exact rfl | exact trivial | apply And.intro)
      · obtain ⟨e41, e42⟩ := e4 rfl
        have e42 : s' = s1 := e42
        subst e41
        subst e42
        (refine callq (e7) rfl rfl ?_; cbv; (repeat' (first
| (refine q1w (fun z hz => ?_); (try simp only at hz); cbv)
| (refine rqw ?_; cbv)
| (refine QC.tw ?_; cbv)
| (refine QC.tt ?_ ?_; (focus (simp only [decide_true, Bool.and_true, Bool.and_self] <;> fail)); cbv)
| (refine QC.ff ?_ ?_; (focus (simp only [decide_true, Bool.and_true, Bool.and_self, decide_false, Bool.false_and, reduceCtorEq, not_false_eq_true] <;> fail)); cbv)
| (refine QC.fw ?_; cbv)
| (refine QC.mk (fun hc => ?_) (fun hc => ?_) <;> (try dsimp only at hc) <;> cbv)
| (refine br_mk2 (fun hb => ?_) (fun hb => ?_) <;> (try subst hb) <;> cbv))))
        rename_i zn hzn
        have hzn : zn = now' := by (first | omega | (simp only [cst] at *; omega) | (simp only [sm] at *; omega))
        subst hzn
        refine ⟨(⟨k', c', zn, s'⟩, z), ⟨hS', by show z = (k' : Int); (first | omega | (simp only [cst] at *; omega) | (simp only [sm] at *; omega))⟩, by show k' < k; omega, ?_⟩
        cbv
        repeat' (first | exact rfl | exact trivial | apply And.intro)
    · have hk : ¬ 0 < k := by (first | omega | (simp only [cst] at *; omega) | (simp only [sm] at *; omega))
      have hE := hE hk
      injection hE with e1 e2 e3 e4
      subst e1; subst e2; subst e3; subst e4
      exact ⟨rfl, rfl, rfl⟩
end Go.Proofs.Ytjhicdoigllblaa
/- The tape's bytes. -/
namespace Go.Proofs.Ytjhicdoigllblaa
set_option linter.unusedVariables false
set_option linter.unusedSimpArgs false
open Go.RowKit
set_option maxHeartbeats 8000000
def byF (N : Int → Int → Int) (B : Int → Int) : Nat → Nat → Int → List Int → List Int × Int
  | 0, _, c, r => (r, c)
  | k + 1, i, c, r => byF N B k (i + 1) (B c) (r.set i (N c 256))
theorem byF_ok {L : List SV} {N : Int → Int → Int} {B : Int → Int} (hN : ∀ a n, Tp L a → 1 ≤ n ∧ n ≤ 1000000 → 0 ≤ N a n ∧ N a n < n ∧ Tp L (B a)) : ∀ (k i : Nat) (c : Int) (r : List Int), Tp L c → (∀ v ∈ r, 0 ≤ v ∧ v ≤ 255) → (byF N B k i c r).1.length = r.length ∧ (∀ v ∈ (byF N B k i c r).1, 0 ≤ v ∧ v ≤ 255) ∧ Tp L (byF N B k i c r).2
  | 0, i, c, r, hc, hr => ⟨rfl, hr, hc⟩
  | k + 1, i, c, r, hc, hr => by
    obtain ⟨d1, d2, d3⟩ := hN c 256 hc (by omega)
    have := byF_ok hN k (i + 1) (B c) (r.set i (N c 256)) d3 (fun v hv => by
      rcases List.mem_or_eq_of_mem_set hv with h | h
      · exact hr v h
      · omega)
    unfold byF
    rw [List.length_set] at this
    exact this
theorem bytes_e {L : List SV} {a : Int} (h : Tp L a) (m : Int) (hm : 0 ≤ m ∧ m ≤ 1000) : ∃ (bs : List UInt8) (b : Int), (bs.length : Int) ≤ m ∧ Tp L b ∧
    Good 14 (leN 81 (.agg [.lst none L, .int .i64 a]) [.int .i64 m] (.row 1) (.agg [.lst none L, .int .i64 b]) (.row none 5 (u8l bs))) := by
  obtain ⟨r, b, p1, u1, t1, g1⟩ := next_e h (m + 1) (by omega)
  obtain ⟨n, hn⟩ : ∃ n : Nat, r = (n : Int) := Int.eq_ofNat_of_zero_le p1
  obtain ⟨N, B, hNB⟩ := next_f h
  have hN : ∀ a n, Tp L a → 1 ≤ n ∧ n ≤ 1000000 → 0 ≤ N a n ∧ N a n < n ∧ Tp L (B a) := fun a n ha hn => by have := hNB a n ha hn; exact ⟨this.1, this.2.1, this.2.2.1⟩
  have hok := byF_ok hN n 0 b (List.replicate n 0) t1 (fun v hv => by simp at hv; omega)
  generalize hfin : byF N B n 0 b (List.replicate n 0) = fin at hok
  obtain ⟨rf, d⟩ := fin
  obtain ⟨h1, h2, td⟩ := hok
  dsimp only at h1 h2 td
  rw [List.length_replicate] at h1
  obtain ⟨bs, hbs, hbl⟩ := u8l_of rf h2
  obtain ⟨U, hU⟩ : ∃ U : List Int → List SV, ∀ r, U r = ints .u8 r := ⟨_, fun _ => rfl⟩
  have hU0 : ∀ z : Int, z = n → O.rp z (.int .u8 0) = U (List.replicate n 0) := fun z hz => by rw [hU, orp, hz]; simp [ints]
  have hUl : ∀ r, (U r).length = r.length := fun r => by rw [hU]; simp [ints]
  have hUs : ∀ r i v, O.st (U r) i (.int .u8 v) = U (r.set i v) := fun r i v => by rw [hU, hU, ost, ints_set]
  refine ⟨bs, d, by omega, td, ?_⟩
  rw [← hbs, ← hU]
  refine Good.of Try.func14 rfl (by rfl) (by kernel_rfl) ?_
  cbv
  (repeat' (first
| (refine q1w (fun z hz => ?_); (try simp only at hz); cbv)
| (refine rqw ?_; cbv)
| (refine QC.tw ?_; cbv)
| (refine QC.tt ?_ ?_; (focus (simp only [decide_true, Bool.and_true, Bool.and_self] <;> fail)); cbv)
| (refine QC.ff ?_ ?_; (focus (simp only [decide_true, Bool.and_true, Bool.and_self, decide_false, Bool.false_and, reduceCtorEq, not_false_eq_true] <;> fail)); cbv)
| (refine QC.fw ?_; cbv)
| (refine QC.mk (fun hc => ?_) (fun hc => ?_) <;> (try dsimp only at hc) <;> cbv)
| (refine br_mk2 (fun hb => ?_) (fun hb => ?_) <;> (try subst hb) <;> cbv)))
  have ez : m + 1 = z := by (first | omega | (simp only [cst] at *; omega) | (simp only [sm] at *; omega))
  rw [ez] at g1
  (refine callq (g1) rfl rfl ?_; cbv; (repeat' (first
| (refine q1w (fun z hz => ?_); (try simp only at hz); cbv)
| (refine rqw ?_; cbv)
| (refine QC.tw ?_; cbv)
| (refine QC.tt ?_ ?_; (focus (simp only [decide_true, Bool.and_true, Bool.and_self] <;> fail)); cbv)
| (refine QC.ff ?_ ?_; (focus (simp only [decide_true, Bool.and_true, Bool.and_self, decide_false, Bool.false_and, reduceCtorEq, not_false_eq_true] <;> fail)); cbv)
| (refine QC.fw ?_; cbv)
| (refine QC.mk (fun hc => ?_) (fun hc => ?_) <;> (try dsimp only at hc) <;> cbv)
| (refine br_mk2 (fun hb => ?_) (fun hb => ?_) <;> (try subst hb) <;> cbv))))
  have hu0 := hU0 r hn
  refine loopQ (A := Nat × Int × List Int × Int) (fun p => p.2.1 = p.1 ∧ p.1 ≤ n ∧ p.2.2.1.length = n ∧ Tp L p.2.2.2 ∧ byF N B (n - p.1) p.1 p.2.2.2 p.2.2.1 = (rf, d)) (fun p => n - p.1) (fun p => [(6, .int .i64 p.2.1), (5, .row 11)]) (fun p => [(0, .chunk 81 (.agg [.lst none L, .int .i64 p.2.2.2])), (11, .row none 5 (U p.2.2.1))])
    (0, 0, List.replicate n 0, b) ⟨rfl, Nat.zero_le _, by show (List.replicate n 0).length = n; simp, t1, hfin⟩ ?_ ?_
  · cbv
    refine ⟨?_, trivial⟩
    show Blk.row none 5 (O.rp r (.int .u8 0)) = .row none 5 (U (List.replicate n 0))
    rw [hu0]
  · intro ⟨i, j, row, c⟩ hh
    have hj : j = (i : Int) := hh.1
    have hi : i ≤ n := hh.2.1
    have hrl : row.length = n := hh.2.2.1
    have tc0 : Tp L c := hh.2.2.2.1
    have hrr : byF N B (n - i) i c row = (rf, d) := hh.2.2.2.2
    clear hh
    have hmk : True := trivial
    have hul := hUl row
    have hus := hUs row i
    cbv
    (repeat' (first
| (refine q1w (fun z hz => ?_); (try simp only at hz); cbv)
| (refine rqw ?_; cbv)
| (refine QC.tw ?_; cbv)
| (refine QC.tt ?_ ?_; (focus (simp only [decide_true, Bool.and_true, Bool.and_self] <;> fail)); cbv)
| (refine QC.ff ?_ ?_; (focus (simp only [decide_true, Bool.and_true, Bool.and_self, decide_false, Bool.false_and, reduceCtorEq, not_false_eq_true] <;> fail)); cbv)
| (refine QC.fw ?_; cbv)
| (refine QC.mk (fun hc => ?_) (fun hc => ?_) <;> (try dsimp only at hc) <;> cbv)
| (refine br_mk2 (fun hb => ?_) (fun hb => ?_) <;> (try subst hb) <;> cbv)))
    · have hlt : i < n := by (first | omega | (simp only [cst] at *; omega) | (simp only [sm] at *; omega))
      obtain ⟨dd5, dd6, dd7, dd8⟩ := hNB c 256 tc0 (by omega)
      have hkey : byF N B (n - (i + 1)) (i + 1) (B c) (row.set i (N c 256)) = (rf, d) := by
        have e : n - i = (n - (i + 1)) + 1 := by omega
        rw [e, byF] at hrr
        exact hrr
      obtain ⟨x, hx⟩ : ∃ x, x = N c 256 := ⟨_, rfl⟩
      obtain ⟨c2, hc2⟩ : ∃ y, y = B c := ⟨_, rfl⟩
      rw [← hx] at dd5 dd6 dd8 hkey
      rw [← hc2] at dd7 dd8 hkey
      have hv := hus x
      (refine callq (dd8) rfl rfl ?_; cbv; (repeat' (first
| (refine q1w (fun z hz => ?_); (try simp only at hz); cbv)
| (refine rqw ?_; cbv)
| (refine QC.tw ?_; cbv)
| (refine QC.tt ?_ ?_; (focus (simp only [decide_true, Bool.and_true, Bool.and_self] <;> fail)); cbv)
| (refine QC.ff ?_ ?_; (focus (simp only [decide_true, Bool.and_true, Bool.and_self, decide_false, Bool.false_and, reduceCtorEq, not_false_eq_true] <;> fail)); cbv)
| (refine QC.fw ?_; cbv)
| (refine QC.mk (fun hc => ?_) (fun hc => ?_) <;> (try dsimp only at hc) <;> cbv)
| (refine br_mk2 (fun hb => ?_) (fun hb => ?_) <;> (try subst hb) <;> cbv))))
      have ez : x = z := by (first | omega | (simp only [cst] at *; omega) | (simp only [sm] at *; omega))
      subst ez
      (refine qv (i) (by (first | omega | (simp only [cst] at *; omega) | (simp only [sm] at *; omega))) ?_; cbv; (repeat' (first
| (refine q1w (fun z hz => ?_); (try simp only at hz); cbv)
| (refine rqw ?_; cbv)
| (refine QC.tw ?_; cbv)
| (refine QC.tt ?_ ?_; (focus (simp only [decide_true, Bool.and_true, Bool.and_self] <;> fail)); cbv)
| (refine QC.ff ?_ ?_; (focus (simp only [decide_true, Bool.and_true, Bool.and_self, decide_false, Bool.false_and, reduceCtorEq, not_false_eq_true] <;> fail)); cbv)
| (refine QC.fw ?_; cbv)
| (refine QC.mk (fun hc => ?_) (fun hc => ?_) <;> (try dsimp only at hc) <;> cbv)
| (refine br_mk2 (fun hb => ?_) (fun hb => ?_) <;> (try subst hb) <;> cbv))))
      refine ⟨(i + 1, z, row.set i x, c2), ⟨by show z = ((i + 1 : Nat) : Int); (first | omega | (simp only [cst] at *; omega) | (simp only [sm] at *; omega)), by show i + 1 ≤ n; omega, by show (row.set i x).length = n; rw [List.length_set]; exact hrl, dd7, hkey⟩, by show n - (i + 1) < n - i; omega, ?_⟩
      cbv
      refine ⟨?_, trivial⟩
      show Blk.row none 5 (O.st (U row) i (.int .u8 x)) = .row none 5 (U (row.set i x))
      rw [hv]
    · have e : i = n := by (first | omega | (simp only [cst] at *; omega) | (simp only [sm] at *; omega))
      rw [e, Nat.sub_self, byF] at hrr
      injection hrr with hr1 hr2
      subst hr1; subst hr2
      exact ⟨rfl, rfl, rfl⟩
end Go.Proofs.Ytjhicdoigllblaa
/- How the arguments of a law are opened into abstract values: bytes, lists of integers, structs of one-cell fields. -/
namespace Go.Proofs.Ytjhicdoigllblaa
set_option linter.unusedVariables false
set_option linter.unusedSimpArgs false
open Go.ChangeShapes Go.WideShapes Go.ChangeAt Go.RowKit Go.WideElems Go.Deep

theorem prog_own : ownKnob Try.prog.godebug = none := by kernel_rfl
theorem prog_laidOut : laidOutB Try.prog = true := by kernel_rfl
def NoX : Nat → Prop := fun _ => False

/-- What is known of the datum of a slice: how long it is. -/
def SliceDatum {H : Type} (d : DataW H) (l c : Nat) : Prop := (d = .nil ∧ l = 0 ∧ c = 0) ∨ ∃ es sp : List (DataW H), d = .slice es sp ∧ es.length = l ∧ es.length + sp.length = c
theorem SliceDatum.reach {H : Type} {P : Program} {ts : List TypeId} {ds : List (DataW H)} {d : DataW H} {l c : Nat} (h : SliceDatum d l c) (hs : (DataW.weightsEach P ts ds).all (· ≤ reachBytes) = true) {j : Nat} {t e : TypeId}
    (ht : ts[j]? = some t) (hd : ds[j]? = some d) (hu : P.underlying t = some (.slice e)) : c * P.bytesOf e ≤ 140737488351232 := by
  rcases h with ⟨_, _, rfl⟩ | ⟨es, sp, rfl, _, hc⟩
  · omega
  · have := sized_slice hs ht hd hu
    rw [hc] at this
    simpa [reachBytes] using this

section
variable {H : Type} {enc : TypeId × Value → H} {P : Program} {w : World}
theorem block_lt {ad : Addr} {u : Value} (h : w.cell? ad = some u) : ad.block < w.heap.size := World.block_lt_of_cell? w ad h

/-- A slice of integers that came in. -/
theorem open_list {r : Reach} {b0 : Nat} {t e : TypeId} {k : IntKind} {v : Value} {d : DataW H} {p : List MemPlace} (ht : P.underlying t = some (.slice e)) (he : P.underlying e = some (.int k)) (hc : P.cellsOf e = 1)
    (hval : Value.okWide P w r b0 t v) (h : DataW.Trod enc P w 0 (fun _ => true) true t v d p) :
    ∃ (zs : List Int) (c : Nat), Den w NoX noEnv (.lst none (zs.map (SV.int k))) v ∧ zs.length ≤ c ∧ c ≤ maxLen ∧ (∀ n ∈ zs, (Lit.int k n).wf = true) ∧ SliceDatum d zs.length c := by
  obtain ⟨a0, len0, cap0, rfl⟩ := okWide_slice ht hval
  obtain ⟨fuel, hf⟩ := h
  rcases open_ints ht he hc hf with ⟨hcs, hx⟩ | ⟨x, l, c, zs, hcs, _, hl, hm, hz, hx, hcell, hwz⟩
  · simp [Value.cells] at hcs
    obtain ⟨rfl, rfl, rfl⟩ := hcs
    simp only [Prod.mk.injEq] at hx
    exact ⟨[], 0, .lst0 _ _ _ _, Nat.le_refl _, by simp [maxLen], by simp, .inl ⟨hx.1, rfl, rfl⟩⟩
  · simp [Value.cells] at hcs
    obtain ⟨rfl, rfl, rfl⟩ := hcs
    simp only [if_true] at hz
    simp only [Prod.mk.injEq] at hx
    have hlen : (zs.take len0).length = len0 := by rw [List.length_take]; omega
    refine ⟨zs.take len0, cap0, ?_, by omega, hm, fun n hn => hwz n (List.mem_of_mem_take hn), .inr ⟨_, _, hx.1, ?_, ?_⟩⟩
    · by_cases h0 : len0 = 0
      · subst h0
        exact .lst0 _ _ _ _
      · have hspot : x.spot = none := by
          have := hcell 0 (by omega)
          have := World.cell?_spot this
          simpa [Addr.add] using this
        obtain ⟨b, off, spot⟩ := x
        simp only at hspot
        subst hspot
        have e1 : ((zs.take len0).map (SV.int k)).length = len0 := by rw [List.length_map, hlen]
        have e2 : Den w NoX noEnv (.lst none ((zs.take len0).map (SV.int k))) (.slice (some ⟨b, off, none⟩) ((zs.take len0).map (SV.int k)).length cap0) := by
          refine .lst _ _ _ b off cap0 ((zs.take len0).map (Value.int k)) ?_ (fun h => h) (by rw [e1]; omega) (fun j u hu => ?_) (by simp [wid]) (fun u hu => by obtain ⟨z, _, rfl⟩ := List.mem_map.1 hu; rfl) (fun i h1 => ?_)
          · have := block_lt (hcell 0 (by omega))
            exact this
          · obtain ⟨hj, hu⟩ := List.getElem?_eq_some_iff.1 hu
            rw [List.length_map] at hj
            have := hcell j (by omega)
            rw [Addr.add_lit] at this
            rw [this, ← hu]
            simp [List.getD]
            rw [List.getElem?_eq_getElem (by omega)]
            rfl
          · simp only [valAt]
            rw [List.length_map] at h1
            rw [List.getElem?_eq_getElem (by simpa using h1)]
            simp only [List.getElem_map, Option.getD_some]
            exact .int _ _ _
        rw [e1] at e2
        exact e2
    · simp [lits] <;> omega
    · simp [lits] <;> omega

/-- A struct of five one-cell fields that came in. -/
theorem open_agg5 {r : Reach} {b0 : Nat} {t : TypeId} {f0 f1 f2 f3 f4 : Field} {v : Value} {d : DataW H} {p : List MemPlace} {base : Nat} {spare : Nat → Bool} {held : Bool}
    (hs : P.underlying t = some (.struct #[f0, f1, f2, f3, f4])) (hone : oneCellFields P #[f0, f1, f2, f3, f4] = true) (hC : P.cellsOf t = 5)
    (hv : Value.okWide P w r b0 t v) (h : DataW.Trod enc P w base spare held t v d p) :
    ∃ (v0 v1 v2 v3 v4 : Value) (y0 y1 y2 y3 y4 : DataW H × List MemPlace) (n : Nat), v = .agg #[v0, v1, v2, v3, v4] ∧
      DataW.trod enc P w base spare held n f0.type [v0] = some y0 ∧ DataW.trod enc P w base spare held n f1.type [v1] = some y1 ∧ DataW.trod enc P w base spare held n f2.type [v2] = some y2 ∧
      DataW.trod enc P w base spare held n f3.type [v3] = some y3 ∧ DataW.trod enc P w base spare held n f4.type [v4] = some y4 := by
  obtain ⟨cs, rfl, hsz⟩ := okWide_struct hs hv
  have hsz' : cs.size = 5 := hsz.trans hC
  obtain ⟨l⟩ := cs
  match l, hsz' with
  | [c0, c1, c2, c3, c4], _ =>
    obtain ⟨fuel, hf⟩ := h
    obtain ⟨xs, n, _, _, _, hlen, hx⟩ := DataW.trod_struct hs hf
    match xs, hlen with
    | [y0, y1, y2, y3, y4], _ =>
      obtain ⟨o0, k0⟩ := Deep.hone_of hone 0 f0 rfl
      obtain ⟨o1, k1⟩ := Deep.hone_of hone 1 f1 rfl
      obtain ⟨o2, k2⟩ := Deep.hone_of hone 2 f2 rfl
      obtain ⟨o3, k3⟩ := Deep.hone_of hone 3 f3 rfl
      obtain ⟨o4, k4⟩ := Deep.hone_of hone 4 f4 rfl
      exact ⟨c0, c1, c2, c3, c4, y0, y1, y2, y3, y4, n, rfl, by simpa [Value.cells, o0, k0] using hx 0 f0 rfl, by simpa [Value.cells, o1, k1] using hx 1 f1 rfl, by simpa [Value.cells, o2, k2] using hx 2 f2 rfl,
        by simpa [Value.cells, o3, k3] using hx 3 f3 rfl, by simpa [Value.cells, o4, k4] using hx 4 f4 rfl⟩
end
theorem denl_nil {w : World} {X : Nat → Prop} {ρ : Env} : DenL w X ρ [] [] := ⟨rfl, fun i x u h _ => by simp at h⟩
theorem denl_cons {w : World} {X : Nat → Prop} {ρ : Env} {x : SV} {v : Value} {xs : List SV} {vs : List Value} (h : Den w X ρ x v) (g : DenL w X ρ xs vs) : DenL w X ρ (x :: xs) (v :: vs) := by
  refine ⟨by simp [g.1], fun i y u hy hu => ?_⟩
  cases i with
  | zero => simp at hy hu; subst hy; subst hu; exact h
  | succ i => exact g.2 i y u (by simpa using hy) (by simpa using hu)
/-- The package's variables hold what the table says. -/
def GlobsAt (w : World) : Prop := ∀ g x, glob g = some x → plainB x = true ∧ Den w NoX noEnv x (.pointer (some ⟨g, 0, none⟩))
theorem noX_keep {w : World} {f : Nat} {xs : List SV} {b : Bool} : ∀ k, k < w.heap.size → ¬ NoX k → ¬ Forb NoX (inM (pu xs (.bool b))) noEnv k ∧ w.heap[k]? = w.heap[k]? := fun k _ _ => by
  refine ⟨?_, rfl⟩
  rintro (h | ⟨r, v, ho, _⟩)
  · exact h
  · simp [inM, getM, Blk.own] at ho
/-- A call of a law, at the world of the row. -/
theorem Good.rowG {f : Nat} {xs : List SV} {b : Bool} (h : Good f (pu xs (.bool b))) {w : World} (hg : GlobsAt w) {vs : List Value} (hd : DenL w NoX noEnv xs vs) : Calls Try.prog f ⟨vs⟩ w fun e w' => e = .returned (.bool b) ∧ Below w.heap.size w w' := by
  have m : MRep tinfo (fun b => w.heap.size ≤ b) w w NoX (inM (pu xs (.bool b))) noEnv :=
    ⟨fun _ h => h.elim, .refl _ _, fun _ h => h, fun r => by simp [inM, getM, BlkRep, noEnv], fun r r' v v' b h => by simp [inM, getM, Blk.own] at h, fun g x hx => ⟨(hg g x hx).1, (hg g x hx).2.mono (Nat.le_refl _) (noX_keep (f := f))⟩⟩
  refine (h.h.h rfl (fun b => w.heap.size ≤ b) w NoX noEnv vs m ?_).mono fun e w' ⟨v, ρ', he, hm, _, hv⟩ => ⟨by rw [he, Den.bool_iff.1 hv], hm.below.new⟩
  exact ⟨hd.1, fun i x u hx hu => (hd.2 i x u hx hu).mono (Nat.le_refl _) (noX_keep (f := f))⟩
end Go.Proofs.Ytjhicdoigllblaa
/- How any datum of whole numbers, bools, strings, slices, structs and arrays comes in. -/
namespace Go.Proofs.Ytjhicdoigllblaa
set_option linter.unusedVariables false
set_option linter.unusedSimpArgs false
open Go.ChangeShapes Go.WideShapes Go.ChangeAt Go.RowKit Go.WideElems Go.Deep
def wrapC : Option Nat → List SV → SV
  | none, ys => ys.headD .any
  | some _, ys => .agg ys
/-- The cells xs are of type t. -/
def wfC (T : Nat → Option TI) : Nat → Nat → List SV → Prop
  | 0, _, _ => False
  | m + 1, t, xs => match T t with
    | none => False
    | some i => match i.kind with
      | .bool => ∃ b, xs = [.bool b]
      | .int k => ∃ n, xs = [.int k n] ∧ (Lit.int k n).wf = true
      | .string => ∃ s, xs = [.str s] ∧ s.size ≤ maxLen
      | .slice e => (match T e with
        | some j => ∃ l c, xs = [.lst j.shape l] ∧ l.length ≤ c ∧ c ≤ maxLen ∧ c * j.bytes ≤ 140737488351232 ∧ ∀ x ∈ l, ∃ ys, wfC T m e ys ∧ x = wrapC j.shape ys
        | none => False)
      | .struct fs => xs.length = i.size ∧ ∀ q ∈ fs, ∀ j, T q.2 = some j → wfC T m q.2 ((xs.drop q.1).take j.size)
      | .array n e => xs.length = i.size ∧ ∀ k, k < n → ∀ j, T e = some j → wfC T m e ((xs.drop (k * j.size)).take j.size)
      | .other => False
def tiles (T : Nat → Option TI) (size : Nat) : Nat → List (Nat × Nat) → Bool
  | off, [] => Nat.beq off size
  | off, (o, t) :: fs => (match T t with | some j => Nat.beq o off && tiles T size (off + j.size) fs | none => false)
def okTy (T : Nat → Option TI) : Nat → Nat → Bool
  | 0, _ => false
  | m + 1, t => match T t with
    | none => false
    | some i => match i.kind with
      | .bool | .int _ | .string => true
      | .slice e => (match T e with | some j => !(Nat.beq j.size 0) | none => false) && okTy T m e
      | .struct fs => tiles T i.size 0 fs && fs.all fun q => okTy T m q.2
      | .array n e => (match T e with | some j => Nat.beq i.size (n * j.size) | none => false) && okTy T m e
      | .other => false
section
variable {H : Type} {enc : TypeId × Value → H} {P : Program} {T : Nat → Option TI} {w : World}
theorem cellsOf_T (tys : Types P T) {t : Nat} {i : TI} (h : T t = some i) : P.cellsOf t = i.size ∧ P.bytesOf t = i.bytes := by
  obtain ⟨j, h1, h2, h3⟩ := (tys.ok t i h).inf
  simp [Program.cellsOf, Program.bytesOf, h1, h2, h3]
theorem okTy_T {m t : Nat} (h : okTy T m t = true) : ∃ i m', m = m' + 1 ∧ T t = some i := by
  cases m with
  | zero => cases h
  | succ m =>
    unfold okTy at h
    cases ht : T t with
    | none => rw [ht] at h; cases h
    | some i => exact ⟨i, m, rfl, rfl⟩
theorem DenL.app {w : World} {X : Nat → Prop} {ρ : Env} {xs ys : List SV} {us vs : List Value} (h : DenL w X ρ xs us) (g : DenL w X ρ ys vs) : DenL w X ρ (xs ++ ys) (us ++ vs) := by
  refine ⟨by simp [h.1, g.1], fun i x u hx hu => ?_⟩
  by_cases hi : i < xs.length
  · rw [List.getElem?_append_left hi] at hx
    rw [List.getElem?_append_left (by rw [← h.1]; exact hi)] at hu
    exact h.2 i x u hx hu
  · rw [List.getElem?_append_right (by omega)] at hx
    rw [List.getElem?_append_right (by rw [← h.1]; omega), ← h.1] at hu
    exact g.2 _ x u hx hu

/-- The parts of a struct, joined. -/
theorem fields_join {X : Nat → Prop} {ρ : Env} {m : Nat} {cs : List Value} {size : Nat} (hcs : cs.length = size) : ∀ (fs : List (Nat × Nat)) (off : Nat), tiles T size off fs = true → off ≤ size →
    (∀ q ∈ fs, ∀ j, T q.2 = some j → ∃ xs, wfC T m q.2 xs ∧ DenL w X ρ xs ((cs.drop q.1).take j.size) ∧ xs.length = j.size) →
    ∃ ys, DenL w X ρ ys (cs.drop off) ∧ ys.length = size - off ∧ ∀ q ∈ fs, ∀ j, T q.2 = some j → off ≤ q.1 ∧ wfC T m q.2 ((ys.drop (q.1 - off)).take j.size)
  | [], off, ht, hof, _ => by
    simp only [tiles, nbeq] at ht
    refine ⟨[], ⟨by simp; omega, fun i x u h => by simp at h⟩, by simp; omega, fun q hq => by simp at hq⟩
  | (o, t) :: fs, off, ht, hof, hp => by
    simp only [tiles] at ht
    cases hj : T t with
    | none => rw [hj] at ht; cases ht
    | some j =>
      rw [hj] at ht
      simp only [Bool.and_eq_true, nbeq] at ht
      obtain ⟨rfl, ht⟩ := ht
      obtain ⟨xs, h1, h2, h3⟩ := hp (o, t) (by simp) j hj
      dsimp only at h1 h2
      have hfit : o + j.size ≤ size := by
        have := h2.1
        rw [h3, List.length_take, List.length_drop, hcs] at this
        omega
      obtain ⟨ys, g1, g2, g3⟩ := fields_join hcs fs (o + j.size) ht hfit (fun q hq => hp q (by simp [hq]))
      refine ⟨xs ++ ys, ?_, by simp [h3, g2]; omega, fun q hq j' hj' => ?_⟩
      · have := h2.app g1
        rw [show cs.drop o = (cs.drop o).take j.size ++ cs.drop (o + j.size) by rw [← List.drop_drop]; exact (List.take_append_drop _ _).symm]
        exact this
      · rcases List.mem_cons.1 hq with rfl | hq
        · rw [hj] at hj'
          injection hj' with hj'; subst hj'
          refine ⟨Nat.le_refl _, ?_⟩
          rw [Nat.sub_self, List.drop_zero, List.take_append_of_le_length (by omega), List.take_of_length_le (by omega)]
          exact h1
        · obtain ⟨k1, k2⟩ := g3 q hq j' hj'
          refine ⟨by omega, ?_⟩
          rw [List.drop_append, List.drop_eq_nil_of_le (show xs.length ≤ q.1 - o by omega), List.nil_append, h3, show q.1 - o - j.size = q.1 - (o + j.size) by omega]
          exact k2
/-- Parts of one size, joined. -/
theorem seg_join {X : Nat → Prop} {ρ : Env} {cs : List Value} {c : Nat} {q : List SV → Prop} : ∀ (n : Nat), cs.length = n * c → (∀ k, k < n → ∃ xs, q xs ∧ DenL w X ρ xs ((cs.drop (k * c)).take c) ∧ xs.length = c) →
    ∃ ys, DenL w X ρ ys cs ∧ ys.length = n * c ∧ ∀ k, k < n → q ((ys.drop (k * c)).take c)
  | 0, h, _ => ⟨[], ⟨by simp at h; simp [h], fun i x u h => by simp at h⟩, by simp, fun k hk => absurd hk (by omega)⟩
  | n + 1, h, hp => by
    have hm : (n + 1) * c = n * c + c := Nat.succ_mul n c
    obtain ⟨ys, g1, g2, g3⟩ := seg_join (cs := cs.take (n * c)) (c := c) (q := q) n (by simp; omega) (fun k hk => by
      obtain ⟨xs, h1, h2, h3⟩ := hp k (by omega)
      refine ⟨xs, h1, ?_, h3⟩
      have hle : k * c + c ≤ n * c := by rw [← Nat.succ_mul]; exact Nat.mul_le_mul_right _ hk
      have : ((cs.take (n * c)).drop (k * c)).take c = (cs.drop (k * c)).take c := by
        rw [List.drop_take, List.take_take, Nat.min_eq_left (by omega)]
      rw [this]; exact h2)
    obtain ⟨xs, h1, h2, h3⟩ := hp n (by omega)
    have e : (cs.drop (n * c)).take c = cs.drop (n * c) := List.take_of_length_le (by simp; omega)
    rw [e] at h2
    refine ⟨ys ++ xs, ?_, by simp [g2, h3]; omega, fun k hk => ?_⟩
    · have := g1.app h2
      rw [List.take_append_drop] at this
      exact this
    · by_cases hk' : k < n
      · have hle : k * c + c ≤ n * c := by rw [← Nat.succ_mul]; exact Nat.mul_le_mul_right _ hk'
        rw [List.drop_append_of_le_length (by omega), List.take_append_of_le_length (by simp; omega)]
        exact g3 k hk'
      · obtain rfl : k = n := by omega
        rw [List.drop_append, List.drop_eq_nil_of_le (by omega), List.nil_append, g2, Nat.sub_self, List.drop_zero, List.take_of_length_le (by omega)]
        exact h1
theorem weightsAll_mem {P : Program} {e : TypeId} : ∀ {ds : List (DataW H)} {d : DataW H}, d ∈ ds → ∀ n ∈ d.weights P e, n ∈ DataW.weightsAll P e ds
  | [], d, h, n, hn => by simp at h
  | x :: ds, d, h, n, hn => by
    simp only [DataW.weightsAll, List.mem_append]
    rcases List.mem_cons.1 h with rfl | h
    · exact .inl hn
    · exact .inr (weightsAll_mem h n hn)
theorem all_sub {a b : List Nat} {p : Nat → Bool} (h : a.all p = true) (hs : ∀ n ∈ b, n ∈ a) : b.all p = true := List.all_eq_true.2 fun n hn => List.all_eq_true.1 h n (hs n hn)
def OneC (cs : List Value) : Prop := ∀ u ∈ cs, u.oneCell' = true
theorem open_cells (tys : Types P T) (sz : Sizes T) : ∀ (n m t : Nat) (cs : List Value) (x : DataW H × List MemPlace) (i : TI), T t = some i → okTy T m t = true → DataW.trod enc P w 0 (fun _ => true) true n t cs = some x → (x.1.weights P t).all (· ≤ reachBytes) = true →
    ∃ xs, wfC T n t xs ∧ DenL w NoX noEnv xs cs ∧ xs.length = i.size ∧ OneC cs := by
  intro n
  induction n with
  | zero => intro m t cs x i _ _ h; simp [DataW.trod] at h
  | succ n ih =>
    intro m t cs x i ht hok h hw
    obtain ⟨i', m', rfl, ht'⟩ := okTy_T hok
    rw [ht] at ht'; injection ht' with ht'; subst ht'
    have tok := tys.ok t i ht
    have hok' := hok
    unfold okTy at hok'
    simp only [ht] at hok'
    have one : ∀ {sv : SV} {v : Value}, Den w NoX noEnv sv v → DenL w NoX noEnv [sv] [v] := fun h => denl_cons h denl_nil
    cases hk : i.kind with
    | bool =>
      have hs : i.size = 1 := sz.one t i ht (by rw [hk]; rfl)
      obtain ⟨b, rfl, _⟩ := DataW.trod_bool (tok.und_bool hk) h
      exact ⟨[.bool b], by simp only [wfC, ht, hk]; exact ⟨b, rfl⟩, one (.bool _ _), by simp [hs], fun u hu => by simp at hu; subst hu; rfl⟩
    | int k =>
      have hs : i.size = 1 := sz.one t i ht (by rw [hk]; rfl)
      obtain ⟨b, rfl, _, hb⟩ := DataW.trod_int (tok.und_int hk) h
      exact ⟨[.int k b], by simp only [wfC, ht, hk]; exact ⟨b, rfl, hb⟩, one (.int _ _ _), by simp [hs], fun u hu => by simp at hu; subst hu; rfl⟩
    | string =>
      have hs : i.size = 1 := sz.one t i ht (by rw [hk]; rfl)
      obtain ⟨b, rfl, _, hb⟩ := DataW.trod_string (tok.und_string hk) h
      exact ⟨[.str b], by simp only [wfC, ht, hk]; exact ⟨b, rfl, hb⟩, one (.str _ _), by simp [hs], fun u hu => by simp at hu; subst hu; rfl⟩
    | other => simp [hk] at hok'
    | slice e =>
      simp only [hk, Bool.and_eq_true] at hok'
      have hs : i.size = 1 := sz.one t i ht (by rw [hk]; rfl)
      have hok2 := hok'.1
      replace hok' := hok'.2
      obtain ⟨j, _, _, hj⟩ := okTy_T hok'
      have tokE := tys.ok e j hj
      have hu := tok.und_slice hk
      obtain ⟨hc, hbt⟩ := cellsOf_T tys hj
      rcases DataW.trod_slice hu h with ⟨rfl, _⟩ | ⟨a, len, cap, elems, rest, n', hn, rfl, rfl, _, hlc, hcm, hel, hE, hR, _⟩
      · refine ⟨[.lst j.shape []], ?_, one (.lst0 _ _ _ _), by simp [hs], fun u hu => by simp at hu; subst hu; rfl⟩
        simp only [wfC, ht, hk, hj]
        exact ⟨[], 0, rfl, by simp, by simp [maxLen], by omega, fun x hx => by simp at hx⟩
      · obtain rfl : n = n' := by omega
        simp only [DataW.weights, hu] at hw
        have hcap : cap * j.bytes ≤ 140737488351232 := by
          have := List.all_eq_true.1 hw _ (List.mem_cons_self ..)
          simp only [List.length_map, hel, (hR rfl).1, decide_eq_true_eq, hbt] at this
          rw [Nat.add_sub_cancel' hlc] at this
          simpa [reachBytes] using this
        have hall : ∀ k, k < len → ∃ cs', w.cells? 0 (a.add (k * j.size)) j.size = some cs' ∧ ∃ ys, wfC T n e ys ∧ DenL w NoX noEnv ys cs' ∧ ys.length = j.size ∧ OneC cs' := fun k hk => by
          have := hE k hk
          rw [hc, List.getElem?_eq_getElem (by omega)] at this
          simp only [Option.bind_eq_some_iff] at this
          obtain ⟨cs', h1, h2⟩ := this
          refine ⟨cs', h1, ih m' e cs' _ j hj hok' h2 (all_sub hw fun q hq => ?_)⟩
          refine List.mem_cons_of_mem _ (List.mem_append_left _ (weightsAll_mem (d := elems[k].1) (List.mem_map.2 ⟨elems[k], List.getElem_mem _, rfl⟩) q hq))
        by_cases h0 : len = 0
        · subst h0
          refine ⟨[.lst j.shape []], ?_, one (.lst0 _ _ _ _), by simp [hs], fun u hu => by simp at hu; subst hu; rfl⟩
          simp only [wfC, ht, hk, hj]
          exact ⟨[], cap, rfl, by simp, hcm, hcap, fun x hx => by simp at hx⟩
        · have hw1 := TI.wid_size (sz.one e j hj)
          have hsz0 : 0 < j.size := by
            rw [hj] at hok2
            simp at hok2
            have : j.size ≠ 0 := fun h => by rw [h] at hok2; cases hok2
            omega
          -- the cells of all elements
          have hcells : ∃ us : List Value, us.length = len * j.size ∧ OneC us ∧ (∀ q u, us[q]? = some u → w.cell? (a.add q) = some u) ∧ ∀ k, k < len → ∃ ys, wfC T n e ys ∧ DenL w NoX noEnv ys ((us.drop (k * j.size)).take j.size) ∧ ys.length = j.size := by
            have step : ∀ len', len' ≤ len → ∃ us : List Value, us.length = len' * j.size ∧ OneC us ∧ (∀ q u, us[q]? = some u → w.cell? (a.add q) = some u) ∧ ∀ k, k < len' → ∃ ys, wfC T n e ys ∧ DenL w NoX noEnv ys ((us.drop (k * j.size)).take j.size) ∧ ys.length = j.size := by
              intro len' hle
              induction len' with
              | zero => exact ⟨[], by simp, fun u hu => by simp at hu, fun q u hq => by simp at hq, fun k hk => absurd hk (by omega)⟩
              | succ l ihl =>
                obtain ⟨us, u1, u2, u3, u4⟩ := ihl (by omega)
                obtain ⟨cs', c1, ys, y1, y2, y3, y4⟩ := hall l (by omega)
                obtain ⟨_, c2, c3⟩ := World.cells?_some c1
                have hsm : (l + 1) * j.size = l * j.size + j.size := Nat.succ_mul _ _
                refine ⟨us ++ cs', by simp [u1, c2]; omega, fun u hu => by rcases List.mem_append.1 hu with g | g; exact u2 u g; exact y4 u g, fun q u hq => ?_, fun k hk => ?_⟩
                · by_cases hq' : q < us.length
                  · rw [List.getElem?_append_left hq'] at hq
                    exact u3 q u hq
                  · rw [List.getElem?_append_right (by omega)] at hq
                    have hlt : q - us.length < j.size := by
                      obtain ⟨g, _⟩ := List.getElem?_eq_some_iff.1 hq
                      omega
                    have := c3 (q - us.length) hlt
                    rw [hq, Addr.add_add, u1, show l * j.size + (q - l * j.size) = q by omega] at this
                    exact this
                · by_cases hk' : k < l
                  · obtain ⟨zs, z1, z2, z3⟩ := u4 k hk'
                    have hle2 : k * j.size + j.size ≤ l * j.size := by rw [← Nat.succ_mul]; exact Nat.mul_le_mul_right _ hk'
                    exact ⟨zs, z1, by rw [List.drop_append_of_le_length (by omega), List.take_append_of_le_length (by simp; omega)]; exact z2, z3⟩
                  · obtain rfl : k = l := by omega
                    refine ⟨ys, y1, ?_, y3⟩
                    rw [List.drop_append, List.drop_eq_nil_of_le (by omega), List.nil_append, u1, Nat.sub_self, List.drop_zero, List.take_of_length_le (by omega)]
                    exact y2
            exact step len (Nat.le_refl _)
          obtain ⟨us, u1, u2, u3, u4⟩ := hcells
          have hf : ∃ f : Nat → List SV, ∀ k, k < len → wfC T n e (f k) ∧ DenL w NoX noEnv (f k) ((us.drop (k * j.size)).take j.size) ∧ (f k).length = j.size :=
            ⟨fun k => if h : k < len then Classical.choose (u4 k h) else [], fun k h => by dsimp only; rw [dif_pos h]; exact Classical.choose_spec (u4 k h)⟩
          obtain ⟨f, hf⟩ := hf
          have hlen : us.length ≠ 0 := by
            rw [u1]
            have : 1 * j.size ≤ len * j.size := Nat.mul_le_mul_right _ (by omega)
            omega
          have hc0 := u3 0 _ (List.getElem?_eq_getElem (by omega))
          rw [Addr.add_zero'] at hc0
          have hsp := World.cell?_spot hc0
          have hblt := block_lt hc0
          obtain ⟨b, off, spot⟩ := a
          simp only at hsp
          subst hsp
          have hll : ((List.range len).map fun k => wrapC j.shape (f k)).length = len := by simp
          refine ⟨[.lst j.shape ((List.range len).map fun k => wrapC j.shape (f k))], ?_, one ?_, by simp [hs], fun u hu => by simp at hu; subst hu; rfl⟩
          · simp only [wfC, ht, hk, hj]
            refine ⟨_, cap, rfl, by rw [hll]; exact hlc, hcm, hcap, fun x hx => ?_⟩
            obtain ⟨k, hk, rfl⟩ := List.mem_map.1 hx
            exact ⟨f k, (hf k (by simpa using hk)).1, rfl⟩
          · have key : Den w NoX noEnv (.lst j.shape ((List.range len).map fun k => wrapC j.shape (f k))) (.slice (some ⟨b, off, none⟩) ((List.range len).map fun k => wrapC j.shape (f k)).length cap) := by
              refine .lst _ _ _ b off cap us hblt (fun h => h) (by rw [hll]; exact hlc) (fun q u hq => by have := u3 q u hq; rwa [Addr.add_lit] at this) (by rw [hll, u1, hw1]) u2 (fun k hk => ?_)
              rw [hll] at hk
              obtain ⟨f1, f2, f3⟩ := hf k hk
              simp only [List.getElem_map, List.getElem_range]
              have hle2 : k * j.size + j.size ≤ len * j.size := by rw [← Nat.succ_mul]; exact Nat.mul_le_mul_right _ hk
              rw [valAt_seg j.shape us k (by rw [← hw1]; omega), ← hw1]
              cases hsh : j.shape with
              | none =>
                rw [hsh] at hw1
                simp only [wid] at hw1
                obtain ⟨y, hy⟩ := List.length_eq_one_iff.1 (f3.trans hw1)
                rw [hy] at f2 ⊢
                have hl1 : ((us.drop (k * j.size)).take j.size).length = 1 := by rw [← f2.1]; rfl
                obtain ⟨u, hu⟩ := List.length_eq_one_iff.1 hl1
                rw [hu] at f2 ⊢
                exact f2.2 0 y u rfl rfl
              | some q =>
                rw [hsh] at hw1
                simp only [wid] at hw1
                exact f2.val q (f3.trans hw1)
            rw [hll] at key
            exact key
    | struct fs =>
      simp only [hk, Bool.and_eq_true] at hok'
      obtain ⟨gs, hg, hgs⟩ := tok.und_struct hk
      obtain ⟨xs, n', hn, hx, hcl, hxl, hX⟩ := DataW.trod_struct hg h
      obtain rfl : n = n' := by omega
      rw [(cellsOf_T tys ht).1] at hcl
      subst hx
      simp only [DataW.weights, hg] at hw
      have hparts : ∀ q ∈ fs, ∀ j, T q.2 = some j → ∃ ys, wfC T n q.2 ys ∧ DenL w NoX noEnv ys ((cs.drop q.1).take j.size) ∧ ys.length = j.size ∧ OneC ((cs.drop q.1).take j.size) := fun q hq j hj => by
        subst hgs
        obtain ⟨fd, hfd, rfl⟩ := List.mem_map.1 hq
        obtain ⟨k, hk, rfl⟩ := List.mem_iff_getElem.1 hfd
        have hk' : k < gs.size := by simpa using hk
        simp only [Array.getElem_toList] at hj hq ⊢
        have := hX k gs[k] (by simp [hk'])
        rw [(cellsOf_T tys hj).1, List.getElem?_eq_getElem (by omega)] at this
        have hty : okTy T m' gs[k].type = true := by
          have := List.all_eq_true.1 hok'.2 _ hq
          simpa using this
        have := ih m' gs[k].type _ xs[k] j hj hty this (all_sub hw fun a ha => DataW.weights_mem_each (j := k) (by simp [hk']) (by simp [show k < xs.length by omega]) a ha)
        simpa using this
      obtain ⟨ys, g1, g2, g3⟩ := fields_join (T := T) (w := w) (X := NoX) (ρ := noEnv) (m := n) hcl fs 0 hok'.1 (Nat.zero_le _) (fun q hq j hj => by
        obtain ⟨ys, y1, y2, y3, _⟩ := hparts q hq j hj
        exact ⟨ys, y1, y2, y3⟩)
      refine ⟨ys, ?_, by simpa using g1, by simpa using g2, ?_⟩
      · simp only [wfC, ht, hk]
        exact ⟨by simpa using g2, fun q hq j hj => by simpa using (g3 q hq j hj).2⟩
      · have cover : ∀ (fs : List (Nat × Nat)) (off : Nat), tiles T i.size off fs = true → (∀ q ∈ fs, ∀ j, T q.2 = some j → OneC ((cs.drop q.1).take j.size)) → OneC (cs.drop off) := by
          intro fs
          induction fs with
          | nil => intro off ht _ u hu; simp only [tiles, nbeq] at ht; rw [List.drop_eq_nil_of_le (by omega)] at hu; simp at hu
          | cons q fs ihf =>
            obtain ⟨o, t'⟩ := q
            intro off ht hp u hu
            simp only [tiles] at ht
            cases hj : T t' with
            | none => rw [hj] at ht; cases ht
            | some j =>
              rw [hj] at ht
              simp only [Bool.and_eq_true, nbeq] at ht
              obtain ⟨rfl, ht⟩ := ht
              rw [← List.take_append_drop j.size (cs.drop o), List.drop_drop] at hu
              rcases List.mem_append.1 hu with g | g
              · exact hp (o, t') (by simp) j hj u g
              · exact ihf (o + j.size) ht (fun q hq => hp q (by simp [hq])) u g
        have := cover fs 0 hok'.1 (fun q hq j hj => by obtain ⟨_, _, _, _, y4⟩ := hparts q hq j hj; exact y4)
        simpa using this
    | array n' e =>
      simp only [hk, Bool.and_eq_true] at hok'
      obtain ⟨h1, hok'⟩ := hok'
      obtain ⟨j, _, _, hj⟩ := okTy_T hok'
      rw [hj] at h1
      simp only [nbeq] at h1
      have hu := tok.und_array hk
      obtain ⟨xs, n1, hn, hx, hcl, hxl, hX⟩ := DataW.trod_array hu h
      obtain rfl : n = n1 := by omega
      rw [(cellsOf_T tys ht).1] at hcl
      subst hx
      simp only [DataW.weights, hu] at hw
      have hparts : ∀ k, k < n' → ∃ ys, wfC T n e ys ∧ DenL w NoX noEnv ys ((cs.drop (k * j.size)).take j.size) ∧ ys.length = j.size ∧ OneC ((cs.drop (k * j.size)).take j.size) := fun k hk => by
        have := hX k hk
        rw [(cellsOf_T tys hj).1, List.getElem?_eq_getElem (by omega)] at this
        exact ih m' e _ xs[k] j hj hok' this (all_sub hw fun a ha => weightsAll_mem (d := xs[k].1) (List.mem_map.2 ⟨xs[k], List.getElem_mem _, rfl⟩) a ha)
      obtain ⟨ys, g1, g2, g3⟩ := seg_join (w := w) (X := NoX) (ρ := noEnv) (cs := cs) (c := j.size) (q := wfC T n e) n' (by omega) (fun k hk => by
        obtain ⟨ys, y1, y2, y3, _⟩ := hparts k hk
        exact ⟨ys, y1, y2, y3⟩)
      refine ⟨ys, ?_, g1, by omega, fun u hu => ?_⟩
      · simp only [wfC, ht, hk]
        exact ⟨by omega, fun k hk j' hj' => by rw [hj] at hj'; injection hj' with hj'; subst hj'; exact g3 k hk⟩
      · obtain ⟨q, hq, rfl⟩ := List.mem_iff_getElem.1 hu
        have hpos : 0 < j.size := by
          rcases Nat.eq_zero_or_pos j.size with e0 | e0
          · rw [e0, Nat.mul_zero] at h1; omega
          · exact e0
        have hk : q / j.size < n' := by rw [Nat.div_lt_iff_lt_mul hpos]; omega
        obtain ⟨_, _, _, _, y4⟩ := hparts (q / j.size) hk
        refine y4 _ (List.mem_iff_getElem?.2 ⟨q % j.size, ?_⟩)
        rw [List.getElem?_take, if_pos (Nat.mod_lt _ hpos), List.getElem?_drop, Nat.mul_comm, Nat.div_add_mod, List.getElem?_eq_getElem hq]
theorem weights_of {H : Type} {P : Program} {ts : List TypeId} {ds : List (DataW H)} (h : (DataW.weightsEach P ts ds).all (· ≤ reachBytes) = true) {j : Nat} {t : TypeId} {d : DataW H} (ht : ts[j]? = some t) (hd : ds[j]? = some d) : (d.weights P t).all (· ≤ reachBytes) = true :=
  List.all_eq_true.2 fun n hn => List.all_eq_true.1 h n (DataW.weights_mem_each ht hd n hn)
theorem open_den (tys : Types P T) (sz : Sizes T) {n m t : Nat} {v : Value} {x : DataW H × List MemPlace} {i : TI} (ht : T t = some i) (hok : okTy T m t = true) (hsh : i.kind.aggB = true → ∃ cs, v = .agg cs) (hna : i.kind.aggB = false → ∀ cs, v ≠ .agg cs) (h : DataW.trod enc P w 0 (fun _ => true) true n t v.cells.toList = some x) (hw : (x.1.weights P t).all (· ≤ reachBytes) = true) :
    ∃ xs, wfC T n t xs ∧ Den w NoX noEnv (wrapC i.shape xs) v ∧ xs.length = i.size := by
  obtain ⟨xs, h1, h2, h3, h4⟩ := open_cells tys sz n m t _ x i ht hok h hw
  refine ⟨xs, h1, ?_, h3⟩
  cases hb : i.kind.aggB with
  | true =>
    obtain ⟨cs, rfl⟩ := hsh hb
    simp only [TI.shape, hb, if_true, wrapC]
    exact Den.agg_iff.2 ⟨_, rfl, by simpa [Value.cells] using h2⟩
  | false =>
    have h5 := sz.one t i ht hb
    obtain ⟨y, rfl⟩ := List.length_eq_one_iff.1 (h3.trans h5)
    have : v.cells = #[v] := by
      cases v <;> first | rfl | exact absurd rfl (hna hb _)
    rw [this] at h2
    simp only [TI.shape, hb, wrapC]
    exact h2.2 0 y v rfl rfl
end
theorem wf_int {T : Nat → Option TI} {n t : Nat} {i : TI} {k : IntKind} {x : SV} (ht : T t = some i) (hk : i.kind = .int k) (h : wfC T n t [x]) : ∃ z, x = .int k z ∧ (Lit.int k z).wf = true := by
  cases n with
  | zero => exact h.elim
  | succ n =>
    simp only [wfC, ht, hk] at h
    obtain ⟨z, h1, h2⟩ := h
    simp at h1
    exact ⟨z, h1, h2⟩
theorem wf_slice {T : Nat → Option TI} {n t e : Nat} {i j : TI} {x : SV} (ht : T t = some i) (hk : i.kind = .slice e) (he : T e = some j) (h : wfC T n t [x]) :
    ∃ l n', x = .lst j.shape l ∧ l.length * j.bytes ≤ 140737488351232 ∧ ∀ x ∈ l, ∃ ys, wfC T n' e ys ∧ x = wrapC j.shape ys := by
  cases n with
  | zero => exact h.elim
  | succ n =>
    simp only [wfC, ht, hk, he] at h
    obtain ⟨l, c, h1, h2, h3, h4, h5⟩ := h
    simp at h1
    exact ⟨l, n, h1, Nat.le_trans (Nat.mul_le_mul_right _ h2) h4, h5⟩
theorem wf_struct {T : Nat → Option TI} {n t : Nat} {i : TI} {fs : List (Nat × Nat)} {xs : List SV} (ht : T t = some i) (hk : i.kind = .struct fs) (h : wfC T n t xs) :
    xs.length = i.size ∧ ∃ n', ∀ q ∈ fs, ∀ j, T q.2 = some j → wfC T n' q.2 ((xs.drop q.1).take j.size) := by
  cases n with
  | zero => exact h.elim
  | succ n =>
    simp only [wfC, ht, hk] at h
    exact ⟨h.1, n, h.2⟩
theorem lst_choose {A : Type} {p : A → Prop} {f : A → SV} : ∀ (l : List SV), (∀ x ∈ l, ∃ a, p a ∧ x = f a) → ∃ es : List A, l = es.map f ∧ ∀ a ∈ es, p a
  | [], _ => ⟨[], rfl, fun a h => by simp at h⟩
  | x :: l, h => by
    obtain ⟨a, h1, h2⟩ := h x (by simp)
    obtain ⟨es, h3, h4⟩ := lst_choose l (fun y hy => h y (by simp [hy]))
    exact ⟨a :: es, by simp [h2, h3], fun b hb => by rcases List.mem_cons.1 hb with rfl | hb; exact h1; exact h4 b hb⟩
theorem wf_bytes {n : Nat} {x : SV} (h : wfC tinfo n 26 [x]) : ∃ bs : List UInt8, x = .lst none (u8l bs) ∧ bs.length ≤ 140737488351232 := by
  obtain ⟨l, n', rfl, h2, h3⟩ := wf_slice (show tinfo 26 = some _ from rfl) rfl (show tinfo 5 = some _ from rfl) h
  obtain ⟨bs, h4, _⟩ := lst_choose (A := UInt8) (p := fun _ => True) (f := fun b => SV.int .u8 b.toNat) l (fun x hx => by
    obtain ⟨ys, g1, g2⟩ := h3 x hx
    cases n' with
    | zero => exact g1.elim
    | succ n' =>
      obtain ⟨z, g3, g4⟩ := g1
      refine ⟨UInt8.ofNat z.toNat, trivial, ?_⟩
      rw [g2, g3]
      have := bounds_u8 g4
      show SV.int .u8 z = _
      congr 1
      simp only [UInt8.toNat_ofNat']
      omega)
  refine ⟨bs, by rw [h4]; rfl, ?_⟩
  have : l.length = bs.length := by rw [h4]; simp
  simp only at h2
  omega
theorem open_bytes {n : Nat} {xs : List SV} (h : wfC tinfo n 26 xs) : ∃ bs : List UInt8, bs.length ≤ 140737488351232 ∧ xs = [.lst none (u8l bs)] := by
  have hl : xs.length = 1 := by
    cases n with
    | zero => exact h.elim
    | succ n => obtain ⟨l, c, h1, _⟩ := h; rw [h1]; rfl
  obtain ⟨x, rfl⟩ := List.length_eq_one_iff.1 hl
  obtain ⟨bs, rfl, h2⟩ := wf_bytes h
  exact ⟨bs, h2, rfl⟩
end Go.Proofs.Ytjhicdoigllblaa
/- How pieces, senders and receivers come in. -/
namespace Go.Proofs.Ytjhicdoigllblaa
set_option linter.unusedVariables false
set_option linter.unusedSimpArgs false
open Go.RowKit
theorem wf_bool {T : Nat → Option TI} {n t : Nat} {i : TI} {x : SV} (ht : T t = some i) (hk : i.kind = .bool) (h : wfC T n t [x]) : ∃ b, x = .bool b := by
  cases n with
  | zero => exact h.elim
  | succ n =>
    unfold wfC at h
    rw [ht] at h
    simp only [hk] at h
    obtain ⟨b, hb⟩ := h
    injection hb with hb
    exact ⟨b, hb⟩
theorem open_bss {n : Nat} {x : SV} (h : wfC tinfo n 22 [x]) : ∃ ps : List (List UInt8), x = .lst none (rowsB ps) ∧ (∀ p ∈ ps, p.length ≤ 140737488351232) ∧ ps.length ≤ 5864062014805 := by
  obtain ⟨l, n', rfl, h2, h3⟩ := wf_slice (show tinfo 22 = some _ from rfl) rfl (show tinfo 26 = some _ from rfl) h
  obtain ⟨ps, h4, h5⟩ := lst_choose (A := List UInt8) (p := fun p => p.length ≤ 140737488351232) (f := fun b => .lst none (u8l b)) l (fun x hx => by
    obtain ⟨ys, g1, g2⟩ := h3 x hx
    obtain ⟨bs, g3, g4⟩ := open_bytes g1
    exact ⟨bs, g3, by rw [g2, g4]; rfl⟩)
  refine ⟨ps, by rw [h4]; rfl, h5, ?_⟩
  have : l.length = ps.length := by rw [h4]; simp
  simp only at h2
  omega
structure Pce.fits (p : Pce) : Prop where
  t : 0 ≤ p.tag ∧ p.tag ≤ 255
  n : -9223372036854775808 ≤ p.n ∧ p.n ≤ 9223372036854775807
  c : -9223372036854775808 ≤ p.c ∧ p.c ≤ 9223372036854775807
  d : p.d.length ≤ 140737488351232
theorem open_piece {n : Nat} {xs : List SV} (h : wfC tinfo n 51 xs) : ∃ p : Pce, p.fits ∧ xs = [.int .u8 p.tag, .int .i64 p.n, .int .i64 p.c, .bool p.ack, .lst none (u8l p.d)] := by
  obtain ⟨hl, n', h⟩ := wf_struct (show tinfo 51 = some _ from rfl) rfl h
  match xs, hl with
  | [a, b, c, d, e], _ =>
    obtain ⟨z0, rfl, w0⟩ := wf_int (show tinfo 5 = some _ from rfl) rfl (h (0, 5) (by simp) _ rfl)
    obtain ⟨z1, rfl, w1⟩ := wf_int (show tinfo 3 = some _ from rfl) rfl (h (1, 3) (by simp) _ rfl)
    obtain ⟨z2, rfl, w2⟩ := wf_int (show tinfo 3 = some _ from rfl) rfl (h (2, 3) (by simp) _ rfl)
    obtain ⟨k, rfl⟩ := wf_bool (show tinfo 4 = some _ from rfl) rfl (h (3, 4) (by simp) _ rfl)
    obtain ⟨bs, rfl, w3⟩ := wf_bytes (h (4, 26) (by simp) _ rfl)
    have b0 := bounds_u8 w0
    have b1 := bounds_i64 w1
    have b2 := bounds_i64 w2
    exact ⟨⟨z0, z1, z2, k, bs⟩, ⟨b0, b1, b2, w3⟩, rfl⟩
theorem open_sender {n : Nat} {xs : List SV} (h : wfC tinfo n 25 xs) : ∃ s : Snd, s.fits ∧ xs = [.int .i64 s.st, .int .u8 s.tag, .lst none (rowsB s.ps), .int .u32 s.ak, .int .i64 s.rd, .int .i64 s.un] := by
  obtain ⟨hl, n', h⟩ := wf_struct (show tinfo 25 = some _ from rfl) rfl h
  match xs, hl with
  | [a, b, c, d, e, f], _ =>
    obtain ⟨z0, rfl, w0⟩ := wf_int (show tinfo 3 = some _ from rfl) rfl (h (0, 3) (by simp) _ rfl)
    obtain ⟨z1, rfl, w1⟩ := wf_int (show tinfo 5 = some _ from rfl) rfl (h (1, 5) (by simp) _ rfl)
    obtain ⟨ps, rfl, w2, w3⟩ := open_bss (h (2, 22) (by simp) _ rfl)
    obtain ⟨z3, rfl, w4⟩ := wf_int (show tinfo 23 = some _ from rfl) rfl (h (3, 23) (by simp) _ rfl)
    obtain ⟨z4, rfl, w5⟩ := wf_int (show tinfo 3 = some _ from rfl) rfl (h (4, 3) (by simp) _ rfl)
    obtain ⟨z5, rfl, w6⟩ := wf_int (show tinfo 3 = some _ from rfl) rfl (h (5, 3) (by simp) _ rfl)
    exact ⟨⟨z0, z1, ps, z3, z4, z5⟩, ⟨bounds_i64 w0, bounds_u8 w1, bounds_u32 w4, bounds_i64 w5, bounds_i64 w6, w3, w2⟩, rfl⟩
structure Rcv where
  tag : Int
  cnt : Int
  ps : List (List UInt8)
  hv : Int
  dn : Bool
structure Rcv.fits (r : Rcv) : Prop where
  tag : 0 ≤ r.tag ∧ r.tag ≤ 255
  cnt : -9223372036854775808 ≤ r.cnt ∧ r.cnt ≤ 9223372036854775807
  hv : 0 ≤ r.hv ∧ r.hv ≤ 4294967295
  n : r.ps.length ≤ 5864062014805
  b : ∀ p ∈ r.ps, p.length ≤ 140737488351232
theorem open_receiver {n : Nat} {xs : List SV} (h : wfC tinfo n 55 xs) : ∃ r : Rcv, r.fits ∧ xs = [.int .u8 r.tag, .int .i64 r.cnt, .lst none (rowsB r.ps), .int .u32 r.hv, .bool r.dn] := by
  obtain ⟨hl, n', h⟩ := wf_struct (show tinfo 55 = some _ from rfl) rfl h
  match xs, hl with
  | [a, b, c, d, e], _ =>
    obtain ⟨z0, rfl, w0⟩ := wf_int (show tinfo 5 = some _ from rfl) rfl (h (0, 5) (by simp) _ rfl)
    obtain ⟨z1, rfl, w1⟩ := wf_int (show tinfo 3 = some _ from rfl) rfl (h (1, 3) (by simp) _ rfl)
    obtain ⟨ps, rfl, w2, w3⟩ := open_bss (h (2, 22) (by simp) _ rfl)
    obtain ⟨z3, rfl, w4⟩ := wf_int (show tinfo 23 = some _ from rfl) rfl (h (3, 23) (by simp) _ rfl)
    obtain ⟨k, rfl⟩ := wf_bool (show tinfo 4 = some _ from rfl) rfl (h (4, 4) (by simp) _ rfl)
    exact ⟨⟨z0, z1, ps, z3, k⟩, ⟨bounds_u8 w0, bounds_i64 w1, bounds_u32 w4, w3, w2⟩, rfl⟩
end Go.Proofs.Ytjhicdoigllblaa
/- The walk of the law RecoveryWindow. -/
namespace Go.Proofs.Ytjhicdoigllblaa
set_option linter.unusedVariables false
set_option linter.unusedSimpArgs false
open Go.RowKit
set_option maxHeartbeats 16000000
theorem mark_get : ∀ (l : List Pce) (i : Nat) (p : Pce), l[i]? = some p → (mark l)[i]? = some { p with ack := if i + 1 = l.length then true else p.ack }
  | [], _, _, h => by cases h
  | [q], i, p, h => by
    cases i with
    | zero => injection h with h; subst h; rfl
    | succ i => cases h
  | q :: r :: l, i, p, h => by
    cases i with
    | zero =>
      injection h with h; subst h
      rw [mark, List.getElem?_cons_zero, if_neg (by simp)]
    | succ i =>
      rw [mark]
      have := mark_get (r :: l) i p h
      rw [List.getElem?_cons_succ, this]
      simp
theorem pre_get {tag : Int} {ps : List (List UInt8)} {ak : Int} {k i j : Nat} (hi : i < k) (h : (opn ak ps.length)[i]? = some j) : (pre tag ps ak k)[i]? = some ⟨tag, j, ps.length, false, ps.getD j []⟩ := by
  rw [pre, List.getElem?_map, List.getElem?_take, if_pos hi, h]; rfl
/-- The sender of the law Window after the acknowledgement. -/
theorem ackS_win {ps : List (List UInt8)} (h : Pcs ps) (m : Int) : ∃ st ak rd un : Int, ackS ⟨1, 9, ps, 0, 0, 0⟩ m = ⟨st, 9, ps, ak, rd, un⟩ ∧ (st = 1 → 0 ≤ ak ∧ ak < allI ps.length ∧ rd = 0 ∧ un = 0) := by
  unfold ackS
  dsimp only
  have hw := ackW_b m ps.length h.n2
  have hw2 : ackW m ps.length ≤ allI ps.length := by
    have h1 := Nat.and_le_right (n := m.toNat) (m := (allI ps.length).toNat)
    have := allI_pos h.n1
    rw [ackW]; omega
  have ho : ackO (ackW m ps.length) 0 = ackW m ps.length := by
    rw [ackO, show Int.toNat 0 = 0 from rfl, Nat.zero_or]; omega
  split
  · exact ⟨_, _, _, _, rfl, fun h => by omega⟩
  · refine ⟨_, _, _, _, rfl, fun h => ?_⟩
    rw [ho] at h
    rw [ho]
    split at h
    · omega
    · exact ⟨hw.1, by omega, by split <;> rfl, rfl⟩
set_option maxRecDepth 4000 in
theorem window_c (zs : List Int) (m : Int) (hz : ∀ v ∈ zs, -9223372036854775808 ≤ v ∧ v ≤ 9223372036854775807) (hm : 0 ≤ m ∧ m ≤ 4294967295) :
    Good 5 (pu [.lst none (ints .i64 zs), .int .u32 m] (.bool true)) := by
  obtain ⟨T, hT⟩ : ∃ T, T = (ints .i64 zs).take 400 := ⟨_, rfl⟩
  have h0 := new_c (ints .i64 zs) T hT
  have t0 : Tp T 0 := hT ▸ tape1 zs hz
  obtain ⟨N0, a0, hN1, hN2, t1, g0⟩ := next_e t0 300 (by omega)
  obtain ⟨N, hN⟩ : ∃ N, N = 1 + N0 := ⟨_, rfl⟩
  obtain ⟨R0, ys, a1, hR0, hyl, hy, t2, g1⟩ := fill_e t1 N (by omega)
  obtain ⟨bs, hbs, hbl⟩ := u8l_of ys hy
  have hRb : R0 = u8l bs := hR0.trans hbs
  have hRl : R0.length = bs.length := by rw [hRb, u8l_len]
  obtain ⟨sz, hsz⟩ : ∃ sz, sz = (bs.length + 31) / 32 := ⟨_, rfl⟩
  obtain ⟨q1', P0⟩ := beg_ok bs 9 sz (by omega) (by omega) (by omega) (by rw [Nat.div_lt_iff_lt_mul (by omega)]; omega)
  obtain ⟨ps, hps⟩ : ∃ ps, ps = chk sz bs (nPc bs.length sz) := ⟨_, rfl⟩
  rw [← hps] at q1' P0
  obtain ⟨R, hR⟩ : ∃ R, R = rowsB ps := ⟨_, rfl⟩
  have hRn : R.length = ps.length := by rw [hR, rowsB_len]
  obtain ⟨rm, hrm⟩ : ∃ rm : Int, rm = 4 + sz := ⟨_, rfl⟩
  have g2 := begin_p bs R0 hRb (by omega) 9 (4 + sz) (by omega) ⟨1, 9, ps, 0, 0, 0⟩ R hR 0 q1'
  rw [← hrm] at g2
  have ha : (0 : Int) ≤ 0 ∧ 0 < allI ps.length := ⟨by omega, by have := allI_pos P0.n1; omega⟩
  have hv0 := P0.vs (st := 1) (tag := 9) (ak := 0) (rd := 0) (un := 0) (.inl rfl) ha.2 (by omega) (by omega)
  obtain ⟨st, ak, rd, un, k1, k2⟩ := ackS_win P0 m
  have hack : ackP ⟨1, 9, ps, 0, 0, 0⟩ 9 m = (⟨st, 9, ps, ak, rd, un⟩, 0) := by
    rw [ackP, if_neg (by rw [hv0]; simp), if_neg (by simp), if_neg (by simp), k1]
  have g3 := ack_p ⟨1, 9, ps, 0, 0, 0⟩ R hR (P0.fits (by omega) (by omega) (by omega) (by omega) (by omega)) 9 m (by omega) hm _ R hR 0 hack
  have hf1 := ack_fits ⟨1, 9, ps, 0, 0, 0⟩ 9 m (P0.fits (by omega) (by omega) (by omega) (by omega) (by omega))
  rw [hack] at hf1
  have hk := known_c
  clear hz hack k1 hv0 q1' hps t0 t1 t2 hR0 hbs hT
  have hE := fun i hi => rowsB_at hR i hi
  have hfb := P0.b
  have main : st = 1 → ∃ (k W : Nat) (L : List SV) (cn : Nat → Nat) (bt : Nat → Int) (s2 : SV), k = min W 8 ∧ L.length = k ∧ cn 0 = 0 ∧ cn ps.length = W ∧ (∀ i, i < ps.length → cn (i + 1) = cn i + (if bt i = 0 then 1 else 0)) ∧
      (∀ i, bt i = (((ak / 2 ^ i).toNat &&& 1 : Nat) : Int)) ∧ (∀ i, bt i = 0 ∨ bt i = 1) ∧
      (∀ i B, i < ps.length → bt i = 0 → cn i < k → R[i]? = some (.lst none B) → ∃ κ : Bool, (κ = true ↔ cn i + 1 = k) ∧ L[cn i]? = some (.agg [.int .u8 9, .int .i64 (i : Int), .int .i64 (ps.length : Int), .bool κ, .lst none B])) ∧
      Good 15 (pu [.agg [.int .i64 1, .int .u8 9, .lst none R, .int .u32 ak, .int .i64 rd, .int .i64 un], .int .i64 0] (.tup [.agg [.int .i64 1, .int .u8 9, .lst none R, .int .u32 ak, .int .i64 1, .int .i64 8], .lst (some 5) L, .int .i64 0])) := fun hst => by
    obtain ⟨y1, y2, rfl, rfl⟩ := k2 hst
    subst hst
    obtain ⟨x1, x2⟩ := nextP_send P0 (tag := 9) (ak := ak) (rd := 0) (un := 0) (now := 0) ⟨y1, y2⟩ (by omega) (by omega) (by omega)
    have hw1 := fun i => and1n ak y1 i
    refine ⟨_, (opn ak ps.length).length, _, cntF ak 0, fun i => (((ak / 2 ^ i).toNat &&& 1 : Nat) : Int), .nil, rfl, ?_, rfl, opn_cnt ak _, fun i hi => ?_, fun _ => rfl, fun i => ?_, fun i B hi hb hik hRi => ?_, next_p _ R hR hf1 0 (by omega) _ R hR _ _ rfl 0 x1⟩
    · rw [pcL_len, sent_len]
    · show cntF ak 0 (i + 1) = cntF ak 0 i + (if (((ak / 2 ^ i).toNat &&& 1 : Nat) : Int) = 0 then 1 else 0)
      rw [hw1, cntF_succ, Nat.zero_add]
    · show (((ak / 2 ^ i).toNat &&& 1 : Nat) : Int) = 0 ∨ (((ak / 2 ^ i).toNat &&& 1 : Nat) : Int) = 1
      rw [hw1]; omega
    · have hb : (((ak / 2 ^ i).toNat &&& 1 : Nat) : Int) = 0 := hb
      rw [hw1] at hb
      have h1 := pre_get (tag := 9) (ps := ps) (ak := ak) hik (opn_at hi hb)
      have h2 := mark_get _ _ _ h1
      refine ⟨if cntF ak 0 i + 1 = (pre 9 ps ak (min (opn ak ps.length).length 8)).length then true else false, ?_, ?_⟩
      · rw [pre_len _ _ _ _ (by omega)]
        split <;> simp_all
      · obtain ⟨b, B', e1, e2, e3⟩ := hE i hi
        rw [hRi] at e3
        injection e3 with e3
        injection e3 with _ e3
        rw [pcL, List.getElem?_map, h2, e3, e2]
        have : ps.getD i [] = b := by rw [List.getD_eq_getElem?_getD, e1]; rfl
        rw [this]
        rfl
  obtain ⟨n, hn⟩ : ∃ n, n = ps.length := ⟨_, rfl⟩
  have hn32 := P0.n2
  rw [← hn] at main hRn hn32
  simp only [← hn] at hE
  have hakb : 0 ≤ ak ∧ ak ≤ 4294967295 := by have := hf1.ak; dsimp only at this; omega
  clear P0 hR ha hf1
  generalize ints .i64 zs = Z at *
  refine Good.of Try.func5 rfl (by rfl) (by kernel_rfl) ?_
  cbv
  have hmk : True := trivial
  (repeat' (first
| (refine q1w (fun z hz => ?_); (try simp only at hz); cbv)
| (refine rqw ?_; cbv)
| (refine QC.tw ?_; cbv)
| (refine QC.tt ?_ ?_; (focus (simp only [decide_true, Bool.and_true, Bool.and_self] <;> fail)); cbv)
| (refine QC.ff ?_ ?_; (focus (simp only [decide_true, Bool.and_true, Bool.and_self, decide_false, Bool.false_and, reduceCtorEq, not_false_eq_true] <;> fail)); cbv)
| (refine QC.fw ?_; cbv)
| (refine QC.mk (fun hc => ?_) (fun hc => ?_) <;> (try dsimp only at hc) <;> cbv)
| (refine br_mk2 (fun hb => ?_) (fun hb => ?_) <;> (try subst hb) <;> cbv)))
  (refine callq (h0) rfl rfl ?_; cbv; (repeat' (first
| (refine q1w (fun z hz => ?_); (try simp only at hz); cbv)
| (refine rqw ?_; cbv)
| (refine QC.tw ?_; cbv)
| (refine QC.tt ?_ ?_; (focus (simp only [decide_true, Bool.and_true, Bool.and_self] <;> fail)); cbv)
| (refine QC.ff ?_ ?_; (focus (simp only [decide_true, Bool.and_true, Bool.and_self, decide_false, Bool.false_and, reduceCtorEq, not_false_eq_true] <;> fail)); cbv)
| (refine QC.fw ?_; cbv)
| (refine QC.mk (fun hc => ?_) (fun hc => ?_) <;> (try dsimp only at hc) <;> cbv)
| (refine br_mk2 (fun hb => ?_) (fun hb => ?_) <;> (try subst hb) <;> cbv))))
  (refine callq (g0) rfl rfl ?_; cbv; (repeat' (first
| (refine q1w (fun z hz => ?_); (try simp only at hz); cbv)
| (refine rqw ?_; cbv)
| (refine QC.tw ?_; cbv)
| (refine QC.tt ?_ ?_; (focus (simp only [decide_true, Bool.and_true, Bool.and_self] <;> fail)); cbv)
| (refine QC.ff ?_ ?_; (focus (simp only [decide_true, Bool.and_true, Bool.and_self, decide_false, Bool.false_and, reduceCtorEq, not_false_eq_true] <;> fail)); cbv)
| (refine QC.fw ?_; cbv)
| (refine QC.mk (fun hc => ?_) (fun hc => ?_) <;> (try dsimp only at hc) <;> cbv)
| (refine br_mk2 (fun hb => ?_) (fun hb => ?_) <;> (try subst hb) <;> cbv))))
  have hzN := hz.trans hN.symm
  subst hzN
  (refine callq (g1) rfl rfl ?_; cbv; (repeat' (first
| (refine q1w (fun z hz => ?_); (try simp only at hz); cbv)
| (refine rqw ?_; cbv)
| (refine QC.tw ?_; cbv)
| (refine QC.tt ?_ ?_; (focus (simp only [decide_true, Bool.and_true, Bool.and_self] <;> fail)); cbv)
| (refine QC.ff ?_ ?_; (focus (simp only [decide_true, Bool.and_true, Bool.and_self, decide_false, Bool.false_and, reduceCtorEq, not_false_eq_true] <;> fail)); cbv)
| (refine QC.fw ?_; cbv)
| (refine QC.mk (fun hc => ?_) (fun hc => ?_) <;> (try dsimp only at hc) <;> cbv)
| (refine br_mk2 (fun hb => ?_) (fun hb => ?_) <;> (try subst hb) <;> cbv))))
  have hzq : z = sz := by
    have := hz.1 (by (first | omega | (simp only [cst] at *; omega) | (simp only [sm] at *; omega)))
    (first | omega | (simp only [cst] at *; omega) | (simp only [sm] at *; omega))
  refine q1 ⟨by (first | omega | (simp only [cst] at *; omega) | (simp only [sm] at *; omega)), by (first | omega | (simp only [cst] at *; omega) | (simp only [sm] at *; omega))⟩ ?_
  intro za hza
  have hzr : za = rm := by (first | omega | (simp only [cst] at *; omega) | (simp only [sm] at *; omega))
  subst hzr
  cbv
  (repeat' (first
| (refine q1w (fun z hz => ?_); (try simp only at hz); cbv)
| (refine rqw ?_; cbv)
| (refine QC.tw ?_; cbv)
| (refine QC.tt ?_ ?_; (focus (simp only [decide_true, Bool.and_true, Bool.and_self] <;> fail)); cbv)
| (refine QC.ff ?_ ?_; (focus (simp only [decide_true, Bool.and_true, Bool.and_self, decide_false, Bool.false_and, reduceCtorEq, not_false_eq_true] <;> fail)); cbv)
| (refine QC.fw ?_; cbv)
| (refine QC.mk (fun hc => ?_) (fun hc => ?_) <;> (try dsimp only at hc) <;> cbv)
| (refine br_mk2 (fun hb => ?_) (fun hb => ?_) <;> (try subst hb) <;> cbv)))
  (refine callq (g2) rfl rfl ?_; cbv; (repeat' (first
| (refine q1w (fun z hz => ?_); (try simp only at hz); cbv)
| (refine rqw ?_; cbv)
| (refine QC.tw ?_; cbv)
| (refine QC.tt ?_ ?_; (focus (simp only [decide_true, Bool.and_true, Bool.and_self] <;> fail)); cbv)
| (refine QC.ff ?_ ?_; (focus (simp only [decide_true, Bool.and_true, Bool.and_self, decide_false, Bool.false_and, reduceCtorEq, not_false_eq_true] <;> fail)); cbv)
| (refine QC.fw ?_; cbv)
| (refine QC.mk (fun hc => ?_) (fun hc => ?_) <;> (try dsimp only at hc) <;> cbv)
| (refine br_mk2 (fun hb => ?_) (fun hb => ?_) <;> (try subst hb) <;> cbv))))
  (refine callq (g3) rfl rfl ?_; cbv; (repeat' (first
| (refine q1w (fun z hz => ?_); (try simp only at hz); cbv)
| (refine rqw ?_; cbv)
| (refine QC.tw ?_; cbv)
| (refine QC.tt ?_ ?_; (focus (simp only [decide_true, Bool.and_true, Bool.and_self] <;> fail)); cbv)
| (refine QC.ff ?_ ?_; (focus (simp only [decide_true, Bool.and_true, Bool.and_self, decide_false, Bool.false_and, reduceCtorEq, not_false_eq_true] <;> fail)); cbv)
| (refine QC.fw ?_; cbv)
| (refine QC.mk (fun hc => ?_) (fun hc => ?_) <;> (try dsimp only at hc) <;> cbv)
| (refine br_mk2 (fun hb => ?_) (fun hb => ?_) <;> (try subst hb) <;> cbv))))
  · (refine callq (hk) rfl rfl ?_; cbv; (repeat' (first
| (refine q1w (fun z hz => ?_); (try simp only at hz); cbv)
| (refine rqw ?_; cbv)
| (refine QC.tw ?_; cbv)
| (refine QC.tt ?_ ?_; (focus (simp only [decide_true, Bool.and_true, Bool.and_self] <;> fail)); cbv)
| (refine QC.ff ?_ ?_; (focus (simp only [decide_true, Bool.and_true, Bool.and_self, decide_false, Bool.false_and, reduceCtorEq, not_false_eq_true] <;> fail)); cbv)
| (refine QC.fw ?_; cbv)
| (refine QC.mk (fun hc => ?_) (fun hc => ?_) <;> (try dsimp only at hc) <;> cbv)
| (refine br_mk2 (fun hb => ?_) (fun hb => ?_) <;> (try subst hb) <;> cbv))))
    exact ⟨rfl, rfl, rfl⟩
  · have hst : st = 1 := Classical.not_not.1 hc
    obtain ⟨k, W, L, cn, bt, s2, hkW, hLl, hc0, hcn, hcs, hbt, hb01, hLe, g4⟩ := main hst
    subst hst
    clear main k2 g3 g2 g1 g0 h0
    have hak : 0 ≤ ak ∧ ak ≤ 4294967295 := hakb
    have hkm : True := trivial
    (refine callq (g4) rfl rfl ?_; cbv; (repeat' (first
| (refine q1w (fun z hz => ?_); (try simp only at hz); cbv)
| (refine rqw ?_; cbv)
| (refine QC.tw ?_; cbv)
| (refine QC.tt ?_ ?_; (focus (simp only [decide_true, Bool.and_true, Bool.and_self] <;> fail)); cbv)
| (refine QC.ff ?_ ?_; (focus (simp only [decide_true, Bool.and_true, Bool.and_self, decide_false, Bool.false_and, reduceCtorEq, not_false_eq_true] <;> fail)); cbv)
| (refine QC.fw ?_; cbv)
| (refine QC.mk (fun hc => ?_) (fun hc => ?_) <;> (try dsimp only at hc) <;> cbv)
| (refine br_mk2 (fun hb => ?_) (fun hb => ?_) <;> (try subst hb) <;> cbv))))
    refine loopQ (A := (Nat × Int) × (Nat × Int)) (fun p => (p.1.2 = p.1.1 ∧ p.2.2 = p.2.1) ∧ p.2.1 ≤ n ∧ p.1.1 ≤ k ∧ cn p.2.1 = p.1.1) (fun p => k - p.1.1) (fun p => [(14, .int .i64 p.1.2), (13, .int .i64 p.2.2)]) (fun p => []) ((0, 0), (0, 0)) ⟨⟨rfl, rfl⟩, Nat.zero_le _, Nat.zero_le _, hc0⟩ ?_ ?_
    · cbv
    · intro ⟨⟨i, j⟩, ⟨a, b⟩⟩ hh
      have hj : j = (i : Int) := hh.1.1
      have hb : b = (a : Int) := hh.1.2
      have han : a ≤ n := hh.2.1
      have hik : i ≤ k := hh.2.2.1
      have hca : cn a = i := hh.2.2.2
      clear hh
      have hkl : True := trivial
      cbv
      (repeat' (first
| (refine q1w (fun z hz => ?_); (try simp only at hz); cbv)
| (refine rqw ?_; cbv)
| (refine QC.tw ?_; cbv)
| (refine QC.tt ?_ ?_; (focus (simp only [decide_true, Bool.and_true, Bool.and_self] <;> fail)); cbv)
| (refine QC.ff ?_ ?_; (focus (simp only [decide_true, Bool.and_true, Bool.and_self, decide_false, Bool.false_and, reduceCtorEq, not_false_eq_true] <;> fail)); cbv)
| (refine QC.fw ?_; cbv)
| (refine QC.mk (fun hc => ?_) (fun hc => ?_) <;> (try dsimp only at hc) <;> cbv)
| (refine br_mk2 (fun hb => ?_) (fun hb => ?_) <;> (try subst hb) <;> cbv)))
      · refine loopQ (A := Nat × Int) (fun p => p.2 = p.1 ∧ p.1 ≤ n ∧ cn p.1 = i) (fun p => n - p.1) (fun p => [(13, .int .i64 p.2)]) (fun p => []) (a, b) ⟨hb, han, hca⟩ ?_ ?_
        · cbv
        · intro ⟨a2, b2⟩ hh
          have hb2 : b2 = (a2 : Int) := hh.1
          have ha2 : a2 ≤ n := hh.2.1
          have hc2 : cn a2 = i := hh.2.2
          clear hh
          have hkk : True := trivial
          cbv
          (repeat' (first
| (refine q1w (fun z hz => ?_); (try simp only at hz); cbv)
| (refine rqw ?_; cbv)
| (refine QC.tw ?_; cbv)
| (refine QC.tt ?_ ?_; (focus (simp only [decide_true, Bool.and_true, Bool.and_self] <;> fail)); cbv)
| (refine QC.ff ?_ ?_; (focus (simp only [decide_true, Bool.and_true, Bool.and_self, decide_false, Bool.false_and, reduceCtorEq, not_false_eq_true] <;> fail)); cbv)
| (refine QC.fw ?_; cbv)
| (refine QC.mk (fun hc => ?_) (fun hc => ?_) <;> (try dsimp only at hc) <;> cbv)
| (refine br_mk2 (fun hb => ?_) (fun hb => ?_) <;> (try subst hb) <;> cbv)))
          · rename_i zr hzr hcr zj hzj
            have hiL : a2 < n := by (first | omega | (simp only [cst] at *; omega) | (simp only [sm] at *; omega))
            have hji : zj.toNat = a2 := by (first | omega | (simp only [cst] at *; omega) | (simp only [sm] at *; omega))
            have hz0 : 0 ≤ z := by rw [hz]; exact Int.ediv_nonneg hak.1 (Int.pow_nonneg (by omega))
            have hz4 : z ≤ ak := by rw [hz]; exact Int.ediv_le_self _ hak.1
            have hzz : ((z.toNat &&& Int.toNat 1 : Nat) : Int) = bt a2 := by rw [hbt, hz, hji]; rfl
            have hs := hcs a2 hiL
            have hb0 := hb01 a2
            obtain ⟨bb, B, hbi, hB, hEi⟩ := hE a2 hiL
            have hbl := hfb bb (List.mem_of_getElem? hbi)
            have hL2 := hLe a2 B hiL
            rw [hc2] at hL2
            refine q1 ⟨hz0, by omega, by omega, by omega⟩ ?_
            intro za hza
            have hza := hza.trans hzz
            clear hz hzz
            cbv
            (repeat' (first
| (refine q1w (fun z hz => ?_); (try simp only at hz); cbv)
| (refine rqw ?_; cbv)
| (refine QC.tw ?_; cbv)
| (refine QC.tt ?_ ?_; (focus (simp only [decide_true, Bool.and_true, Bool.and_self] <;> fail)); cbv)
| (refine QC.ff ?_ ?_; (focus (simp only [decide_true, Bool.and_true, Bool.and_self, decide_false, Bool.false_and, reduceCtorEq, not_false_eq_true] <;> fail)); cbv)
| (refine QC.fw ?_; cbv)
| (refine QC.mk (fun hc => ?_) (fun hc => ?_) <;> (try dsimp only at hc) <;> cbv)
| (refine br_mk2 (fun hb => ?_) (fun hb => ?_) <;> (try subst hb) <;> cbv)))
            · have hs2 : cn (a2 + 1) = i := by rw [hs, if_neg (by omega), hc2, Nat.add_zero]
              refine ⟨(a2 + 1, z), ⟨by show z = ((a2 + 1 : Nat) : Int); (first | omega | (simp only [cst] at *; omega) | (simp only [sm] at *; omega)), by show a2 + 1 ≤ n; omega, hs2⟩, by show n - (a2 + 1) < n - a2; omega, ?_⟩
              cbv
            · have hb3 : bt a2 = 0 := by omega
              have hs2 : cn (a2 + 1) = i + 1 := by rw [hs, if_pos hb3, hc2]
              have hik2 : i < k := by (first | omega | (simp only [cst] at *; omega) | (simp only [sm] at *; omega))
              obtain ⟨κ, hκ, hL3⟩ := hL2 hb3 hik2 hEi
              have gs := same_c bb bb B B true hB hB (by omega) (by omega) (by simp)
              rw [← hb2] at hL3
              clear hL2 hs hbi hB
              have hkj : True := trivial
              cases κ
              · have hne : ¬ i + 1 = k := fun h => by have := hκ.2 h; cases this
                (refine qv (i, _) ⟨hj, hL3⟩ ?_; cbv; (repeat' (first
| (refine q1w (fun z hz => ?_); (try simp only at hz); cbv)
| (refine rqw ?_; cbv)
| (refine QC.tw ?_; cbv)
| (refine QC.tt ?_ ?_; (focus (simp only [decide_true, Bool.and_true, Bool.and_self] <;> fail)); cbv)
| (refine QC.ff ?_ ?_; (focus (simp only [decide_true, Bool.and_true, Bool.and_self, decide_false, Bool.false_and, reduceCtorEq, not_false_eq_true] <;> fail)); cbv)
| (refine QC.fw ?_; cbv)
| (refine QC.mk (fun hc => ?_) (fun hc => ?_) <;> (try dsimp only at hc) <;> cbv)
| (refine br_mk2 (fun hb => ?_) (fun hb => ?_) <;> (try subst hb) <;> cbv))))
                (refine qv (i, _) ⟨hj, hL3⟩ ?_; cbv; (repeat' (first
| (refine q1w (fun z hz => ?_); (try simp only at hz); cbv)
| (refine rqw ?_; cbv)
| (refine QC.tw ?_; cbv)
| (refine QC.tt ?_ ?_; (focus (simp only [decide_true, Bool.and_true, Bool.and_self] <;> fail)); cbv)
| (refine QC.ff ?_ ?_; (focus (simp only [decide_true, Bool.and_true, Bool.and_self, decide_false, Bool.false_and, reduceCtorEq, not_false_eq_true] <;> fail)); cbv)
| (refine QC.fw ?_; cbv)
| (refine QC.mk (fun hc => ?_) (fun hc => ?_) <;> (try dsimp only at hc) <;> cbv)
| (refine br_mk2 (fun hb => ?_) (fun hb => ?_) <;> (try subst hb) <;> cbv))))
                (refine qv (i, _) ⟨hj, hL3⟩ ?_; cbv; (repeat' (first
| (refine q1w (fun z hz => ?_); (try simp only at hz); cbv)
| (refine rqw ?_; cbv)
| (refine QC.tw ?_; cbv)
| (refine QC.tt ?_ ?_; (focus (simp only [decide_true, Bool.and_true, Bool.and_self] <;> fail)); cbv)
| (refine QC.ff ?_ ?_; (focus (simp only [decide_true, Bool.and_true, Bool.and_self, decide_false, Bool.false_and, reduceCtorEq, not_false_eq_true] <;> fail)); cbv)
| (refine QC.fw ?_; cbv)
| (refine QC.mk (fun hc => ?_) (fun hc => ?_) <;> (try dsimp only at hc) <;> cbv)
| (refine br_mk2 (fun hb => ?_) (fun hb => ?_) <;> (try subst hb) <;> cbv))))
                (refine qv (a2, _) ⟨hb2, hEi⟩ ?_; cbv; (repeat' (first
| (refine q1w (fun z hz => ?_); (try simp only at hz); cbv)
| (refine rqw ?_; cbv)
| (refine QC.tw ?_; cbv)
| (refine QC.tt ?_ ?_; (focus (simp only [decide_true, Bool.and_true, Bool.and_self] <;> fail)); cbv)
| (refine QC.ff ?_ ?_; (focus (simp only [decide_true, Bool.and_true, Bool.and_self, decide_false, Bool.false_and, reduceCtorEq, not_false_eq_true] <;> fail)); cbv)
| (refine QC.fw ?_; cbv)
| (refine QC.mk (fun hc => ?_) (fun hc => ?_) <;> (try dsimp only at hc) <;> cbv)
| (refine br_mk2 (fun hb => ?_) (fun hb => ?_) <;> (try subst hb) <;> cbv))))
                (refine callq (gs) rfl rfl ?_; cbv; (repeat' (first
| (refine q1w (fun z hz => ?_); (try simp only at hz); cbv)
| (refine rqw ?_; cbv)
| (refine QC.tw ?_; cbv)
| (refine QC.tt ?_ ?_; (focus (simp only [decide_true, Bool.and_true, Bool.and_self] <;> fail)); cbv)
| (refine QC.ff ?_ ?_; (focus (simp only [decide_true, Bool.and_true, Bool.and_self, decide_false, Bool.false_and, reduceCtorEq, not_false_eq_true] <;> fail)); cbv)
| (refine QC.fw ?_; cbv)
| (refine QC.mk (fun hc => ?_) (fun hc => ?_) <;> (try dsimp only at hc) <;> cbv)
| (refine br_mk2 (fun hb => ?_) (fun hb => ?_) <;> (try subst hb) <;> cbv))))
                rename_i zj1 hzj1 zLn hzLn zRn hzRn zat hzat
                refine ⟨((i + 1, z), (a2 + 1, zat)), ⟨⟨by show z = ((i + 1 : Nat) : Int); (first | omega | (simp only [cst] at *; omega) | (simp only [sm] at *; omega)), by show zat = ((a2 + 1 : Nat) : Int); (first | omega | (simp only [cst] at *; omega) | (simp only [sm] at *; omega))⟩, by show a2 + 1 ≤ n; omega, by show i + 1 ≤ k; omega, hs2⟩, by show k - (i + 1) < k - i; omega, ?_⟩
                cbv
              · have hne : i + 1 = k := hκ.1 rfl
                (refine qv (i, _) ⟨hj, hL3⟩ ?_; cbv; (repeat' (first
| (refine q1w (fun z hz => ?_); (try simp only at hz); cbv)
| (refine rqw ?_; cbv)
| (refine QC.tw ?_; cbv)
| (refine QC.tt ?_ ?_; (focus (simp only [decide_true, Bool.and_true, Bool.and_self] <;> fail)); cbv)
| (refine QC.ff ?_ ?_; (focus (simp only [decide_true, Bool.and_true, Bool.and_self, decide_false, Bool.false_and, reduceCtorEq, not_false_eq_true] <;> fail)); cbv)
| (refine QC.fw ?_; cbv)
| (refine QC.mk (fun hc => ?_) (fun hc => ?_) <;> (try dsimp only at hc) <;> cbv)
| (refine br_mk2 (fun hb => ?_) (fun hb => ?_) <;> (try subst hb) <;> cbv))))
                (refine qv (i, _) ⟨hj, hL3⟩ ?_; cbv; (repeat' (first
| (refine q1w (fun z hz => ?_); (try simp only at hz); cbv)
| (refine rqw ?_; cbv)
| (refine QC.tw ?_; cbv)
| (refine QC.tt ?_ ?_; (focus (simp only [decide_true, Bool.and_true, Bool.and_self] <;> fail)); cbv)
| (refine QC.ff ?_ ?_; (focus (simp only [decide_true, Bool.and_true, Bool.and_self, decide_false, Bool.false_and, reduceCtorEq, not_false_eq_true] <;> fail)); cbv)
| (refine QC.fw ?_; cbv)
| (refine QC.mk (fun hc => ?_) (fun hc => ?_) <;> (try dsimp only at hc) <;> cbv)
| (refine br_mk2 (fun hb => ?_) (fun hb => ?_) <;> (try subst hb) <;> cbv))))
                (refine qv (i, _) ⟨hj, hL3⟩ ?_; cbv; (repeat' (first
| (refine q1w (fun z hz => ?_); (try simp only at hz); cbv)
| (refine rqw ?_; cbv)
| (refine QC.tw ?_; cbv)
| (refine QC.tt ?_ ?_; (focus (simp only [decide_true, Bool.and_true, Bool.and_self] <;> fail)); cbv)
| (refine QC.ff ?_ ?_; (focus (simp only [decide_true, Bool.and_true, Bool.and_self, decide_false, Bool.false_and, reduceCtorEq, not_false_eq_true] <;> fail)); cbv)
| (refine QC.fw ?_; cbv)
| (refine QC.mk (fun hc => ?_) (fun hc => ?_) <;> (try dsimp only at hc) <;> cbv)
| (refine br_mk2 (fun hb => ?_) (fun hb => ?_) <;> (try subst hb) <;> cbv))))
                (refine qv (a2, _) ⟨hb2, hEi⟩ ?_; cbv; (repeat' (first
| (refine q1w (fun z hz => ?_); (try simp only at hz); cbv)
| (refine rqw ?_; cbv)
| (refine QC.tw ?_; cbv)
| (refine QC.tt ?_ ?_; (focus (simp only [decide_true, Bool.and_true, Bool.and_self] <;> fail)); cbv)
| (refine QC.ff ?_ ?_; (focus (simp only [decide_true, Bool.and_true, Bool.and_self, decide_false, Bool.false_and, reduceCtorEq, not_false_eq_true] <;> fail)); cbv)
| (refine QC.fw ?_; cbv)
| (refine QC.mk (fun hc => ?_) (fun hc => ?_) <;> (try dsimp only at hc) <;> cbv)
| (refine br_mk2 (fun hb => ?_) (fun hb => ?_) <;> (try subst hb) <;> cbv))))
                (refine callq (gs) rfl rfl ?_; cbv; (repeat' (first
| (refine q1w (fun z hz => ?_); (try simp only at hz); cbv)
| (refine rqw ?_; cbv)
| (refine QC.tw ?_; cbv)
| (refine QC.tt ?_ ?_; (focus (simp only [decide_true, Bool.and_true, Bool.and_self] <;> fail)); cbv)
| (refine QC.ff ?_ ?_; (focus (simp only [decide_true, Bool.and_true, Bool.and_self, decide_false, Bool.false_and, reduceCtorEq, not_false_eq_true] <;> fail)); cbv)
| (refine QC.fw ?_; cbv)
| (refine QC.mk (fun hc => ?_) (fun hc => ?_) <;> (try dsimp only at hc) <;> cbv)
| (refine br_mk2 (fun hb => ?_) (fun hb => ?_) <;> (try subst hb) <;> cbv))))
                rename_i zj1 hzj1 zLn hzLn zRn hzRn zat hzat
                refine ⟨((i + 1, z), (a2 + 1, zat)), ⟨⟨by show z = ((i + 1 : Nat) : Int); (first | omega | (simp only [cst] at *; omega) | (simp only [sm] at *; omega)), by show zat = ((a2 + 1 : Nat) : Int); (first | omega | (simp only [cst] at *; omega) | (simp only [sm] at *; omega))⟩, by show a2 + 1 ≤ n; omega, by show i + 1 ≤ k; omega, hs2⟩, by show k - (i + 1) < k - i; omega, ?_⟩
                cbv
          · have hii : a2 = n := by (first | omega | (simp only [cst] at *; omega) | (simp only [sm] at *; omega))
            have hc3 : cn n = i := by rw [← hii]; exact hc2
            have hik2 : i < k := by (first | omega | (simp only [cst] at *; omega) | (simp only [sm] at *; omega))
            exfalso
            rw [hcn] at hc3
            omega
      · have hik2 : i = k := by (first | omega | (simp only [cst] at *; omega) | (simp only [sm] at *; omega))
        clear hLe
        refine loopQ (A := (Nat × Int) × Int) (fun p => p.1.2 = p.1.1 ∧ p.1.1 ≤ n ∧ p.2 = cn p.1.1 ∧ cn p.1.1 ≤ p.1.1) (fun p => n - p.1.1) (fun p => [(16, .int .i64 p.1.2), (15, .int .i64 p.2)]) (fun p => []) ((0, 0), 0) ⟨rfl, Nat.zero_le _, by show (0 : Int) = ((cn 0 : Nat) : Int); rw [hc0]; rfl, Nat.le_of_eq hc0⟩ ?_ ?_
        · cbv
        · intro ⟨⟨a2, b2⟩, o⟩ hh
          have hb2 : b2 = (a2 : Int) := hh.1
          have ha2 : a2 ≤ n := hh.2.1
          have ho : o = (cn a2 : Int) := hh.2.2.1
          have hcle : cn a2 ≤ a2 := hh.2.2.2
          clear hh
          have hkk : True := trivial
          cbv
          (repeat' (first
| (refine q1w (fun z hz => ?_); (try simp only at hz); cbv)
| (refine rqw ?_; cbv)
| (refine QC.tw ?_; cbv)
| (refine QC.tt ?_ ?_; (focus (simp only [decide_true, Bool.and_true, Bool.and_self] <;> fail)); cbv)
| (refine QC.ff ?_ ?_; (focus (simp only [decide_true, Bool.and_true, Bool.and_self, decide_false, Bool.false_and, reduceCtorEq, not_false_eq_true] <;> fail)); cbv)
| (refine QC.fw ?_; cbv)
| (refine QC.mk (fun hc => ?_) (fun hc => ?_) <;> (try dsimp only at hc) <;> cbv)
| (refine br_mk2 (fun hb => ?_) (fun hb => ?_) <;> (try subst hb) <;> cbv)))
          · rename_i zr hzr hcr zj hzj
            have hiL : a2 < n := by (first | omega | (simp only [cst] at *; omega) | (simp only [sm] at *; omega))
            have hji : zj.toNat = a2 := by (first | omega | (simp only [cst] at *; omega) | (simp only [sm] at *; omega))
            have hz0 : 0 ≤ z := by rw [hz]; exact Int.ediv_nonneg hak.1 (Int.pow_nonneg (by omega))
            have hz4 : z ≤ ak := by rw [hz]; exact Int.ediv_le_self _ hak.1
            have hzz : ((z.toNat &&& Int.toNat 1 : Nat) : Int) = bt a2 := by rw [hbt, hz, hji]; rfl
            have hs := hcs a2 hiL
            have hb0 := hb01 a2
            refine q1 ⟨hz0, by omega, by omega, by omega⟩ ?_
            intro za hza
            have hza := hza.trans hzz
            clear hz hzz
            cbv
            (repeat' (first
| (refine q1w (fun z hz => ?_); (try simp only at hz); cbv)
| (refine rqw ?_; cbv)
| (refine QC.tw ?_; cbv)
| (refine QC.tt ?_ ?_; (focus (simp only [decide_true, Bool.and_true, Bool.and_self] <;> fail)); cbv)
| (refine QC.ff ?_ ?_; (focus (simp only [decide_true, Bool.and_true, Bool.and_self, decide_false, Bool.false_and, reduceCtorEq, not_false_eq_true] <;> fail)); cbv)
| (refine QC.fw ?_; cbv)
| (refine QC.mk (fun hc => ?_) (fun hc => ?_) <;> (try dsimp only at hc) <;> cbv)
| (refine br_mk2 (fun hb => ?_) (fun hb => ?_) <;> (try subst hb) <;> cbv)))
            · have hs2 : cn (a2 + 1) = cn a2 + 1 := by rw [hs, if_pos (by omega)]
              rename_i zo hzo
              refine ⟨((a2 + 1, z), zo), ⟨by show z = ((a2 + 1 : Nat) : Int); (first | omega | (simp only [cst] at *; omega) | (simp only [sm] at *; omega)), by show a2 + 1 ≤ n; omega, by show zo = ((cn (a2 + 1) : Nat) : Int); (first | omega | (simp only [cst] at *; omega) | (simp only [sm] at *; omega)), by show cn (a2 + 1) ≤ a2 + 1; omega⟩, by show n - (a2 + 1) < n - a2; omega, ?_⟩
              cbv
            · have hs2 : cn (a2 + 1) = cn a2 := by rw [hs, if_neg (by omega), Nat.add_zero]
              refine ⟨((a2 + 1, z), o), ⟨by show z = ((a2 + 1 : Nat) : Int); (first | omega | (simp only [cst] at *; omega) | (simp only [sm] at *; omega)), by show a2 + 1 ≤ n; omega, by show o = ((cn (a2 + 1) : Nat) : Int); rw [hs2]; exact ho, by show cn (a2 + 1) ≤ a2 + 1; omega⟩, by show n - (a2 + 1) < n - a2; omega, ?_⟩
              cbv
          · have hii : a2 = n := by (first | omega | (simp only [cst] at *; omega) | (simp only [sm] at *; omega))
            rw [hii, hcn] at ho
            (refine callq (hk) rfl rfl ?_; cbv; (repeat' (first
| (refine q1w (fun z hz => ?_); (try simp only at hz); cbv)
| (refine rqw ?_; cbv)
| (refine QC.tw ?_; cbv)
| (refine QC.tt ?_ ?_; (focus (simp only [decide_true, Bool.and_true, Bool.and_self] <;> fail)); cbv)
| (refine QC.ff ?_ ?_; (focus (simp only [decide_true, Bool.and_true, Bool.and_self, decide_false, Bool.false_and, reduceCtorEq, not_false_eq_true] <;> fail)); cbv)
| (refine QC.fw ?_; cbv)
| (refine QC.mk (fun hc => ?_) (fun hc => ?_) <;> (try dsimp only at hc) <;> cbv)
| (refine br_mk2 (fun hb => ?_) (fun hb => ?_) <;> (try subst hb) <;> cbv))))
            exact ⟨rfl, rfl, rfl⟩
end Go.Proofs.Ytjhicdoigllblaa
/- The rounds of the law RecoverySenders. -/
namespace Go.Proofs.Ytjhicdoigllblaa
set_option linter.unusedVariables false
set_option linter.unusedSimpArgs false
open Go.RowKit
set_option maxHeartbeats 16000000
/-- What a round does with a sender. -/
theorem srnd_e (x : Snd) (X : List SV) (hX : X = rowsB x.ps) (hf : x.fits) (t tg m : Int) (ht : -9223372036854775808 ≤ t ∧ t ≤ 9223372036854775807) (htg : 0 ≤ tg ∧ tg ≤ 255) (hm : 0 ≤ m ∧ m ≤ 4294967295) :
    ∃ (y u : Snd) (Y U L : List SV) (e g : Int) (r : Bool),
      Good 15 (pu [x.w X, .int .i64 t] (.tup [y.w Y, .lst (some 5) L, .int .i64 e])) ∧ Good 16 (pu [x.w X, .int .i64 t] (.tup [y.w Y, .lst (some 5) L, .int .i64 e])) ∧
      Good 17 (pu [x.w X, .int .u8 tg, .int .u32 m] (.tup [u.w U, .int .i64 g])) ∧ Good 18 (pu [x.w X, .int .u8 tg, .int .u32 m] (.tup [u.w U, .int .i64 g])) ∧
      Good 19 (pu [x.w X] (.bool r)) ∧ Good 20 (pu [x.w X] (.bool r)) ∧
      Good 21 (pu [y.w Y, y.w Y] (.bool true)) ∧ Good 22 (pu [.lst (some 5) L, .lst (some 5) L] (.bool true)) ∧ Good 21 (pu [u.w U, u.w U] (.bool true)) := by
  have fy := next_fits x t hf
  have fu := ack_fits x tg m hf
  have hl : ∀ l, (nextP x t).2.1 = l → l.length ≤ 2000000000 ∧ ∀ p ∈ l, p.d.length ≤ 140737488351232 := fun l hl => by
    unfold nextP at hl
    split at hl
    · subst hl; exact ⟨by simp, fun p hp => by cases hp⟩
    split at hl
    · subst hl; exact ⟨by simp, fun p hp => by cases hp⟩
    split at hl
    · subst hl; exact ⟨by simp, fun p hp => by cases hp⟩
    split at hl
    · subst hl; exact ⟨by simp, fun p hp => by cases hp⟩
    · subst hl
      refine ⟨by rw [sent_len]; omega, fun p hp => ?_⟩
      obtain ⟨i, hi⟩ := List.mem_iff_getElem?.1 hp
      have hil : i < min (opn x.ak x.ps.length).length 8 := by
        have := (List.getElem?_eq_some_iff.1 hi).1
        rwa [sent_len] at this
      obtain ⟨j, hj⟩ : ∃ j, (opn x.ak x.ps.length)[i]? = some j := ⟨_, List.getElem?_eq_getElem (by omega)⟩
      have e1 := pre_get (tag := x.tag) (ps := x.ps) hil hj
      have e2 := mark_get _ _ _ e1
      rw [hi] at e2
      injection e2 with e2
      subst e2
      have hjl := (opn_lt hj).1
      dsimp only
      rw [List.getD_eq_getElem?_getD, List.getElem?_eq_getElem hjl]
      exact hf.b _ (List.getElem_mem hjl)
  rcases hn : nextP x t with ⟨y, l, e⟩
  rcases ha : ackP x tg m with ⟨u, g⟩
  rw [hn] at fy hl
  rw [ha] at fu
  dsimp only at fy fu hl
  obtain ⟨l1, l2⟩ := hl l rfl
  exact ⟨y, u, _, _, _, e, g, _, next_p x X hX hf t ht y _ rfl l _ rfl e hn, rnext_p x X hX hf t ht y _ rfl l _ rfl e hn, ack_p x X hX hf tg m htg hm u _ rfl g ha, rack_p x X hX hf tg m htg hm u _ rfl g ha,
    vsender_c x.st x.tag x.ak x.rd x.un x.ps X hX hf _ (vs_iff x), rvsender_c x.st x.tag x.ak x.rd x.un x.ps X hX hf _ (vs_iff x), samesender_r y _ rfl fy, samepieces_r l _ rfl l1 l2, samesender_r u _ rfl fu⟩
/-- .. with a datagram and a room. -/
theorem srnd2_e (b : List UInt8) (B : List SV) (hB : B = u8l b) (hb : b.length ≤ 140737488351232) (tag room : Int) (ht : 0 ≤ tag ∧ tag ≤ 255) (hr : -9223372036854775808 ≤ room ∧ room ≤ 9223372036854775807) :
    ∃ (y : Snd) (Y : List SV) (e : Int), Good 24 (pu [.lst none B, .int .u8 tag, .int .i64 room] (.tup [y.w Y, .int .i64 e])) ∧ Good 25 (pu [.lst none B, .int .u8 tag, .int .i64 room] (.tup [y.w Y, .int .i64 e])) ∧
      Good 21 (pu [y.w Y, y.w Y] (.bool true)) := by
  have fy := beg_fits b tag room ht hb
  rcases hn : begP b tag room with ⟨y, e⟩
  rw [hn] at fy
  exact ⟨y, _, e, begin_p b B hB hb tag room hr y _ rfl e hn, rbegin_p b B hB hb tag room hr y _ rfl e hn, samesender_r y _ rfl fy⟩
end Go.Proofs.Ytjhicdoigllblaa
/- The walk of the law RecoverySenders. -/
namespace Go.Proofs.Ytjhicdoigllblaa
set_option linter.unusedVariables false
set_option linter.unusedSimpArgs false
open Go.RowKit
set_option maxHeartbeats 16000000
theorem v4_e (s0 : Snd) (R0 : List SV) (h0 : R0 = rowsB s0.ps) (f0 : s0.fits) (s : Snd) (R : List SV) (h1 : R = rowsB s.ps) (f1 : s.fits) (sp : Snd) (RS : List SV) (h2 : RS = rowsB sp.ps) (f2 : sp.fits) :
    ∀ i, i < 4 → ∃ (x : Snd) (X : List SV), ([s0.w R0, s.w R, s.w R, sp.w RS] : List SV)[i]? = some (x.w X) ∧ X = rowsB x.ps ∧ x.fits := fun i hi => by
  rcases (show i = 0 ∨ i = 1 ∨ i = 2 ∨ i = 3 by omega) with rfl | rfl | rfl | rfl
  · exact ⟨s0, R0, rfl, h0, f0⟩
  · exact ⟨s, R, rfl, h1, f1⟩
  · exact ⟨s, R, rfl, h1, f1⟩
  · exact ⟨sp, RS, rfl, h2, f2⟩
theorem i4_e (k : IntKind) (a b c d lo hi : Int) (ha : lo ≤ a ∧ a ≤ hi) (hb : lo ≤ b ∧ b ≤ hi) (hc : lo ≤ c ∧ c ≤ hi) (hd : lo ≤ d ∧ d ≤ hi) :
    ∀ i, i < 4 → ∃ t : Int, ([.int k a, .int k b, .int k c, .int k d] : List SV)[i]? = some (.int k t) ∧ lo ≤ t ∧ t ≤ hi := fun i hi' => by
  rcases (show i = 0 ∨ i = 1 ∨ i = 2 ∨ i = 3 by omega) with rfl | rfl | rfl | rfl
  · exact ⟨a, rfl, ha⟩
  · exact ⟨b, rfl, hb⟩
  · exact ⟨c, rfl, hc⟩
  · exact ⟨d, rfl, hd⟩
theorem i2_e (k : IntKind) (a b lo hi : Int) (ha : lo ≤ a ∧ a ≤ hi) (hb : lo ≤ b ∧ b ≤ hi) :
    ∀ i, i < 2 → ∃ t : Int, ([.int k a, .int k b] : List SV)[i]? = some (.int k t) ∧ lo ≤ t ∧ t ≤ hi := fun i hi' => by
  rcases (show i = 0 ∨ i = 1 by omega) with rfl | rfl
  · exact ⟨a, rfl, ha⟩
  · exact ⟨b, rfl, hb⟩
set_option maxRecDepth 8000 in
theorem senders_0
    (s0 : Snd) (R0 : List SV) (hR0 : R0 = rowsB s0.ps) (hf0 : s0.fits) (b : List UInt8) (B : List SV) (hB : B = u8l b) (hb : b.length ≤ 140737488351232) (tag m room now : Int) (htg : 0 ≤ tag ∧ tag ≤ 255) (hm : 0 ≤ m ∧ m ≤ 4294967295)
    (hroom : -9223372036854775808 ≤ room ∧ room ≤ 9223372036854775807) (hnow : -9223372036854775808 ≤ now ∧ now ≤ 9223372036854775807) (Z T : List SV) (hT : T = Z.take 400)
    (s : Snd) (R : List SV) (c1 c2 : Int) (hsf : s.fits) (hvs : VS s) (hR : R = rowsB s.ps) (gS : Good 11 (le 81 (.agg [.lst none T, .int .i64 0]) [] (s.w R) (.agg [.lst none T, .int .i64 c1]))) (t2 : Tp T c2)
    (g2 : Good 12 (le 81 (.agg [.lst none T, .int .i64 c1]) [.int .i64 5] (.int .i64 0) (.agg [.lst none T, .int .i64 c2]))) :
    Good 3 (pu [s0.w R0, .lst none B, .int .u8 tag, .int .u32 m, .int .i64 room, .int .i64 now, .lst none Z] (.bool true)) := by
  skip
  have h0 := new_c Z T hT
  have gM := mod_c room 60 hroom (by omega)
  obtain ⟨M0, hM0⟩ : ∃ M, M = room % 60 := ⟨_, rfl⟩
  rw [← hM0] at gM
  have hM1 : 0 ≤ M0 ∧ M0 < 60 := by omega
  obtain ⟨V2, hV2⟩ : ∃ W : List SV, W = [.int .i64 room, .int .i64 M0] := ⟨_, rfl⟩
  have hV2E := i2_e .i64 room M0 (-9223372036854775808) 9223372036854775807 hroom (by omega)
  rw [← hV2] at hV2E
  have hV2l : V2.length = 2 := by rw [hV2]; rfl
  have gR := fun room ht => srnd2_e b B hB hb tag room htg ht
  have hk := known_c
  obtain ⟨U, hU⟩ : ∃ W : List SV, W = [.int .u8 tag, .int .u8 s.tag, .int .u8 tag, .int .u8 s.tag] := ⟨_, rfl⟩
  have hUE := i4_e .u8 tag s.tag tag s.tag 0 255 htg hsf.tag htg hsf.tag
  rw [← hU] at hUE
  have hUl : U.length = 4 := by rw [hU]; rfl
  obtain ⟨r3, c3, p3, u3, t3, g3⟩ := next_e t2 5 (by omega)
  skip
  obtain ⟨n1, c4, p4, u4, t4, g4⟩ := next_e t3 120 (by omega)
  obtain ⟨n2, c5, p5, t5, g5⟩ := now_e t4
  obtain ⟨n3, c6, p6, u6, t6, g6⟩ := next_e t5 60 (by omega)
  obtain ⟨W, hW⟩ : ∃ W : List SV, W = [.int .i64 now, .int .i64 n1, .int .i64 n2, .int .i64 n3] := ⟨_, rfl⟩
  have hWE := i4_e .i64 now n1 n2 n3 (-9223372036854775808) 9223372036854775807 hnow (by omega) (by omega) (by omega)
  rw [← hW] at hWE
  have hWl : W.length = 4 := by rw [hW]; rfl
  obtain ⟨sp, hsp⟩ : ∃ sp : Snd, sp = ⟨r3, s.tag, s.ps, s.ak, s.rd, s.un⟩ := ⟨_, rfl⟩
  skip
  have hspf : sp.fits := by
    rw [hsp]
    exact ⟨by have := hsf.st; dsimp only; omega, hsf.tag, by have := hsf.ak; dsimp only; omega, by have := hsf.rd; dsimp only; omega, by have := hsf.un; dsimp only; omega, hsf.n, hsf.b⟩
  obtain ⟨V, hV⟩ : ∃ V : List SV, V = [s0.w R0, s.w R, s.w R, sp.w R] := ⟨_, rfl⟩
  have hVE := v4_e s0 R0 hR0 hf0 s R hR hsf sp R (by rw [hsp]; exact hR) hspf
  rw [← hV] at hVE
  have hVl : V.length = 4 := by rw [hV]; rfl
  rw [hsp] at hV
  clear hsp hspf
  clear hR hR0 hf0 hsf hB hvs
  skip
  refine Good.of Try.func3 rfl (by rfl) (by kernel_rfl) ?_
  cbv
  have hmk : True := trivial
  (repeat' (first
| (refine q1w (fun z hz => ?_); (try simp only at hz); cbv)
| (refine rqw ?_; cbv)
| (refine QC.tw ?_; cbv)
| (refine QC.tt ?_ ?_; (focus (simp only [decide_true, Bool.and_true, Bool.and_self] <;> fail)); cbv)
| (refine QC.ff ?_ ?_; (focus (simp only [decide_true, Bool.and_true, Bool.and_self, decide_false, Bool.false_and, reduceCtorEq, not_false_eq_true] <;> fail)); cbv)
| (refine QC.fw ?_; cbv)
| (refine QC.mk (fun hc => ?_) (fun hc => ?_) <;> (try dsimp only at hc) <;> cbv)
| (refine br_mk2 (fun hb => ?_) (fun hb => ?_) <;> (try subst hb) <;> cbv)))
  (refine callq (h0) rfl rfl ?_; cbv; (repeat' (first
| (refine q1w (fun z hz => ?_); (try simp only at hz); cbv)
| (refine rqw ?_; cbv)
| (refine QC.tw ?_; cbv)
| (refine QC.tt ?_ ?_; (focus (simp only [decide_true, Bool.and_true, Bool.and_self] <;> fail)); cbv)
| (refine QC.ff ?_ ?_; (focus (simp only [decide_true, Bool.and_true, Bool.and_self, decide_false, Bool.false_and, reduceCtorEq, not_false_eq_true] <;> fail)); cbv)
| (refine QC.fw ?_; cbv)
| (refine QC.mk (fun hc => ?_) (fun hc => ?_) <;> (try dsimp only at hc) <;> cbv)
| (refine br_mk2 (fun hb => ?_) (fun hb => ?_) <;> (try subst hb) <;> cbv))))
  (refine callq (gS) rfl rfl ?_; cbv; (repeat' (first
| (refine q1w (fun z hz => ?_); (try simp only at hz); cbv)
| (refine rqw ?_; cbv)
| (refine QC.tw ?_; cbv)
| (refine QC.tt ?_ ?_; (focus (simp only [decide_true, Bool.and_true, Bool.and_self] <;> fail)); cbv)
| (refine QC.ff ?_ ?_; (focus (simp only [decide_true, Bool.and_true, Bool.and_self, decide_false, Bool.false_and, reduceCtorEq, not_false_eq_true] <;> fail)); cbv)
| (refine QC.fw ?_; cbv)
| (refine QC.mk (fun hc => ?_) (fun hc => ?_) <;> (try dsimp only at hc) <;> cbv)
| (refine br_mk2 (fun hb => ?_) (fun hb => ?_) <;> (try subst hb) <;> cbv))))
  (refine callq (g2) rfl rfl ?_; cbv; (repeat' (first
| (refine q1w (fun z hz => ?_); (try simp only at hz); cbv)
| (refine rqw ?_; cbv)
| (refine QC.tw ?_; cbv)
| (refine QC.tt ?_ ?_; (focus (simp only [decide_true, Bool.and_true, Bool.and_self] <;> fail)); cbv)
| (refine QC.ff ?_ ?_; (focus (simp only [decide_true, Bool.and_true, Bool.and_self, decide_false, Bool.false_and, reduceCtorEq, not_false_eq_true] <;> fail)); cbv)
| (refine QC.fw ?_; cbv)
| (refine QC.mk (fun hc => ?_) (fun hc => ?_) <;> (try dsimp only at hc) <;> cbv)
| (refine br_mk2 (fun hb => ?_) (fun hb => ?_) <;> (try subst hb) <;> cbv))))
  (refine callq (g3) rfl rfl ?_; cbv; (repeat' (first
| (refine q1w (fun z hz => ?_); (try simp only at hz); cbv)
| (refine rqw ?_; cbv)
| (refine QC.tw ?_; cbv)
| (refine QC.tt ?_ ?_; (focus (simp only [decide_true, Bool.and_true, Bool.and_self] <;> fail)); cbv)
| (refine QC.ff ?_ ?_; (focus (simp only [decide_true, Bool.and_true, Bool.and_self, decide_false, Bool.false_and, reduceCtorEq, not_false_eq_true] <;> fail)); cbv)
| (refine QC.fw ?_; cbv)
| (refine QC.mk (fun hc => ?_) (fun hc => ?_) <;> (try dsimp only at hc) <;> cbv)
| (refine br_mk2 (fun hb => ?_) (fun hb => ?_) <;> (try subst hb) <;> cbv))))
  skip
  have hmo : True := trivial
  (refine callq (g4) rfl rfl ?_; cbv; (repeat' (first
| (refine q1w (fun z hz => ?_); (try simp only at hz); cbv)
| (refine rqw ?_; cbv)
| (refine QC.tw ?_; cbv)
| (refine QC.tt ?_ ?_; (focus (simp only [decide_true, Bool.and_true, Bool.and_self] <;> fail)); cbv)
| (refine QC.ff ?_ ?_; (focus (simp only [decide_true, Bool.and_true, Bool.and_self, decide_false, Bool.false_and, reduceCtorEq, not_false_eq_true] <;> fail)); cbv)
| (refine QC.fw ?_; cbv)
| (refine QC.mk (fun hc => ?_) (fun hc => ?_) <;> (try dsimp only at hc) <;> cbv)
| (refine br_mk2 (fun hb => ?_) (fun hb => ?_) <;> (try subst hb) <;> cbv))))
  (refine callq (g5) rfl rfl ?_; cbv; (repeat' (first
| (refine q1w (fun z hz => ?_); (try simp only at hz); cbv)
| (refine rqw ?_; cbv)
| (refine QC.tw ?_; cbv)
| (refine QC.tt ?_ ?_; (focus (simp only [decide_true, Bool.and_true, Bool.and_self] <;> fail)); cbv)
| (refine QC.ff ?_ ?_; (focus (simp only [decide_true, Bool.and_true, Bool.and_self, decide_false, Bool.false_and, reduceCtorEq, not_false_eq_true] <;> fail)); cbv)
| (refine QC.fw ?_; cbv)
| (refine QC.mk (fun hc => ?_) (fun hc => ?_) <;> (try dsimp only at hc) <;> cbv)
| (refine br_mk2 (fun hb => ?_) (fun hb => ?_) <;> (try subst hb) <;> cbv))))
  (refine callq (g6) rfl rfl ?_; cbv; (repeat' (first
| (refine q1w (fun z hz => ?_); (try simp only at hz); cbv)
| (refine rqw ?_; cbv)
| (refine QC.tw ?_; cbv)
| (refine QC.tt ?_ ?_; (focus (simp only [decide_true, Bool.and_true, Bool.and_self] <;> fail)); cbv)
| (refine QC.ff ?_ ?_; (focus (simp only [decide_true, Bool.and_true, Bool.and_self, decide_false, Bool.false_and, reduceCtorEq, not_false_eq_true] <;> fail)); cbv)
| (refine QC.fw ?_; cbv)
| (refine QC.mk (fun hc => ?_) (fun hc => ?_) <;> (try dsimp only at hc) <;> cbv)
| (refine br_mk2 (fun hb => ?_) (fun hb => ?_) <;> (try subst hb) <;> cbv))))
  refine loopQ (A := Nat × Int) (fun p => p.2 = p.1 ∧ p.1 ≤ 4) (fun p => 4 - p.1) (fun p => [(21, .int .i64 p.2)]) (fun p => [(87, .row (some 6) 25 V), (95, .row none 3 W), (102, .row none 5 U)]) (0, 0) ⟨rfl, by omega⟩ ?_ ?_
  · cbv
    rw [hV, hW, hU]
    repeat' (first | exact rfl | exact trivial | apply And.intro)
  · intro ⟨i, j⟩ hh
    have hj : j = (i : Int) := hh.1
    have hi : i ≤ 4 := hh.2
    clear hh hV hW hU
    have hmq : True := trivial
    cbv
    (repeat' (first
| (refine q1w (fun z hz => ?_); (try simp only at hz); cbv)
| (refine rqw ?_; cbv)
| (refine QC.tw ?_; cbv)
| (refine QC.tt ?_ ?_; (focus (simp only [decide_true, Bool.and_true, Bool.and_self] <;> fail)); cbv)
| (refine QC.ff ?_ ?_; (focus (simp only [decide_true, Bool.and_true, Bool.and_self, decide_false, Bool.false_and, reduceCtorEq, not_false_eq_true] <;> fail)); cbv)
| (refine QC.fw ?_; cbv)
| (refine QC.mk (fun hc => ?_) (fun hc => ?_) <;> (try dsimp only at hc) <;> cbv)
| (refine br_mk2 (fun hb => ?_) (fun hb => ?_) <;> (try subst hb) <;> cbv)))
    · have hlt : i < 4 := by (first | omega | (simp only [cst] at *; omega) | (simp only [sm] at *; omega))
      obtain ⟨x, X, hVi, hX, hxf⟩ := hVE i hlt
      obtain ⟨t, hWi, ht1, ht2⟩ := hWE i hlt
      obtain ⟨tg, hUi, hg1, hg2⟩ := hUE i hlt
      obtain ⟨y, u, Y, Q, L, e, g, r, f1, f2, f3, f4, f5, f6, f7, f8, f9⟩ := srnd_e x X hX hxf t tg m ⟨ht1, ht2⟩ ⟨hg1, hg2⟩ hm
      clear hVE hWE hUE gR gM hk hX hxf
      cases r
      · skip
        (refine qv (i) (by (first | omega | (simp only [cst] at *; omega) | (simp only [sm] at *; omega))) ?_; cbv; (repeat' (first
| (refine q1w (fun z hz => ?_); (try simp only at hz); cbv)
| (refine rqw ?_; cbv)
| (refine QC.tw ?_; cbv)
| (refine QC.tt ?_ ?_; (focus (simp only [decide_true, Bool.and_true, Bool.and_self] <;> fail)); cbv)
| (refine QC.ff ?_ ?_; (focus (simp only [decide_true, Bool.and_true, Bool.and_self, decide_false, Bool.false_and, reduceCtorEq, not_false_eq_true] <;> fail)); cbv)
| (refine QC.fw ?_; cbv)
| (refine QC.mk (fun hc => ?_) (fun hc => ?_) <;> (try dsimp only at hc) <;> cbv)
| (refine br_mk2 (fun hb => ?_) (fun hb => ?_) <;> (try subst hb) <;> cbv))))
        (refine qv _ (hVi) ?_; cbv; (repeat' (first
| (refine q1w (fun z hz => ?_); (try simp only at hz); cbv)
| (refine rqw ?_; cbv)
| (refine QC.tw ?_; cbv)
| (refine QC.tt ?_ ?_; (focus (simp only [decide_true, Bool.and_true, Bool.and_self] <;> fail)); cbv)
| (refine QC.ff ?_ ?_; (focus (simp only [decide_true, Bool.and_true, Bool.and_self, decide_false, Bool.false_and, reduceCtorEq, not_false_eq_true] <;> fail)); cbv)
| (refine QC.fw ?_; cbv)
| (refine QC.mk (fun hc => ?_) (fun hc => ?_) <;> (try dsimp only at hc) <;> cbv)
| (refine br_mk2 (fun hb => ?_) (fun hb => ?_) <;> (try subst hb) <;> cbv))))
        (refine qv (i) (by (first | omega | (simp only [cst] at *; omega) | (simp only [sm] at *; omega))) ?_; cbv; (repeat' (first
| (refine q1w (fun z hz => ?_); (try simp only at hz); cbv)
| (refine rqw ?_; cbv)
| (refine QC.tw ?_; cbv)
| (refine QC.tt ?_ ?_; (focus (simp only [decide_true, Bool.and_true, Bool.and_self] <;> fail)); cbv)
| (refine QC.ff ?_ ?_; (focus (simp only [decide_true, Bool.and_true, Bool.and_self, decide_false, Bool.false_and, reduceCtorEq, not_false_eq_true] <;> fail)); cbv)
| (refine QC.fw ?_; cbv)
| (refine QC.mk (fun hc => ?_) (fun hc => ?_) <;> (try dsimp only at hc) <;> cbv)
| (refine br_mk2 (fun hb => ?_) (fun hb => ?_) <;> (try subst hb) <;> cbv))))
        (refine qv _ (hWi) ?_; cbv; (repeat' (first
| (refine q1w (fun z hz => ?_); (try simp only at hz); cbv)
| (refine rqw ?_; cbv)
| (refine QC.tw ?_; cbv)
| (refine QC.tt ?_ ?_; (focus (simp only [decide_true, Bool.and_true, Bool.and_self] <;> fail)); cbv)
| (refine QC.ff ?_ ?_; (focus (simp only [decide_true, Bool.and_true, Bool.and_self, decide_false, Bool.false_and, reduceCtorEq, not_false_eq_true] <;> fail)); cbv)
| (refine QC.fw ?_; cbv)
| (refine QC.mk (fun hc => ?_) (fun hc => ?_) <;> (try dsimp only at hc) <;> cbv)
| (refine br_mk2 (fun hb => ?_) (fun hb => ?_) <;> (try subst hb) <;> cbv))))
        (refine callq (f1) rfl rfl ?_; cbv; (repeat' (first
| (refine q1w (fun z hz => ?_); (try simp only at hz); cbv)
| (refine rqw ?_; cbv)
| (refine QC.tw ?_; cbv)
| (refine QC.tt ?_ ?_; (focus (simp only [decide_true, Bool.and_true, Bool.and_self] <;> fail)); cbv)
| (refine QC.ff ?_ ?_; (focus (simp only [decide_true, Bool.and_true, Bool.and_self, decide_false, Bool.false_and, reduceCtorEq, not_false_eq_true] <;> fail)); cbv)
| (refine QC.fw ?_; cbv)
| (refine QC.mk (fun hc => ?_) (fun hc => ?_) <;> (try dsimp only at hc) <;> cbv)
| (refine br_mk2 (fun hb => ?_) (fun hb => ?_) <;> (try subst hb) <;> cbv))))
        (refine qv (i) (by (first | omega | (simp only [cst] at *; omega) | (simp only [sm] at *; omega))) ?_; cbv; (repeat' (first
| (refine q1w (fun z hz => ?_); (try simp only at hz); cbv)
| (refine rqw ?_; cbv)
| (refine QC.tw ?_; cbv)
| (refine QC.tt ?_ ?_; (focus (simp only [decide_true, Bool.and_true, Bool.and_self] <;> fail)); cbv)
| (refine QC.ff ?_ ?_; (focus (simp only [decide_true, Bool.and_true, Bool.and_self, decide_false, Bool.false_and, reduceCtorEq, not_false_eq_true] <;> fail)); cbv)
| (refine QC.fw ?_; cbv)
| (refine QC.mk (fun hc => ?_) (fun hc => ?_) <;> (try dsimp only at hc) <;> cbv)
| (refine br_mk2 (fun hb => ?_) (fun hb => ?_) <;> (try subst hb) <;> cbv))))
        (refine qv _ (hVi) ?_; cbv; (repeat' (first
| (refine q1w (fun z hz => ?_); (try simp only at hz); cbv)
| (refine rqw ?_; cbv)
| (refine QC.tw ?_; cbv)
| (refine QC.tt ?_ ?_; (focus (simp only [decide_true, Bool.and_true, Bool.and_self] <;> fail)); cbv)
| (refine QC.ff ?_ ?_; (focus (simp only [decide_true, Bool.and_true, Bool.and_self, decide_false, Bool.false_and, reduceCtorEq, not_false_eq_true] <;> fail)); cbv)
| (refine QC.fw ?_; cbv)
| (refine QC.mk (fun hc => ?_) (fun hc => ?_) <;> (try dsimp only at hc) <;> cbv)
| (refine br_mk2 (fun hb => ?_) (fun hb => ?_) <;> (try subst hb) <;> cbv))))
        (refine qv (i) (by (first | omega | (simp only [cst] at *; omega) | (simp only [sm] at *; omega))) ?_; cbv; (repeat' (first
| (refine q1w (fun z hz => ?_); (try simp only at hz); cbv)
| (refine rqw ?_; cbv)
| (refine QC.tw ?_; cbv)
| (refine QC.tt ?_ ?_; (focus (simp only [decide_true, Bool.and_true, Bool.and_self] <;> fail)); cbv)
| (refine QC.ff ?_ ?_; (focus (simp only [decide_true, Bool.and_true, Bool.and_self, decide_false, Bool.false_and, reduceCtorEq, not_false_eq_true] <;> fail)); cbv)
| (refine QC.fw ?_; cbv)
| (refine QC.mk (fun hc => ?_) (fun hc => ?_) <;> (try dsimp only at hc) <;> cbv)
| (refine br_mk2 (fun hb => ?_) (fun hb => ?_) <;> (try subst hb) <;> cbv))))
        (refine qv _ (hWi) ?_; cbv; (repeat' (first
| (refine q1w (fun z hz => ?_); (try simp only at hz); cbv)
| (refine rqw ?_; cbv)
| (refine QC.tw ?_; cbv)
| (refine QC.tt ?_ ?_; (focus (simp only [decide_true, Bool.and_true, Bool.and_self] <;> fail)); cbv)
| (refine QC.ff ?_ ?_; (focus (simp only [decide_true, Bool.and_true, Bool.and_self, decide_false, Bool.false_and, reduceCtorEq, not_false_eq_true] <;> fail)); cbv)
| (refine QC.fw ?_; cbv)
| (refine QC.mk (fun hc => ?_) (fun hc => ?_) <;> (try dsimp only at hc) <;> cbv)
| (refine br_mk2 (fun hb => ?_) (fun hb => ?_) <;> (try subst hb) <;> cbv))))
        (refine callq (f2) rfl rfl ?_; cbv; (repeat' (first
| (refine q1w (fun z hz => ?_); (try simp only at hz); cbv)
| (refine rqw ?_; cbv)
| (refine QC.tw ?_; cbv)
| (refine QC.tt ?_ ?_; (focus (simp only [decide_true, Bool.and_true, Bool.and_self] <;> fail)); cbv)
| (refine QC.ff ?_ ?_; (focus (simp only [decide_true, Bool.and_true, Bool.and_self, decide_false, Bool.false_and, reduceCtorEq, not_false_eq_true] <;> fail)); cbv)
| (refine QC.fw ?_; cbv)
| (refine QC.mk (fun hc => ?_) (fun hc => ?_) <;> (try dsimp only at hc) <;> cbv)
| (refine br_mk2 (fun hb => ?_) (fun hb => ?_) <;> (try subst hb) <;> cbv))))
        (refine qv (i) (by (first | omega | (simp only [cst] at *; omega) | (simp only [sm] at *; omega))) ?_; cbv; (repeat' (first
| (refine q1w (fun z hz => ?_); (try simp only at hz); cbv)
| (refine rqw ?_; cbv)
| (refine QC.tw ?_; cbv)
| (refine QC.tt ?_ ?_; (focus (simp only [decide_true, Bool.and_true, Bool.and_self] <;> fail)); cbv)
| (refine QC.ff ?_ ?_; (focus (simp only [decide_true, Bool.and_true, Bool.and_self, decide_false, Bool.false_and, reduceCtorEq, not_false_eq_true] <;> fail)); cbv)
| (refine QC.fw ?_; cbv)
| (refine QC.mk (fun hc => ?_) (fun hc => ?_) <;> (try dsimp only at hc) <;> cbv)
| (refine br_mk2 (fun hb => ?_) (fun hb => ?_) <;> (try subst hb) <;> cbv))))
        (refine qv _ (hVi) ?_; cbv; (repeat' (first
| (refine q1w (fun z hz => ?_); (try simp only at hz); cbv)
| (refine rqw ?_; cbv)
| (refine QC.tw ?_; cbv)
| (refine QC.tt ?_ ?_; (focus (simp only [decide_true, Bool.and_true, Bool.and_self] <;> fail)); cbv)
| (refine QC.ff ?_ ?_; (focus (simp only [decide_true, Bool.and_true, Bool.and_self, decide_false, Bool.false_and, reduceCtorEq, not_false_eq_true] <;> fail)); cbv)
| (refine QC.fw ?_; cbv)
| (refine QC.mk (fun hc => ?_) (fun hc => ?_) <;> (try dsimp only at hc) <;> cbv)
| (refine br_mk2 (fun hb => ?_) (fun hb => ?_) <;> (try subst hb) <;> cbv))))
        (refine qv (i) (by (first | omega | (simp only [cst] at *; omega) | (simp only [sm] at *; omega))) ?_; cbv; (repeat' (first
| (refine q1w (fun z hz => ?_); (try simp only at hz); cbv)
| (refine rqw ?_; cbv)
| (refine QC.tw ?_; cbv)
| (refine QC.tt ?_ ?_; (focus (simp only [decide_true, Bool.and_true, Bool.and_self] <;> fail)); cbv)
| (refine QC.ff ?_ ?_; (focus (simp only [decide_true, Bool.and_true, Bool.and_self, decide_false, Bool.false_and, reduceCtorEq, not_false_eq_true] <;> fail)); cbv)
| (refine QC.fw ?_; cbv)
| (refine QC.mk (fun hc => ?_) (fun hc => ?_) <;> (try dsimp only at hc) <;> cbv)
| (refine br_mk2 (fun hb => ?_) (fun hb => ?_) <;> (try subst hb) <;> cbv))))
        (refine qv _ (hUi) ?_; cbv; (repeat' (first
| (refine q1w (fun z hz => ?_); (try simp only at hz); cbv)
| (refine rqw ?_; cbv)
| (refine QC.tw ?_; cbv)
| (refine QC.tt ?_ ?_; (focus (simp only [decide_true, Bool.and_true, Bool.and_self] <;> fail)); cbv)
| (refine QC.ff ?_ ?_; (focus (simp only [decide_true, Bool.and_true, Bool.and_self, decide_false, Bool.false_and, reduceCtorEq, not_false_eq_true] <;> fail)); cbv)
| (refine QC.fw ?_; cbv)
| (refine QC.mk (fun hc => ?_) (fun hc => ?_) <;> (try dsimp only at hc) <;> cbv)
| (refine br_mk2 (fun hb => ?_) (fun hb => ?_) <;> (try subst hb) <;> cbv))))
        (refine callq (f3) rfl rfl ?_; cbv; (repeat' (first
| (refine q1w (fun z hz => ?_); (try simp only at hz); cbv)
| (refine rqw ?_; cbv)
| (refine QC.tw ?_; cbv)
| (refine QC.tt ?_ ?_; (focus (simp only [decide_true, Bool.and_true, Bool.and_self] <;> fail)); cbv)
| (refine QC.ff ?_ ?_; (focus (simp only [decide_true, Bool.and_true, Bool.and_self, decide_false, Bool.false_and, reduceCtorEq, not_false_eq_true] <;> fail)); cbv)
| (refine QC.fw ?_; cbv)
| (refine QC.mk (fun hc => ?_) (fun hc => ?_) <;> (try dsimp only at hc) <;> cbv)
| (refine br_mk2 (fun hb => ?_) (fun hb => ?_) <;> (try subst hb) <;> cbv))))
        (refine qv (i) (by (first | omega | (simp only [cst] at *; omega) | (simp only [sm] at *; omega))) ?_; cbv; (repeat' (first
| (refine q1w (fun z hz => ?_); (try simp only at hz); cbv)
| (refine rqw ?_; cbv)
| (refine QC.tw ?_; cbv)
| (refine QC.tt ?_ ?_; (focus (simp only [decide_true, Bool.and_true, Bool.and_self] <;> fail)); cbv)
| (refine QC.ff ?_ ?_; (focus (simp only [decide_true, Bool.and_true, Bool.and_self, decide_false, Bool.false_and, reduceCtorEq, not_false_eq_true] <;> fail)); cbv)
| (refine QC.fw ?_; cbv)
| (refine QC.mk (fun hc => ?_) (fun hc => ?_) <;> (try dsimp only at hc) <;> cbv)
| (refine br_mk2 (fun hb => ?_) (fun hb => ?_) <;> (try subst hb) <;> cbv))))
        (refine qv _ (hVi) ?_; cbv; (repeat' (first
| (refine q1w (fun z hz => ?_); (try simp only at hz); cbv)
| (refine rqw ?_; cbv)
| (refine QC.tw ?_; cbv)
| (refine QC.tt ?_ ?_; (focus (simp only [decide_true, Bool.and_true, Bool.and_self] <;> fail)); cbv)
| (refine QC.ff ?_ ?_; (focus (simp only [decide_true, Bool.and_true, Bool.and_self, decide_false, Bool.false_and, reduceCtorEq, not_false_eq_true] <;> fail)); cbv)
| (refine QC.fw ?_; cbv)
| (refine QC.mk (fun hc => ?_) (fun hc => ?_) <;> (try dsimp only at hc) <;> cbv)
| (refine br_mk2 (fun hb => ?_) (fun hb => ?_) <;> (try subst hb) <;> cbv))))
        (refine qv (i) (by (first | omega | (simp only [cst] at *; omega) | (simp only [sm] at *; omega))) ?_; cbv; (repeat' (first
| (refine q1w (fun z hz => ?_); (try simp only at hz); cbv)
| (refine rqw ?_; cbv)
| (refine QC.tw ?_; cbv)
| (refine QC.tt ?_ ?_; (focus (simp only [decide_true, Bool.and_true, Bool.and_self] <;> fail)); cbv)
| (refine QC.ff ?_ ?_; (focus (simp only [decide_true, Bool.and_true, Bool.and_self, decide_false, Bool.false_and, reduceCtorEq, not_false_eq_true] <;> fail)); cbv)
| (refine QC.fw ?_; cbv)
| (refine QC.mk (fun hc => ?_) (fun hc => ?_) <;> (try dsimp only at hc) <;> cbv)
| (refine br_mk2 (fun hb => ?_) (fun hb => ?_) <;> (try subst hb) <;> cbv))))
        (refine qv _ (hUi) ?_; cbv; (repeat' (first
| (refine q1w (fun z hz => ?_); (try simp only at hz); cbv)
| (refine rqw ?_; cbv)
| (refine QC.tw ?_; cbv)
| (refine QC.tt ?_ ?_; (focus (simp only [decide_true, Bool.and_true, Bool.and_self] <;> fail)); cbv)
| (refine QC.ff ?_ ?_; (focus (simp only [decide_true, Bool.and_true, Bool.and_self, decide_false, Bool.false_and, reduceCtorEq, not_false_eq_true] <;> fail)); cbv)
| (refine QC.fw ?_; cbv)
| (refine QC.mk (fun hc => ?_) (fun hc => ?_) <;> (try dsimp only at hc) <;> cbv)
| (refine br_mk2 (fun hb => ?_) (fun hb => ?_) <;> (try subst hb) <;> cbv))))
        (refine callq (f4) rfl rfl ?_; cbv; (repeat' (first
| (refine q1w (fun z hz => ?_); (try simp only at hz); cbv)
| (refine rqw ?_; cbv)
| (refine QC.tw ?_; cbv)
| (refine QC.tt ?_ ?_; (focus (simp only [decide_true, Bool.and_true, Bool.and_self] <;> fail)); cbv)
| (refine QC.ff ?_ ?_; (focus (simp only [decide_true, Bool.and_true, Bool.and_self, decide_false, Bool.false_and, reduceCtorEq, not_false_eq_true] <;> fail)); cbv)
| (refine QC.fw ?_; cbv)
| (refine QC.mk (fun hc => ?_) (fun hc => ?_) <;> (try dsimp only at hc) <;> cbv)
| (refine br_mk2 (fun hb => ?_) (fun hb => ?_) <;> (try subst hb) <;> cbv))))
        (refine qv (i) (by (first | omega | (simp only [cst] at *; omega) | (simp only [sm] at *; omega))) ?_; cbv; (repeat' (first
| (refine q1w (fun z hz => ?_); (try simp only at hz); cbv)
| (refine rqw ?_; cbv)
| (refine QC.tw ?_; cbv)
| (refine QC.tt ?_ ?_; (focus (simp only [decide_true, Bool.and_true, Bool.and_self] <;> fail)); cbv)
| (refine QC.ff ?_ ?_; (focus (simp only [decide_true, Bool.and_true, Bool.and_self, decide_false, Bool.false_and, reduceCtorEq, not_false_eq_true] <;> fail)); cbv)
| (refine QC.fw ?_; cbv)
| (refine QC.mk (fun hc => ?_) (fun hc => ?_) <;> (try dsimp only at hc) <;> cbv)
| (refine br_mk2 (fun hb => ?_) (fun hb => ?_) <;> (try subst hb) <;> cbv))))
        (refine qv _ (hVi) ?_; cbv; (repeat' (first
| (refine q1w (fun z hz => ?_); (try simp only at hz); cbv)
| (refine rqw ?_; cbv)
| (refine QC.tw ?_; cbv)
| (refine QC.tt ?_ ?_; (focus (simp only [decide_true, Bool.and_true, Bool.and_self] <;> fail)); cbv)
| (refine QC.ff ?_ ?_; (focus (simp only [decide_true, Bool.and_true, Bool.and_self, decide_false, Bool.false_and, reduceCtorEq, not_false_eq_true] <;> fail)); cbv)
| (refine QC.fw ?_; cbv)
| (refine QC.mk (fun hc => ?_) (fun hc => ?_) <;> (try dsimp only at hc) <;> cbv)
| (refine br_mk2 (fun hb => ?_) (fun hb => ?_) <;> (try subst hb) <;> cbv))))
        (refine callq (f5) rfl rfl ?_; cbv; (repeat' (first
| (refine q1w (fun z hz => ?_); (try simp only at hz); cbv)
| (refine rqw ?_; cbv)
| (refine QC.tw ?_; cbv)
| (refine QC.tt ?_ ?_; (focus (simp only [decide_true, Bool.and_true, Bool.and_self] <;> fail)); cbv)
| (refine QC.ff ?_ ?_; (focus (simp only [decide_true, Bool.and_true, Bool.and_self, decide_false, Bool.false_and, reduceCtorEq, not_false_eq_true] <;> fail)); cbv)
| (refine QC.fw ?_; cbv)
| (refine QC.mk (fun hc => ?_) (fun hc => ?_) <;> (try dsimp only at hc) <;> cbv)
| (refine br_mk2 (fun hb => ?_) (fun hb => ?_) <;> (try subst hb) <;> cbv))))
        (refine qv (i) (by (first | omega | (simp only [cst] at *; omega) | (simp only [sm] at *; omega))) ?_; cbv; (repeat' (first
| (refine q1w (fun z hz => ?_); (try simp only at hz); cbv)
| (refine rqw ?_; cbv)
| (refine QC.tw ?_; cbv)
| (refine QC.tt ?_ ?_; (focus (simp only [decide_true, Bool.and_true, Bool.and_self] <;> fail)); cbv)
| (refine QC.ff ?_ ?_; (focus (simp only [decide_true, Bool.and_true, Bool.and_self, decide_false, Bool.false_and, reduceCtorEq, not_false_eq_true] <;> fail)); cbv)
| (refine QC.fw ?_; cbv)
| (refine QC.mk (fun hc => ?_) (fun hc => ?_) <;> (try dsimp only at hc) <;> cbv)
| (refine br_mk2 (fun hb => ?_) (fun hb => ?_) <;> (try subst hb) <;> cbv))))
        (refine qv _ (hVi) ?_; cbv; (repeat' (first
| (refine q1w (fun z hz => ?_); (try simp only at hz); cbv)
| (refine rqw ?_; cbv)
| (refine QC.tw ?_; cbv)
| (refine QC.tt ?_ ?_; (focus (simp only [decide_true, Bool.and_true, Bool.and_self] <;> fail)); cbv)
| (refine QC.ff ?_ ?_; (focus (simp only [decide_true, Bool.and_true, Bool.and_self, decide_false, Bool.false_and, reduceCtorEq, not_false_eq_true] <;> fail)); cbv)
| (refine QC.fw ?_; cbv)
| (refine QC.mk (fun hc => ?_) (fun hc => ?_) <;> (try dsimp only at hc) <;> cbv)
| (refine br_mk2 (fun hb => ?_) (fun hb => ?_) <;> (try subst hb) <;> cbv))))
        (refine callq (f6) rfl rfl ?_; cbv; (repeat' (first
| (refine q1w (fun z hz => ?_); (try simp only at hz); cbv)
| (refine rqw ?_; cbv)
| (refine QC.tw ?_; cbv)
| (refine QC.tt ?_ ?_; (focus (simp only [decide_true, Bool.and_true, Bool.and_self] <;> fail)); cbv)
| (refine QC.ff ?_ ?_; (focus (simp only [decide_true, Bool.and_true, Bool.and_self, decide_false, Bool.false_and, reduceCtorEq, not_false_eq_true] <;> fail)); cbv)
| (refine QC.fw ?_; cbv)
| (refine QC.mk (fun hc => ?_) (fun hc => ?_) <;> (try dsimp only at hc) <;> cbv)
| (refine br_mk2 (fun hb => ?_) (fun hb => ?_) <;> (try subst hb) <;> cbv))))
        (refine callq (f7) rfl rfl ?_; cbv; (repeat' (first
| (refine q1w (fun z hz => ?_); (try simp only at hz); cbv)
| (refine rqw ?_; cbv)
| (refine QC.tw ?_; cbv)
| (refine QC.tt ?_ ?_; (focus (simp only [decide_true, Bool.and_true, Bool.and_self] <;> fail)); cbv)
| (refine QC.ff ?_ ?_; (focus (simp only [decide_true, Bool.and_true, Bool.and_self, decide_false, Bool.false_and, reduceCtorEq, not_false_eq_true] <;> fail)); cbv)
| (refine QC.fw ?_; cbv)
| (refine QC.mk (fun hc => ?_) (fun hc => ?_) <;> (try dsimp only at hc) <;> cbv)
| (refine br_mk2 (fun hb => ?_) (fun hb => ?_) <;> (try subst hb) <;> cbv))))
        (refine callq (f8) rfl rfl ?_; cbv; (repeat' (first
| (refine q1w (fun z hz => ?_); (try simp only at hz); cbv)
| (refine rqw ?_; cbv)
| (refine QC.tw ?_; cbv)
| (refine QC.tt ?_ ?_; (focus (simp only [decide_true, Bool.and_true, Bool.and_self] <;> fail)); cbv)
| (refine QC.ff ?_ ?_; (focus (simp only [decide_true, Bool.and_true, Bool.and_self, decide_false, Bool.false_and, reduceCtorEq, not_false_eq_true] <;> fail)); cbv)
| (refine QC.fw ?_; cbv)
| (refine QC.mk (fun hc => ?_) (fun hc => ?_) <;> (try dsimp only at hc) <;> cbv)
| (refine br_mk2 (fun hb => ?_) (fun hb => ?_) <;> (try subst hb) <;> cbv))))
        (refine callq (f9) rfl rfl ?_; cbv; (repeat' (first
| (refine q1w (fun z hz => ?_); (try simp only at hz); cbv)
| (refine rqw ?_; cbv)
| (refine QC.tw ?_; cbv)
| (refine QC.tt ?_ ?_; (focus (simp only [decide_true, Bool.and_true, Bool.and_self] <;> fail)); cbv)
| (refine QC.ff ?_ ?_; (focus (simp only [decide_true, Bool.and_true, Bool.and_self, decide_false, Bool.false_and, reduceCtorEq, not_false_eq_true] <;> fail)); cbv)
| (refine QC.fw ?_; cbv)
| (refine QC.mk (fun hc => ?_) (fun hc => ?_) <;> (try dsimp only at hc) <;> cbv)
| (refine br_mk2 (fun hb => ?_) (fun hb => ?_) <;> (try subst hb) <;> cbv))))
        refine ⟨(i + 1, z), ⟨by show z = ((i + 1 : Nat) : Int); (first | omega | (simp only [cst] at *; omega) | (simp only [sm] at *; omega)), by show i + 1 ≤ 4; omega⟩, by show 4 - (i + 1) < 4 - i; omega, ?_⟩
        cbv
        repeat' (first | exact rfl | exact trivial | apply And.intro)
      · skip
        (refine qv (i) (by (first | omega | (simp only [cst] at *; omega) | (simp only [sm] at *; omega))) ?_; cbv; (repeat' (first
| (refine q1w (fun z hz => ?_); (try simp only at hz); cbv)
| (refine rqw ?_; cbv)
| (refine QC.tw ?_; cbv)
| (refine QC.tt ?_ ?_; (focus (simp only [decide_true, Bool.and_true, Bool.and_self] <;> fail)); cbv)
| (refine QC.ff ?_ ?_; (focus (simp only [decide_true, Bool.and_true, Bool.and_self, decide_false, Bool.false_and, reduceCtorEq, not_false_eq_true] <;> fail)); cbv)
| (refine QC.fw ?_; cbv)
| (refine QC.mk (fun hc => ?_) (fun hc => ?_) <;> (try dsimp only at hc) <;> cbv)
| (refine br_mk2 (fun hb => ?_) (fun hb => ?_) <;> (try subst hb) <;> cbv))))
        (refine qv _ (hVi) ?_; cbv; (repeat' (first
| (refine q1w (fun z hz => ?_); (try simp only at hz); cbv)
| (refine rqw ?_; cbv)
| (refine QC.tw ?_; cbv)
| (refine QC.tt ?_ ?_; (focus (simp only [decide_true, Bool.and_true, Bool.and_self] <;> fail)); cbv)
| (refine QC.ff ?_ ?_; (focus (simp only [decide_true, Bool.and_true, Bool.and_self, decide_false, Bool.false_and, reduceCtorEq, not_false_eq_true] <;> fail)); cbv)
| (refine QC.fw ?_; cbv)
| (refine QC.mk (fun hc => ?_) (fun hc => ?_) <;> (try dsimp only at hc) <;> cbv)
| (refine br_mk2 (fun hb => ?_) (fun hb => ?_) <;> (try subst hb) <;> cbv))))
        (refine qv (i) (by (first | omega | (simp only [cst] at *; omega) | (simp only [sm] at *; omega))) ?_; cbv; (repeat' (first
| (refine q1w (fun z hz => ?_); (try simp only at hz); cbv)
| (refine rqw ?_; cbv)
| (refine QC.tw ?_; cbv)
| (refine QC.tt ?_ ?_; (focus (simp only [decide_true, Bool.and_true, Bool.and_self] <;> fail)); cbv)
| (refine QC.ff ?_ ?_; (focus (simp only [decide_true, Bool.and_true, Bool.and_self, decide_false, Bool.false_and, reduceCtorEq, not_false_eq_true] <;> fail)); cbv)
| (refine QC.fw ?_; cbv)
| (refine QC.mk (fun hc => ?_) (fun hc => ?_) <;> (try dsimp only at hc) <;> cbv)
| (refine br_mk2 (fun hb => ?_) (fun hb => ?_) <;> (try subst hb) <;> cbv))))
        (refine qv _ (hWi) ?_; cbv; (repeat' (first
| (refine q1w (fun z hz => ?_); (try simp only at hz); cbv)
| (refine rqw ?_; cbv)
| (refine QC.tw ?_; cbv)
| (refine QC.tt ?_ ?_; (focus (simp only [decide_true, Bool.and_true, Bool.and_self] <;> fail)); cbv)
| (refine QC.ff ?_ ?_; (focus (simp only [decide_true, Bool.and_true, Bool.and_self, decide_false, Bool.false_and, reduceCtorEq, not_false_eq_true] <;> fail)); cbv)
| (refine QC.fw ?_; cbv)
| (refine QC.mk (fun hc => ?_) (fun hc => ?_) <;> (try dsimp only at hc) <;> cbv)
| (refine br_mk2 (fun hb => ?_) (fun hb => ?_) <;> (try subst hb) <;> cbv))))
        (refine callq (f1) rfl rfl ?_; cbv; (repeat' (first
| (refine q1w (fun z hz => ?_); (try simp only at hz); cbv)
| (refine rqw ?_; cbv)
| (refine QC.tw ?_; cbv)
| (refine QC.tt ?_ ?_; (focus (simp only [decide_true, Bool.and_true, Bool.and_self] <;> fail)); cbv)
| (refine QC.ff ?_ ?_; (focus (simp only [decide_true, Bool.and_true, Bool.and_self, decide_false, Bool.false_and, reduceCtorEq, not_false_eq_true] <;> fail)); cbv)
| (refine QC.fw ?_; cbv)
| (refine QC.mk (fun hc => ?_) (fun hc => ?_) <;> (try dsimp only at hc) <;> cbv)
| (refine br_mk2 (fun hb => ?_) (fun hb => ?_) <;> (try subst hb) <;> cbv))))
        (refine qv (i) (by (first | omega | (simp only [cst] at *; omega) | (simp only [sm] at *; omega))) ?_; cbv; (repeat' (first
| (refine q1w (fun z hz => ?_); (try simp only at hz); cbv)
| (refine rqw ?_; cbv)
| (refine QC.tw ?_; cbv)
| (refine QC.tt ?_ ?_; (focus (simp only [decide_true, Bool.and_true, Bool.and_self] <;> fail)); cbv)
| (refine QC.ff ?_ ?_; (focus (simp only [decide_true, Bool.and_true, Bool.and_self, decide_false, Bool.false_and, reduceCtorEq, not_false_eq_true] <;> fail)); cbv)
| (refine QC.fw ?_; cbv)
| (refine QC.mk (fun hc => ?_) (fun hc => ?_) <;> (try dsimp only at hc) <;> cbv)
| (refine br_mk2 (fun hb => ?_) (fun hb => ?_) <;> (try subst hb) <;> cbv))))
        (refine qv _ (hVi) ?_; cbv; (repeat' (first
| (refine q1w (fun z hz => ?_); (try simp only at hz); cbv)
| (refine rqw ?_; cbv)
| (refine QC.tw ?_; cbv)
| (refine QC.tt ?_ ?_; (focus (simp only [decide_true, Bool.and_true, Bool.and_self] <;> fail)); cbv)
| (refine QC.ff ?_ ?_; (focus (simp only [decide_true, Bool.and_true, Bool.and_self, decide_false, Bool.false_and, reduceCtorEq, not_false_eq_true] <;> fail)); cbv)
| (refine QC.fw ?_; cbv)
| (refine QC.mk (fun hc => ?_) (fun hc => ?_) <;> (try dsimp only at hc) <;> cbv)
| (refine br_mk2 (fun hb => ?_) (fun hb => ?_) <;> (try subst hb) <;> cbv))))
        (refine qv (i) (by (first | omega | (simp only [cst] at *; omega) | (simp only [sm] at *; omega))) ?_; cbv; (repeat' (first
| (refine q1w (fun z hz => ?_); (try simp only at hz); cbv)
| (refine rqw ?_; cbv)
| (refine QC.tw ?_; cbv)
| (refine QC.tt ?_ ?_; (focus (simp only [decide_true, Bool.and_true, Bool.and_self] <;> fail)); cbv)
| (refine QC.ff ?_ ?_; (focus (simp only [decide_true, Bool.and_true, Bool.and_self, decide_false, Bool.false_and, reduceCtorEq, not_false_eq_true] <;> fail)); cbv)
| (refine QC.fw ?_; cbv)
| (refine QC.mk (fun hc => ?_) (fun hc => ?_) <;> (try dsimp only at hc) <;> cbv)
| (refine br_mk2 (fun hb => ?_) (fun hb => ?_) <;> (try subst hb) <;> cbv))))
        (refine qv _ (hWi) ?_; cbv; (repeat' (first
| (refine q1w (fun z hz => ?_); (try simp only at hz); cbv)
| (refine rqw ?_; cbv)
| (refine QC.tw ?_; cbv)
| (refine QC.tt ?_ ?_; (focus (simp only [decide_true, Bool.and_true, Bool.and_self] <;> fail)); cbv)
| (refine QC.ff ?_ ?_; (focus (simp only [decide_true, Bool.and_true, Bool.and_self, decide_false, Bool.false_and, reduceCtorEq, not_false_eq_true] <;> fail)); cbv)
| (refine QC.fw ?_; cbv)
| (refine QC.mk (fun hc => ?_) (fun hc => ?_) <;> (try dsimp only at hc) <;> cbv)
| (refine br_mk2 (fun hb => ?_) (fun hb => ?_) <;> (try subst hb) <;> cbv))))
        (refine callq (f2) rfl rfl ?_; cbv; (repeat' (first
| (refine q1w (fun z hz => ?_); (try simp only at hz); cbv)
| (refine rqw ?_; cbv)
| (refine QC.tw ?_; cbv)
| (refine QC.tt ?_ ?_; (focus (simp only [decide_true, Bool.and_true, Bool.and_self] <;> fail)); cbv)
| (refine QC.ff ?_ ?_; (focus (simp only [decide_true, Bool.and_true, Bool.and_self, decide_false, Bool.false_and, reduceCtorEq, not_false_eq_true] <;> fail)); cbv)
| (refine QC.fw ?_; cbv)
| (refine QC.mk (fun hc => ?_) (fun hc => ?_) <;> (try dsimp only at hc) <;> cbv)
| (refine br_mk2 (fun hb => ?_) (fun hb => ?_) <;> (try subst hb) <;> cbv))))
        (refine qv (i) (by (first | omega | (simp only [cst] at *; omega) | (simp only [sm] at *; omega))) ?_; cbv; (repeat' (first
| (refine q1w (fun z hz => ?_); (try simp only at hz); cbv)
| (refine rqw ?_; cbv)
| (refine QC.tw ?_; cbv)
| (refine QC.tt ?_ ?_; (focus (simp only [decide_true, Bool.and_true, Bool.and_self] <;> fail)); cbv)
| (refine QC.ff ?_ ?_; (focus (simp only [decide_true, Bool.and_true, Bool.and_self, decide_false, Bool.false_and, reduceCtorEq, not_false_eq_true] <;> fail)); cbv)
| (refine QC.fw ?_; cbv)
| (refine QC.mk (fun hc => ?_) (fun hc => ?_) <;> (try dsimp only at hc) <;> cbv)
| (refine br_mk2 (fun hb => ?_) (fun hb => ?_) <;> (try subst hb) <;> cbv))))
        (refine qv _ (hVi) ?_; cbv; (repeat' (first
| (refine q1w (fun z hz => ?_); (try simp only at hz); cbv)
| (refine rqw ?_; cbv)
| (refine QC.tw ?_; cbv)
| (refine QC.tt ?_ ?_; (focus (simp only [decide_true, Bool.and_true, Bool.and_self] <;> fail)); cbv)
| (refine QC.ff ?_ ?_; (focus (simp only [decide_true, Bool.and_true, Bool.and_self, decide_false, Bool.false_and, reduceCtorEq, not_false_eq_true] <;> fail)); cbv)
| (refine QC.fw ?_; cbv)
| (refine QC.mk (fun hc => ?_) (fun hc => ?_) <;> (try dsimp only at hc) <;> cbv)
| (refine br_mk2 (fun hb => ?_) (fun hb => ?_) <;> (try subst hb) <;> cbv))))
        (refine qv (i) (by (first | omega | (simp only [cst] at *; omega) | (simp only [sm] at *; omega))) ?_; cbv; (repeat' (first
| (refine q1w (fun z hz => ?_); (try simp only at hz); cbv)
| (refine rqw ?_; cbv)
| (refine QC.tw ?_; cbv)
| (refine QC.tt ?_ ?_; (focus (simp only [decide_true, Bool.and_true, Bool.and_self] <;> fail)); cbv)
| (refine QC.ff ?_ ?_; (focus (simp only [decide_true, Bool.and_true, Bool.and_self, decide_false, Bool.false_and, reduceCtorEq, not_false_eq_true] <;> fail)); cbv)
| (refine QC.fw ?_; cbv)
| (refine QC.mk (fun hc => ?_) (fun hc => ?_) <;> (try dsimp only at hc) <;> cbv)
| (refine br_mk2 (fun hb => ?_) (fun hb => ?_) <;> (try subst hb) <;> cbv))))
        (refine qv _ (hUi) ?_; cbv; (repeat' (first
| (refine q1w (fun z hz => ?_); (try simp only at hz); cbv)
| (refine rqw ?_; cbv)
| (refine QC.tw ?_; cbv)
| (refine QC.tt ?_ ?_; (focus (simp only [decide_true, Bool.and_true, Bool.and_self] <;> fail)); cbv)
| (refine QC.ff ?_ ?_; (focus (simp only [decide_true, Bool.and_true, Bool.and_self, decide_false, Bool.false_and, reduceCtorEq, not_false_eq_true] <;> fail)); cbv)
| (refine QC.fw ?_; cbv)
| (refine QC.mk (fun hc => ?_) (fun hc => ?_) <;> (try dsimp only at hc) <;> cbv)
| (refine br_mk2 (fun hb => ?_) (fun hb => ?_) <;> (try subst hb) <;> cbv))))
        (refine callq (f3) rfl rfl ?_; cbv; (repeat' (first
| (refine q1w (fun z hz => ?_); (try simp only at hz); cbv)
| (refine rqw ?_; cbv)
| (refine QC.tw ?_; cbv)
| (refine QC.tt ?_ ?_; (focus (simp only [decide_true, Bool.and_true, Bool.and_self] <;> fail)); cbv)
| (refine QC.ff ?_ ?_; (focus (simp only [decide_true, Bool.and_true, Bool.and_self, decide_false, Bool.false_and, reduceCtorEq, not_false_eq_true] <;> fail)); cbv)
| (refine QC.fw ?_; cbv)
| (refine QC.mk (fun hc => ?_) (fun hc => ?_) <;> (try dsimp only at hc) <;> cbv)
| (refine br_mk2 (fun hb => ?_) (fun hb => ?_) <;> (try subst hb) <;> cbv))))
        (refine qv (i) (by (first | omega | (simp only [cst] at *; omega) | (simp only [sm] at *; omega))) ?_; cbv; (repeat' (first
| (refine q1w (fun z hz => ?_); (try simp only at hz); cbv)
| (refine rqw ?_; cbv)
| (refine QC.tw ?_; cbv)
| (refine QC.tt ?_ ?_; (focus (simp only [decide_true, Bool.and_true, Bool.and_self] <;> fail)); cbv)
| (refine QC.ff ?_ ?_; (focus (simp only [decide_true, Bool.and_true, Bool.and_self, decide_false, Bool.false_and, reduceCtorEq, not_false_eq_true] <;> fail)); cbv)
| (refine QC.fw ?_; cbv)
| (refine QC.mk (fun hc => ?_) (fun hc => ?_) <;> (try dsimp only at hc) <;> cbv)
| (refine br_mk2 (fun hb => ?_) (fun hb => ?_) <;> (try subst hb) <;> cbv))))
        (refine qv _ (hVi) ?_; cbv; (repeat' (first
| (refine q1w (fun z hz => ?_); (try simp only at hz); cbv)
| (refine rqw ?_; cbv)
| (refine QC.tw ?_; cbv)
| (refine QC.tt ?_ ?_; (focus (simp only [decide_true, Bool.and_true, Bool.and_self] <;> fail)); cbv)
| (refine QC.ff ?_ ?_; (focus (simp only [decide_true, Bool.and_true, Bool.and_self, decide_false, Bool.false_and, reduceCtorEq, not_false_eq_true] <;> fail)); cbv)
| (refine QC.fw ?_; cbv)
| (refine QC.mk (fun hc => ?_) (fun hc => ?_) <;> (try dsimp only at hc) <;> cbv)
| (refine br_mk2 (fun hb => ?_) (fun hb => ?_) <;> (try subst hb) <;> cbv))))
        (refine qv (i) (by (first | omega | (simp only [cst] at *; omega) | (simp only [sm] at *; omega))) ?_; cbv; (repeat' (first
| (refine q1w (fun z hz => ?_); (try simp only at hz); cbv)
| (refine rqw ?_; cbv)
| (refine QC.tw ?_; cbv)
| (refine QC.tt ?_ ?_; (focus (simp only [decide_true, Bool.and_true, Bool.and_self] <;> fail)); cbv)
| (refine QC.ff ?_ ?_; (focus (simp only [decide_true, Bool.and_true, Bool.and_self, decide_false, Bool.false_and, reduceCtorEq, not_false_eq_true] <;> fail)); cbv)
| (refine QC.fw ?_; cbv)
| (refine QC.mk (fun hc => ?_) (fun hc => ?_) <;> (try dsimp only at hc) <;> cbv)
| (refine br_mk2 (fun hb => ?_) (fun hb => ?_) <;> (try subst hb) <;> cbv))))
        (refine qv _ (hUi) ?_; cbv; (repeat' (first
| (refine q1w (fun z hz => ?_); (try simp only at hz); cbv)
| (refine rqw ?_; cbv)
| (refine QC.tw ?_; cbv)
| (refine QC.tt ?_ ?_; (focus (simp only [decide_true, Bool.and_true, Bool.and_self] <;> fail)); cbv)
| (refine QC.ff ?_ ?_; (focus (simp only [decide_true, Bool.and_true, Bool.and_self, decide_false, Bool.false_and, reduceCtorEq, not_false_eq_true] <;> fail)); cbv)
| (refine QC.fw ?_; cbv)
| (refine QC.mk (fun hc => ?_) (fun hc => ?_) <;> (try dsimp only at hc) <;> cbv)
| (refine br_mk2 (fun hb => ?_) (fun hb => ?_) <;> (try subst hb) <;> cbv))))
        (refine callq (f4) rfl rfl ?_; cbv; (repeat' (first
| (refine q1w (fun z hz => ?_); (try simp only at hz); cbv)
| (refine rqw ?_; cbv)
| (refine QC.tw ?_; cbv)
| (refine QC.tt ?_ ?_; (focus (simp only [decide_true, Bool.and_true, Bool.and_self] <;> fail)); cbv)
| (refine QC.ff ?_ ?_; (focus (simp only [decide_true, Bool.and_true, Bool.and_self, decide_false, Bool.false_and, reduceCtorEq, not_false_eq_true] <;> fail)); cbv)
| (refine QC.fw ?_; cbv)
| (refine QC.mk (fun hc => ?_) (fun hc => ?_) <;> (try dsimp only at hc) <;> cbv)
| (refine br_mk2 (fun hb => ?_) (fun hb => ?_) <;> (try subst hb) <;> cbv))))
        (refine qv (i) (by (first | omega | (simp only [cst] at *; omega) | (simp only [sm] at *; omega))) ?_; cbv; (repeat' (first
| (refine q1w (fun z hz => ?_); (try simp only at hz); cbv)
| (refine rqw ?_; cbv)
| (refine QC.tw ?_; cbv)
| (refine QC.tt ?_ ?_; (focus (simp only [decide_true, Bool.and_true, Bool.and_self] <;> fail)); cbv)
| (refine QC.ff ?_ ?_; (focus (simp only [decide_true, Bool.and_true, Bool.and_self, decide_false, Bool.false_and, reduceCtorEq, not_false_eq_true] <;> fail)); cbv)
| (refine QC.fw ?_; cbv)
| (refine QC.mk (fun hc => ?_) (fun hc => ?_) <;> (try dsimp only at hc) <;> cbv)
| (refine br_mk2 (fun hb => ?_) (fun hb => ?_) <;> (try subst hb) <;> cbv))))
        (refine qv _ (hVi) ?_; cbv; (repeat' (first
| (refine q1w (fun z hz => ?_); (try simp only at hz); cbv)
| (refine rqw ?_; cbv)
| (refine QC.tw ?_; cbv)
| (refine QC.tt ?_ ?_; (focus (simp only [decide_true, Bool.and_true, Bool.and_self] <;> fail)); cbv)
| (refine QC.ff ?_ ?_; (focus (simp only [decide_true, Bool.and_true, Bool.and_self, decide_false, Bool.false_and, reduceCtorEq, not_false_eq_true] <;> fail)); cbv)
| (refine QC.fw ?_; cbv)
| (refine QC.mk (fun hc => ?_) (fun hc => ?_) <;> (try dsimp only at hc) <;> cbv)
| (refine br_mk2 (fun hb => ?_) (fun hb => ?_) <;> (try subst hb) <;> cbv))))
        (refine callq (f5) rfl rfl ?_; cbv; (repeat' (first
| (refine q1w (fun z hz => ?_); (try simp only at hz); cbv)
| (refine rqw ?_; cbv)
| (refine QC.tw ?_; cbv)
| (refine QC.tt ?_ ?_; (focus (simp only [decide_true, Bool.and_true, Bool.and_self] <;> fail)); cbv)
| (refine QC.ff ?_ ?_; (focus (simp only [decide_true, Bool.and_true, Bool.and_self, decide_false, Bool.false_and, reduceCtorEq, not_false_eq_true] <;> fail)); cbv)
| (refine QC.fw ?_; cbv)
| (refine QC.mk (fun hc => ?_) (fun hc => ?_) <;> (try dsimp only at hc) <;> cbv)
| (refine br_mk2 (fun hb => ?_) (fun hb => ?_) <;> (try subst hb) <;> cbv))))
        (refine qv (i) (by (first | omega | (simp only [cst] at *; omega) | (simp only [sm] at *; omega))) ?_; cbv; (repeat' (first
| (refine q1w (fun z hz => ?_); (try simp only at hz); cbv)
| (refine rqw ?_; cbv)
| (refine QC.tw ?_; cbv)
| (refine QC.tt ?_ ?_; (focus (simp only [decide_true, Bool.and_true, Bool.and_self] <;> fail)); cbv)
| (refine QC.ff ?_ ?_; (focus (simp only [decide_true, Bool.and_true, Bool.and_self, decide_false, Bool.false_and, reduceCtorEq, not_false_eq_true] <;> fail)); cbv)
| (refine QC.fw ?_; cbv)
| (refine QC.mk (fun hc => ?_) (fun hc => ?_) <;> (try dsimp only at hc) <;> cbv)
| (refine br_mk2 (fun hb => ?_) (fun hb => ?_) <;> (try subst hb) <;> cbv))))
        (refine qv _ (hVi) ?_; cbv; (repeat' (first
| (refine q1w (fun z hz => ?_); (try simp only at hz); cbv)
| (refine rqw ?_; cbv)
| (refine QC.tw ?_; cbv)
| (refine QC.tt ?_ ?_; (focus (simp only [decide_true, Bool.and_true, Bool.and_self] <;> fail)); cbv)
| (refine QC.ff ?_ ?_; (focus (simp only [decide_true, Bool.and_true, Bool.and_self, decide_false, Bool.false_and, reduceCtorEq, not_false_eq_true] <;> fail)); cbv)
| (refine QC.fw ?_; cbv)
| (refine QC.mk (fun hc => ?_) (fun hc => ?_) <;> (try dsimp only at hc) <;> cbv)
| (refine br_mk2 (fun hb => ?_) (fun hb => ?_) <;> (try subst hb) <;> cbv))))
        (refine callq (f6) rfl rfl ?_; cbv; (repeat' (first
| (refine q1w (fun z hz => ?_); (try simp only at hz); cbv)
| (refine rqw ?_; cbv)
| (refine QC.tw ?_; cbv)
| (refine QC.tt ?_ ?_; (focus (simp only [decide_true, Bool.and_true, Bool.and_self] <;> fail)); cbv)
| (refine QC.ff ?_ ?_; (focus (simp only [decide_true, Bool.and_true, Bool.and_self, decide_false, Bool.false_and, reduceCtorEq, not_false_eq_true] <;> fail)); cbv)
| (refine QC.fw ?_; cbv)
| (refine QC.mk (fun hc => ?_) (fun hc => ?_) <;> (try dsimp only at hc) <;> cbv)
| (refine br_mk2 (fun hb => ?_) (fun hb => ?_) <;> (try subst hb) <;> cbv))))
        (refine callq (f7) rfl rfl ?_; cbv; (repeat' (first
| (refine q1w (fun z hz => ?_); (try simp only at hz); cbv)
| (refine rqw ?_; cbv)
| (refine QC.tw ?_; cbv)
| (refine QC.tt ?_ ?_; (focus (simp only [decide_true, Bool.and_true, Bool.and_self] <;> fail)); cbv)
| (refine QC.ff ?_ ?_; (focus (simp only [decide_true, Bool.and_true, Bool.and_self, decide_false, Bool.false_and, reduceCtorEq, not_false_eq_true] <;> fail)); cbv)
| (refine QC.fw ?_; cbv)
| (refine QC.mk (fun hc => ?_) (fun hc => ?_) <;> (try dsimp only at hc) <;> cbv)
| (refine br_mk2 (fun hb => ?_) (fun hb => ?_) <;> (try subst hb) <;> cbv))))
        (refine callq (f8) rfl rfl ?_; cbv; (repeat' (first
| (refine q1w (fun z hz => ?_); (try simp only at hz); cbv)
| (refine rqw ?_; cbv)
| (refine QC.tw ?_; cbv)
| (refine QC.tt ?_ ?_; (focus (simp only [decide_true, Bool.and_true, Bool.and_self] <;> fail)); cbv)
| (refine QC.ff ?_ ?_; (focus (simp only [decide_true, Bool.and_true, Bool.and_self, decide_false, Bool.false_and, reduceCtorEq, not_false_eq_true] <;> fail)); cbv)
| (refine QC.fw ?_; cbv)
| (refine QC.mk (fun hc => ?_) (fun hc => ?_) <;> (try dsimp only at hc) <;> cbv)
| (refine br_mk2 (fun hb => ?_) (fun hb => ?_) <;> (try subst hb) <;> cbv))))
        (refine callq (f9) rfl rfl ?_; cbv; (repeat' (first
| (refine q1w (fun z hz => ?_); (try simp only at hz); cbv)
| (refine rqw ?_; cbv)
| (refine QC.tw ?_; cbv)
| (refine QC.tt ?_ ?_; (focus (simp only [decide_true, Bool.and_true, Bool.and_self] <;> fail)); cbv)
| (refine QC.ff ?_ ?_; (focus (simp only [decide_true, Bool.and_true, Bool.and_self, decide_false, Bool.false_and, reduceCtorEq, not_false_eq_true] <;> fail)); cbv)
| (refine QC.fw ?_; cbv)
| (refine QC.mk (fun hc => ?_) (fun hc => ?_) <;> (try dsimp only at hc) <;> cbv)
| (refine br_mk2 (fun hb => ?_) (fun hb => ?_) <;> (try subst hb) <;> cbv))))
        refine ⟨(i + 1, z), ⟨by show z = ((i + 1 : Nat) : Int); (first | omega | (simp only [cst] at *; omega) | (simp only [sm] at *; omega)), by show i + 1 ≤ 4; omega⟩, by show 4 - (i + 1) < 4 - i; omega, ?_⟩
        cbv
        repeat' (first | exact rfl | exact trivial | apply And.intro)
    · (refine callq (gM) rfl rfl ?_; cbv; (repeat' (first
| (refine q1w (fun z hz => ?_); (try simp only at hz); cbv)
| (refine rqw ?_; cbv)
| (refine QC.tw ?_; cbv)
| (refine QC.tt ?_ ?_; (focus (simp only [decide_true, Bool.and_true, Bool.and_self] <;> fail)); cbv)
| (refine QC.ff ?_ ?_; (focus (simp only [decide_true, Bool.and_true, Bool.and_self, decide_false, Bool.false_and, reduceCtorEq, not_false_eq_true] <;> fail)); cbv)
| (refine QC.fw ?_; cbv)
| (refine QC.mk (fun hc => ?_) (fun hc => ?_) <;> (try dsimp only at hc) <;> cbv)
| (refine br_mk2 (fun hb => ?_) (fun hb => ?_) <;> (try subst hb) <;> cbv))))
      refine loopQ (A := Nat × Int) (fun p => p.2 = p.1 ∧ p.1 ≤ 2) (fun p => 2 - p.1) (fun p => [(33, .int .i64 p.2)]) (fun p => [(201, .row none 3 V2)]) (0, 0) ⟨rfl, by omega⟩ ?_ ?_
      · cbv
        rw [hV2]
        repeat' (first | exact rfl | exact trivial | apply And.intro)
      · intro ⟨i, j⟩ hh
        have hj : j = (i : Int) := hh.1
        have hi : i ≤ 2 := hh.2
        clear hh hV2 hVE hWE hUE gM
        have hmq : True := trivial
        cbv
        (repeat' (first
| (refine q1w (fun z hz => ?_); (try simp only at hz); cbv)
| (refine rqw ?_; cbv)
| (refine QC.tw ?_; cbv)
| (refine QC.tt ?_ ?_; (focus (simp only [decide_true, Bool.and_true, Bool.and_self] <;> fail)); cbv)
| (refine QC.ff ?_ ?_; (focus (simp only [decide_true, Bool.and_true, Bool.and_self, decide_false, Bool.false_and, reduceCtorEq, not_false_eq_true] <;> fail)); cbv)
| (refine QC.fw ?_; cbv)
| (refine QC.mk (fun hc => ?_) (fun hc => ?_) <;> (try dsimp only at hc) <;> cbv)
| (refine br_mk2 (fun hb => ?_) (fun hb => ?_) <;> (try subst hb) <;> cbv)))
        · have hlt : i < 2 := by (first | omega | (simp only [cst] at *; omega) | (simp only [sm] at *; omega))
          obtain ⟨t, hVi, ht1, ht2⟩ := hV2E i hlt
          obtain ⟨y, Y, e, f1, f2, f3⟩ := gR t ⟨ht1, ht2⟩
          clear gR hk hV2E
          (refine qv (i) (by (first | omega | (simp only [cst] at *; omega) | (simp only [sm] at *; omega))) ?_; cbv; (repeat' (first
| (refine q1w (fun z hz => ?_); (try simp only at hz); cbv)
| (refine rqw ?_; cbv)
| (refine QC.tw ?_; cbv)
| (refine QC.tt ?_ ?_; (focus (simp only [decide_true, Bool.and_true, Bool.and_self] <;> fail)); cbv)
| (refine QC.ff ?_ ?_; (focus (simp only [decide_true, Bool.and_true, Bool.and_self, decide_false, Bool.false_and, reduceCtorEq, not_false_eq_true] <;> fail)); cbv)
| (refine QC.fw ?_; cbv)
| (refine QC.mk (fun hc => ?_) (fun hc => ?_) <;> (try dsimp only at hc) <;> cbv)
| (refine br_mk2 (fun hb => ?_) (fun hb => ?_) <;> (try subst hb) <;> cbv))))
          (refine qv _ (hVi) ?_; cbv; (repeat' (first
| (refine q1w (fun z hz => ?_); (try simp only at hz); cbv)
| (refine rqw ?_; cbv)
| (refine QC.tw ?_; cbv)
| (refine QC.tt ?_ ?_; (focus (simp only [decide_true, Bool.and_true, Bool.and_self] <;> fail)); cbv)
| (refine QC.ff ?_ ?_; (focus (simp only [decide_true, Bool.and_true, Bool.and_self, decide_false, Bool.false_and, reduceCtorEq, not_false_eq_true] <;> fail)); cbv)
| (refine QC.fw ?_; cbv)
| (refine QC.mk (fun hc => ?_) (fun hc => ?_) <;> (try dsimp only at hc) <;> cbv)
| (refine br_mk2 (fun hb => ?_) (fun hb => ?_) <;> (try subst hb) <;> cbv))))
          (refine callq (f1) rfl rfl ?_; cbv; (repeat' (first
| (refine q1w (fun z hz => ?_); (try simp only at hz); cbv)
| (refine rqw ?_; cbv)
| (refine QC.tw ?_; cbv)
| (refine QC.tt ?_ ?_; (focus (simp only [decide_true, Bool.and_true, Bool.and_self] <;> fail)); cbv)
| (refine QC.ff ?_ ?_; (focus (simp only [decide_true, Bool.and_true, Bool.and_self, decide_false, Bool.false_and, reduceCtorEq, not_false_eq_true] <;> fail)); cbv)
| (refine QC.fw ?_; cbv)
| (refine QC.mk (fun hc => ?_) (fun hc => ?_) <;> (try dsimp only at hc) <;> cbv)
| (refine br_mk2 (fun hb => ?_) (fun hb => ?_) <;> (try subst hb) <;> cbv))))
          (refine qv (i) (by (first | omega | (simp only [cst] at *; omega) | (simp only [sm] at *; omega))) ?_; cbv; (repeat' (first
| (refine q1w (fun z hz => ?_); (try simp only at hz); cbv)
| (refine rqw ?_; cbv)
| (refine QC.tw ?_; cbv)
| (refine QC.tt ?_ ?_; (focus (simp only [decide_true, Bool.and_true, Bool.and_self] <;> fail)); cbv)
| (refine QC.ff ?_ ?_; (focus (simp only [decide_true, Bool.and_true, Bool.and_self, decide_false, Bool.false_and, reduceCtorEq, not_false_eq_true] <;> fail)); cbv)
| (refine QC.fw ?_; cbv)
| (refine QC.mk (fun hc => ?_) (fun hc => ?_) <;> (try dsimp only at hc) <;> cbv)
| (refine br_mk2 (fun hb => ?_) (fun hb => ?_) <;> (try subst hb) <;> cbv))))
          (refine qv _ (hVi) ?_; cbv; (repeat' (first
| (refine q1w (fun z hz => ?_); (try simp only at hz); cbv)
| (refine rqw ?_; cbv)
| (refine QC.tw ?_; cbv)
| (refine QC.tt ?_ ?_; (focus (simp only [decide_true, Bool.and_true, Bool.and_self] <;> fail)); cbv)
| (refine QC.ff ?_ ?_; (focus (simp only [decide_true, Bool.and_true, Bool.and_self, decide_false, Bool.false_and, reduceCtorEq, not_false_eq_true] <;> fail)); cbv)
| (refine QC.fw ?_; cbv)
| (refine QC.mk (fun hc => ?_) (fun hc => ?_) <;> (try dsimp only at hc) <;> cbv)
| (refine br_mk2 (fun hb => ?_) (fun hb => ?_) <;> (try subst hb) <;> cbv))))
          (refine callq (f2) rfl rfl ?_; cbv; (repeat' (first
| (refine q1w (fun z hz => ?_); (try simp only at hz); cbv)
| (refine rqw ?_; cbv)
| (refine QC.tw ?_; cbv)
| (refine QC.tt ?_ ?_; (focus (simp only [decide_true, Bool.and_true, Bool.and_self] <;> fail)); cbv)
| (refine QC.ff ?_ ?_; (focus (simp only [decide_true, Bool.and_true, Bool.and_self, decide_false, Bool.false_and, reduceCtorEq, not_false_eq_true] <;> fail)); cbv)
| (refine QC.fw ?_; cbv)
| (refine QC.mk (fun hc => ?_) (fun hc => ?_) <;> (try dsimp only at hc) <;> cbv)
| (refine br_mk2 (fun hb => ?_) (fun hb => ?_) <;> (try subst hb) <;> cbv))))
          (refine callq (f3) rfl rfl ?_; cbv; (repeat' (first
| (refine q1w (fun z hz => ?_); (try simp only at hz); cbv)
| (refine rqw ?_; cbv)
| (refine QC.tw ?_; cbv)
| (refine QC.tt ?_ ?_; (focus (simp only [decide_true, Bool.and_true, Bool.and_self] <;> fail)); cbv)
| (refine QC.ff ?_ ?_; (focus (simp only [decide_true, Bool.and_true, Bool.and_self, decide_false, Bool.false_and, reduceCtorEq, not_false_eq_true] <;> fail)); cbv)
| (refine QC.fw ?_; cbv)
| (refine QC.mk (fun hc => ?_) (fun hc => ?_) <;> (try dsimp only at hc) <;> cbv)
| (refine br_mk2 (fun hb => ?_) (fun hb => ?_) <;> (try subst hb) <;> cbv))))
          refine ⟨(i + 1, z), ⟨by show z = ((i + 1 : Nat) : Int); (first | omega | (simp only [cst] at *; omega) | (simp only [sm] at *; omega)), by show i + 1 ≤ 2; omega⟩, by show 2 - (i + 1) < 2 - i; omega, ?_⟩
          cbv
          repeat' (first | exact rfl | exact trivial | apply And.intro)
        · (refine callq (hk) rfl rfl ?_; cbv; (repeat' (first
| (refine q1w (fun z hz => ?_); (try simp only at hz); cbv)
| (refine rqw ?_; cbv)
| (refine QC.tw ?_; cbv)
| (refine QC.tt ?_ ?_; (focus (simp only [decide_true, Bool.and_true, Bool.and_self] <;> fail)); cbv)
| (refine QC.ff ?_ ?_; (focus (simp only [decide_true, Bool.and_true, Bool.and_self, decide_false, Bool.false_and, reduceCtorEq, not_false_eq_true] <;> fail)); cbv)
| (refine QC.fw ?_; cbv)
| (refine QC.mk (fun hc => ?_) (fun hc => ?_) <;> (try dsimp only at hc) <;> cbv)
| (refine br_mk2 (fun hb => ?_) (fun hb => ?_) <;> (try subst hb) <;> cbv))))
          exact ⟨rfl, rfl, rfl⟩
set_option maxRecDepth 8000 in
theorem senders_3
    (s0 : Snd) (R0 : List SV) (hR0 : R0 = rowsB s0.ps) (hf0 : s0.fits) (b : List UInt8) (B : List SV) (hB : B = u8l b) (hb : b.length ≤ 140737488351232) (tag m room now : Int) (htg : 0 ≤ tag ∧ tag ≤ 255) (hm : 0 ≤ m ∧ m ≤ 4294967295)
    (hroom : -9223372036854775808 ≤ room ∧ room ≤ 9223372036854775807) (hnow : -9223372036854775808 ≤ now ∧ now ≤ 9223372036854775807) (Z T : List SV) (hT : T = Z.take 400)
    (s : Snd) (R : List SV) (c1 c2 : Int) (hsf : s.fits) (hvs : VS s) (hR : R = rowsB s.ps) (gS : Good 11 (le 81 (.agg [.lst none T, .int .i64 0]) [] (s.w R) (.agg [.lst none T, .int .i64 c1]))) (t2 : Tp T c2)
    (g2 : Good 12 (le 81 (.agg [.lst none T, .int .i64 c1]) [.int .i64 5] (.int .i64 3) (.agg [.lst none T, .int .i64 c2]))) :
    Good 3 (pu [s0.w R0, .lst none B, .int .u8 tag, .int .u32 m, .int .i64 room, .int .i64 now, .lst none Z] (.bool true)) := by
  skip
  have h0 := new_c Z T hT
  have gM := mod_c room 60 hroom (by omega)
  obtain ⟨M0, hM0⟩ : ∃ M, M = room % 60 := ⟨_, rfl⟩
  rw [← hM0] at gM
  have hM1 : 0 ≤ M0 ∧ M0 < 60 := by omega
  obtain ⟨V2, hV2⟩ : ∃ W : List SV, W = [.int .i64 room, .int .i64 M0] := ⟨_, rfl⟩
  have hV2E := i2_e .i64 room M0 (-9223372036854775808) 9223372036854775807 hroom (by omega)
  rw [← hV2] at hV2E
  have hV2l : V2.length = 2 := by rw [hV2]; rfl
  have gR := fun room ht => srnd2_e b B hB hb tag room htg ht
  have hk := known_c
  obtain ⟨U, hU⟩ : ∃ W : List SV, W = [.int .u8 tag, .int .u8 s.tag, .int .u8 tag, .int .u8 s.tag] := ⟨_, rfl⟩
  have hUE := i4_e .u8 tag s.tag tag s.tag 0 255 htg hsf.tag htg hsf.tag
  rw [← hU] at hUE
  have hUl : U.length = 4 := by rw [hU]; rfl
  obtain ⟨r3, c3, p3, t3, g3⟩ := now_e t2
  skip
  obtain ⟨n1, c4, p4, u4, t4, g4⟩ := next_e t3 120 (by omega)
  obtain ⟨n2, c5, p5, t5, g5⟩ := now_e t4
  obtain ⟨n3, c6, p6, u6, t6, g6⟩ := next_e t5 60 (by omega)
  obtain ⟨W, hW⟩ : ∃ W : List SV, W = [.int .i64 now, .int .i64 n1, .int .i64 n2, .int .i64 n3] := ⟨_, rfl⟩
  have hWE := i4_e .i64 now n1 n2 n3 (-9223372036854775808) 9223372036854775807 hnow (by omega) (by omega) (by omega)
  rw [← hW] at hWE
  have hWl : W.length = 4 := by rw [hW]; rfl
  obtain ⟨sp, hsp⟩ : ∃ sp : Snd, sp = ⟨s.st, s.tag, s.ps, s.ak, s.rd, r3⟩ := ⟨_, rfl⟩
  skip
  have hspf : sp.fits := by
    rw [hsp]
    exact ⟨by have := hsf.st; dsimp only; omega, hsf.tag, by have := hsf.ak; dsimp only; omega, by have := hsf.rd; dsimp only; omega, by have := hsf.un; dsimp only; omega, hsf.n, hsf.b⟩
  obtain ⟨V, hV⟩ : ∃ V : List SV, V = [s0.w R0, s.w R, s.w R, sp.w R] := ⟨_, rfl⟩
  have hVE := v4_e s0 R0 hR0 hf0 s R hR hsf sp R (by rw [hsp]; exact hR) hspf
  rw [← hV] at hVE
  have hVl : V.length = 4 := by rw [hV]; rfl
  rw [hsp] at hV
  clear hsp hspf
  clear hR hR0 hf0 hsf hB hvs
  skip
  refine Good.of Try.func3 rfl (by rfl) (by kernel_rfl) ?_
  cbv
  have hmk : True := trivial
  (repeat' (first
| (refine q1w (fun z hz => ?_); (try simp only at hz); cbv)
| (refine rqw ?_; cbv)
| (refine QC.tw ?_; cbv)
| (refine QC.tt ?_ ?_; (focus (simp only [decide_true, Bool.and_true, Bool.and_self] <;> fail)); cbv)
| (refine QC.ff ?_ ?_; (focus (simp only [decide_true, Bool.and_true, Bool.and_self, decide_false, Bool.false_and, reduceCtorEq, not_false_eq_true] <;> fail)); cbv)
| (refine QC.fw ?_; cbv)
| (refine QC.mk (fun hc => ?_) (fun hc => ?_) <;> (try dsimp only at hc) <;> cbv)
| (refine br_mk2 (fun hb => ?_) (fun hb => ?_) <;> (try subst hb) <;> cbv)))
  (refine callq (h0) rfl rfl ?_; cbv; (repeat' (first
| (refine q1w (fun z hz => ?_); (try simp only at hz); cbv)
| (refine rqw ?_; cbv)
| (refine QC.tw ?_; cbv)
| (refine QC.tt ?_ ?_; (focus (simp only [decide_true, Bool.and_true, Bool.and_self] <;> fail)); cbv)
| (refine QC.ff ?_ ?_; (focus (simp only [decide_true, Bool.and_true, Bool.and_self, decide_false, Bool.false_and, reduceCtorEq, not_false_eq_true] <;> fail)); cbv)
| (refine QC.fw ?_; cbv)
| (refine QC.mk (fun hc => ?_) (fun hc => ?_) <;> (try dsimp only at hc) <;> cbv)
| (refine br_mk2 (fun hb => ?_) (fun hb => ?_) <;> (try subst hb) <;> cbv))))
  (refine callq (gS) rfl rfl ?_; cbv; (repeat' (first
| (refine q1w (fun z hz => ?_); (try simp only at hz); cbv)
| (refine rqw ?_; cbv)
| (refine QC.tw ?_; cbv)
| (refine QC.tt ?_ ?_; (focus (simp only [decide_true, Bool.and_true, Bool.and_self] <;> fail)); cbv)
| (refine QC.ff ?_ ?_; (focus (simp only [decide_true, Bool.and_true, Bool.and_self, decide_false, Bool.false_and, reduceCtorEq, not_false_eq_true] <;> fail)); cbv)
| (refine QC.fw ?_; cbv)
| (refine QC.mk (fun hc => ?_) (fun hc => ?_) <;> (try dsimp only at hc) <;> cbv)
| (refine br_mk2 (fun hb => ?_) (fun hb => ?_) <;> (try subst hb) <;> cbv))))
  (refine callq (g2) rfl rfl ?_; cbv; (repeat' (first
| (refine q1w (fun z hz => ?_); (try simp only at hz); cbv)
| (refine rqw ?_; cbv)
| (refine QC.tw ?_; cbv)
| (refine QC.tt ?_ ?_; (focus (simp only [decide_true, Bool.and_true, Bool.and_self] <;> fail)); cbv)
| (refine QC.ff ?_ ?_; (focus (simp only [decide_true, Bool.and_true, Bool.and_self, decide_false, Bool.false_and, reduceCtorEq, not_false_eq_true] <;> fail)); cbv)
| (refine QC.fw ?_; cbv)
| (refine QC.mk (fun hc => ?_) (fun hc => ?_) <;> (try dsimp only at hc) <;> cbv)
| (refine br_mk2 (fun hb => ?_) (fun hb => ?_) <;> (try subst hb) <;> cbv))))
  (refine callq (g3) rfl rfl ?_; cbv; (repeat' (first
| (refine q1w (fun z hz => ?_); (try simp only at hz); cbv)
| (refine rqw ?_; cbv)
| (refine QC.tw ?_; cbv)
| (refine QC.tt ?_ ?_; (focus (simp only [decide_true, Bool.and_true, Bool.and_self] <;> fail)); cbv)
| (refine QC.ff ?_ ?_; (focus (simp only [decide_true, Bool.and_true, Bool.and_self, decide_false, Bool.false_and, reduceCtorEq, not_false_eq_true] <;> fail)); cbv)
| (refine QC.fw ?_; cbv)
| (refine QC.mk (fun hc => ?_) (fun hc => ?_) <;> (try dsimp only at hc) <;> cbv)
| (refine br_mk2 (fun hb => ?_) (fun hb => ?_) <;> (try subst hb) <;> cbv))))
  skip
  have hmo : True := trivial
  (refine callq (g4) rfl rfl ?_; cbv; (repeat' (first
| (refine q1w (fun z hz => ?_); (try simp only at hz); cbv)
| (refine rqw ?_; cbv)
| (refine QC.tw ?_; cbv)
| (refine QC.tt ?_ ?_; (focus (simp only [decide_true, Bool.and_true, Bool.and_self] <;> fail)); cbv)
| (refine QC.ff ?_ ?_; (focus (simp only [decide_true, Bool.and_true, Bool.and_self, decide_false, Bool.false_and, reduceCtorEq, not_false_eq_true] <;> fail)); cbv)
| (refine QC.fw ?_; cbv)
| (refine QC.mk (fun hc => ?_) (fun hc => ?_) <;> (try dsimp only at hc) <;> cbv)
| (refine br_mk2 (fun hb => ?_) (fun hb => ?_) <;> (try subst hb) <;> cbv))))
  (refine callq (g5) rfl rfl ?_; cbv; (repeat' (first
| (refine q1w (fun z hz => ?_); (try simp only at hz); cbv)
| (refine rqw ?_; cbv)
| (refine QC.tw ?_; cbv)
| (refine QC.tt ?_ ?_; (focus (simp only [decide_true, Bool.and_true, Bool.and_self] <;> fail)); cbv)
| (refine QC.ff ?_ ?_; (focus (simp only [decide_true, Bool.and_true, Bool.and_self, decide_false, Bool.false_and, reduceCtorEq, not_false_eq_true] <;> fail)); cbv)
| (refine QC.fw ?_; cbv)
| (refine QC.mk (fun hc => ?_) (fun hc => ?_) <;> (try dsimp only at hc) <;> cbv)
| (refine br_mk2 (fun hb => ?_) (fun hb => ?_) <;> (try subst hb) <;> cbv))))
  (refine callq (g6) rfl rfl ?_; cbv; (repeat' (first
| (refine q1w (fun z hz => ?_); (try simp only at hz); cbv)
| (refine rqw ?_; cbv)
| (refine QC.tw ?_; cbv)
| (refine QC.tt ?_ ?_; (focus (simp only [decide_true, Bool.and_true, Bool.and_self] <;> fail)); cbv)
| (refine QC.ff ?_ ?_; (focus (simp only [decide_true, Bool.and_true, Bool.and_self, decide_false, Bool.false_and, reduceCtorEq, not_false_eq_true] <;> fail)); cbv)
| (refine QC.fw ?_; cbv)
| (refine QC.mk (fun hc => ?_) (fun hc => ?_) <;> (try dsimp only at hc) <;> cbv)
| (refine br_mk2 (fun hb => ?_) (fun hb => ?_) <;> (try subst hb) <;> cbv))))
  refine loopQ (A := Nat × Int) (fun p => p.2 = p.1 ∧ p.1 ≤ 4) (fun p => 4 - p.1) (fun p => [(21, .int .i64 p.2)]) (fun p => [(87, .row (some 6) 25 V), (95, .row none 3 W), (102, .row none 5 U)]) (0, 0) ⟨rfl, by omega⟩ ?_ ?_
  · cbv
    rw [hV, hW, hU]
    repeat' (first | exact rfl | exact trivial | apply And.intro)
  · intro ⟨i, j⟩ hh
    have hj : j = (i : Int) := hh.1
    have hi : i ≤ 4 := hh.2
    clear hh hV hW hU
    have hmq : True := trivial
    cbv
    (repeat' (first
| (refine q1w (fun z hz => ?_); (try simp only at hz); cbv)
| (refine rqw ?_; cbv)
| (refine QC.tw ?_; cbv)
| (refine QC.tt ?_ ?_; (focus (simp only [decide_true, Bool.and_true, Bool.and_self] <;> fail)); cbv)
| (refine QC.ff ?_ ?_; (focus (simp only [decide_true, Bool.and_true, Bool.and_self, decide_false, Bool.false_and, reduceCtorEq, not_false_eq_true] <;> fail)); cbv)
| (refine QC.fw ?_; cbv)
| (refine QC.mk (fun hc => ?_) (fun hc => ?_) <;> (try dsimp only at hc) <;> cbv)
| (refine br_mk2 (fun hb => ?_) (fun hb => ?_) <;> (try subst hb) <;> cbv)))
    · have hlt : i < 4 := by (first | omega | (simp only [cst] at *; omega) | (simp only [sm] at *; omega))
      obtain ⟨x, X, hVi, hX, hxf⟩ := hVE i hlt
      obtain ⟨t, hWi, ht1, ht2⟩ := hWE i hlt
      obtain ⟨tg, hUi, hg1, hg2⟩ := hUE i hlt
      obtain ⟨y, u, Y, Q, L, e, g, r, f1, f2, f3, f4, f5, f6, f7, f8, f9⟩ := srnd_e x X hX hxf t tg m ⟨ht1, ht2⟩ ⟨hg1, hg2⟩ hm
      clear hVE hWE hUE gR gM hk hX hxf
      cases r
      · skip
        (refine qv (i) (by (first | omega | (simp only [cst] at *; omega) | (simp only [sm] at *; omega))) ?_; cbv; (repeat' (first
| (refine q1w (fun z hz => ?_); (try simp only at hz); cbv)
| (refine rqw ?_; cbv)
| (refine QC.tw ?_; cbv)
| (refine QC.tt ?_ ?_; (focus (simp only [decide_true, Bool.and_true, Bool.and_self] <;> fail)); cbv)
| (refine QC.ff ?_ ?_; (focus (simp only [decide_true, Bool.and_true, Bool.and_self, decide_false, Bool.false_and, reduceCtorEq, not_false_eq_true] <;> fail)); cbv)
| (refine QC.fw ?_; cbv)
| (refine QC.mk (fun hc => ?_) (fun hc => ?_) <;> (try dsimp only at hc) <;> cbv)
| (refine br_mk2 (fun hb => ?_) (fun hb => ?_) <;> (try subst hb) <;> cbv))))
        (refine qv _ (hVi) ?_; cbv; (repeat' (first
| (refine q1w (fun z hz => ?_); (try simp only at hz); cbv)
| (refine rqw ?_; cbv)
| (refine QC.tw ?_; cbv)
| (refine QC.tt ?_ ?_; (focus (simp only [decide_true, Bool.and_true, Bool.and_self] <;> fail)); cbv)
| (refine QC.ff ?_ ?_; (focus (simp only [decide_true, Bool.and_true, Bool.and_self, decide_false, Bool.false_and, reduceCtorEq, not_false_eq_true] <;> fail)); cbv)
| (refine QC.fw ?_; cbv)
| (refine QC.mk (fun hc => ?_) (fun hc => ?_) <;> (try dsimp only at hc) <;> cbv)
| (refine br_mk2 (fun hb => ?_) (fun hb => ?_) <;> (try subst hb) <;> cbv))))
        (refine qv (i) (by (first | omega | (simp only [cst] at *; omega) | (simp only [sm] at *; omega))) ?_; cbv; (repeat' (first
| (refine q1w (fun z hz => ?_); (try simp only at hz); cbv)
| (refine rqw ?_; cbv)
| (refine QC.tw ?_; cbv)
| (refine QC.tt ?_ ?_; (focus (simp only [decide_true, Bool.and_true, Bool.and_self] <;> fail)); cbv)
| (refine QC.ff ?_ ?_; (focus (simp only [decide_true, Bool.and_true, Bool.and_self, decide_false, Bool.false_and, reduceCtorEq, not_false_eq_true] <;> fail)); cbv)
| (refine QC.fw ?_; cbv)
| (refine QC.mk (fun hc => ?_) (fun hc => ?_) <;> (try dsimp only at hc) <;> cbv)
| (refine br_mk2 (fun hb => ?_) (fun hb => ?_) <;> (try subst hb) <;> cbv))))
        (refine qv _ (hWi) ?_; cbv; (repeat' (first
| (refine q1w (fun z hz => ?_); (try simp only at hz); cbv)
| (refine rqw ?_; cbv)
| (refine QC.tw ?_; cbv)
| (refine QC.tt ?_ ?_; (focus (simp only [decide_true, Bool.and_true, Bool.and_self] <;> fail)); cbv)
| (refine QC.ff ?_ ?_; (focus (simp only [decide_true, Bool.and_true, Bool.and_self, decide_false, Bool.false_and, reduceCtorEq, not_false_eq_true] <;> fail)); cbv)
| (refine QC.fw ?_; cbv)
| (refine QC.mk (fun hc => ?_) (fun hc => ?_) <;> (try dsimp only at hc) <;> cbv)
| (refine br_mk2 (fun hb => ?_) (fun hb => ?_) <;> (try subst hb) <;> cbv))))
        (refine callq (f1) rfl rfl ?_; cbv; (repeat' (first
| (refine q1w (fun z hz => ?_); (try simp only at hz); cbv)
| (refine rqw ?_; cbv)
| (refine QC.tw ?_; cbv)
| (refine QC.tt ?_ ?_; (focus (simp only [decide_true, Bool.and_true, Bool.and_self] <;> fail)); cbv)
| (refine QC.ff ?_ ?_; (focus (simp only [decide_true, Bool.and_true, Bool.and_self, decide_false, Bool.false_and, reduceCtorEq, not_false_eq_true] <;> fail)); cbv)
| (refine QC.fw ?_; cbv)
| (refine QC.mk (fun hc => ?_) (fun hc => ?_) <;> (try dsimp only at hc) <;> cbv)
| (refine br_mk2 (fun hb => ?_) (fun hb => ?_) <;> (try subst hb) <;> cbv))))
        (refine qv (i) (by (first | omega | (simp only [cst] at *; omega) | (simp only [sm] at *; omega))) ?_; cbv; (repeat' (first
| (refine q1w (fun z hz => ?_); (try simp only at hz); cbv)
| (refine rqw ?_; cbv)
| (refine QC.tw ?_; cbv)
| (refine QC.tt ?_ ?_; (focus (simp only [decide_true, Bool.and_true, Bool.and_self] <;> fail)); cbv)
| (refine QC.ff ?_ ?_; (focus (simp only [decide_true, Bool.and_true, Bool.and_self, decide_false, Bool.false_and, reduceCtorEq, not_false_eq_true] <;> fail)); cbv)
| (refine QC.fw ?_; cbv)
| (refine QC.mk (fun hc => ?_) (fun hc => ?_) <;> (try dsimp only at hc) <;> cbv)
| (refine br_mk2 (fun hb => ?_) (fun hb => ?_) <;> (try subst hb) <;> cbv))))
        (refine qv _ (hVi) ?_; cbv; (repeat' (first
| (refine q1w (fun z hz => ?_); (try simp only at hz); cbv)
| (refine rqw ?_; cbv)
| (refine QC.tw ?_; cbv)
| (refine QC.tt ?_ ?_; (focus (simp only [decide_true, Bool.and_true, Bool.and_self] <;> fail)); cbv)
| (refine QC.ff ?_ ?_; (focus (simp only [decide_true, Bool.and_true, Bool.and_self, decide_false, Bool.false_and, reduceCtorEq, not_false_eq_true] <;> fail)); cbv)
| (refine QC.fw ?_; cbv)
| (refine QC.mk (fun hc => ?_) (fun hc => ?_) <;> (try dsimp only at hc) <;> cbv)
| (refine br_mk2 (fun hb => ?_) (fun hb => ?_) <;> (try subst hb) <;> cbv))))
        (refine qv (i) (by (first | omega | (simp only [cst] at *; omega) | (simp only [sm] at *; omega))) ?_; cbv; (repeat' (first
| (refine q1w (fun z hz => ?_); (try simp only at hz); cbv)
| (refine rqw ?_; cbv)
| (refine QC.tw ?_; cbv)
| (refine QC.tt ?_ ?_; (focus (simp only [decide_true, Bool.and_true, Bool.and_self] <;> fail)); cbv)
| (refine QC.ff ?_ ?_; (focus (simp only [decide_true, Bool.and_true, Bool.and_self, decide_false, Bool.false_and, reduceCtorEq, not_false_eq_true] <;> fail)); cbv)
| (refine QC.fw ?_; cbv)
| (refine QC.mk (fun hc => ?_) (fun hc => ?_) <;> (try dsimp only at hc) <;> cbv)
| (refine br_mk2 (fun hb => ?_) (fun hb => ?_) <;> (try subst hb) <;> cbv))))
        (refine qv _ (hWi) ?_; cbv; (repeat' (first
| (refine q1w (fun z hz => ?_); (try simp only at hz); cbv)
| (refine rqw ?_; cbv)
| (refine QC.tw ?_; cbv)
| (refine QC.tt ?_ ?_; (focus (simp only [decide_true, Bool.and_true, Bool.and_self] <;> fail)); cbv)
| (refine QC.ff ?_ ?_; (focus (simp only [decide_true, Bool.and_true, Bool.and_self, decide_false, Bool.false_and, reduceCtorEq, not_false_eq_true] <;> fail)); cbv)
| (refine QC.fw ?_; cbv)
| (refine QC.mk (fun hc => ?_) (fun hc => ?_) <;> (try dsimp only at hc) <;> cbv)
| (refine br_mk2 (fun hb => ?_) (fun hb => ?_) <;> (try subst hb) <;> cbv))))
        (refine callq (f2) rfl rfl ?_; cbv; (repeat' (first
| (refine q1w (fun z hz => ?_); (try simp only at hz); cbv)
| (refine rqw ?_; cbv)
| (refine QC.tw ?_; cbv)
| (refine QC.tt ?_ ?_; (focus (simp only [decide_true, Bool.and_true, Bool.and_self] <;> fail)); cbv)
| (refine QC.ff ?_ ?_; (focus (simp only [decide_true, Bool.and_true, Bool.and_self, decide_false, Bool.false_and, reduceCtorEq, not_false_eq_true] <;> fail)); cbv)
| (refine QC.fw ?_; cbv)
| (refine QC.mk (fun hc => ?_) (fun hc => ?_) <;> (try dsimp only at hc) <;> cbv)
| (refine br_mk2 (fun hb => ?_) (fun hb => ?_) <;> (try subst hb) <;> cbv))))
        (refine qv (i) (by (first | omega | (simp only [cst] at *; omega) | (simp only [sm] at *; omega))) ?_; cbv; (repeat' (first
| (refine q1w (fun z hz => ?_); (try simp only at hz); cbv)
| (refine rqw ?_; cbv)
| (refine QC.tw ?_; cbv)
| (refine QC.tt ?_ ?_; (focus (simp only [decide_true, Bool.and_true, Bool.and_self] <;> fail)); cbv)
| (refine QC.ff ?_ ?_; (focus (simp only [decide_true, Bool.and_true, Bool.and_self, decide_false, Bool.false_and, reduceCtorEq, not_false_eq_true] <;> fail)); cbv)
| (refine QC.fw ?_; cbv)
| (refine QC.mk (fun hc => ?_) (fun hc => ?_) <;> (try dsimp only at hc) <;> cbv)
| (refine br_mk2 (fun hb => ?_) (fun hb => ?_) <;> (try subst hb) <;> cbv))))
        (refine qv _ (hVi) ?_; cbv; (repeat' (first
| (refine q1w (fun z hz => ?_); (try simp only at hz); cbv)
| (refine rqw ?_; cbv)
| (refine QC.tw ?_; cbv)
| (refine QC.tt ?_ ?_; (focus (simp only [decide_true, Bool.and_true, Bool.and_self] <;> fail)); cbv)
| (refine QC.ff ?_ ?_; (focus (simp only [decide_true, Bool.and_true, Bool.and_self, decide_false, Bool.false_and, reduceCtorEq, not_false_eq_true] <;> fail)); cbv)
| (refine QC.fw ?_; cbv)
| (refine QC.mk (fun hc => ?_) (fun hc => ?_) <;> (try dsimp only at hc) <;> cbv)
| (refine br_mk2 (fun hb => ?_) (fun hb => ?_) <;> (try subst hb) <;> cbv))))
        (refine qv (i) (by (first | omega | (simp only [cst] at *; omega) | (simp only [sm] at *; omega))) ?_; cbv; (repeat' (first
| (refine q1w (fun z hz => ?_); (try simp only at hz); cbv)
| (refine rqw ?_; cbv)
| (refine QC.tw ?_; cbv)
| (refine QC.tt ?_ ?_; (focus (simp only [decide_true, Bool.and_true, Bool.and_self] <;> fail)); cbv)
| (refine QC.ff ?_ ?_; (focus (simp only [decide_true, Bool.and_true, Bool.and_self, decide_false, Bool.false_and, reduceCtorEq, not_false_eq_true] <;> fail)); cbv)
| (refine QC.fw ?_; cbv)
| (refine QC.mk (fun hc => ?_) (fun hc => ?_) <;> (try dsimp only at hc) <;> cbv)
| (refine br_mk2 (fun hb => ?_) (fun hb => ?_) <;> (try subst hb) <;> cbv))))
        (refine qv _ (hUi) ?_; cbv; (repeat' (first
| (refine q1w (fun z hz => ?_); (try simp only at hz); cbv)
| (refine rqw ?_; cbv)
| (refine QC.tw ?_; cbv)
| (refine QC.tt ?_ ?_; (focus (simp only [decide_true, Bool.and_true, Bool.and_self] <;> fail)); cbv)
| (refine QC.ff ?_ ?_; (focus (simp only [decide_true, Bool.and_true, Bool.and_self, decide_false, Bool.false_and, reduceCtorEq, not_false_eq_true] <;> fail)); cbv)
| (refine QC.fw ?_; cbv)
| (refine QC.mk (fun hc => ?_) (fun hc => ?_) <;> (try dsimp only at hc) <;> cbv)
| (refine br_mk2 (fun hb => ?_) (fun hb => ?_) <;> (try subst hb) <;> cbv))))
        (refine callq (f3) rfl rfl ?_; cbv; (repeat' (first
| (refine q1w (fun z hz => ?_); (try simp only at hz); cbv)
| (refine rqw ?_; cbv)
| (refine QC.tw ?_; cbv)
| (refine QC.tt ?_ ?_; (focus (simp only [decide_true, Bool.and_true, Bool.and_self] <;> fail)); cbv)
| (refine QC.ff ?_ ?_; (focus (simp only [decide_true, Bool.and_true, Bool.and_self, decide_false, Bool.false_and, reduceCtorEq, not_false_eq_true] <;> fail)); cbv)
| (refine QC.fw ?_; cbv)
| (refine QC.mk (fun hc => ?_) (fun hc => ?_) <;> (try dsimp only at hc) <;> cbv)
| (refine br_mk2 (fun hb => ?_) (fun hb => ?_) <;> (try subst hb) <;> cbv))))
        (refine qv (i) (by (first | omega | (simp only [cst] at *; omega) | (simp only [sm] at *; omega))) ?_; cbv; (repeat' (first
| (refine q1w (fun z hz => ?_); (try simp only at hz); cbv)
| (refine rqw ?_; cbv)
| (refine QC.tw ?_; cbv)
| (refine QC.tt ?_ ?_; (focus (simp only [decide_true, Bool.and_true, Bool.and_self] <;> fail)); cbv)
| (refine QC.ff ?_ ?_; (focus (simp only [decide_true, Bool.and_true, Bool.and_self, decide_false, Bool.false_and, reduceCtorEq, not_false_eq_true] <;> fail)); cbv)
| (refine QC.fw ?_; cbv)
| (refine QC.mk (fun hc => ?_) (fun hc => ?_) <;> (try dsimp only at hc) <;> cbv)
| (refine br_mk2 (fun hb => ?_) (fun hb => ?_) <;> (try subst hb) <;> cbv))))
        (refine qv _ (hVi) ?_; cbv; (repeat' (first
| (refine q1w (fun z hz => ?_); (try simp only at hz); cbv)
| (refine rqw ?_; cbv)
| (refine QC.tw ?_; cbv)
| (refine QC.tt ?_ ?_; (focus (simp only [decide_true, Bool.and_true, Bool.and_self] <;> fail)); cbv)
| (refine QC.ff ?_ ?_; (focus (simp only [decide_true, Bool.and_true, Bool.and_self, decide_false, Bool.false_and, reduceCtorEq, not_false_eq_true] <;> fail)); cbv)
| (refine QC.fw ?_; cbv)
| (refine QC.mk (fun hc => ?_) (fun hc => ?_) <;> (try dsimp only at hc) <;> cbv)
| (refine br_mk2 (fun hb => ?_) (fun hb => ?_) <;> (try subst hb) <;> cbv))))
        (refine qv (i) (by (first | omega | (simp only [cst] at *; omega) | (simp only [sm] at *; omega))) ?_; cbv; (repeat' (first
| (refine q1w (fun z hz => ?_); (try simp only at hz); cbv)
| (refine rqw ?_; cbv)
| (refine QC.tw ?_; cbv)
| (refine QC.tt ?_ ?_; (focus (simp only [decide_true, Bool.and_true, Bool.and_self] <;> fail)); cbv)
| (refine QC.ff ?_ ?_; (focus (simp only [decide_true, Bool.and_true, Bool.and_self, decide_false, Bool.false_and, reduceCtorEq, not_false_eq_true] <;> fail)); cbv)
| (refine QC.fw ?_; cbv)
| (refine QC.mk (fun hc => ?_) (fun hc => ?_) <;> (try dsimp only at hc) <;> cbv)
| (refine br_mk2 (fun hb => ?_) (fun hb => ?_) <;> (try subst hb) <;> cbv))))
        (refine qv _ (hUi) ?_; cbv; (repeat' (first
| (refine q1w (fun z hz => ?_); (try simp only at hz); cbv)
| (refine rqw ?_; cbv)
| (refine QC.tw ?_; cbv)
| (refine QC.tt ?_ ?_; (focus (simp only [decide_true, Bool.and_true, Bool.and_self] <;> fail)); cbv)
| (refine QC.ff ?_ ?_; (focus (simp only [decide_true, Bool.and_true, Bool.and_self, decide_false, Bool.false_and, reduceCtorEq, not_false_eq_true] <;> fail)); cbv)
| (refine QC.fw ?_; cbv)
| (refine QC.mk (fun hc => ?_) (fun hc => ?_) <;> (try dsimp only at hc) <;> cbv)
| (refine br_mk2 (fun hb => ?_) (fun hb => ?_) <;> (try subst hb) <;> cbv))))
        (refine callq (f4) rfl rfl ?_; cbv; (repeat' (first
| (refine q1w (fun z hz => ?_); (try simp only at hz); cbv)
| (refine rqw ?_; cbv)
| (refine QC.tw ?_; cbv)
| (refine QC.tt ?_ ?_; (focus (simp only [decide_true, Bool.and_true, Bool.and_self] <;> fail)); cbv)
| (refine QC.ff ?_ ?_; (focus (simp only [decide_true, Bool.and_true, Bool.and_self, decide_false, Bool.false_and, reduceCtorEq, not_false_eq_true] <;> fail)); cbv)
| (refine QC.fw ?_; cbv)
| (refine QC.mk (fun hc => ?_) (fun hc => ?_) <;> (try dsimp only at hc) <;> cbv)
| (refine br_mk2 (fun hb => ?_) (fun hb => ?_) <;> (try subst hb) <;> cbv))))
        (refine qv (i) (by (first | omega | (simp only [cst] at *; omega) | (simp only [sm] at *; omega))) ?_; cbv; (repeat' (first
| (refine q1w (fun z hz => ?_); (try simp only at hz); cbv)
| (refine rqw ?_; cbv)
| (refine QC.tw ?_; cbv)
| (refine QC.tt ?_ ?_; (focus (simp only [decide_true, Bool.and_true, Bool.and_self] <;> fail)); cbv)
| (refine QC.ff ?_ ?_; (focus (simp only [decide_true, Bool.and_true, Bool.and_self, decide_false, Bool.false_and, reduceCtorEq, not_false_eq_true] <;> fail)); cbv)
| (refine QC.fw ?_; cbv)
| (refine QC.mk (fun hc => ?_) (fun hc => ?_) <;> (try dsimp only at hc) <;> cbv)
| (refine br_mk2 (fun hb => ?_) (fun hb => ?_) <;> (try subst hb) <;> cbv))))
        (refine qv _ (hVi) ?_; cbv; (repeat' (first
| (refine q1w (fun z hz => ?_); (try simp only at hz); cbv)
| (refine rqw ?_; cbv)
| (refine QC.tw ?_; cbv)
| (refine QC.tt ?_ ?_; (focus (simp only [decide_true, Bool.and_true, Bool.and_self] <;> fail)); cbv)
| (refine QC.ff ?_ ?_; (focus (simp only [decide_true, Bool.and_true, Bool.and_self, decide_false, Bool.false_and, reduceCtorEq, not_false_eq_true] <;> fail)); cbv)
| (refine QC.fw ?_; cbv)
| (refine QC.mk (fun hc => ?_) (fun hc => ?_) <;> (try dsimp only at hc) <;> cbv)
| (refine br_mk2 (fun hb => ?_) (fun hb => ?_) <;> (try subst hb) <;> cbv))))
        (refine callq (f5) rfl rfl ?_; cbv; (repeat' (first
| (refine q1w (fun z hz => ?_); (try simp only at hz); cbv)
| (refine rqw ?_; cbv)
| (refine QC.tw ?_; cbv)
| (refine QC.tt ?_ ?_; (focus (simp only [decide_true, Bool.and_true, Bool.and_self] <;> fail)); cbv)
| (refine QC.ff ?_ ?_; (focus (simp only [decide_true, Bool.and_true, Bool.and_self, decide_false, Bool.false_and, reduceCtorEq, not_false_eq_true] <;> fail)); cbv)
| (refine QC.fw ?_; cbv)
| (refine QC.mk (fun hc => ?_) (fun hc => ?_) <;> (try dsimp only at hc) <;> cbv)
| (refine br_mk2 (fun hb => ?_) (fun hb => ?_) <;> (try subst hb) <;> cbv))))
        (refine qv (i) (by (first | omega | (simp only [cst] at *; omega) | (simp only [sm] at *; omega))) ?_; cbv; (repeat' (first
| (refine q1w (fun z hz => ?_); (try simp only at hz); cbv)
| (refine rqw ?_; cbv)
| (refine QC.tw ?_; cbv)
| (refine QC.tt ?_ ?_; (focus (simp only [decide_true, Bool.and_true, Bool.and_self] <;> fail)); cbv)
| (refine QC.ff ?_ ?_; (focus (simp only [decide_true, Bool.and_true, Bool.and_self, decide_false, Bool.false_and, reduceCtorEq, not_false_eq_true] <;> fail)); cbv)
| (refine QC.fw ?_; cbv)
| (refine QC.mk (fun hc => ?_) (fun hc => ?_) <;> (try dsimp only at hc) <;> cbv)
| (refine br_mk2 (fun hb => ?_) (fun hb => ?_) <;> (try subst hb) <;> cbv))))
        (refine qv _ (hVi) ?_; cbv; (repeat' (first
| (refine q1w (fun z hz => ?_); (try simp only at hz); cbv)
| (refine rqw ?_; cbv)
| (refine QC.tw ?_; cbv)
| (refine QC.tt ?_ ?_; (focus (simp only [decide_true, Bool.and_true, Bool.and_self] <;> fail)); cbv)
| (refine QC.ff ?_ ?_; (focus (simp only [decide_true, Bool.and_true, Bool.and_self, decide_false, Bool.false_and, reduceCtorEq, not_false_eq_true] <;> fail)); cbv)
| (refine QC.fw ?_; cbv)
| (refine QC.mk (fun hc => ?_) (fun hc => ?_) <;> (try dsimp only at hc) <;> cbv)
| (refine br_mk2 (fun hb => ?_) (fun hb => ?_) <;> (try subst hb) <;> cbv))))
        (refine callq (f6) rfl rfl ?_; cbv; (repeat' (first
| (refine q1w (fun z hz => ?_); (try simp only at hz); cbv)
| (refine rqw ?_; cbv)
| (refine QC.tw ?_; cbv)
| (refine QC.tt ?_ ?_; (focus (simp only [decide_true, Bool.and_true, Bool.and_self] <;> fail)); cbv)
| (refine QC.ff ?_ ?_; (focus (simp only [decide_true, Bool.and_true, Bool.and_self, decide_false, Bool.false_and, reduceCtorEq, not_false_eq_true] <;> fail)); cbv)
| (refine QC.fw ?_; cbv)
| (refine QC.mk (fun hc => ?_) (fun hc => ?_) <;> (try dsimp only at hc) <;> cbv)
| (refine br_mk2 (fun hb => ?_) (fun hb => ?_) <;> (try subst hb) <;> cbv))))
        (refine callq (f7) rfl rfl ?_; cbv; (repeat' (first
| (refine q1w (fun z hz => ?_); (try simp only at hz); cbv)
| (refine rqw ?_; cbv)
| (refine QC.tw ?_; cbv)
| (refine QC.tt ?_ ?_; (focus (simp only [decide_true, Bool.and_true, Bool.and_self] <;> fail)); cbv)
| (refine QC.ff ?_ ?_; (focus (simp only [decide_true, Bool.and_true, Bool.and_self, decide_false, Bool.false_and, reduceCtorEq, not_false_eq_true] <;> fail)); cbv)
| (refine QC.fw ?_; cbv)
| (refine QC.mk (fun hc => ?_) (fun hc => ?_) <;> (try dsimp only at hc) <;> cbv)
| (refine br_mk2 (fun hb => ?_) (fun hb => ?_) <;> (try subst hb) <;> cbv))))
        (refine callq (f8) rfl rfl ?_; cbv; (repeat' (first
| (refine q1w (fun z hz => ?_); (try simp only at hz); cbv)
| (refine rqw ?_; cbv)
| (refine QC.tw ?_; cbv)
| (refine QC.tt ?_ ?_; (focus (simp only [decide_true, Bool.and_true, Bool.and_self] <;> fail)); cbv)
| (refine QC.ff ?_ ?_; (focus (simp only [decide_true, Bool.and_true, Bool.and_self, decide_false, Bool.false_and, reduceCtorEq, not_false_eq_true] <;> fail)); cbv)
| (refine QC.fw ?_; cbv)
| (refine QC.mk (fun hc => ?_) (fun hc => ?_) <;> (try dsimp only at hc) <;> cbv)
| (refine br_mk2 (fun hb => ?_) (fun hb => ?_) <;> (try subst hb) <;> cbv))))
        (refine callq (f9) rfl rfl ?_; cbv; (repeat' (first
| (refine q1w (fun z hz => ?_); (try simp only at hz); cbv)
| (refine rqw ?_; cbv)
| (refine QC.tw ?_; cbv)
| (refine QC.tt ?_ ?_; (focus (simp only [decide_true, Bool.and_true, Bool.and_self] <;> fail)); cbv)
| (refine QC.ff ?_ ?_; (focus (simp only [decide_true, Bool.and_true, Bool.and_self, decide_false, Bool.false_and, reduceCtorEq, not_false_eq_true] <;> fail)); cbv)
| (refine QC.fw ?_; cbv)
| (refine QC.mk (fun hc => ?_) (fun hc => ?_) <;> (try dsimp only at hc) <;> cbv)
| (refine br_mk2 (fun hb => ?_) (fun hb => ?_) <;> (try subst hb) <;> cbv))))
        refine ⟨(i + 1, z), ⟨by show z = ((i + 1 : Nat) : Int); (first | omega | (simp only [cst] at *; omega) | (simp only [sm] at *; omega)), by show i + 1 ≤ 4; omega⟩, by show 4 - (i + 1) < 4 - i; omega, ?_⟩
        cbv
        repeat' (first | exact rfl | exact trivial | apply And.intro)
      · skip
        (refine qv (i) (by (first | omega | (simp only [cst] at *; omega) | (simp only [sm] at *; omega))) ?_; cbv; (repeat' (first
| (refine q1w (fun z hz => ?_); (try simp only at hz); cbv)
| (refine rqw ?_; cbv)
| (refine QC.tw ?_; cbv)
| (refine QC.tt ?_ ?_; (focus (simp only [decide_true, Bool.and_true, Bool.and_self] <;> fail)); cbv)
| (refine QC.ff ?_ ?_; (focus (simp only [decide_true, Bool.and_true, Bool.and_self, decide_false, Bool.false_and, reduceCtorEq, not_false_eq_true] <;> fail)); cbv)
| (refine QC.fw ?_; cbv)
| (refine QC.mk (fun hc => ?_) (fun hc => ?_) <;> (try dsimp only at hc) <;> cbv)
| (refine br_mk2 (fun hb => ?_) (fun hb => ?_) <;> (try subst hb) <;> cbv))))
        (refine qv _ (hVi) ?_; cbv; (repeat' (first
| (refine q1w (fun z hz => ?_); (try simp only at hz); cbv)
| (refine rqw ?_; cbv)
| (refine QC.tw ?_; cbv)
| (refine QC.tt ?_ ?_; (focus (simp only [decide_true, Bool.and_true, Bool.and_self] <;> fail)); cbv)
| (refine QC.ff ?_ ?_; (focus (simp only [decide_true, Bool.and_true, Bool.and_self, decide_false, Bool.false_and, reduceCtorEq, not_false_eq_true] <;> fail)); cbv)
| (refine QC.fw ?_; cbv)
| (refine QC.mk (fun hc => ?_) (fun hc => ?_) <;> (try dsimp only at hc) <;> cbv)
| (refine br_mk2 (fun hb => ?_) (fun hb => ?_) <;> (try subst hb) <;> cbv))))
        (refine qv (i) (by (first | omega | (simp only [cst] at *; omega) | (simp only [sm] at *; omega))) ?_; cbv; (repeat' (first
| (refine q1w (fun z hz => ?_); (try simp only at hz); cbv)
| (refine rqw ?_; cbv)
| (refine QC.tw ?_; cbv)
| (refine QC.tt ?_ ?_; (focus (simp only [decide_true, Bool.and_true, Bool.and_self] <;> fail)); cbv)
| (refine QC.ff ?_ ?_; (focus (simp only [decide_true, Bool.and_true, Bool.and_self, decide_false, Bool.false_and, reduceCtorEq, not_false_eq_true] <;> fail)); cbv)
| (refine QC.fw ?_; cbv)
| (refine QC.mk (fun hc => ?_) (fun hc => ?_) <;> (try dsimp only at hc) <;> cbv)
| (refine br_mk2 (fun hb => ?_) (fun hb => ?_) <;> (try subst hb) <;> cbv))))
        (refine qv _ (hWi) ?_; cbv; (repeat' (first
| (refine q1w (fun z hz => ?_); (try simp only at hz); cbv)
| (refine rqw ?_; cbv)
| (refine QC.tw ?_; cbv)
| (refine QC.tt ?_ ?_; (focus (simp only [decide_true, Bool.and_true, Bool.and_self] <;> fail)); cbv)
| (refine QC.ff ?_ ?_; (focus (simp only [decide_true, Bool.and_true, Bool.and_self, decide_false, Bool.false_and, reduceCtorEq, not_false_eq_true] <;> fail)); cbv)
| (refine QC.fw ?_; cbv)
| (refine QC.mk (fun hc => ?_) (fun hc => ?_) <;> (try dsimp only at hc) <;> cbv)
| (refine br_mk2 (fun hb => ?_) (fun hb => ?_) <;> (try subst hb) <;> cbv))))
        (refine callq (f1) rfl rfl ?_; cbv; (repeat' (first
| (refine q1w (fun z hz => ?_); (try simp only at hz); cbv)
| (refine rqw ?_; cbv)
| (refine QC.tw ?_; cbv)
| (refine QC.tt ?_ ?_; (focus (simp only [decide_true, Bool.and_true, Bool.and_self] <;> fail)); cbv)
| (refine QC.ff ?_ ?_; (focus (simp only [decide_true, Bool.and_true, Bool.and_self, decide_false, Bool.false_and, reduceCtorEq, not_false_eq_true] <;> fail)); cbv)
| (refine QC.fw ?_; cbv)
| (refine QC.mk (fun hc => ?_) (fun hc => ?_) <;> (try dsimp only at hc) <;> cbv)
| (refine br_mk2 (fun hb => ?_) (fun hb => ?_) <;> (try subst hb) <;> cbv))))
        (refine qv (i) (by (first | omega | (simp only [cst] at *; omega) | (simp only [sm] at *; omega))) ?_; cbv; (repeat' (first
| (refine q1w (fun z hz => ?_); (try simp only at hz); cbv)
| (refine rqw ?_; cbv)
| (refine QC.tw ?_; cbv)
| (refine QC.tt ?_ ?_; (focus (simp only [decide_true, Bool.and_true, Bool.and_self] <;> fail)); cbv)
| (refine QC.ff ?_ ?_; (focus (simp only [decide_true, Bool.and_true, Bool.and_self, decide_false, Bool.false_and, reduceCtorEq, not_false_eq_true] <;> fail)); cbv)
| (refine QC.fw ?_; cbv)
| (refine QC.mk (fun hc => ?_) (fun hc => ?_) <;> (try dsimp only at hc) <;> cbv)
| (refine br_mk2 (fun hb => ?_) (fun hb => ?_) <;> (try subst hb) <;> cbv))))
        (refine qv _ (hVi) ?_; cbv; (repeat' (first
| (refine q1w (fun z hz => ?_); (try simp only at hz); cbv)
| (refine rqw ?_; cbv)
| (refine QC.tw ?_; cbv)
| (refine QC.tt ?_ ?_; (focus (simp only [decide_true, Bool.and_true, Bool.and_self] <;> fail)); cbv)
| (refine QC.ff ?_ ?_; (focus (simp only [decide_true, Bool.and_true, Bool.and_self, decide_false, Bool.false_and, reduceCtorEq, not_false_eq_true] <;> fail)); cbv)
| (refine QC.fw ?_; cbv)
| (refine QC.mk (fun hc => ?_) (fun hc => ?_) <;> (try dsimp only at hc) <;> cbv)
| (refine br_mk2 (fun hb => ?_) (fun hb => ?_) <;> (try subst hb) <;> cbv))))
        (refine qv (i) (by (first | omega | (simp only [cst] at *; omega) | (simp only [sm] at *; omega))) ?_; cbv; (repeat' (first
| (refine q1w (fun z hz => ?_); (try simp only at hz); cbv)
| (refine rqw ?_; cbv)
| (refine QC.tw ?_; cbv)
| (refine QC.tt ?_ ?_; (focus (simp only [decide_true, Bool.and_true, Bool.and_self] <;> fail)); cbv)
| (refine QC.ff ?_ ?_; (focus (simp only [decide_true, Bool.and_true, Bool.and_self, decide_false, Bool.false_and, reduceCtorEq, not_false_eq_true] <;> fail)); cbv)
| (refine QC.fw ?_; cbv)
| (refine QC.mk (fun hc => ?_) (fun hc => ?_) <;> (try dsimp only at hc) <;> cbv)
| (refine br_mk2 (fun hb => ?_) (fun hb => ?_) <;> (try subst hb) <;> cbv))))
        (refine qv _ (hWi) ?_; cbv; (repeat' (first
| (refine q1w (fun z hz => ?_); (try simp only at hz); cbv)
| (refine rqw ?_; cbv)
| (refine QC.tw ?_; cbv)
| (refine QC.tt ?_ ?_; (focus (simp only [decide_true, Bool.and_true, Bool.and_self] <;> fail)); cbv)
| (refine QC.ff ?_ ?_; (focus (simp only [decide_true, Bool.and_true, Bool.and_self, decide_false, Bool.false_and, reduceCtorEq, not_false_eq_true] <;> fail)); cbv)
| (refine QC.fw ?_; cbv)
| (refine QC.mk (fun hc => ?_) (fun hc => ?_) <;> (try dsimp only at hc) <;> cbv)
| (refine br_mk2 (fun hb => ?_) (fun hb => ?_) <;> (try subst hb) <;> cbv))))
        (refine callq (f2) rfl rfl ?_; cbv; (repeat' (first
| (refine q1w (fun z hz => ?_); (try simp only at hz); cbv)
| (refine rqw ?_; cbv)
| (refine QC.tw ?_; cbv)
| (refine QC.tt ?_ ?_; (focus (simp only [decide_true, Bool.and_true, Bool.and_self] <;> fail)); cbv)
| (refine QC.ff ?_ ?_; (focus (simp only [decide_true, Bool.and_true, Bool.and_self, decide_false, Bool.false_and, reduceCtorEq, not_false_eq_true] <;> fail)); cbv)
| (refine QC.fw ?_; cbv)
| (refine QC.mk (fun hc => ?_) (fun hc => ?_) <;> (try dsimp only at hc) <;> cbv)
| (refine br_mk2 (fun hb => ?_) (fun hb => ?_) <;> (try subst hb) <;> cbv))))
        (refine qv (i) (by (first | omega | (simp only [cst] at *; omega) | (simp only [sm] at *; omega))) ?_; cbv; (repeat' (first
| (refine q1w (fun z hz => ?_); (try simp only at hz); cbv)
| (refine rqw ?_; cbv)
| (refine QC.tw ?_; cbv)
| (refine QC.tt ?_ ?_; (focus (simp only [decide_true, Bool.and_true, Bool.and_self] <;> fail)); cbv)
| (refine QC.ff ?_ ?_; (focus (simp only [decide_true, Bool.and_true, Bool.and_self, decide_false, Bool.false_and, reduceCtorEq, not_false_eq_true] <;> fail)); cbv)
| (refine QC.fw ?_; cbv)
| (refine QC.mk (fun hc => ?_) (fun hc => ?_) <;> (try dsimp only at hc) <;> cbv)
| (refine br_mk2 (fun hb => ?_) (fun hb => ?_) <;> (try subst hb) <;> cbv))))
        (refine qv _ (hVi) ?_; cbv; (repeat' (first
| (refine q1w (fun z hz => ?_); (try simp only at hz); cbv)
| (refine rqw ?_; cbv)
| (refine QC.tw ?_; cbv)
| (refine QC.tt ?_ ?_; (focus (simp only [decide_true, Bool.and_true, Bool.and_self] <;> fail)); cbv)
| (refine QC.ff ?_ ?_; (focus (simp only [decide_true, Bool.and_true, Bool.and_self, decide_false, Bool.false_and, reduceCtorEq, not_false_eq_true] <;> fail)); cbv)
| (refine QC.fw ?_; cbv)
| (refine QC.mk (fun hc => ?_) (fun hc => ?_) <;> (try dsimp only at hc) <;> cbv)
| (refine br_mk2 (fun hb => ?_) (fun hb => ?_) <;> (try subst hb) <;> cbv))))
        (refine qv (i) (by (first | omega | (simp only [cst] at *; omega) | (simp only [sm] at *; omega))) ?_; cbv; (repeat' (first
| (refine q1w (fun z hz => ?_); (try simp only at hz); cbv)
| (refine rqw ?_; cbv)
| (refine QC.tw ?_; cbv)
| (refine QC.tt ?_ ?_; (focus (simp only [decide_true, Bool.and_true, Bool.and_self] <;> fail)); cbv)
| (refine QC.ff ?_ ?_; (focus (simp only [decide_true, Bool.and_true, Bool.and_self, decide_false, Bool.false_and, reduceCtorEq, not_false_eq_true] <;> fail)); cbv)
| (refine QC.fw ?_; cbv)
| (refine QC.mk (fun hc => ?_) (fun hc => ?_) <;> (try dsimp only at hc) <;> cbv)
| (refine br_mk2 (fun hb => ?_) (fun hb => ?_) <;> (try subst hb) <;> cbv))))
        (refine qv _ (hUi) ?_; cbv; (repeat' (first
| (refine q1w (fun z hz => ?_); (try simp only at hz); cbv)
| (refine rqw ?_; cbv)
| (refine QC.tw ?_; cbv)
| (refine QC.tt ?_ ?_; (focus (simp only [decide_true, Bool.and_true, Bool.and_self] <;> fail)); cbv)
| (refine QC.ff ?_ ?_; (focus (simp only [decide_true, Bool.and_true, Bool.and_self, decide_false, Bool.false_and, reduceCtorEq, not_false_eq_true] <;> fail)); cbv)
| (refine QC.fw ?_; cbv)
| (refine QC.mk (fun hc => ?_) (fun hc => ?_) <;> (try dsimp only at hc) <;> cbv)
| (refine br_mk2 (fun hb => ?_) (fun hb => ?_) <;> (try subst hb) <;> cbv))))
        (refine callq (f3) rfl rfl ?_; cbv; (repeat' (first
| (refine q1w (fun z hz => ?_); (try simp only at hz); cbv)
| (refine rqw ?_; cbv)
| (refine QC.tw ?_; cbv)
| (refine QC.tt ?_ ?_; (focus (simp only [decide_true, Bool.and_true, Bool.and_self] <;> fail)); cbv)
| (refine QC.ff ?_ ?_; (focus (simp only [decide_true, Bool.and_true, Bool.and_self, decide_false, Bool.false_and, reduceCtorEq, not_false_eq_true] <;> fail)); cbv)
| (refine QC.fw ?_; cbv)
| (refine QC.mk (fun hc => ?_) (fun hc => ?_) <;> (try dsimp only at hc) <;> cbv)
| (refine br_mk2 (fun hb => ?_) (fun hb => ?_) <;> (try subst hb) <;> cbv))))
        (refine qv (i) (by (first | omega | (simp only [cst] at *; omega) | (simp only [sm] at *; omega))) ?_; cbv; (repeat' (first
| (refine q1w (fun z hz => ?_); (try simp only at hz); cbv)
| (refine rqw ?_; cbv)
| (refine QC.tw ?_; cbv)
| (refine QC.tt ?_ ?_; (focus (simp only [decide_true, Bool.and_true, Bool.and_self] <;> fail)); cbv)
| (refine QC.ff ?_ ?_; (focus (simp only [decide_true, Bool.and_true, Bool.and_self, decide_false, Bool.false_and, reduceCtorEq, not_false_eq_true] <;> fail)); cbv)
| (refine QC.fw ?_; cbv)
| (refine QC.mk (fun hc => ?_) (fun hc => ?_) <;> (try dsimp only at hc) <;> cbv)
| (refine br_mk2 (fun hb => ?_) (fun hb => ?_) <;> (try subst hb) <;> cbv))))
        (refine qv _ (hVi) ?_; cbv; (repeat' (first
| (refine q1w (fun z hz => ?_); (try simp only at hz); cbv)
| (refine rqw ?_; cbv)
| (refine QC.tw ?_; cbv)
| (refine QC.tt ?_ ?_; (focus (simp only [decide_true, Bool.and_true, Bool.and_self] <;> fail)); cbv)
| (refine QC.ff ?_ ?_; (focus (simp only [decide_true, Bool.and_true, Bool.and_self, decide_false, Bool.false_and, reduceCtorEq, not_false_eq_true] <;> fail)); cbv)
| (refine QC.fw ?_; cbv)
| (refine QC.mk (fun hc => ?_) (fun hc => ?_) <;> (try dsimp only at hc) <;> cbv)
| (refine br_mk2 (fun hb => ?_) (fun hb => ?_) <;> (try subst hb) <;> cbv))))
        (refine qv (i) (by (first | omega | (simp only [cst] at *; omega) | (simp only [sm] at *; omega))) ?_; cbv; (repeat' (first
| (refine q1w (fun z hz => ?_); (try simp only at hz); cbv)
| (refine rqw ?_; cbv)
| (refine QC.tw ?_; cbv)
| (refine QC.tt ?_ ?_; (focus (simp only [decide_true, Bool.and_true, Bool.and_self] <;> fail)); cbv)
| (refine QC.ff ?_ ?_; (focus (simp only [decide_true, Bool.and_true, Bool.and_self, decide_false, Bool.false_and, reduceCtorEq, not_false_eq_true] <;> fail)); cbv)
| (refine QC.fw ?_; cbv)
| (refine QC.mk (fun hc => ?_) (fun hc => ?_) <;> (try dsimp only at hc) <;> cbv)
| (refine br_mk2 (fun hb => ?_) (fun hb => ?_) <;> (try subst hb) <;> cbv))))
        (refine qv _ (hUi) ?_; cbv; (repeat' (first
| (refine q1w (fun z hz => ?_); (try simp only at hz); cbv)
| (refine rqw ?_; cbv)
| (refine QC.tw ?_; cbv)
| (refine QC.tt ?_ ?_; (focus (simp only [decide_true, Bool.and_true, Bool.and_self] <;> fail)); cbv)
| (refine QC.ff ?_ ?_; (focus (simp only [decide_true, Bool.and_true, Bool.and_self, decide_false, Bool.false_and, reduceCtorEq, not_false_eq_true] <;> fail)); cbv)
| (refine QC.fw ?_; cbv)
| (refine QC.mk (fun hc => ?_) (fun hc => ?_) <;> (try dsimp only at hc) <;> cbv)
| (refine br_mk2 (fun hb => ?_) (fun hb => ?_) <;> (try subst hb) <;> cbv))))
        (refine callq (f4) rfl rfl ?_; cbv; (repeat' (first
| (refine q1w (fun z hz => ?_); (try simp only at hz); cbv)
| (refine rqw ?_; cbv)
| (refine QC.tw ?_; cbv)
| (refine QC.tt ?_ ?_; (focus (simp only [decide_true, Bool.and_true, Bool.and_self] <;> fail)); cbv)
| (refine QC.ff ?_ ?_; (focus (simp only [decide_true, Bool.and_true, Bool.and_self, decide_false, Bool.false_and, reduceCtorEq, not_false_eq_true] <;> fail)); cbv)
| (refine QC.fw ?_; cbv)
| (refine QC.mk (fun hc => ?_) (fun hc => ?_) <;> (try dsimp only at hc) <;> cbv)
| (refine br_mk2 (fun hb => ?_) (fun hb => ?_) <;> (try subst hb) <;> cbv))))
        (refine qv (i) (by (first | omega | (simp only [cst] at *; omega) | (simp only [sm] at *; omega))) ?_; cbv; (repeat' (first
| (refine q1w (fun z hz => ?_); (try simp only at hz); cbv)
| (refine rqw ?_; cbv)
| (refine QC.tw ?_; cbv)
| (refine QC.tt ?_ ?_; (focus (simp only [decide_true, Bool.and_true, Bool.and_self] <;> fail)); cbv)
| (refine QC.ff ?_ ?_; (focus (simp only [decide_true, Bool.and_true, Bool.and_self, decide_false, Bool.false_and, reduceCtorEq, not_false_eq_true] <;> fail)); cbv)
| (refine QC.fw ?_; cbv)
| (refine QC.mk (fun hc => ?_) (fun hc => ?_) <;> (try dsimp only at hc) <;> cbv)
| (refine br_mk2 (fun hb => ?_) (fun hb => ?_) <;> (try subst hb) <;> cbv))))
        (refine qv _ (hVi) ?_; cbv; (repeat' (first
| (refine q1w (fun z hz => ?_); (try simp only at hz); cbv)
| (refine rqw ?_; cbv)
| (refine QC.tw ?_; cbv)
| (refine QC.tt ?_ ?_; (focus (simp only [decide_true, Bool.and_true, Bool.and_self] <;> fail)); cbv)
| (refine QC.ff ?_ ?_; (focus (simp only [decide_true, Bool.and_true, Bool.and_self, decide_false, Bool.false_and, reduceCtorEq, not_false_eq_true] <;> fail)); cbv)
| (refine QC.fw ?_; cbv)
| (refine QC.mk (fun hc => ?_) (fun hc => ?_) <;> (try dsimp only at hc) <;> cbv)
| (refine br_mk2 (fun hb => ?_) (fun hb => ?_) <;> (try subst hb) <;> cbv))))
        (refine callq (f5) rfl rfl ?_; cbv; (repeat' (first
| (refine q1w (fun z hz => ?_); (try simp only at hz); cbv)
| (refine rqw ?_; cbv)
| (refine QC.tw ?_; cbv)
| (refine QC.tt ?_ ?_; (focus (simp only [decide_true, Bool.and_true, Bool.and_self] <;> fail)); cbv)
| (refine QC.ff ?_ ?_; (focus (simp only [decide_true, Bool.and_true, Bool.and_self, decide_false, Bool.false_and, reduceCtorEq, not_false_eq_true] <;> fail)); cbv)
| (refine QC.fw ?_; cbv)
| (refine QC.mk (fun hc => ?_) (fun hc => ?_) <;> (try dsimp only at hc) <;> cbv)
| (refine br_mk2 (fun hb => ?_) (fun hb => ?_) <;> (try subst hb) <;> cbv))))
        (refine qv (i) (by (first | omega | (simp only [cst] at *; omega) | (simp only [sm] at *; omega))) ?_; cbv; (repeat' (first
| (refine q1w (fun z hz => ?_); (try simp only at hz); cbv)
| (refine rqw ?_; cbv)
| (refine QC.tw ?_; cbv)
| (refine QC.tt ?_ ?_; (focus (simp only [decide_true, Bool.and_true, Bool.and_self] <;> fail)); cbv)
| (refine QC.ff ?_ ?_; (focus (simp only [decide_true, Bool.and_true, Bool.and_self, decide_false, Bool.false_and, reduceCtorEq, not_false_eq_true] <;> fail)); cbv)
| (refine QC.fw ?_; cbv)
| (refine QC.mk (fun hc => ?_) (fun hc => ?_) <;> (try dsimp only at hc) <;> cbv)
| (refine br_mk2 (fun hb => ?_) (fun hb => ?_) <;> (try subst hb) <;> cbv))))
        (refine qv _ (hVi) ?_; cbv; (repeat' (first
| (refine q1w (fun z hz => ?_); (try simp only at hz); cbv)
| (refine rqw ?_; cbv)
| (refine QC.tw ?_; cbv)
| (refine QC.tt ?_ ?_; (focus (simp only [decide_true, Bool.and_true, Bool.and_self] <;> fail)); cbv)
| (refine QC.ff ?_ ?_; (focus (simp only [decide_true, Bool.and_true, Bool.and_self, decide_false, Bool.false_and, reduceCtorEq, not_false_eq_true] <;> fail)); cbv)
| (refine QC.fw ?_; cbv)
| (refine QC.mk (fun hc => ?_) (fun hc => ?_) <;> (try dsimp only at hc) <;> cbv)
| (refine br_mk2 (fun hb => ?_) (fun hb => ?_) <;> (try subst hb) <;> cbv))))
        (refine callq (f6) rfl rfl ?_; cbv; (repeat' (first
| (refine q1w (fun z hz => ?_); (try simp only at hz); cbv)
| (refine rqw ?_; cbv)
| (refine QC.tw ?_; cbv)
| (refine QC.tt ?_ ?_; (focus (simp only [decide_true, Bool.and_true, Bool.and_self] <;> fail)); cbv)
| (refine QC.ff ?_ ?_; (focus (simp only [decide_true, Bool.and_true, Bool.and_self, decide_false, Bool.false_and, reduceCtorEq, not_false_eq_true] <;> fail)); cbv)
| (refine QC.fw ?_; cbv)
| (refine QC.mk (fun hc => ?_) (fun hc => ?_) <;> (try dsimp only at hc) <;> cbv)
| (refine br_mk2 (fun hb => ?_) (fun hb => ?_) <;> (try subst hb) <;> cbv))))
        (refine callq (f7) rfl rfl ?_; cbv; (repeat' (first
| (refine q1w (fun z hz => ?_); (try simp only at hz); cbv)
| (refine rqw ?_; cbv)
| (refine QC.tw ?_; cbv)
| (refine QC.tt ?_ ?_; (focus (simp only [decide_true, Bool.and_true, Bool.and_self] <;> fail)); cbv)
| (refine QC.ff ?_ ?_; (focus (simp only [decide_true, Bool.and_true, Bool.and_self, decide_false, Bool.false_and, reduceCtorEq, not_false_eq_true] <;> fail)); cbv)
| (refine QC.fw ?_; cbv)
| (refine QC.mk (fun hc => ?_) (fun hc => ?_) <;> (try dsimp only at hc) <;> cbv)
| (refine br_mk2 (fun hb => ?_) (fun hb => ?_) <;> (try subst hb) <;> cbv))))
        (refine callq (f8) rfl rfl ?_; cbv; (repeat' (first
| (refine q1w (fun z hz => ?_); (try simp only at hz); cbv)
| (refine rqw ?_; cbv)
| (refine QC.tw ?_; cbv)
| (refine QC.tt ?_ ?_; (focus (simp only [decide_true, Bool.and_true, Bool.and_self] <;> fail)); cbv)
| (refine QC.ff ?_ ?_; (focus (simp only [decide_true, Bool.and_true, Bool.and_self, decide_false, Bool.false_and, reduceCtorEq, not_false_eq_true] <;> fail)); cbv)
| (refine QC.fw ?_; cbv)
| (refine QC.mk (fun hc => ?_) (fun hc => ?_) <;> (try dsimp only at hc) <;> cbv)
| (refine br_mk2 (fun hb => ?_) (fun hb => ?_) <;> (try subst hb) <;> cbv))))
        (refine callq (f9) rfl rfl ?_; cbv; (repeat' (first
| (refine q1w (fun z hz => ?_); (try simp only at hz); cbv)
| (refine rqw ?_; cbv)
| (refine QC.tw ?_; cbv)
| (refine QC.tt ?_ ?_; (focus (simp only [decide_true, Bool.and_true, Bool.and_self] <;> fail)); cbv)
| (refine QC.ff ?_ ?_; (focus (simp only [decide_true, Bool.and_true, Bool.and_self, decide_false, Bool.false_and, reduceCtorEq, not_false_eq_true] <;> fail)); cbv)
| (refine QC.fw ?_; cbv)
| (refine QC.mk (fun hc => ?_) (fun hc => ?_) <;> (try dsimp only at hc) <;> cbv)
| (refine br_mk2 (fun hb => ?_) (fun hb => ?_) <;> (try subst hb) <;> cbv))))
        refine ⟨(i + 1, z), ⟨by show z = ((i + 1 : Nat) : Int); (first | omega | (simp only [cst] at *; omega) | (simp only [sm] at *; omega)), by show i + 1 ≤ 4; omega⟩, by show 4 - (i + 1) < 4 - i; omega, ?_⟩
        cbv
        repeat' (first | exact rfl | exact trivial | apply And.intro)
    · (refine callq (gM) rfl rfl ?_; cbv; (repeat' (first
| (refine q1w (fun z hz => ?_); (try simp only at hz); cbv)
| (refine rqw ?_; cbv)
| (refine QC.tw ?_; cbv)
| (refine QC.tt ?_ ?_; (focus (simp only [decide_true, Bool.and_true, Bool.and_self] <;> fail)); cbv)
| (refine QC.ff ?_ ?_; (focus (simp only [decide_true, Bool.and_true, Bool.and_self, decide_false, Bool.false_and, reduceCtorEq, not_false_eq_true] <;> fail)); cbv)
| (refine QC.fw ?_; cbv)
| (refine QC.mk (fun hc => ?_) (fun hc => ?_) <;> (try dsimp only at hc) <;> cbv)
| (refine br_mk2 (fun hb => ?_) (fun hb => ?_) <;> (try subst hb) <;> cbv))))
      refine loopQ (A := Nat × Int) (fun p => p.2 = p.1 ∧ p.1 ≤ 2) (fun p => 2 - p.1) (fun p => [(33, .int .i64 p.2)]) (fun p => [(201, .row none 3 V2)]) (0, 0) ⟨rfl, by omega⟩ ?_ ?_
      · cbv
        rw [hV2]
        repeat' (first | exact rfl | exact trivial | apply And.intro)
      · intro ⟨i, j⟩ hh
        have hj : j = (i : Int) := hh.1
        have hi : i ≤ 2 := hh.2
        clear hh hV2 hVE hWE hUE gM
        have hmq : True := trivial
        cbv
        (repeat' (first
| (refine q1w (fun z hz => ?_); (try simp only at hz); cbv)
| (refine rqw ?_; cbv)
| (refine QC.tw ?_; cbv)
| (refine QC.tt ?_ ?_; (focus (simp only [decide_true, Bool.and_true, Bool.and_self] <;> fail)); cbv)
| (refine QC.ff ?_ ?_; (focus (simp only [decide_true, Bool.and_true, Bool.and_self, decide_false, Bool.false_and, reduceCtorEq, not_false_eq_true] <;> fail)); cbv)
| (refine QC.fw ?_; cbv)
| (refine QC.mk (fun hc => ?_) (fun hc => ?_) <;> (try dsimp only at hc) <;> cbv)
| (refine br_mk2 (fun hb => ?_) (fun hb => ?_) <;> (try subst hb) <;> cbv)))
        · have hlt : i < 2 := by (first | omega | (simp only [cst] at *; omega) | (simp only [sm] at *; omega))
          obtain ⟨t, hVi, ht1, ht2⟩ := hV2E i hlt
          obtain ⟨y, Y, e, f1, f2, f3⟩ := gR t ⟨ht1, ht2⟩
          clear gR hk hV2E
          (refine qv (i) (by (first | omega | (simp only [cst] at *; omega) | (simp only [sm] at *; omega))) ?_; cbv; (repeat' (first
| (refine q1w (fun z hz => ?_); (try simp only at hz); cbv)
| (refine rqw ?_; cbv)
| (refine QC.tw ?_; cbv)
| (refine QC.tt ?_ ?_; (focus (simp only [decide_true, Bool.and_true, Bool.and_self] <;> fail)); cbv)
| (refine QC.ff ?_ ?_; (focus (simp only [decide_true, Bool.and_true, Bool.and_self, decide_false, Bool.false_and, reduceCtorEq, not_false_eq_true] <;> fail)); cbv)
| (refine QC.fw ?_; cbv)
| (refine QC.mk (fun hc => ?_) (fun hc => ?_) <;> (try dsimp only at hc) <;> cbv)
| (refine br_mk2 (fun hb => ?_) (fun hb => ?_) <;> (try subst hb) <;> cbv))))
          (refine qv _ (hVi) ?_; cbv; (repeat' (first
| (refine q1w (fun z hz => ?_); (try simp only at hz); cbv)
| (refine rqw ?_; cbv)
| (refine QC.tw ?_; cbv)
| (refine QC.tt ?_ ?_; (focus (simp only [decide_true, Bool.and_true, Bool.and_self] <;> fail)); cbv)
| (refine QC.ff ?_ ?_; (focus (simp only [decide_true, Bool.and_true, Bool.and_self, decide_false, Bool.false_and, reduceCtorEq, not_false_eq_true] <;> fail)); cbv)
| (refine QC.fw ?_; cbv)
| (refine QC.mk (fun hc => ?_) (fun hc => ?_) <;> (try dsimp only at hc) <;> cbv)
| (refine br_mk2 (fun hb => ?_) (fun hb => ?_) <;> (try subst hb) <;> cbv))))
          (refine callq (f1) rfl rfl ?_; cbv; (repeat' (first
| (refine q1w (fun z hz => ?_); (try simp only at hz); cbv)
| (refine rqw ?_; cbv)
| (refine QC.tw ?_; cbv)
| (refine QC.tt ?_ ?_; (focus (simp only [decide_true, Bool.and_true, Bool.and_self] <;> fail)); cbv)
| (refine QC.ff ?_ ?_; (focus (simp only [decide_true, Bool.and_true, Bool.and_self, decide_false, Bool.false_and, reduceCtorEq, not_false_eq_true] <;> fail)); cbv)
| (refine QC.fw ?_; cbv)
| (refine QC.mk (fun hc => ?_) (fun hc => ?_) <;> (try dsimp only at hc) <;> cbv)
| (refine br_mk2 (fun hb => ?_) (fun hb => ?_) <;> (try subst hb) <;> cbv))))
          (refine qv (i) (by (first | omega | (simp only [cst] at *; omega) | (simp only [sm] at *; omega))) ?_; cbv; (repeat' (first
| (refine q1w (fun z hz => ?_); (try simp only at hz); cbv)
| (refine rqw ?_; cbv)
| (refine QC.tw ?_; cbv)
| (refine QC.tt ?_ ?_; (focus (simp only [decide_true, Bool.and_true, Bool.and_self] <;> fail)); cbv)
| (refine QC.ff ?_ ?_; (focus (simp only [decide_true, Bool.and_true, Bool.and_self, decide_false, Bool.false_and, reduceCtorEq, not_false_eq_true] <;> fail)); cbv)
| (refine QC.fw ?_; cbv)
| (refine QC.mk (fun hc => ?_) (fun hc => ?_) <;> (try dsimp only at hc) <;> cbv)
| (refine br_mk2 (fun hb => ?_) (fun hb => ?_) <;> (try subst hb) <;> cbv))))
          (refine qv _ (hVi) ?_; cbv; (repeat' (first
| (refine q1w (fun z hz => ?_); (try simp only at hz); cbv)
| (refine rqw ?_; cbv)
| (refine QC.tw ?_; cbv)
| (refine QC.tt ?_ ?_; (focus (simp only [decide_true, Bool.and_true, Bool.and_self] <;> fail)); cbv)
| (refine QC.ff ?_ ?_; (focus (simp only [decide_true, Bool.and_true, Bool.and_self, decide_false, Bool.false_and, reduceCtorEq, not_false_eq_true] <;> fail)); cbv)
| (refine QC.fw ?_; cbv)
| (refine QC.mk (fun hc => ?_) (fun hc => ?_) <;> (try dsimp only at hc) <;> cbv)
| (refine br_mk2 (fun hb => ?_) (fun hb => ?_) <;> (try subst hb) <;> cbv))))
          (refine callq (f2) rfl rfl ?_; cbv; (repeat' (first
| (refine q1w (fun z hz => ?_); (try simp only at hz); cbv)
| (refine rqw ?_; cbv)
| (refine QC.tw ?_; cbv)
| (refine QC.tt ?_ ?_; (focus (simp only [decide_true, Bool.and_true, Bool.and_self] <;> fail)); cbv)
| (refine QC.ff ?_ ?_; (focus (simp only [decide_true, Bool.and_true, Bool.and_self, decide_false, Bool.false_and, reduceCtorEq, not_false_eq_true] <;> fail)); cbv)
| (refine QC.fw ?_; cbv)
| (refine QC.mk (fun hc => ?_) (fun hc => ?_) <;> (try dsimp only at hc) <;> cbv)
| (refine br_mk2 (fun hb => ?_) (fun hb => ?_) <;> (try subst hb) <;> cbv))))
          (refine callq (f3) rfl rfl ?_; cbv; (repeat' (first
| (refine q1w (fun z hz => ?_); (try simp only at hz); cbv)
| (refine rqw ?_; cbv)
| (refine QC.tw ?_; cbv)
| (refine QC.tt ?_ ?_; (focus (simp only [decide_true, Bool.and_true, Bool.and_self] <;> fail)); cbv)
| (refine QC.ff ?_ ?_; (focus (simp only [decide_true, Bool.and_true, Bool.and_self, decide_false, Bool.false_and, reduceCtorEq, not_false_eq_true] <;> fail)); cbv)
| (refine QC.fw ?_; cbv)
| (refine QC.mk (fun hc => ?_) (fun hc => ?_) <;> (try dsimp only at hc) <;> cbv)
| (refine br_mk2 (fun hb => ?_) (fun hb => ?_) <;> (try subst hb) <;> cbv))))
          refine ⟨(i + 1, z), ⟨by show z = ((i + 1 : Nat) : Int); (first | omega | (simp only [cst] at *; omega) | (simp only [sm] at *; omega)), by show i + 1 ≤ 2; omega⟩, by show 2 - (i + 1) < 2 - i; omega, ?_⟩
          cbv
          repeat' (first | exact rfl | exact trivial | apply And.intro)
        · (refine callq (hk) rfl rfl ?_; cbv; (repeat' (first
| (refine q1w (fun z hz => ?_); (try simp only at hz); cbv)
| (refine rqw ?_; cbv)
| (refine QC.tw ?_; cbv)
| (refine QC.tt ?_ ?_; (focus (simp only [decide_true, Bool.and_true, Bool.and_self] <;> fail)); cbv)
| (refine QC.ff ?_ ?_; (focus (simp only [decide_true, Bool.and_true, Bool.and_self, decide_false, Bool.false_and, reduceCtorEq, not_false_eq_true] <;> fail)); cbv)
| (refine QC.fw ?_; cbv)
| (refine QC.mk (fun hc => ?_) (fun hc => ?_) <;> (try dsimp only at hc) <;> cbv)
| (refine br_mk2 (fun hb => ?_) (fun hb => ?_) <;> (try subst hb) <;> cbv))))
          exact ⟨rfl, rfl, rfl⟩
end Go.Proofs.Ytjhicdoigllblaa
