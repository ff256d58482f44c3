/- Texts put together: VK VL Ob XA XB XC XD Opn Opg RO VT OT OU VN VU. -/
import Derived.Test.YtjhicdoigllblaaMc
import Derived.Test.YtjhicdoigllblaaRows
import Derived.ProofKit
import Derived.OpenShut
import Derived.ShutString
import Derived.SizedLaws
import Derived.Lib.SmallJoins
namespace Go.Proofs.Ytjhicdoigllblaa
set_option linter.unusedVariables false
set_option linter.unusedSimpArgs false
open Go.RowKit
set_option maxHeartbeats 8000000
theorem lists_r (ps : List (List UInt8)) (R : List SV) (hR : R = rowsB ps) (hn : ps.length ≤ 5864062014805) (hb : ∀ p ∈ ps, p.length ≤ 140737488351232) : Good 60 (pu [.lst none R, .lst none R] (.bool true)) := by
  have hRl : R.length = ps.length := by rw [hR, rowsB_len]
  have hE := fun i hi => rowsB_at hR i hi
  refine Good.of Try.func60 rfl (by rfl) (by kernel_rfl) ?_
  cbv
  (repeat' (first
| (refine q1w (fun z hz => ?_); (try simp only at hz); cbv)
| (refine rqw ?_; cbv)
| (refine QC.tw ?_; cbv)
| (refine QC.tt ?_ ?_; (focus (simp only [decide_true, Bool.and_true, Bool.and_self] <;> fail)); cbv)
| (refine QC.ff ?_ ?_; (focus (simp only [decide_true, Bool.and_true, Bool.and_self, decide_false, Bool.false_and, reduceCtorEq, not_false_eq_true] <;> fail)); cbv)
| (refine QC.fw ?_; cbv)
| (refine QC.mk (fun hc => ?_) (fun hc => ?_) <;> (try dsimp only at hc) <;> cbv)
| (refine br_mk2 (fun hb => ?_) (fun hb => ?_) <;> (try subst hb) <;> cbv)))
  refine loopQ (A := Nat × Int) (fun p => p.2 = p.1 ∧ p.1 ≤ ps.length) (fun p => ps.length - p.1) (fun p => [(5, .int .i64 p.2)]) (fun p => []) (0, 0) ⟨rfl, Nat.zero_le _⟩ ?_ ?_
  · cbv
  · intro ⟨i, j⟩ hi0
    have hj : j = (i : Int) := hi0.1
    have hi : i ≤ ps.length := hi0.2
    clear hi0
    have hmk : True := trivial
    cbv
    (repeat' (first
| (refine q1w (fun z hz => ?_); (try simp only at hz); cbv)
| (refine rqw ?_; cbv)
| (refine QC.tw ?_; cbv)
| (refine QC.tt ?_ ?_; (focus (simp only [decide_true, Bool.and_true, Bool.and_self] <;> fail)); cbv)
| (refine QC.ff ?_ ?_; (focus (simp only [decide_true, Bool.and_true, Bool.and_self, decide_false, Bool.false_and, reduceCtorEq, not_false_eq_true] <;> fail)); cbv)
| (refine QC.fw ?_; cbv)
| (refine QC.mk (fun hc => ?_) (fun hc => ?_) <;> (try dsimp only at hc) <;> cbv)
| (refine br_mk2 (fun hb => ?_) (fun hb => ?_) <;> (try subst hb) <;> cbv)))
    · have hlt : i < ps.length := by (first | omega | (simp only [cst] at *; omega) | (simp only [sm] at *; omega))
      obtain ⟨b, B, hbi, hB, hEi⟩ := hE i hlt
      have hbl := hb b (List.mem_of_getElem? hbi)
      have g := same_c b b B B true hB hB (by omega) (by omega) (by simp)
      clear hE hR hbi
      skip
      (refine qv (i, _) ⟨hj, hEi⟩ ?_; cbv; (repeat' (first
| (refine q1w (fun z hz => ?_); (try simp only at hz); cbv)
| (refine rqw ?_; cbv)
| (refine QC.tw ?_; cbv)
| (refine QC.tt ?_ ?_; (focus (simp only [decide_true, Bool.and_true, Bool.and_self] <;> fail)); cbv)
| (refine QC.ff ?_ ?_; (focus (simp only [decide_true, Bool.and_true, Bool.and_self, decide_false, Bool.false_and, reduceCtorEq, not_false_eq_true] <;> fail)); cbv)
| (refine QC.fw ?_; cbv)
| (refine QC.mk (fun hc => ?_) (fun hc => ?_) <;> (try dsimp only at hc) <;> cbv)
| (refine br_mk2 (fun hb => ?_) (fun hb => ?_) <;> (try subst hb) <;> cbv))))
      (refine qv (i, _) ⟨hj, hEi⟩ ?_; cbv; (repeat' (first
| (refine q1w (fun z hz => ?_); (try simp only at hz); cbv)
| (refine rqw ?_; cbv)
| (refine QC.tw ?_; cbv)
| (refine QC.tt ?_ ?_; (focus (simp only [decide_true, Bool.and_true, Bool.and_self] <;> fail)); cbv)
| (refine QC.ff ?_ ?_; (focus (simp only [decide_true, Bool.and_true, Bool.and_self, decide_false, Bool.false_and, reduceCtorEq, not_false_eq_true] <;> fail)); cbv)
| (refine QC.fw ?_; cbv)
| (refine QC.mk (fun hc => ?_) (fun hc => ?_) <;> (try dsimp only at hc) <;> cbv)
| (refine br_mk2 (fun hb => ?_) (fun hb => ?_) <;> (try subst hb) <;> cbv))))
      (refine callq (g) rfl rfl ?_; cbv; (repeat' (first
| (refine q1w (fun z hz => ?_); (try simp only at hz); cbv)
| (refine rqw ?_; cbv)
| (refine QC.tw ?_; cbv)
| (refine QC.tt ?_ ?_; (focus (simp only [decide_true, Bool.and_true, Bool.and_self] <;> fail)); cbv)
| (refine QC.ff ?_ ?_; (focus (simp only [decide_true, Bool.and_true, Bool.and_self, decide_false, Bool.false_and, reduceCtorEq, not_false_eq_true] <;> fail)); cbv)
| (refine QC.fw ?_; cbv)
| (refine QC.mk (fun hc => ?_) (fun hc => ?_) <;> (try dsimp only at hc) <;> cbv)
| (refine br_mk2 (fun hb => ?_) (fun hb => ?_) <;> (try subst hb) <;> cbv))))
      refine ⟨(i + 1, z), ⟨by show z = ((i + 1 : Nat) : Int); (first | omega | (simp only [cst] at *; omega) | (simp only [sm] at *; omega)), by show i + 1 ≤ ps.length; omega⟩, by show ps.length - (i + 1) < ps.length - i; omega, ?_⟩
      cbv
    · exact ⟨rfl, rfl, rfl⟩
theorem samesender_r (s : Snd) (R : List SV) (hR : R = rowsB s.ps) (hf : s.fits) : Good 21 (pu [s.w R, s.w R] (.bool true)) := by
  have g := lists_r s.ps R hR hf.n hf.b
  refine Good.of Try.func21 rfl (by rfl) (by kernel_rfl) ?_
  cbv
  (repeat' (first
| (refine q1w (fun z hz => ?_); (try simp only at hz); cbv)
| (refine rqw ?_; cbv)
| (refine QC.tw ?_; cbv)
| (refine QC.tt ?_ ?_; (focus (simp only [decide_true, Bool.and_true, Bool.and_self] <;> fail)); cbv)
| (refine QC.ff ?_ ?_; (focus (simp only [decide_true, Bool.and_true, Bool.and_self, decide_false, Bool.false_and, reduceCtorEq, not_false_eq_true] <;> fail)); cbv)
| (refine QC.fw ?_; cbv)
| (refine QC.mk (fun hc => ?_) (fun hc => ?_) <;> (try dsimp only at hc) <;> cbv)
| (refine br_mk2 (fun hb => ?_) (fun hb => ?_) <;> (try subst hb) <;> cbv)))
  (refine callq (g) rfl rfl ?_; cbv; (repeat' (first
| (refine q1w (fun z hz => ?_); (try simp only at hz); cbv)
| (refine rqw ?_; cbv)
| (refine QC.tw ?_; cbv)
| (refine QC.tt ?_ ?_; (focus (simp only [decide_true, Bool.and_true, Bool.and_self] <;> fail)); cbv)
| (refine QC.ff ?_ ?_; (focus (simp only [decide_true, Bool.and_true, Bool.and_self, decide_false, Bool.false_and, reduceCtorEq, not_false_eq_true] <;> fail)); cbv)
| (refine QC.fw ?_; cbv)
| (refine QC.mk (fun hc => ?_) (fun hc => ?_) <;> (try dsimp only at hc) <;> cbv)
| (refine br_mk2 (fun hb => ?_) (fun hb => ?_) <;> (try subst hb) <;> cbv))))
  exact ⟨rfl, rfl, rfl⟩
theorem samepiece_r (p : Pce) (B : List SV) (hB : B = u8l p.d) (hb : p.d.length ≤ 140737488351232) : Good 48 (pu [.agg [.int .u8 p.tag, .int .i64 p.n, .int .i64 p.c, .bool p.ack, .lst none B], .agg [.int .u8 p.tag, .int .i64 p.n, .int .i64 p.c, .bool p.ack, .lst none B]] (.bool true)) := by
  have g := same_c p.d p.d B B true hB hB (by omega) (by omega) (by simp)
  obtain ⟨pt, pn, pc, pa, pd⟩ := p
  clear hB hb
  cases pa <;> refine Good.of Try.func48 rfl (by rfl) (by kernel_rfl) ?_
  · cbv
    (repeat' (first
| (refine q1w (fun z hz => ?_); (try simp only at hz); cbv)
| (refine rqw ?_; cbv)
| (refine QC.tw ?_; cbv)
| (refine QC.tt ?_ ?_; (focus (simp only [decide_true, Bool.and_true, Bool.and_self] <;> fail)); cbv)
| (refine QC.ff ?_ ?_; (focus (simp only [decide_true, Bool.and_true, Bool.and_self, decide_false, Bool.false_and, reduceCtorEq, not_false_eq_true] <;> fail)); cbv)
| (refine QC.fw ?_; cbv)
| (refine QC.mk (fun hc => ?_) (fun hc => ?_) <;> (try dsimp only at hc) <;> cbv)
| (refine br_mk2 (fun hb => ?_) (fun hb => ?_) <;> (try subst hb) <;> cbv)))
    (refine callq (g) rfl rfl ?_; cbv; (repeat' (first
| (refine q1w (fun z hz => ?_); (try simp only at hz); cbv)
| (refine rqw ?_; cbv)
| (refine QC.tw ?_; cbv)
| (refine QC.tt ?_ ?_; (focus (simp only [decide_true, Bool.and_true, Bool.and_self] <;> fail)); cbv)
| (refine QC.ff ?_ ?_; (focus (simp only [decide_true, Bool.and_true, Bool.and_self, decide_false, Bool.false_and, reduceCtorEq, not_false_eq_true] <;> fail)); cbv)
| (refine QC.fw ?_; cbv)
| (refine QC.mk (fun hc => ?_) (fun hc => ?_) <;> (try dsimp only at hc) <;> cbv)
| (refine br_mk2 (fun hb => ?_) (fun hb => ?_) <;> (try subst hb) <;> cbv))))
    exact ⟨rfl, rfl, rfl⟩
  · cbv
    (repeat' (first
| (refine q1w (fun z hz => ?_); (try simp only at hz); cbv)
| (refine rqw ?_; cbv)
| (refine QC.tw ?_; cbv)
| (refine QC.tt ?_ ?_; (focus (simp only [decide_true, Bool.and_true, Bool.and_self] <;> fail)); cbv)
| (refine QC.ff ?_ ?_; (focus (simp only [decide_true, Bool.and_true, Bool.and_self, decide_false, Bool.false_and, reduceCtorEq, not_false_eq_true] <;> fail)); cbv)
| (refine QC.fw ?_; cbv)
| (refine QC.mk (fun hc => ?_) (fun hc => ?_) <;> (try dsimp only at hc) <;> cbv)
| (refine br_mk2 (fun hb => ?_) (fun hb => ?_) <;> (try subst hb) <;> cbv)))
    (refine callq (g) rfl rfl ?_; cbv; (repeat' (first
| (refine q1w (fun z hz => ?_); (try simp only at hz); cbv)
| (refine rqw ?_; cbv)
| (refine QC.tw ?_; cbv)
| (refine QC.tt ?_ ?_; (focus (simp only [decide_true, Bool.and_true, Bool.and_self] <;> fail)); cbv)
| (refine QC.ff ?_ ?_; (focus (simp only [decide_true, Bool.and_true, Bool.and_self, decide_false, Bool.false_and, reduceCtorEq, not_false_eq_true] <;> fail)); cbv)
| (refine QC.fw ?_; cbv)
| (refine QC.mk (fun hc => ?_) (fun hc => ?_) <;> (try dsimp only at hc) <;> cbv)
| (refine br_mk2 (fun hb => ?_) (fun hb => ?_) <;> (try subst hb) <;> cbv))))
    exact ⟨rfl, rfl, rfl⟩
theorem samepieces_r (l : List Pce) (L : List SV) (hL : L = pcL l) (hn : l.length ≤ 2000000000) (hb : ∀ p ∈ l, p.d.length ≤ 140737488351232) : Good 22 (pu [.lst (some 5) L, .lst (some 5) L] (.bool true)) := by
  have hLl : L.length = l.length := by rw [hL, pcL_len]
  have hE : ∀ i, i < l.length → ∃ (p : Pce) (B : List SV), l[i]? = some p ∧ B = u8l p.d ∧ L[i]? = some (.agg [.int .u8 p.tag, .int .i64 p.n, .int .i64 p.c, .bool p.ack, .lst none B]) := fun i hi => ⟨l[i], _, List.getElem?_eq_getElem hi, rfl, by rw [hL, pcL, List.getElem?_map, List.getElem?_eq_getElem hi]; rfl⟩
  refine Good.of Try.func22 rfl (by rfl) (by kernel_rfl) ?_
  cbv
  (repeat' (first
| (refine q1w (fun z hz => ?_); (try simp only at hz); cbv)
| (refine rqw ?_; cbv)
| (refine QC.tw ?_; cbv)
| (refine QC.tt ?_ ?_; (focus (simp only [decide_true, Bool.and_true, Bool.and_self] <;> fail)); cbv)
| (refine QC.ff ?_ ?_; (focus (simp only [decide_true, Bool.and_true, Bool.and_self, decide_false, Bool.false_and, reduceCtorEq, not_false_eq_true] <;> fail)); cbv)
| (refine QC.fw ?_; cbv)
| (refine QC.mk (fun hc => ?_) (fun hc => ?_) <;> (try dsimp only at hc) <;> cbv)
| (refine br_mk2 (fun hb => ?_) (fun hb => ?_) <;> (try subst hb) <;> cbv)))
  refine loopQ (A := Nat × Int) (fun p => p.2 = p.1 ∧ p.1 ≤ l.length) (fun p => l.length - p.1) (fun p => [(5, .int .i64 p.2)]) (fun p => []) (0, 0) ⟨rfl, Nat.zero_le _⟩ ?_ ?_
  · cbv
  · intro ⟨i, j⟩ hi0
    have hj : j = (i : Int) := hi0.1
    have hi : i ≤ l.length := hi0.2
    clear hi0
    have hmk : True := trivial
    cbv
    (repeat' (first
| (refine q1w (fun z hz => ?_); (try simp only at hz); cbv)
| (refine rqw ?_; cbv)
| (refine QC.tw ?_; cbv)
| (refine QC.tt ?_ ?_; (focus (simp only [decide_true, Bool.and_true, Bool.and_self] <;> fail)); cbv)
| (refine QC.ff ?_ ?_; (focus (simp only [decide_true, Bool.and_true, Bool.and_self, decide_false, Bool.false_and, reduceCtorEq, not_false_eq_true] <;> fail)); cbv)
| (refine QC.fw ?_; cbv)
| (refine QC.mk (fun hc => ?_) (fun hc => ?_) <;> (try dsimp only at hc) <;> cbv)
| (refine br_mk2 (fun hb => ?_) (fun hb => ?_) <;> (try subst hb) <;> cbv)))
    · have hlt : i < l.length := by (first | omega | (simp only [cst] at *; omega) | (simp only [sm] at *; omega))
      obtain ⟨p, B, hbi, hB, hEi⟩ := hE i hlt
      have hbl := hb p (List.mem_of_getElem? hbi)
      have g := samepiece_r p B hB hbl
      clear hE hL hbi
      skip
      (refine qv (i, _) ⟨hj, hEi⟩ ?_; cbv; (repeat' (first
| (refine q1w (fun z hz => ?_); (try simp only at hz); cbv)
| (refine rqw ?_; cbv)
| (refine QC.tw ?_; cbv)
| (refine QC.tt ?_ ?_; (focus (simp only [decide_true, Bool.and_true, Bool.and_self] <;> fail)); cbv)
| (refine QC.ff ?_ ?_; (focus (simp only [decide_true, Bool.and_true, Bool.and_self, decide_false, Bool.false_and, reduceCtorEq, not_false_eq_true] <;> fail)); cbv)
| (refine QC.fw ?_; cbv)
| (refine QC.mk (fun hc => ?_) (fun hc => ?_) <;> (try dsimp only at hc) <;> cbv)
| (refine br_mk2 (fun hb => ?_) (fun hb => ?_) <;> (try subst hb) <;> cbv))))
      (refine qv (i, _) ⟨hj, hEi⟩ ?_; cbv; (repeat' (first
| (refine q1w (fun z hz => ?_); (try simp only at hz); cbv)
| (refine rqw ?_; cbv)
| (refine QC.tw ?_; cbv)
| (refine QC.tt ?_ ?_; (focus (simp only [decide_true, Bool.and_true, Bool.and_self] <;> fail)); cbv)
| (refine QC.ff ?_ ?_; (focus (simp only [decide_true, Bool.and_true, Bool.and_self, decide_false, Bool.false_and, reduceCtorEq, not_false_eq_true] <;> fail)); cbv)
| (refine QC.fw ?_; cbv)
| (refine QC.mk (fun hc => ?_) (fun hc => ?_) <;> (try dsimp only at hc) <;> cbv)
| (refine br_mk2 (fun hb => ?_) (fun hb => ?_) <;> (try subst hb) <;> cbv))))
      (refine callq (g) rfl rfl ?_; cbv; (repeat' (first
| (refine q1w (fun z hz => ?_); (try simp only at hz); cbv)
| (refine rqw ?_; cbv)
| (refine QC.tw ?_; cbv)
| (refine QC.tt ?_ ?_; (focus (simp only [decide_true, Bool.and_true, Bool.and_self] <;> fail)); cbv)
| (refine QC.ff ?_ ?_; (focus (simp only [decide_true, Bool.and_true, Bool.and_self, decide_false, Bool.false_and, reduceCtorEq, not_false_eq_true] <;> fail)); cbv)
| (refine QC.fw ?_; cbv)
| (refine QC.mk (fun hc => ?_) (fun hc => ?_) <;> (try dsimp only at hc) <;> cbv)
| (refine br_mk2 (fun hb => ?_) (fun hb => ?_) <;> (try subst hb) <;> cbv))))
      refine ⟨(i + 1, z), ⟨by show z = ((i + 1 : Nat) : Int); (first | omega | (simp only [cst] at *; omega) | (simp only [sm] at *; omega)), by show i + 1 ≤ l.length; omega⟩, by show l.length - (i + 1) < l.length - i; omega, ?_⟩
      cbv
    · exact ⟨rfl, rfl, rfl⟩
theorem known_vs (ps : List (List UInt8)) (hp : ps = [[0, 0, 0, 0], [0, 0, 0, 0], [0, 0]]) (st ak rd un : Int) (ha : (st = 1 ∧ (ak = 0 ∨ ak = 5))) (hr : 0 ≤ rd ∧ rd ≤ 8) (hu : 0 ≤ un ∧ un ≤ 1099511627776) : vs ⟨st, 1, ps, ak, rd, un⟩ = true := by
  subst hp
  refine (vs_iff _).2 ⟨by simp, by simp, by simp, ?_, hr.1, hr.2, hu.1, hu.2, ?_, ?_⟩
  · show ak ≤ allI 3
    rw [show allI 3 = 7 from rfl]; omega
  · intro h
    have : ak = allI 3 := h
    rw [show allI 3 = 7 from rfl] at this; omega
  · intro _; exact .inl ha.1
theorem opn0 : opn 0 3 = [0, 1, 2] := by decide
theorem opn5 : opn 5 3 = [1] := by decide
theorem known_c : Good 26 (pu [] (.bool true)) := by
  obtain ⟨ps, hps⟩ : ∃ ps : List (List UInt8), ps = [[0, 0, 0, 0], [0, 0, 0, 0], [0, 0]] := ⟨_, rfl⟩
  have hl : ps.length = 3 := by rw [hps]; rfl
  obtain ⟨R, hR⟩ : ∃ R, R = rowsB ps := ⟨_, rfl⟩
  have hf : ∀ st ak rd un : Int, 0 ≤ st ∧ st ≤ 3 → 0 ≤ ak ∧ ak ≤ 7 → 0 ≤ rd ∧ rd ≤ 8 → 0 ≤ un ∧ un ≤ 100 → Snd.fits ⟨st, 1, ps, ak, rd, un⟩ := fun st ak rd un h1 h2 h3 h4 =>
    ⟨by dsimp only; omega, by dsimp only; omega, by dsimp only; omega, by dsimp only; omega, by dsimp only; omega, by dsimp only; omega, by
      dsimp only; rw [hps]; decide⟩
  have g1 := begin_p (List.replicate 10 0) (O.rp 10 (.int .u8 0)) (by rw [orp]; rfl) (by decide) 1 8 (by decide) ⟨1, 1, ps, 0, 0, 0⟩ R hR 0 (by rw [hps]; rfl)
  have n1 : nextP ⟨1, 1, ps, 0, 0, 0⟩ 0 = (⟨1, 1, ps, 0, 1, 8⟩, mark (pre 1 ps 0 3), 0) := by
    rw [nextP, if_neg (by rw [known_vs ps hps 1 0 0 0 (by decide) (by decide) (by decide)]; simp), if_neg (by decide), if_neg (by dsimp only; omega), if_neg (by dsimp only; omega)]
    dsimp only
    rw [hl, opn0]; rfl
  have n2 : ackP ⟨1, 1, ps, 0, 1, 8⟩ 1 5 = (⟨1, 1, ps, 5, 0, 0⟩, 0) := by
    rw [ackP, if_neg (by rw [known_vs ps hps 1 0 1 8 (by decide) (by decide) (by decide)]; simp), if_neg (by dsimp only; omega), if_neg (by dsimp only; omega), ackS]
    dsimp only
    rw [hl, show ackW 5 3 = 5 from rfl, show ackO 5 0 = 5 from rfl, show ackD 5 0 = 5 from rfl, show allI 3 = 7 from rfl, if_neg (by decide), if_neg (by decide), if_neg (by decide)]
  have n3 : nextP ⟨1, 1, ps, 5, 0, 0⟩ 3 = (⟨1, 1, ps, 5, 1, 11⟩, mark (pre 1 ps 5 1), 0) := by
    rw [nextP, if_neg (by rw [known_vs ps hps 1 5 0 0 (by decide) (by decide) (by decide)]; simp), if_neg (by decide), if_neg (by dsimp only; omega), if_neg (by dsimp only; omega)]
    dsimp only
    rw [hl, opn5]; rfl
  obtain ⟨L1, hL1⟩ : ∃ L, L = pcL (mark (pre 1 ps 0 3)) := ⟨_, rfl⟩
  obtain ⟨L2, hL2⟩ : ∃ L, L = pcL (mark (pre 1 ps 5 1)) := ⟨_, rfl⟩
  have e1 : L1.length = 3 ∧ ∃ B, L1[2]? = some (.agg [.int .u8 1, .int .i64 2, .int .i64 3, .bool true, .lst none B]) := by
    rw [hL1, hps]; exact ⟨rfl, _, rfl⟩
  have e2 : L2.length = 1 ∧ ∃ B, L2[0]? = some (.agg [.int .u8 1, .int .i64 1, .int .i64 3, .bool true, .lst none B]) := by
    rw [hL2, hps]; exact ⟨rfl, _, rfl⟩
  have g2 := next_p ⟨1, 1, ps, 0, 0, 0⟩ R hR (hf _ _ _ _ (by decide) (by decide) (by decide) (by decide)) 0 (by decide) _ R hR _ L1 hL1 0 n1
  have g3 := ack_p ⟨1, 1, ps, 0, 1, 8⟩ R hR (hf _ _ _ _ (by decide) (by decide) (by decide) (by decide)) 1 5 (by decide) (by decide) _ R hR 0 n2
  have g4 := next_p ⟨1, 1, ps, 5, 0, 0⟩ R hR (hf _ _ _ _ (by decide) (by decide) (by decide) (by decide)) 3 (by decide) _ R hR _ L2 hL2 0 n3
  have e3 := e1.1
  obtain ⟨B1, e4⟩ := e1.2
  have e5 := e2.1
  obtain ⟨B2, e6⟩ := e2.2
  clear e1 e2 hL1 hL2 n1 n2 n3 hf hR hps hl
  refine Good.of Try.func26 rfl (by rfl) (by kernel_rfl) ?_
  cbv
  have hmk : True := trivial
  (repeat' (first
| (refine q1w (fun z hz => ?_); (try simp only at hz); cbv)
| (refine rqw ?_; cbv)
| (refine QC.tw ?_; cbv)
| (refine QC.tt ?_ ?_; (focus (simp only [decide_true, Bool.and_true, Bool.and_self] <;> fail)); cbv)
| (refine QC.ff ?_ ?_; (focus (simp only [decide_true, Bool.and_true, Bool.and_self, decide_false, Bool.false_and, reduceCtorEq, not_false_eq_true] <;> fail)); cbv)
| (refine QC.fw ?_; cbv)
| (refine QC.mk (fun hc => ?_) (fun hc => ?_) <;> (try dsimp only at hc) <;> cbv)
| (refine br_mk2 (fun hb => ?_) (fun hb => ?_) <;> (try subst hb) <;> cbv)))
  (refine callq (g1) rfl rfl ?_; cbv; (repeat' (first
| (refine q1w (fun z hz => ?_); (try simp only at hz); cbv)
| (refine rqw ?_; cbv)
| (refine QC.tw ?_; cbv)
| (refine QC.tt ?_ ?_; (focus (simp only [decide_true, Bool.and_true, Bool.and_self] <;> fail)); cbv)
| (refine QC.ff ?_ ?_; (focus (simp only [decide_true, Bool.and_true, Bool.and_self, decide_false, Bool.false_and, reduceCtorEq, not_false_eq_true] <;> fail)); cbv)
| (refine QC.fw ?_; cbv)
| (refine QC.mk (fun hc => ?_) (fun hc => ?_) <;> (try dsimp only at hc) <;> cbv)
| (refine br_mk2 (fun hb => ?_) (fun hb => ?_) <;> (try subst hb) <;> cbv))))
  (refine callq (g2) rfl rfl ?_; cbv; (repeat' (first
| (refine q1w (fun z hz => ?_); (try simp only at hz); cbv)
| (refine rqw ?_; cbv)
| (refine QC.tw ?_; cbv)
| (refine QC.tt ?_ ?_; (focus (simp only [decide_true, Bool.and_true, Bool.and_self] <;> fail)); cbv)
| (refine QC.ff ?_ ?_; (focus (simp only [decide_true, Bool.and_true, Bool.and_self, decide_false, Bool.false_and, reduceCtorEq, not_false_eq_true] <;> fail)); cbv)
| (refine QC.fw ?_; cbv)
| (refine QC.mk (fun hc => ?_) (fun hc => ?_) <;> (try dsimp only at hc) <;> cbv)
| (refine br_mk2 (fun hb => ?_) (fun hb => ?_) <;> (try subst hb) <;> cbv))))
  (refine callq (g3) rfl rfl ?_; cbv; (repeat' (first
| (refine q1w (fun z hz => ?_); (try simp only at hz); cbv)
| (refine rqw ?_; cbv)
| (refine QC.tw ?_; cbv)
| (refine QC.tt ?_ ?_; (focus (simp only [decide_true, Bool.and_true, Bool.and_self] <;> fail)); cbv)
| (refine QC.ff ?_ ?_; (focus (simp only [decide_true, Bool.and_true, Bool.and_self, decide_false, Bool.false_and, reduceCtorEq, not_false_eq_true] <;> fail)); cbv)
| (refine QC.fw ?_; cbv)
| (refine QC.mk (fun hc => ?_) (fun hc => ?_) <;> (try dsimp only at hc) <;> cbv)
| (refine br_mk2 (fun hb => ?_) (fun hb => ?_) <;> (try subst hb) <;> cbv))))
  (refine callq (g4) rfl rfl ?_; cbv; (repeat' (first
| (refine q1w (fun z hz => ?_); (try simp only at hz); cbv)
| (refine rqw ?_; cbv)
| (refine QC.tw ?_; cbv)
| (refine QC.tt ?_ ?_; (focus (simp only [decide_true, Bool.and_true, Bool.and_self] <;> fail)); cbv)
| (refine QC.ff ?_ ?_; (focus (simp only [decide_true, Bool.and_true, Bool.and_self, decide_false, Bool.false_and, reduceCtorEq, not_false_eq_true] <;> fail)); cbv)
| (refine QC.fw ?_; cbv)
| (refine QC.mk (fun hc => ?_) (fun hc => ?_) <;> (try dsimp only at hc) <;> cbv)
| (refine br_mk2 (fun hb => ?_) (fun hb => ?_) <;> (try subst hb) <;> cbv))))
  (refine qv (2, _) ⟨rfl, e4⟩ ?_; cbv; (repeat' (first
| (refine q1w (fun z hz => ?_); (try simp only at hz); cbv)
| (refine rqw ?_; cbv)
| (refine QC.tw ?_; cbv)
| (refine QC.tt ?_ ?_; (focus (simp only [decide_true, Bool.and_true, Bool.and_self] <;> fail)); cbv)
| (refine QC.ff ?_ ?_; (focus (simp only [decide_true, Bool.and_true, Bool.and_self, decide_false, Bool.false_and, reduceCtorEq, not_false_eq_true] <;> fail)); cbv)
| (refine QC.fw ?_; cbv)
| (refine QC.mk (fun hc => ?_) (fun hc => ?_) <;> (try dsimp only at hc) <;> cbv)
| (refine br_mk2 (fun hb => ?_) (fun hb => ?_) <;> (try subst hb) <;> cbv))))
  (refine qv (0, _) ⟨rfl, e6⟩ ?_; cbv; (repeat' (first
| (refine q1w (fun z hz => ?_); (try simp only at hz); cbv)
| (refine rqw ?_; cbv)
| (refine QC.tw ?_; cbv)
| (refine QC.tt ?_ ?_; (focus (simp only [decide_true, Bool.and_true, Bool.and_self] <;> fail)); cbv)
| (refine QC.ff ?_ ?_; (focus (simp only [decide_true, Bool.and_true, Bool.and_self, decide_false, Bool.false_and, reduceCtorEq, not_false_eq_true] <;> fail)); cbv)
| (refine QC.fw ?_; cbv)
| (refine QC.mk (fun hc => ?_) (fun hc => ?_) <;> (try dsimp only at hc) <;> cbv)
| (refine br_mk2 (fun hb => ?_) (fun hb => ?_) <;> (try subst hb) <;> cbv))))
  exact ⟨rfl, rfl, rfl⟩
end Go.Proofs.Ytjhicdoigllblaa
namespace Go.Proofs.Ytjhicdoigllblaa
set_option linter.unusedVariables false
set_option linter.unusedSimpArgs false
open Go.RowKit
theorem tape1 (zs : List Int) (hz : ∀ v ∈ zs, -9223372036854775808 ≤ v ∧ v ≤ 9223372036854775807) : Tp ((ints .i64 zs).take 400) 0 :=
  ⟨⟨zs.take 400, by simp [ints], fun v hv => hz v (List.mem_of_mem_take hv), by rw [List.length_take]; omega⟩, by omega⟩
structure Pcs (ps : List (List UInt8)) : Prop where
  n1 : 1 ≤ ps.length
  n2 : ps.length ≤ 32
  ne : ∀ p ∈ ps, p ≠ []
  b : ∀ p ∈ ps, p.length ≤ 140737488351232
theorem Pcs.fits {ps : List (List UInt8)} (h : Pcs ps) {st tag ak rd un : Int} (h1 : 0 ≤ st ∧ st ≤ 3) (h2 : 0 ≤ tag ∧ tag ≤ 255) (h3 : 0 ≤ ak ∧ ak ≤ 4294967295) (h4 : 0 ≤ rd ∧ rd ≤ 8) (h5 : 0 ≤ un ∧ un ≤ 1099511627776) : Snd.fits ⟨st, tag, ps, ak, rd, un⟩ :=
  ⟨by dsimp only; omega, h2, h3, by dsimp only; omega, by dsimp only; omega, by have := h.n2; dsimp only; omega, h.b⟩
theorem allI_pos {n : Nat} (h : 1 ≤ n) : 1 ≤ allI n := by
  rw [allI_nat]
  have : 2 ^ 1 ≤ 2 ^ n := Nat.pow_le_pow_right (by omega) h
  omega
theorem Pcs.vs {ps : List (List UInt8)} (h : Pcs ps) {st tag ak rd un : Int} (h1 : st = 1 ∨ st = 3) (h3 : ak < allI ps.length) (h4 : 0 ≤ rd ∧ rd ≤ 8) (h5 : 0 ≤ un ∧ un ≤ 1099511627776) : vs ⟨st, tag, ps, ak, rd, un⟩ = true :=
  (vs_iff _).2 ⟨h.n1, h.n2, h.ne, by dsimp only; omega, h4.1, h4.2, h5.1, h5.2, fun e => by dsimp only at e; omega, fun _ => h1⟩
theorem Pcs.vs2 {ps : List (List UInt8)} (h : Pcs ps) {tag ak rd un : Int} (h3 : ak = allI ps.length) (h4 : 0 ≤ rd ∧ rd ≤ 8) (h5 : 0 ≤ un ∧ un ≤ 1099511627776) : Go.Proofs.Ytjhicdoigllblaa.vs ⟨2, tag, ps, ak, rd, un⟩ = true :=
  (vs_iff _).2 ⟨h.n1, h.n2, h.ne, by dsimp only; omega, h4.1, h4.2, h5.1, h5.2, fun e => rfl, fun e => absurd h3 e⟩
theorem beg_ok (b : List UInt8) (tag : Int) (sz : Nat) (hb : b.length ≤ 140737488351232) (h1 : 1 ≤ b.length) (hs : 1 ≤ sz) (hn : (b.length - 1) / sz < 32) :
    begP b tag (4 + sz) = (⟨1, tag, chk sz b (nPc b.length sz), 0, 0, 0⟩, 0) ∧ Pcs (chk sz b (nPc b.length sz)) := by
  have e1 : (4 + (sz : Int) - 4).toNat = sz := by omega
  have e2 : ((b.length : Int) - 1) / (4 + (sz : Int) - 4) = (((b.length - 1) / sz : Nat) : Int) := by
    rw [show (4 + (sz : Int) - 4) = sz by omega, show ((b.length : Int) - 1) = ((b.length - 1 : Nat) : Int) by omega]
    exact (Int.natCast_ediv _ _).symm
  refine ⟨?_, ?_, ?_, ?_, ?_⟩
  · rw [begP, if_neg (show ¬ (4 + (sz : Int) ≤ 4) by omega), if_neg (show ¬ (b.length = 0 ∨ 32 ≤ ((b.length : Int) - 1) / (4 + (sz : Int) - 4)) by rw [e2]; omega), e1]
  · rw [chk_len, nPc]; exact Nat.le_add_left 1 _
  · rw [chk_len, nPc]; exact hn
  · intro p hp
    simp only [chk, List.mem_map, List.mem_range] at hp
    obtain ⟨i, hi, rfl⟩ := hp
    have := nPc_lt h1 hs hi
    intro e
    have := congrArg List.length e
    rw [List.length_take, List.length_drop, List.length_nil] at this
    omega
  · intro p hp
    simp only [chk, List.mem_map] at hp
    obtain ⟨i, _, rfl⟩ := hp
    rw [List.length_take, List.length_drop]
    omega
theorem nextP_send {ps : List (List UInt8)} (h : Pcs ps) {tag ak rd un now : Int} (hak : 0 ≤ ak ∧ ak < allI ps.length) (hrd : 0 ≤ rd ∧ rd < 8) (hun : 0 ≤ un ∧ un ≤ 1099511627776) (hnow : un ≤ now ∧ now ≤ 1099511627776) :
    nextP ⟨1, tag, ps, ak, rd, un⟩ now = (⟨1, tag, ps, ak, rd + 1, min (now + 8) 1099511627776⟩, mark (pre tag ps ak (min (opn ak ps.length).length 8)), 0) ∧ 1 ≤ (opn ak ps.length).length := by
  refine ⟨?_, opn_pos hak.1 (by omega) (by omega)⟩
  rw [nextP, if_neg (by rw [h.vs (.inl rfl) hak.2 (by omega) hun]; simp), if_neg (by omega), if_neg (by dsimp only; omega), if_neg (by dsimp only; omega)]
theorem nextP_wait {ps : List (List UInt8)} (h : Pcs ps) {tag ak rd un now : Int} (hak : 0 ≤ ak ∧ ak < allI ps.length) (hrd : 0 ≤ rd ∧ rd ≤ 8) (hun : 0 ≤ un ∧ un ≤ 1099511627776) (hnow : 0 ≤ now ∧ now < un) :
    nextP ⟨1, tag, ps, ak, rd, un⟩ now = (⟨1, tag, ps, ak, rd, un⟩, [], 0) := by
  rw [nextP, if_neg (by rw [h.vs (.inl rfl) hak.2 hrd hun]; simp), if_neg (by omega), if_pos (by dsimp only; omega)]
theorem nextP_fail {ps : List (List UInt8)} (h : Pcs ps) {tag ak un now : Int} (hak : 0 ≤ ak ∧ ak < allI ps.length) (hun : 0 ≤ un ∧ un ≤ 1099511627776) (hnow : un ≤ now ∧ now ≤ 1099511627776) :
    nextP ⟨1, tag, ps, ak, 8, un⟩ now = (⟨3, tag, ps, ak, 8, un⟩, [], 0) := by
  rw [nextP, if_neg (by rw [h.vs (.inl rfl) hak.2 (by omega) hun]; simp), if_neg (by omega), if_neg (by dsimp only; omega), if_pos (by dsimp only)]
theorem sent_len (tag : Int) (ps : List (List UInt8)) (ak : Int) : (mark (pre tag ps ak (min (opn ak ps.length).length 8))).length = min (opn ak ps.length).length 8 := by
  rw [mark_len, pre_len _ _ _ _ (by omega)]
end Go.Proofs.Ytjhicdoigllblaa
namespace Go.Proofs.Ytjhicdoigllblaa
set_option linter.unusedVariables false
set_option linter.unusedSimpArgs false
theorem orbit {A : Type} (I C : A → Prop) (μ : A → Nat) (R : A → A → Prop) (h : ∀ a, I a → C a → ∃ a', I a' ∧ μ a' < μ a ∧ R a a') (a0 : A) (h0 : I a0) :
    ∃ (fin : A) (S : A → Prop), S a0 ∧ (∀ a, S a → I a) ∧ (∀ a, S a → C a → ∃ a', S a' ∧ μ a' < μ a ∧ R a a') ∧ (∀ a, S a → ¬ C a → a = fin) ∧ I fin ∧ ¬ C fin := by
  have key : ∀ n a, μ a = n → I a → ∃ (fin : A) (S : A → Prop), S a ∧ (∀ a, S a → I a) ∧ (∀ a, S a → C a → ∃ a', S a' ∧ μ a' < μ a ∧ R a a') ∧ (∀ a, S a → ¬ C a → a = fin) ∧ I fin ∧ ¬ C fin := by
    intro n
    induction n using Nat.strongRecOn with
    | _ n ih =>
      intro a hn hI
      by_cases hC : C a
      · obtain ⟨a', h1, h2, h3⟩ := h a hI hC
        obtain ⟨fin, S, s0, s1, s2, s3, s4, s5⟩ := ih (μ a') (hn ▸ h2) a' rfl h1
        refine ⟨fin, fun x => x = a ∨ S x, .inl rfl, fun x hx => ?_, fun x hx hc => ?_, fun x hx hc => ?_, s4, s5⟩
        · rcases hx with rfl | hx
          · exact hI
          · exact s1 x hx
        · rcases hx with rfl | hx
          · exact ⟨a', .inr s0, h2, h3⟩
          · obtain ⟨y, y1, y2, y3⟩ := s2 x hx hc
            exact ⟨y, .inr y1, y2, y3⟩
        · rcases hx with rfl | hx
          · exact absurd hC hc
          · exact s3 x hx hc
      · exact ⟨a, fun x => x = a, rfl, fun x hx => hx ▸ hI, fun x hx hc => absurd (hx ▸ hc) hC, fun x hx _ => hx, hI, hC⟩
  exact key _ a0 rfl h0
end Go.Proofs.Ytjhicdoigllblaa
namespace Go.Proofs.Ytjhicdoigllblaa
set_option linter.unusedVariables false
set_option linter.unusedSimpArgs false
open Go.RowKit
set_option maxHeartbeats 8000000
theorem word_e {L : List SV} {a : Int} (h : Tp L a) : ∃ v b, 0 ≤ v ∧ v ≤ 18446744073709551615 ∧ Tp L b ∧
    Good 50 (le 81 (.agg [.lst none L, .int .i64 a]) [] (.int .u64 v) (.agg [.lst none L, .int .i64 b])) := by
  obtain ⟨r1, b1, p1, u1, t1, g1⟩ := next_e h 65536 (by omega)
  obtain ⟨r2, b2, p2, u2, t2, g2⟩ := next_e t1 5 (by omega)
  obtain ⟨v, hv⟩ : ∃ v, v = if r2 = 0 then r1 else if r2 = 1 then r1 * 281474976710656 + r1 else if r2 = 2 then 9223372036854775808 + r1 else if r2 = 3 then 18446744073709551615 - r1 % 4 else r1 % 4 := ⟨_, rfl⟩
  refine ⟨v, b2, ?_, ?_, t2, ?_⟩
  · rw [hv]; repeat' split
    all_goals omega
  · rw [hv]; repeat' split
    all_goals omega
  · refine Good.of Try.func50 rfl (by rfl) (by kernel_rfl) ?_
    cbv
    have hmk : True := trivial
    (repeat' (first
| (refine q1w (fun z hz => ?_); (try simp only at hz); cbv)
| (refine rqw ?_; cbv)
| (refine QC.tw ?_; cbv)
| (refine QC.tt ?_ ?_; (focus (simp only [decide_true, Bool.and_true, Bool.and_self] <;> fail)); cbv)
| (refine QC.ff ?_ ?_; (focus (simp only [decide_true, Bool.and_true, Bool.and_self, decide_false, Bool.false_and, reduceCtorEq, not_false_eq_true] <;> fail)); cbv)
| (refine QC.fw ?_; cbv)
| (refine QC.mk (fun hc => ?_) (fun hc => ?_) <;> (try dsimp only at hc) <;> cbv)
| (refine br_mk2 (fun hb => ?_) (fun hb => ?_) <;> (try subst hb) <;> cbv)))
    (refine callq (g1) rfl rfl ?_; cbv; (repeat' (first
| (refine q1w (fun z hz => ?_); (try simp only at hz); cbv)
| (refine rqw ?_; cbv)
| (refine QC.tw ?_; cbv)
| (refine QC.tt ?_ ?_; (focus (simp only [decide_true, Bool.and_true, Bool.and_self] <;> fail)); cbv)
| (refine QC.ff ?_ ?_; (focus (simp only [decide_true, Bool.and_true, Bool.and_self, decide_false, Bool.false_and, reduceCtorEq, not_false_eq_true] <;> fail)); cbv)
| (refine QC.fw ?_; cbv)
| (refine QC.mk (fun hc => ?_) (fun hc => ?_) <;> (try dsimp only at hc) <;> cbv)
| (refine br_mk2 (fun hb => ?_) (fun hb => ?_) <;> (try subst hb) <;> cbv))))
    (refine callq (g2) rfl rfl ?_; cbv; (repeat' (first
| (refine q1w (fun z hz => ?_); (try simp only at hz); cbv)
| (refine rqw ?_; cbv)
| (refine QC.tw ?_; cbv)
| (refine QC.tt ?_ ?_; (focus (simp only [decide_true, Bool.and_true, Bool.and_self] <;> fail)); cbv)
| (refine QC.ff ?_ ?_; (focus (simp only [decide_true, Bool.and_true, Bool.and_self, decide_false, Bool.false_and, reduceCtorEq, not_false_eq_true] <;> fail)); cbv)
| (refine QC.fw ?_; cbv)
| (refine QC.mk (fun hc => ?_) (fun hc => ?_) <;> (try dsimp only at hc) <;> cbv)
| (refine br_mk2 (fun hb => ?_) (fun hb => ?_) <;> (try subst hb) <;> cbv))))
    all_goals
      (try simp only [show (2 : Int) ^ Int.toNat 48 = 281474976710656 from rfl] at *)
      have hzv : z = v := by
        rw [hv]
        repeat' split
        all_goals omega
      subst hzv
      exact ⟨rfl, rfl, rfl⟩
theorem now_e {L : List SV} {a : Int} (h : Tp L a) : ∃ t b, (-1 ≤ t ∧ t ≤ 1099511627777) ∧ Tp L b ∧
    Good 13 (le 81 (.agg [.lst none L, .int .i64 a]) [] (.int .i64 t) (.agg [.lst none L, .int .i64 b])) := by
  obtain ⟨n1, b1, p1, u1, t1, g1⟩ := next_e h 60 (by omega)
  obtain ⟨n2, b2, p2, u2, t2, g2⟩ := next_e t1 60 (by omega)
  obtain ⟨n3, b3, p3, u3, t3, g3⟩ := next_e t2 60 (by omega)
  obtain ⟨n4, b4, p4, u4, t4, g4⟩ := next_e t3 6 (by omega)
  rcases (show n4 = 0 ∨ n4 = 1 ∨ n4 = 2 ∨ n4 = 3 ∨ n4 = 4 ∨ n4 = 5 by omega) with e | e | e | e | e | e
  all_goals subst e
  · refine ⟨n1, b4, by omega, t4, ?_⟩
    refine Good.of Try.func13 rfl (by rfl) (by kernel_rfl) ?_
    cbv
    (repeat' (first
| (refine q1w (fun z hz => ?_); (try simp only at hz); cbv)
| (refine rqw ?_; cbv)
| (refine QC.tw ?_; cbv)
| (refine QC.tt ?_ ?_; (focus (simp only [decide_true, Bool.and_true, Bool.and_self] <;> fail)); cbv)
| (refine QC.ff ?_ ?_; (focus (simp only [decide_true, Bool.and_true, Bool.and_self, decide_false, Bool.false_and, reduceCtorEq, not_false_eq_true] <;> fail)); cbv)
| (refine QC.fw ?_; cbv)
| (refine QC.mk (fun hc => ?_) (fun hc => ?_) <;> (try dsimp only at hc) <;> cbv)
| (refine br_mk2 (fun hb => ?_) (fun hb => ?_) <;> (try subst hb) <;> cbv)))
    (refine callq (g1) rfl rfl ?_; cbv; (repeat' (first
| (refine q1w (fun z hz => ?_); (try simp only at hz); cbv)
| (refine rqw ?_; cbv)
| (refine QC.tw ?_; cbv)
| (refine QC.tt ?_ ?_; (focus (simp only [decide_true, Bool.and_true, Bool.and_self] <;> fail)); cbv)
| (refine QC.ff ?_ ?_; (focus (simp only [decide_true, Bool.and_true, Bool.and_self, decide_false, Bool.false_and, reduceCtorEq, not_false_eq_true] <;> fail)); cbv)
| (refine QC.fw ?_; cbv)
| (refine QC.mk (fun hc => ?_) (fun hc => ?_) <;> (try dsimp only at hc) <;> cbv)
| (refine br_mk2 (fun hb => ?_) (fun hb => ?_) <;> (try subst hb) <;> cbv))))
    (refine callq (g2) rfl rfl ?_; cbv; (repeat' (first
| (refine q1w (fun z hz => ?_); (try simp only at hz); cbv)
| (refine rqw ?_; cbv)
| (refine QC.tw ?_; cbv)
| (refine QC.tt ?_ ?_; (focus (simp only [decide_true, Bool.and_true, Bool.and_self] <;> fail)); cbv)
| (refine QC.ff ?_ ?_; (focus (simp only [decide_true, Bool.and_true, Bool.and_self, decide_false, Bool.false_and, reduceCtorEq, not_false_eq_true] <;> fail)); cbv)
| (refine QC.fw ?_; cbv)
| (refine QC.mk (fun hc => ?_) (fun hc => ?_) <;> (try dsimp only at hc) <;> cbv)
| (refine br_mk2 (fun hb => ?_) (fun hb => ?_) <;> (try subst hb) <;> cbv))))
    (refine callq (g3) rfl rfl ?_; cbv; (repeat' (first
| (refine q1w (fun z hz => ?_); (try simp only at hz); cbv)
| (refine rqw ?_; cbv)
| (refine QC.tw ?_; cbv)
| (refine QC.tt ?_ ?_; (focus (simp only [decide_true, Bool.and_true, Bool.and_self] <;> fail)); cbv)
| (refine QC.ff ?_ ?_; (focus (simp only [decide_true, Bool.and_true, Bool.and_self, decide_false, Bool.false_and, reduceCtorEq, not_false_eq_true] <;> fail)); cbv)
| (refine QC.fw ?_; cbv)
| (refine QC.mk (fun hc => ?_) (fun hc => ?_) <;> (try dsimp only at hc) <;> cbv)
| (refine br_mk2 (fun hb => ?_) (fun hb => ?_) <;> (try subst hb) <;> cbv))))
    (refine callq (g4) rfl rfl ?_; cbv; (repeat' (first
| (refine q1w (fun z hz => ?_); (try simp only at hz); cbv)
| (refine rqw ?_; cbv)
| (refine QC.tw ?_; cbv)
| (refine QC.tt ?_ ?_; (focus (simp only [decide_true, Bool.and_true, Bool.and_self] <;> fail)); cbv)
| (refine QC.ff ?_ ?_; (focus (simp only [decide_true, Bool.and_true, Bool.and_self, decide_false, Bool.false_and, reduceCtorEq, not_false_eq_true] <;> fail)); cbv)
| (refine QC.fw ?_; cbv)
| (refine QC.mk (fun hc => ?_) (fun hc => ?_) <;> (try dsimp only at hc) <;> cbv)
| (refine br_mk2 (fun hb => ?_) (fun hb => ?_) <;> (try subst hb) <;> cbv))))
    refine qv 0 (by simp only [sm]; exact ⟨rfl, by decide⟩) ?_
    cbv
    refine qv _ rfl ?_
    cbv
    (repeat' (first
| (refine q1w (fun z hz => ?_); (try simp only at hz); cbv)
| (refine rqw ?_; cbv)
| (refine QC.tw ?_; cbv)
| (refine QC.tt ?_ ?_; (focus (simp only [decide_true, Bool.and_true, Bool.and_self] <;> fail)); cbv)
| (refine QC.ff ?_ ?_; (focus (simp only [decide_true, Bool.and_true, Bool.and_self, decide_false, Bool.false_and, reduceCtorEq, not_false_eq_true] <;> fail)); cbv)
| (refine QC.fw ?_; cbv)
| (refine QC.mk (fun hc => ?_) (fun hc => ?_) <;> (try dsimp only at hc) <;> cbv)
| (refine br_mk2 (fun hb => ?_) (fun hb => ?_) <;> (try subst hb) <;> cbv)))
    exact ⟨rfl, rfl, rfl⟩
  · refine ⟨n2, b4, by omega, t4, ?_⟩
    refine Good.of Try.func13 rfl (by rfl) (by kernel_rfl) ?_
    cbv
    (repeat' (first
| (refine q1w (fun z hz => ?_); (try simp only at hz); cbv)
| (refine rqw ?_; cbv)
| (refine QC.tw ?_; cbv)
| (refine QC.tt ?_ ?_; (focus (simp only [decide_true, Bool.and_true, Bool.and_self] <;> fail)); cbv)
| (refine QC.ff ?_ ?_; (focus (simp only [decide_true, Bool.and_true, Bool.and_self, decide_false, Bool.false_and, reduceCtorEq, not_false_eq_true] <;> fail)); cbv)
| (refine QC.fw ?_; cbv)
| (refine QC.mk (fun hc => ?_) (fun hc => ?_) <;> (try dsimp only at hc) <;> cbv)
| (refine br_mk2 (fun hb => ?_) (fun hb => ?_) <;> (try subst hb) <;> cbv)))
    (refine callq (g1) rfl rfl ?_; cbv; (repeat' (first
| (refine q1w (fun z hz => ?_); (try simp only at hz); cbv)
| (refine rqw ?_; cbv)
| (refine QC.tw ?_; cbv)
| (refine QC.tt ?_ ?_; (focus (simp only [decide_true, Bool.and_true, Bool.and_self] <;> fail)); cbv)
| (refine QC.ff ?_ ?_; (focus (simp only [decide_true, Bool.and_true, Bool.and_self, decide_false, Bool.false_and, reduceCtorEq, not_false_eq_true] <;> fail)); cbv)
| (refine QC.fw ?_; cbv)
| (refine QC.mk (fun hc => ?_) (fun hc => ?_) <;> (try dsimp only at hc) <;> cbv)
| (refine br_mk2 (fun hb => ?_) (fun hb => ?_) <;> (try subst hb) <;> cbv))))
    (refine callq (g2) rfl rfl ?_; cbv; (repeat' (first
| (refine q1w (fun z hz => ?_); (try simp only at hz); cbv)
| (refine rqw ?_; cbv)
| (refine QC.tw ?_; cbv)
| (refine QC.tt ?_ ?_; (focus (simp only [decide_true, Bool.and_true, Bool.and_self] <;> fail)); cbv)
| (refine QC.ff ?_ ?_; (focus (simp only [decide_true, Bool.and_true, Bool.and_self, decide_false, Bool.false_and, reduceCtorEq, not_false_eq_true] <;> fail)); cbv)
| (refine QC.fw ?_; cbv)
| (refine QC.mk (fun hc => ?_) (fun hc => ?_) <;> (try dsimp only at hc) <;> cbv)
| (refine br_mk2 (fun hb => ?_) (fun hb => ?_) <;> (try subst hb) <;> cbv))))
    (refine callq (g3) rfl rfl ?_; cbv; (repeat' (first
| (refine q1w (fun z hz => ?_); (try simp only at hz); cbv)
| (refine rqw ?_; cbv)
| (refine QC.tw ?_; cbv)
| (refine QC.tt ?_ ?_; (focus (simp only [decide_true, Bool.and_true, Bool.and_self] <;> fail)); cbv)
| (refine QC.ff ?_ ?_; (focus (simp only [decide_true, Bool.and_true, Bool.and_self, decide_false, Bool.false_and, reduceCtorEq, not_false_eq_true] <;> fail)); cbv)
| (refine QC.fw ?_; cbv)
| (refine QC.mk (fun hc => ?_) (fun hc => ?_) <;> (try dsimp only at hc) <;> cbv)
| (refine br_mk2 (fun hb => ?_) (fun hb => ?_) <;> (try subst hb) <;> cbv))))
    (refine callq (g4) rfl rfl ?_; cbv; (repeat' (first
| (refine q1w (fun z hz => ?_); (try simp only at hz); cbv)
| (refine rqw ?_; cbv)
| (refine QC.tw ?_; cbv)
| (refine QC.tt ?_ ?_; (focus (simp only [decide_true, Bool.and_true, Bool.and_self] <;> fail)); cbv)
| (refine QC.ff ?_ ?_; (focus (simp only [decide_true, Bool.and_true, Bool.and_self, decide_false, Bool.false_and, reduceCtorEq, not_false_eq_true] <;> fail)); cbv)
| (refine QC.fw ?_; cbv)
| (refine QC.mk (fun hc => ?_) (fun hc => ?_) <;> (try dsimp only at hc) <;> cbv)
| (refine br_mk2 (fun hb => ?_) (fun hb => ?_) <;> (try subst hb) <;> cbv))))
    refine qv 1 (by simp only [sm]; exact ⟨rfl, by decide⟩) ?_
    cbv
    refine qv _ rfl ?_
    cbv
    (repeat' (first
| (refine q1w (fun z hz => ?_); (try simp only at hz); cbv)
| (refine rqw ?_; cbv)
| (refine QC.tw ?_; cbv)
| (refine QC.tt ?_ ?_; (focus (simp only [decide_true, Bool.and_true, Bool.and_self] <;> fail)); cbv)
| (refine QC.ff ?_ ?_; (focus (simp only [decide_true, Bool.and_true, Bool.and_self, decide_false, Bool.false_and, reduceCtorEq, not_false_eq_true] <;> fail)); cbv)
| (refine QC.fw ?_; cbv)
| (refine QC.mk (fun hc => ?_) (fun hc => ?_) <;> (try dsimp only at hc) <;> cbv)
| (refine br_mk2 (fun hb => ?_) (fun hb => ?_) <;> (try subst hb) <;> cbv)))
    exact ⟨rfl, rfl, rfl⟩
  · refine ⟨n3, b4, by omega, t4, ?_⟩
    refine Good.of Try.func13 rfl (by rfl) (by kernel_rfl) ?_
    cbv
    (repeat' (first
| (refine q1w (fun z hz => ?_); (try simp only at hz); cbv)
| (refine rqw ?_; cbv)
| (refine QC.tw ?_; cbv)
| (refine QC.tt ?_ ?_; (focus (simp only [decide_true, Bool.and_true, Bool.and_self] <;> fail)); cbv)
| (refine QC.ff ?_ ?_; (focus (simp only [decide_true, Bool.and_true, Bool.and_self, decide_false, Bool.false_and, reduceCtorEq, not_false_eq_true] <;> fail)); cbv)
| (refine QC.fw ?_; cbv)
| (refine QC.mk (fun hc => ?_) (fun hc => ?_) <;> (try dsimp only at hc) <;> cbv)
| (refine br_mk2 (fun hb => ?_) (fun hb => ?_) <;> (try subst hb) <;> cbv)))
    (refine callq (g1) rfl rfl ?_; cbv; (repeat' (first
| (refine q1w (fun z hz => ?_); (try simp only at hz); cbv)
| (refine rqw ?_; cbv)
| (refine QC.tw ?_; cbv)
| (refine QC.tt ?_ ?_; (focus (simp only [decide_true, Bool.and_true, Bool.and_self] <;> fail)); cbv)
| (refine QC.ff ?_ ?_; (focus (simp only [decide_true, Bool.and_true, Bool.and_self, decide_false, Bool.false_and, reduceCtorEq, not_false_eq_true] <;> fail)); cbv)
| (refine QC.fw ?_; cbv)
| (refine QC.mk (fun hc => ?_) (fun hc => ?_) <;> (try dsimp only at hc) <;> cbv)
| (refine br_mk2 (fun hb => ?_) (fun hb => ?_) <;> (try subst hb) <;> cbv))))
    (refine callq (g2) rfl rfl ?_; cbv; (repeat' (first
| (refine q1w (fun z hz => ?_); (try simp only at hz); cbv)
| (refine rqw ?_; cbv)
| (refine QC.tw ?_; cbv)
| (refine QC.tt ?_ ?_; (focus (simp only [decide_true, Bool.and_true, Bool.and_self] <;> fail)); cbv)
| (refine QC.ff ?_ ?_; (focus (simp only [decide_true, Bool.and_true, Bool.and_self, decide_false, Bool.false_and, reduceCtorEq, not_false_eq_true] <;> fail)); cbv)
| (refine QC.fw ?_; cbv)
| (refine QC.mk (fun hc => ?_) (fun hc => ?_) <;> (try dsimp only at hc) <;> cbv)
| (refine br_mk2 (fun hb => ?_) (fun hb => ?_) <;> (try subst hb) <;> cbv))))
    (refine callq (g3) rfl rfl ?_; cbv; (repeat' (first
| (refine q1w (fun z hz => ?_); (try simp only at hz); cbv)
| (refine rqw ?_; cbv)
| (refine QC.tw ?_; cbv)
| (refine QC.tt ?_ ?_; (focus (simp only [decide_true, Bool.and_true, Bool.and_self] <;> fail)); cbv)
| (refine QC.ff ?_ ?_; (focus (simp only [decide_true, Bool.and_true, Bool.and_self, decide_false, Bool.false_and, reduceCtorEq, not_false_eq_true] <;> fail)); cbv)
| (refine QC.fw ?_; cbv)
| (refine QC.mk (fun hc => ?_) (fun hc => ?_) <;> (try dsimp only at hc) <;> cbv)
| (refine br_mk2 (fun hb => ?_) (fun hb => ?_) <;> (try subst hb) <;> cbv))))
    (refine callq (g4) rfl rfl ?_; cbv; (repeat' (first
| (refine q1w (fun z hz => ?_); (try simp only at hz); cbv)
| (refine rqw ?_; cbv)
| (refine QC.tw ?_; cbv)
| (refine QC.tt ?_ ?_; (focus (simp only [decide_true, Bool.and_true, Bool.and_self] <;> fail)); cbv)
| (refine QC.ff ?_ ?_; (focus (simp only [decide_true, Bool.and_true, Bool.and_self, decide_false, Bool.false_and, reduceCtorEq, not_false_eq_true] <;> fail)); cbv)
| (refine QC.fw ?_; cbv)
| (refine QC.mk (fun hc => ?_) (fun hc => ?_) <;> (try dsimp only at hc) <;> cbv)
| (refine br_mk2 (fun hb => ?_) (fun hb => ?_) <;> (try subst hb) <;> cbv))))
    refine qv 2 (by simp only [sm]; exact ⟨rfl, by decide⟩) ?_
    cbv
    refine qv _ rfl ?_
    cbv
    (repeat' (first
| (refine q1w (fun z hz => ?_); (try simp only at hz); cbv)
| (refine rqw ?_; cbv)
| (refine QC.tw ?_; cbv)
| (refine QC.tt ?_ ?_; (focus (simp only [decide_true, Bool.and_true, Bool.and_self] <;> fail)); cbv)
| (refine QC.ff ?_ ?_; (focus (simp only [decide_true, Bool.and_true, Bool.and_self, decide_false, Bool.false_and, reduceCtorEq, not_false_eq_true] <;> fail)); cbv)
| (refine QC.fw ?_; cbv)
| (refine QC.mk (fun hc => ?_) (fun hc => ?_) <;> (try dsimp only at hc) <;> cbv)
| (refine br_mk2 (fun hb => ?_) (fun hb => ?_) <;> (try subst hb) <;> cbv)))
    exact ⟨rfl, rfl, rfl⟩
  · refine ⟨1099511627776, b4, by omega, t4, ?_⟩
    refine Good.of Try.func13 rfl (by rfl) (by kernel_rfl) ?_
    cbv
    (repeat' (first
| (refine q1w (fun z hz => ?_); (try simp only at hz); cbv)
| (refine rqw ?_; cbv)
| (refine QC.tw ?_; cbv)
| (refine QC.tt ?_ ?_; (focus (simp only [decide_true, Bool.and_true, Bool.and_self] <;> fail)); cbv)
| (refine QC.ff ?_ ?_; (focus (simp only [decide_true, Bool.and_true, Bool.and_self, decide_false, Bool.false_and, reduceCtorEq, not_false_eq_true] <;> fail)); cbv)
| (refine QC.fw ?_; cbv)
| (refine QC.mk (fun hc => ?_) (fun hc => ?_) <;> (try dsimp only at hc) <;> cbv)
| (refine br_mk2 (fun hb => ?_) (fun hb => ?_) <;> (try subst hb) <;> cbv)))
    (refine callq (g1) rfl rfl ?_; cbv; (repeat' (first
| (refine q1w (fun z hz => ?_); (try simp only at hz); cbv)
| (refine rqw ?_; cbv)
| (refine QC.tw ?_; cbv)
| (refine QC.tt ?_ ?_; (focus (simp only [decide_true, Bool.and_true, Bool.and_self] <;> fail)); cbv)
| (refine QC.ff ?_ ?_; (focus (simp only [decide_true, Bool.and_true, Bool.and_self, decide_false, Bool.false_and, reduceCtorEq, not_false_eq_true] <;> fail)); cbv)
| (refine QC.fw ?_; cbv)
| (refine QC.mk (fun hc => ?_) (fun hc => ?_) <;> (try dsimp only at hc) <;> cbv)
| (refine br_mk2 (fun hb => ?_) (fun hb => ?_) <;> (try subst hb) <;> cbv))))
    (refine callq (g2) rfl rfl ?_; cbv; (repeat' (first
| (refine q1w (fun z hz => ?_); (try simp only at hz); cbv)
| (refine rqw ?_; cbv)
| (refine QC.tw ?_; cbv)
| (refine QC.tt ?_ ?_; (focus (simp only [decide_true, Bool.and_true, Bool.and_self] <;> fail)); cbv)
| (refine QC.ff ?_ ?_; (focus (simp only [decide_true, Bool.and_true, Bool.and_self, decide_false, Bool.false_and, reduceCtorEq, not_false_eq_true] <;> fail)); cbv)
| (refine QC.fw ?_; cbv)
| (refine QC.mk (fun hc => ?_) (fun hc => ?_) <;> (try dsimp only at hc) <;> cbv)
| (refine br_mk2 (fun hb => ?_) (fun hb => ?_) <;> (try subst hb) <;> cbv))))
    (refine callq (g3) rfl rfl ?_; cbv; (repeat' (first
| (refine q1w (fun z hz => ?_); (try simp only at hz); cbv)
| (refine rqw ?_; cbv)
| (refine QC.tw ?_; cbv)
| (refine QC.tt ?_ ?_; (focus (simp only [decide_true, Bool.and_true, Bool.and_self] <;> fail)); cbv)
| (refine QC.ff ?_ ?_; (focus (simp only [decide_true, Bool.and_true, Bool.and_self, decide_false, Bool.false_and, reduceCtorEq, not_false_eq_true] <;> fail)); cbv)
| (refine QC.fw ?_; cbv)
| (refine QC.mk (fun hc => ?_) (fun hc => ?_) <;> (try dsimp only at hc) <;> cbv)
| (refine br_mk2 (fun hb => ?_) (fun hb => ?_) <;> (try subst hb) <;> cbv))))
    (refine callq (g4) rfl rfl ?_; cbv; (repeat' (first
| (refine q1w (fun z hz => ?_); (try simp only at hz); cbv)
| (refine rqw ?_; cbv)
| (refine QC.tw ?_; cbv)
| (refine QC.tt ?_ ?_; (focus (simp only [decide_true, Bool.and_true, Bool.and_self] <;> fail)); cbv)
| (refine QC.ff ?_ ?_; (focus (simp only [decide_true, Bool.and_true, Bool.and_self, decide_false, Bool.false_and, reduceCtorEq, not_false_eq_true] <;> fail)); cbv)
| (refine QC.fw ?_; cbv)
| (refine QC.mk (fun hc => ?_) (fun hc => ?_) <;> (try dsimp only at hc) <;> cbv)
| (refine br_mk2 (fun hb => ?_) (fun hb => ?_) <;> (try subst hb) <;> cbv))))
    refine qv 3 (by simp only [sm]; exact ⟨rfl, by decide⟩) ?_
    cbv
    refine qv _ rfl ?_
    cbv
    (repeat' (first
| (refine q1w (fun z hz => ?_); (try simp only at hz); cbv)
| (refine rqw ?_; cbv)
| (refine QC.tw ?_; cbv)
| (refine QC.tt ?_ ?_; (focus (simp only [decide_true, Bool.and_true, Bool.and_self] <;> fail)); cbv)
| (refine QC.ff ?_ ?_; (focus (simp only [decide_true, Bool.and_true, Bool.and_self, decide_false, Bool.false_and, reduceCtorEq, not_false_eq_true] <;> fail)); cbv)
| (refine QC.fw ?_; cbv)
| (refine QC.mk (fun hc => ?_) (fun hc => ?_) <;> (try dsimp only at hc) <;> cbv)
| (refine br_mk2 (fun hb => ?_) (fun hb => ?_) <;> (try subst hb) <;> cbv)))
    exact ⟨rfl, rfl, rfl⟩
  · refine ⟨1099511627777, b4, by omega, t4, ?_⟩
    refine Good.of Try.func13 rfl (by rfl) (by kernel_rfl) ?_
    cbv
    (repeat' (first
| (refine q1w (fun z hz => ?_); (try simp only at hz); cbv)
| (refine rqw ?_; cbv)
| (refine QC.tw ?_; cbv)
| (refine QC.tt ?_ ?_; (focus (simp only [decide_true, Bool.and_true, Bool.and_self] <;> fail)); cbv)
| (refine QC.ff ?_ ?_; (focus (simp only [decide_true, Bool.and_true, Bool.and_self, decide_false, Bool.false_and, reduceCtorEq, not_false_eq_true] <;> fail)); cbv)
| (refine QC.fw ?_; cbv)
| (refine QC.mk (fun hc => ?_) (fun hc => ?_) <;> (try dsimp only at hc) <;> cbv)
| (refine br_mk2 (fun hb => ?_) (fun hb => ?_) <;> (try subst hb) <;> cbv)))
    (refine callq (g1) rfl rfl ?_; cbv; (repeat' (first
| (refine q1w (fun z hz => ?_); (try simp only at hz); cbv)
| (refine rqw ?_; cbv)
| (refine QC.tw ?_; cbv)
| (refine QC.tt ?_ ?_; (focus (simp only [decide_true, Bool.and_true, Bool.and_self] <;> fail)); cbv)
| (refine QC.ff ?_ ?_; (focus (simp only [decide_true, Bool.and_true, Bool.and_self, decide_false, Bool.false_and, reduceCtorEq, not_false_eq_true] <;> fail)); cbv)
| (refine QC.fw ?_; cbv)
| (refine QC.mk (fun hc => ?_) (fun hc => ?_) <;> (try dsimp only at hc) <;> cbv)
| (refine br_mk2 (fun hb => ?_) (fun hb => ?_) <;> (try subst hb) <;> cbv))))
    (refine callq (g2) rfl rfl ?_; cbv; (repeat' (first
| (refine q1w (fun z hz => ?_); (try simp only at hz); cbv)
| (refine rqw ?_; cbv)
| (refine QC.tw ?_; cbv)
| (refine QC.tt ?_ ?_; (focus (simp only [decide_true, Bool.and_true, Bool.and_self] <;> fail)); cbv)
| (refine QC.ff ?_ ?_; (focus (simp only [decide_true, Bool.and_true, Bool.and_self, decide_false, Bool.false_and, reduceCtorEq, not_false_eq_true] <;> fail)); cbv)
| (refine QC.fw ?_; cbv)
| (refine QC.mk (fun hc => ?_) (fun hc => ?_) <;> (try dsimp only at hc) <;> cbv)
| (refine br_mk2 (fun hb => ?_) (fun hb => ?_) <;> (try subst hb) <;> cbv))))
    (refine callq (g3) rfl rfl ?_; cbv; (repeat' (first
| (refine q1w (fun z hz => ?_); (try simp only at hz); cbv)
| (refine rqw ?_; cbv)
| (refine QC.tw ?_; cbv)
| (refine QC.tt ?_ ?_; (focus (simp only [decide_true, Bool.and_true, Bool.and_self] <;> fail)); cbv)
| (refine QC.ff ?_ ?_; (focus (simp only [decide_true, Bool.and_true, Bool.and_self, decide_false, Bool.false_and, reduceCtorEq, not_false_eq_true] <;> fail)); cbv)
| (refine QC.fw ?_; cbv)
| (refine QC.mk (fun hc => ?_) (fun hc => ?_) <;> (try dsimp only at hc) <;> cbv)
| (refine br_mk2 (fun hb => ?_) (fun hb => ?_) <;> (try subst hb) <;> cbv))))
    (refine callq (g4) rfl rfl ?_; cbv; (repeat' (first
| (refine q1w (fun z hz => ?_); (try simp only at hz); cbv)
| (refine rqw ?_; cbv)
| (refine QC.tw ?_; cbv)
| (refine QC.tt ?_ ?_; (focus (simp only [decide_true, Bool.and_true, Bool.and_self] <;> fail)); cbv)
| (refine QC.ff ?_ ?_; (focus (simp only [decide_true, Bool.and_true, Bool.and_self, decide_false, Bool.false_and, reduceCtorEq, not_false_eq_true] <;> fail)); cbv)
| (refine QC.fw ?_; cbv)
| (refine QC.mk (fun hc => ?_) (fun hc => ?_) <;> (try dsimp only at hc) <;> cbv)
| (refine br_mk2 (fun hb => ?_) (fun hb => ?_) <;> (try subst hb) <;> cbv))))
    refine qv 4 (by simp only [sm]; exact ⟨rfl, by decide⟩) ?_
    cbv
    refine qv _ rfl ?_
    cbv
    (repeat' (first
| (refine q1w (fun z hz => ?_); (try simp only at hz); cbv)
| (refine rqw ?_; cbv)
| (refine QC.tw ?_; cbv)
| (refine QC.tt ?_ ?_; (focus (simp only [decide_true, Bool.and_true, Bool.and_self] <;> fail)); cbv)
| (refine QC.ff ?_ ?_; (focus (simp only [decide_true, Bool.and_true, Bool.and_self, decide_false, Bool.false_and, reduceCtorEq, not_false_eq_true] <;> fail)); cbv)
| (refine QC.fw ?_; cbv)
| (refine QC.mk (fun hc => ?_) (fun hc => ?_) <;> (try dsimp only at hc) <;> cbv)
| (refine br_mk2 (fun hb => ?_) (fun hb => ?_) <;> (try subst hb) <;> cbv)))
    exact ⟨rfl, rfl, rfl⟩
  · refine ⟨-1, b4, by omega, t4, ?_⟩
    refine Good.of Try.func13 rfl (by rfl) (by kernel_rfl) ?_
    cbv
    (repeat' (first
| (refine q1w (fun z hz => ?_); (try simp only at hz); cbv)
| (refine rqw ?_; cbv)
| (refine QC.tw ?_; cbv)
| (refine QC.tt ?_ ?_; (focus (simp only [decide_true, Bool.and_true, Bool.and_self] <;> fail)); cbv)
| (refine QC.ff ?_ ?_; (focus (simp only [decide_true, Bool.and_true, Bool.and_self, decide_false, Bool.false_and, reduceCtorEq, not_false_eq_true] <;> fail)); cbv)
| (refine QC.fw ?_; cbv)
| (refine QC.mk (fun hc => ?_) (fun hc => ?_) <;> (try dsimp only at hc) <;> cbv)
| (refine br_mk2 (fun hb => ?_) (fun hb => ?_) <;> (try subst hb) <;> cbv)))
    (refine callq (g1) rfl rfl ?_; cbv; (repeat' (first
| (refine q1w (fun z hz => ?_); (try simp only at hz); cbv)
| (refine rqw ?_; cbv)
| (refine QC.tw ?_; cbv)
| (refine QC.tt ?_ ?_; (focus (simp only [decide_true, Bool.and_true, Bool.and_self] <;> fail)); cbv)
| (refine QC.ff ?_ ?_; (focus (simp only [decide_true, Bool.and_true, Bool.and_self, decide_false, Bool.false_and, reduceCtorEq, not_false_eq_true] <;> fail)); cbv)
| (refine QC.fw ?_; cbv)
| (refine QC.mk (fun hc => ?_) (fun hc => ?_) <;> (try dsimp only at hc) <;> cbv)
| (refine br_mk2 (fun hb => ?_) (fun hb => ?_) <;> (try subst hb) <;> cbv))))
    (refine callq (g2) rfl rfl ?_; cbv; (repeat' (first
| (refine q1w (fun z hz => ?_); (try simp only at hz); cbv)
| (refine rqw ?_; cbv)
| (refine QC.tw ?_; cbv)
| (refine QC.tt ?_ ?_; (focus (simp only [decide_true, Bool.and_true, Bool.and_self] <;> fail)); cbv)
| (refine QC.ff ?_ ?_; (focus (simp only [decide_true, Bool.and_true, Bool.and_self, decide_false, Bool.false_and, reduceCtorEq, not_false_eq_true] <;> fail)); cbv)
| (refine QC.fw ?_; cbv)
| (refine QC.mk (fun hc => ?_) (fun hc => ?_) <;> (try dsimp only at hc) <;> cbv)
| (refine br_mk2 (fun hb => ?_) (fun hb => ?_) <;> (try subst hb) <;> cbv))))
    (refine callq (g3) rfl rfl ?_; cbv; (repeat' (first
| (refine q1w (fun z hz => ?_); (try simp only at hz); cbv)
| (refine rqw ?_; cbv)
| (refine QC.tw ?_; cbv)
| (refine QC.tt ?_ ?_; (focus (simp only [decide_true, Bool.and_true, Bool.and_self] <;> fail)); cbv)
| (refine QC.ff ?_ ?_; (focus (simp only [decide_true, Bool.and_true, Bool.and_self, decide_false, Bool.false_and, reduceCtorEq, not_false_eq_true] <;> fail)); cbv)
| (refine QC.fw ?_; cbv)
| (refine QC.mk (fun hc => ?_) (fun hc => ?_) <;> (try dsimp only at hc) <;> cbv)
| (refine br_mk2 (fun hb => ?_) (fun hb => ?_) <;> (try subst hb) <;> cbv))))
    (refine callq (g4) rfl rfl ?_; cbv; (repeat' (first
| (refine q1w (fun z hz => ?_); (try simp only at hz); cbv)
| (refine rqw ?_; cbv)
| (refine QC.tw ?_; cbv)
| (refine QC.tt ?_ ?_; (focus (simp only [decide_true, Bool.and_true, Bool.and_self] <;> fail)); cbv)
| (refine QC.ff ?_ ?_; (focus (simp only [decide_true, Bool.and_true, Bool.and_self, decide_false, Bool.false_and, reduceCtorEq, not_false_eq_true] <;> fail)); cbv)
| (refine QC.fw ?_; cbv)
| (refine QC.mk (fun hc => ?_) (fun hc => ?_) <;> (try dsimp only at hc) <;> cbv)
| (refine br_mk2 (fun hb => ?_) (fun hb => ?_) <;> (try subst hb) <;> cbv))))
    refine qv 5 (by simp only [sm]; exact ⟨rfl, by decide⟩) ?_
    cbv
    refine qv _ rfl ?_
    cbv
    (repeat' (first
| (refine q1w (fun z hz => ?_); (try simp only at hz); cbv)
| (refine rqw ?_; cbv)
| (refine QC.tw ?_; cbv)
| (refine QC.tt ?_ ?_; (focus (simp only [decide_true, Bool.and_true, Bool.and_self] <;> fail)); cbv)
| (refine QC.ff ?_ ?_; (focus (simp only [decide_true, Bool.and_true, Bool.and_self, decide_false, Bool.false_and, reduceCtorEq, not_false_eq_true] <;> fail)); cbv)
| (refine QC.fw ?_; cbv)
| (refine QC.mk (fun hc => ?_) (fun hc => ?_) <;> (try dsimp only at hc) <;> cbv)
| (refine br_mk2 (fun hb => ?_) (fun hb => ?_) <;> (try subst hb) <;> cbv)))
    exact ⟨rfl, rfl, rfl⟩
end Go.Proofs.Ytjhicdoigllblaa
namespace Go.Proofs.Ytjhicdoigllblaa
set_option linter.unusedVariables false
set_option linter.unusedSimpArgs false
open Go.RowKit
set_option maxHeartbeats 16000000
theorem nextP_vs {P : List (List UInt8)} {s : Snd} (h : VS s) (hp : s.ps = P) (now : Int) (hn : 0 ≤ now ∧ now ≤ 1099511627776) : ∃ s' l, nextP s now = (s', l, 0) ∧ VS s' ∧ s'.ps = P ∧ s'.tag = s.tag := by
  have r1 := h.r1
  have r2 := h.r2
  unfold nextP
  rw [if_neg (by rw [(vs_iff _).2 h]; simp), if_neg (by omega)]
  split
  · exact ⟨_, _, rfl, h, hp, rfl⟩
  rename_i h3
  have hst : s.st = 1 := by omega
  have hne : s.ak ≠ allI s.ps.length := fun e => by have := h.d e; omega
  split
  · exact ⟨_, _, rfl, ⟨h.n1, h.n2, h.ne, h.ak, h.r1, h.r2, h.u1, h.u2, fun e => absurd e hne, fun _ => .inr rfl⟩, hp, rfl⟩
  · exact ⟨_, _, rfl, ⟨h.n1, h.n2, h.ne, h.ak, by dsimp only; omega, by dsimp only; omega, by dsimp only; omega, by dsimp only; omega, fun e => absurd e hne, fun _ => .inl hst⟩, hp, rfl⟩
theorem ackP_vs {P : List (List UInt8)} {s : Snd} (h : VS s) (hp : s.ps = P) (h0 : 0 ≤ s.ak) (m : Int) (hm : 0 ≤ m ∧ m ≤ 4294967295) : ∃ s', ackP s s.tag m = (s', 0) ∧ VS s' ∧ s'.ps = P ∧ s'.tag = s.tag ∧ 0 ≤ s'.ak := by
  have r1 := h.r1
  have r2 := h.r2
  unfold ackP
  rw [if_neg (by rw [(vs_iff _).2 h]; simp), if_neg (by simp)]
  split
  · exact ⟨_, rfl, h, hp, rfl, h0⟩
  rename_i h3
  have hst : s.st = 1 := by omega
  have hne : s.ak ≠ allI s.ps.length := fun e => by have := h.d e; omega
  unfold ackS
  dsimp only
  split
  · exact ⟨_, rfl, ⟨h.n1, h.n2, h.ne, h.ak, h.r1, h.r2, h.u1, h.u2, fun e => absurd e hne, fun _ => .inr rfl⟩, hp, rfl, h0⟩
  · have hw : ackW m s.ps.length ≤ allI s.ps.length := by
      have h1 := Nat.and_le_right (n := m.toNat) (m := (allI s.ps.length).toNat)
      have := allI_pos h.n1
      rw [ackW]; omega
    have hle := h.ak
    have ho : ackO (ackW m s.ps.length) s.ak ≤ allI s.ps.length ∧ 0 ≤ ackO (ackW m s.ps.length) s.ak := by
      have hb := ackW_b m s.ps.length h.n2
      rw [allI_nat] at hw hle ⊢
      have p1 : 1 ≤ 2 ^ s.ps.length := Nat.one_le_two_pow
      have := Nat.or_lt_two_pow (show s.ak.toNat < 2 ^ s.ps.length by omega) (show (ackW m s.ps.length).toNat < 2 ^ s.ps.length by omega)
      rw [ackO]; omega
    refine ⟨_, rfl, ⟨h.n1, h.n2, h.ne, ho.1, ?_, ?_, by dsimp only; omega, by dsimp only; omega, fun e => if_pos e, fun e => .inl ((if_neg e).trans hst)⟩, hp, rfl, ho.2⟩
    · dsimp only; split <;> omega
    · dsimp only; split <;> omega
theorem VS.fits {s : Snd} (h : VS s) (h0 : 0 ≤ s.ak) (ht : 0 ≤ s.tag ∧ s.tag ≤ 255) (hb : ∀ p ∈ s.ps, p.length ≤ 140737488351232) : s.fits := by
  have h2 := h.n2
  have b := allI_b (n := s.ps.length) (by omega)
  have := h.ak
  have := h.r1
  have := h.r2
  have := h.u1
  have := h.u2
  refine ⟨?_, ht, by omega, by omega, by omega, by omega, hb⟩
  by_cases e : s.ak = allI s.ps.length
  · have := h.d e; omega
  · have := h.a e; omega
structure SnSt where
  k : Nat
  c : Int
  now : Int
  s : Snd
structure SnI (P : List (List UInt8)) (tag : Int) (L : List SV) (a : SnSt) : Prop where
  tp : Tp L a.c
  n1 : 0 ≤ a.now
  n2 : a.now + 12 * a.k ≤ 96
  v : VS a.s
  ps : a.s.ps = P
  tag : a.s.tag = tag
  ak : 0 ≤ a.s.ak
def SnR (R L : List SV) (a b : SnSt) : Prop := ∃ (s1 : Snd) (l : List SV) (y : Bool) (c1 : Int) (d : Int) (c2 : Int),
  Good 16 (pu [a.s.w R, .int .i64 a.now] (.tup [s1.w R, .lst (some 5) l, .int .i64 0])) ∧
  Good 30 (le 81 (.agg [.lst none L, .int .i64 a.c]) [.int .i64 2] (.bool y) (.agg [.lst none L, .int .i64 c1])) ∧
  (y = true → ∃ v, 0 ≤ v ∧ v ≤ 18446744073709551615 ∧ Good 50 (le 81 (.agg [.lst none L, .int .i64 c1]) [] (.int .u64 v) (.agg [.lst none L, .int .i64 c2])) ∧
    ∀ m, m = v % 4294967296 → Good 18 (pu [s1.w R, .int .u8 s1.tag, .int .u32 m] (.tup [b.s.w R, .int .i64 0]))) ∧
  (y = false → c2 = c1 ∧ b.s = s1) ∧ 0 ≤ d ∧ d < 12 ∧
  Good 12 (le 81 (.agg [.lst none L, .int .i64 c2]) [.int .i64 12] (.int .i64 d) (.agg [.lst none L, .int .i64 b.c])) ∧ b.now = a.now + d ∧ b.k + 1 = a.k
theorem sn_round {P : List (List UInt8)} {R L : List SV} (hR : R = rowsB P) {tag : Int} (ht : 0 ≤ tag ∧ tag ≤ 255) (hb : ∀ p ∈ P, p.length ≤ 140737488351232) (a : SnSt) (h : SnI P tag L a) (hk : 0 < a.k) : ∃ b, SnI P tag L b ∧ b.k < a.k ∧ SnR R L a b := by
  obtain ⟨k, c, now, s⟩ := a
  have hn1 : 0 ≤ now := h.n1
  have hn2 : now + 12 * k ≤ 96 := h.n2
  have hk : 0 < k := hk
  obtain ⟨s1, l, x1, x2, x3, x4⟩ := nextP_vs h.v h.ps now (by omega)
  have hsf : s.fits := h.v.fits h.ak (by rw [h.tag]; exact ht) (by rw [h.ps]; exact hb)
  have hak1 : 0 ≤ s1.ak := by
    have := next_fits s now hsf
    rw [x1] at this
    exact this.ak.1
  have hs1f : s1.fits := x2.fits hak1 (by rw [x4, h.tag]; exact ht) (by rw [x3]; exact hb)
  have g1 := rnext_p s R (by rw [h.ps]; exact hR) hsf now (by omega) s1 R (by rw [x3]; exact hR) l _ rfl 0 x1
  obtain ⟨y, c1, t1, g2⟩ := bool_e h.tp 2 (by omega)
  cases y
  · obtain ⟨d, c3, p1, p2, t3, g3⟩ := next_e t1 12 (by omega)
    exact ⟨⟨k - 1, c3, now + d, s1⟩, ⟨t3, by dsimp only; omega, by dsimp only; omega, x2, x3, x4.trans h.tag, hak1⟩, by dsimp only; omega, s1, _, false, c1, d, c1, g1, g2, (fun h => by cases h), fun _ => ⟨rfl, rfl⟩, p1, p2, g3, rfl, by dsimp only; omega⟩
  · obtain ⟨v, c2, v1, v2, t2, gw⟩ := word_e t1
    have hm : 0 ≤ v % 4294967296 ∧ v % 4294967296 ≤ 4294967295 := by omega
    obtain ⟨s2, y1, y2, y3, y4, y5⟩ := ackP_vs x2 x3 hak1 (v % 4294967296) hm
    have ga := rack_p s1 R (by rw [x3]; exact hR) hs1f s1.tag (v % 4294967296) (by rw [x4, h.tag]; exact ht) hm s2 R (by rw [y3]; exact hR) 0 y1
    obtain ⟨d, c3, p1, p2, t3, g3⟩ := next_e t2 12 (by omega)
    exact ⟨⟨k - 1, c3, now + d, s2⟩, ⟨t3, by dsimp only; omega, by dsimp only; omega, y2, y3, y4.trans (x4.trans h.tag), y5⟩, by dsimp only; omega, s1, _, true, c1, d, c2, g1, g2, fun _ => ⟨v, v1, v2, gw, fun m hm => by subst hm; exact ga⟩, (fun h => by cases h), p1, p2, g3, rfl, by dsimp only; omega⟩
end Go.Proofs.Ytjhicdoigllblaa
namespace Go.Proofs.Ytjhicdoigllblaa
set_option linter.unusedVariables false
set_option linter.unusedSimpArgs false
open Go.RowKit
set_option maxHeartbeats 16000000
theorem sender_e {L : List SV} {a : Int} (h : Tp L a) : ∃ (s : Snd) (R : List SV) (c : Int), VS s ∧ s.fits ∧ R = rowsB s.ps ∧ (∀ p ∈ s.ps, p.length ≤ 200) ∧ s.tag ≤ 2 ∧ Tp L c ∧
    Good 11 (le 81 (.agg [.lst none L, .int .i64 a]) [] (s.w R) (.agg [.lst none L, .int .i64 c])) := by
  obtain ⟨r1, b1, p1, u1, t1, g1⟩ := next_e h 150 (by omega)
  obtain ⟨N, hN⟩ : ∃ N, N = 1 + r1 := ⟨_, rfl⟩
  obtain ⟨R0, ys, b2, hR0, hyl, hy, t2, g2⟩ := fill_e t1 N (by omega)
  obtain ⟨bs, hbs, hbl⟩ := u8l_of ys hy
  have hRb : R0 = u8l bs := hR0.trans hbs
  obtain ⟨r3, b3, p3, u3, t3, g3⟩ := next_e t2 3 (by omega)
  obtain ⟨r4, b4, p4, u4, t4, g4⟩ := next_e t3 30 (by omega)
  obtain ⟨sz, hsz⟩ : ∃ sz, sz = (5 + r4).toNat := ⟨_, rfl⟩
  obtain ⟨q1', P0⟩ := beg_ok bs r3 sz (by omega) (by omega) (by omega) (by rw [Nat.div_lt_iff_lt_mul (by omega)]; omega)
  obtain ⟨P, hP⟩ : ∃ P, P = chk sz bs (nPc bs.length sz) := ⟨_, rfl⟩
  rw [← hP] at q1' P0
  have hPb : ∀ p ∈ P, p.length ≤ 200 := fun p hp => by
    rw [hP] at hp
    simp only [chk, List.mem_map] at hp
    obtain ⟨i, _, rfl⟩ := hp
    rw [List.length_take, List.length_drop]
    omega
  obtain ⟨R, hR⟩ : ∃ R, R = rowsB P := ⟨_, rfl⟩
  obtain ⟨rm, hrm⟩ : ∃ rm : Int, rm = 4 + sz := ⟨_, rfl⟩
  have g5 := rbegin_p bs R0 hRb (by omega) r3 (4 + sz) (by omega) ⟨1, r3, P, 0, 0, 0⟩ R hR 0 q1'
  rw [← hrm] at g5
  obtain ⟨r6, b6, p6, u6, t6, g6⟩ := next_e t4 8 (by omega)
  obtain ⟨k0, hk0⟩ : ∃ k0 : Nat, r6 = k0 := Int.eq_ofNat_of_zero_le p6
  have hall := allI_pos P0.n1
  have hI0 : SnI P r3 L ⟨k0, b6, 0, ⟨1, r3, P, 0, 0, 0⟩⟩ := ⟨t6, Int.le_refl _, by dsimp only; omega, ⟨P0.n1, P0.n2, P0.ne, by dsimp only; omega, by dsimp only; omega, by dsimp only; omega, by dsimp only; omega, by dsimp only; omega, fun e => by dsimp only at e; omega, fun _ => .inl rfl⟩, rfl, rfl, Int.le_refl _⟩
  obtain ⟨fin, S, s0, sI, sR, sE, fI, fC⟩ := orbit (SnI P r3 L) (fun a => 0 < a.k) (fun a => a.k) (SnR R L) (sn_round hR (by omega) P0.b) _ hI0
  have hIb : ∀ a, S a → a.k ≤ 8 ∧ 0 ≤ a.now ∧ a.now ≤ 96 := fun a ha => by
    have := (sI a ha).n1
    have := (sI a ha).n2
    omega
  refine ⟨fin.s, R, fin.c, fI.v, fI.v.fits fI.ak (by rw [fI.tag]; omega) (by rw [fI.ps]; exact P0.b), by rw [fI.ps]; exact hR, by rw [fI.ps]; exact hPb, by rw [fI.tag]; omega, fI.tp, ?_⟩
  clear sI fI hI0 hP hPb P0 q1' hRb hR0 hbs hR
  obtain ⟨fk, fc, fnow, fs⟩ := fin
  refine Good.of Try.func11 rfl (by rfl) (by kernel_rfl) ?_
  cbv
  have hmk : True := trivial
  (repeat' (first
| (refine q1w (fun z hz => ?_); (try simp only at hz); cbv)
| (refine rqw ?_; cbv)
| (refine QC.tw ?_; cbv)
| (refine QC.tt ?_ ?_; (focus (simp only [decide_true, Bool.and_true, Bool.and_self] <;> fail)); cbv)
| (refine QC.ff ?_ ?_; (focus (simp only [decide_true, Bool.and_true, Bool.and_self, decide_false, Bool.false_and, reduceCtorEq, not_false_eq_true] <;> fail)); cbv)
| (refine QC.fw ?_; cbv)
| (refine QC.mk (fun hc => ?_) (fun hc => ?_) <;> (try dsimp only at hc) <;> cbv)
| (refine br_mk2 (fun hb => ?_) (fun hb => ?_) <;> (try subst hb) <;> cbv)))
  (refine callq (g1) rfl rfl ?_; cbv; (repeat' (first
| (refine q1w (fun z hz => ?_); (try simp only at hz); cbv)
| (refine rqw ?_; cbv)
| (refine QC.tw ?_; cbv)
| (refine QC.tt ?_ ?_; (focus (simp only [decide_true, Bool.and_true, Bool.and_self] <;> fail)); cbv)
| (refine QC.ff ?_ ?_; (focus (simp only [decide_true, Bool.and_true, Bool.and_self, decide_false, Bool.false_and, reduceCtorEq, not_false_eq_true] <;> fail)); cbv)
| (refine QC.fw ?_; cbv)
| (refine QC.mk (fun hc => ?_) (fun hc => ?_) <;> (try dsimp only at hc) <;> cbv)
| (refine br_mk2 (fun hb => ?_) (fun hb => ?_) <;> (try subst hb) <;> cbv))))
  have hzN := hz.trans hN.symm
  subst hzN
  (refine callq (g2) rfl rfl ?_; cbv; (repeat' (first
| (refine q1w (fun z hz => ?_); (try simp only at hz); cbv)
| (refine rqw ?_; cbv)
| (refine QC.tw ?_; cbv)
| (refine QC.tt ?_ ?_; (focus (simp only [decide_true, Bool.and_true, Bool.and_self] <;> fail)); cbv)
| (refine QC.ff ?_ ?_; (focus (simp only [decide_true, Bool.and_true, Bool.and_self, decide_false, Bool.false_and, reduceCtorEq, not_false_eq_true] <;> fail)); cbv)
| (refine QC.fw ?_; cbv)
| (refine QC.mk (fun hc => ?_) (fun hc => ?_) <;> (try dsimp only at hc) <;> cbv)
| (refine br_mk2 (fun hb => ?_) (fun hb => ?_) <;> (try subst hb) <;> cbv))))
  (refine callq (g3) rfl rfl ?_; cbv; (repeat' (first
| (refine q1w (fun z hz => ?_); (try simp only at hz); cbv)
| (refine rqw ?_; cbv)
| (refine QC.tw ?_; cbv)
| (refine QC.tt ?_ ?_; (focus (simp only [decide_true, Bool.and_true, Bool.and_self] <;> fail)); cbv)
| (refine QC.ff ?_ ?_; (focus (simp only [decide_true, Bool.and_true, Bool.and_self, decide_false, Bool.false_and, reduceCtorEq, not_false_eq_true] <;> fail)); cbv)
| (refine QC.fw ?_; cbv)
| (refine QC.mk (fun hc => ?_) (fun hc => ?_) <;> (try dsimp only at hc) <;> cbv)
| (refine br_mk2 (fun hb => ?_) (fun hb => ?_) <;> (try subst hb) <;> cbv))))
  (refine callq (g4) rfl rfl ?_; cbv; (repeat' (first
| (refine q1w (fun z hz => ?_); (try simp only at hz); cbv)
| (refine rqw ?_; cbv)
| (refine QC.tw ?_; cbv)
| (refine QC.tt ?_ ?_; (focus (simp only [decide_true, Bool.and_true, Bool.and_self] <;> fail)); cbv)
| (refine QC.ff ?_ ?_; (focus (simp only [decide_true, Bool.and_true, Bool.and_self, decide_false, Bool.false_and, reduceCtorEq, not_false_eq_true] <;> fail)); cbv)
| (refine QC.fw ?_; cbv)
| (refine QC.mk (fun hc => ?_) (fun hc => ?_) <;> (try dsimp only at hc) <;> cbv)
| (refine br_mk2 (fun hb => ?_) (fun hb => ?_) <;> (try subst hb) <;> cbv))))
  rename_i z3 hz3
  have e3 : z3 = r3 := by (first | omega | (simp only [cst] at *; omega) | (simp only [sm] at *; omega))
  have e4 : z = rm := by (first | omega | (simp only [cst] at *; omega) | (simp only [sm] at *; omega))
  subst e3
  subst e4
  (refine callq (g5) rfl rfl ?_; cbv; (repeat' (first
| (refine q1w (fun z hz => ?_); (try simp only at hz); cbv)
| (refine rqw ?_; cbv)
| (refine QC.tw ?_; cbv)
| (refine QC.tt ?_ ?_; (focus (simp only [decide_true, Bool.and_true, Bool.and_self] <;> fail)); cbv)
| (refine QC.ff ?_ ?_; (focus (simp only [decide_true, Bool.and_true, Bool.and_self, decide_false, Bool.false_and, reduceCtorEq, not_false_eq_true] <;> fail)); cbv)
| (refine QC.fw ?_; cbv)
| (refine QC.mk (fun hc => ?_) (fun hc => ?_) <;> (try dsimp only at hc) <;> cbv)
| (refine br_mk2 (fun hb => ?_) (fun hb => ?_) <;> (try subst hb) <;> cbv))))
  (refine callq (g6) rfl rfl ?_; cbv; (repeat' (first
| (refine q1w (fun z hz => ?_); (try simp only at hz); cbv)
| (refine rqw ?_; cbv)
| (refine QC.tw ?_; cbv)
| (refine QC.tt ?_ ?_; (focus (simp only [decide_true, Bool.and_true, Bool.and_self] <;> fail)); cbv)
| (refine QC.ff ?_ ?_; (focus (simp only [decide_true, Bool.and_true, Bool.and_self, decide_false, Bool.false_and, reduceCtorEq, not_false_eq_true] <;> fail)); cbv)
| (refine QC.fw ?_; cbv)
| (refine QC.mk (fun hc => ?_) (fun hc => ?_) <;> (try dsimp only at hc) <;> cbv)
| (refine br_mk2 (fun hb => ?_) (fun hb => ?_) <;> (try subst hb) <;> cbv))))
  refine loopQ (A := SnSt × Int) (fun p => S p.1 ∧ p.2 = p.1.k) (fun p => p.1.k) (fun p => [(6, .int .i64 p.2), (5, .int .i64 p.1.now)]) (fun p => [(0, .chunk 81 (.agg [.lst none L, .int .i64 p.1.c])), (3, .chunk 25 (p.1.s.w R))]) (⟨k0, b6, 0, ⟨1, _, P, 0, 0, 0⟩⟩, r6) ⟨s0, hk0⟩ ?_ ?_
  · cbv
    repeat' (first | exact rfl | exact trivial | apply And.intro)
  · intro ⟨⟨k, c, now, s⟩, i⟩ hh
    have hS : S ⟨k, c, now, s⟩ := hh.1
    have hi : i = (k : Int) := hh.2
    have hb := hIb _ hS
    have hE := sE _ hS
    have hR := sR _ hS
    have hn1 : 0 ≤ now ∧ now ≤ 96 := hb.2
    have hkb : k ≤ 8 := hb.1
    have hib : i ≤ 8 := by omega
    clear hh hIb sE sR hb hS
    have hml : True := trivial
    cbv
    (repeat' (first
| (refine q1w (fun z hz => ?_); (try simp only at hz); cbv)
| (refine rqw ?_; cbv)
| (refine QC.tw ?_; cbv)
| (refine QC.tt ?_ ?_; (focus (simp only [decide_true, Bool.and_true, Bool.and_self] <;> fail)); cbv)
| (refine QC.ff ?_ ?_; (focus (simp only [decide_true, Bool.and_true, Bool.and_self, decide_false, Bool.false_and, reduceCtorEq, not_false_eq_true] <;> fail)); cbv)
| (refine QC.fw ?_; cbv)
| (refine QC.mk (fun hc => ?_) (fun hc => ?_) <;> (try dsimp only at hc) <;> cbv)
| (refine br_mk2 (fun hb => ?_) (fun hb => ?_) <;> (try subst hb) <;> cbv)))
    · have hk : 0 < k := by (first | omega | (simp only [cst] at *; omega) | (simp only [sm] at *; omega))
      obtain ⟨⟨k', c', now', s'⟩, hS', hlt, s1, l, y, c1, d, c2, e1, e2, e3, e4, e5, e6, e7, e8, e9⟩ := hR hk
      have e8 : now' = now + d := e8
      have e9 : k' + 1 = k := e9
      (refine callq (e1) rfl rfl ?_; cbv; (repeat' (first
| (refine q1w (fun z hz => ?_); (try simp only at hz); cbv)
| (refine rqw ?_; cbv)
| (refine QC.tw ?_; cbv)
| (refine QC.tt ?_ ?_; (focus (simp only [decide_true, Bool.and_true, Bool.and_self] <;> fail)); cbv)
| (refine QC.ff ?_ ?_; (focus (simp only [decide_true, Bool.and_true, Bool.and_self, decide_false, Bool.false_and, reduceCtorEq, not_false_eq_true] <;> fail)); cbv)
| (refine QC.fw ?_; cbv)
| (refine QC.mk (fun hc => ?_) (fun hc => ?_) <;> (try dsimp only at hc) <;> cbv)
| (refine br_mk2 (fun hb => ?_) (fun hb => ?_) <;> (try subst hb) <;> cbv))))
      (refine callq (e2) rfl rfl ?_; cbv; (repeat' (first
| (refine q1w (fun z hz => ?_); (try simp only at hz); cbv)
| (refine rqw ?_; cbv)
| (refine QC.tw ?_; cbv)
| (refine QC.tt ?_ ?_; (focus (simp only [decide_true, Bool.and_true, Bool.and_self] <;> fail)); cbv)
| (refine QC.ff ?_ ?_; (focus (simp only [decide_true, Bool.and_true, Bool.and_self, decide_false, Bool.false_and, reduceCtorEq, not_false_eq_true] <;> fail)); cbv)
| (refine QC.fw ?_; cbv)
| (refine QC.mk (fun hc => ?_) (fun hc => ?_) <;> (try dsimp only at hc) <;> cbv)
| (refine br_mk2 (fun hb => ?_) (fun hb => ?_) <;> (try subst hb) <;> cbv))))
      · obtain ⟨v, v1, v2, ew, ea⟩ := e3 rfl
        (refine callq (ew) rfl rfl ?_; cbv; (repeat' (first
| (refine q1w (fun z hz => ?_); (try simp only at hz); cbv)
| (refine rqw ?_; cbv)
| (refine QC.tw ?_; cbv)
| (refine QC.tt ?_ ?_; (focus (simp only [decide_true, Bool.and_true, Bool.and_self] <;> fail)); cbv)
| (refine QC.ff ?_ ?_; (focus (simp only [decide_true, Bool.and_true, Bool.and_self, decide_false, Bool.false_and, reduceCtorEq, not_false_eq_true] <;> fail)); cbv)
| (refine QC.fw ?_; cbv)
| (refine QC.mk (fun hc => ?_) (fun hc => ?_) <;> (try dsimp only at hc) <;> cbv)
| (refine br_mk2 (fun hb => ?_) (fun hb => ?_) <;> (try subst hb) <;> cbv))))
        have ea := ea z (by (first | omega | (simp only [cst] at *; omega) | (simp only [sm] at *; omega)))
        (refine callq (ea) rfl rfl ?_; cbv; (repeat' (first
| (refine q1w (fun z hz => ?_); (try simp only at hz); cbv)
| (refine rqw ?_; cbv)
| (refine QC.tw ?_; cbv)
| (refine QC.tt ?_ ?_; (focus (simp only [decide_true, Bool.and_true, Bool.and_self] <;> fail)); cbv)
| (refine QC.ff ?_ ?_; (focus (simp only [decide_true, Bool.and_true, Bool.and_self, decide_false, Bool.false_and, reduceCtorEq, not_false_eq_true] <;> fail)); cbv)
| (refine QC.fw ?_; cbv)
| (refine QC.mk (fun hc => ?_) (fun hc => ?_) <;> (try dsimp only at hc) <;> cbv)
| (refine br_mk2 (fun hb => ?_) (fun hb => ?_) <;> (try subst hb) <;> cbv))))
        (refine callq (e7) rfl rfl ?_; cbv; (repeat' (first
| (refine q1w (fun z hz => ?_); (try simp only at hz); cbv)
| (refine rqw ?_; cbv)
| (refine QC.tw ?_; cbv)
| (refine QC.tt ?_ ?_; (focus (simp only [decide_true, Bool.and_true, Bool.and_self] <;> fail)); cbv)
| (refine QC.ff ?_ ?_; (focus (simp only [decide_true, Bool.and_true, Bool.and_self, decide_false, Bool.false_and, reduceCtorEq, not_false_eq_true] <;> fail)); cbv)
| (refine QC.fw ?_; cbv)
| (refine QC.mk (fun hc => ?_) (fun hc => ?_) <;> (try dsimp only at hc) <;> cbv)
| (refine br_mk2 (fun hb => ?_) (fun hb => ?_) <;> (try subst hb) <;> cbv))))
        rename_i zn hzn
        have hzn : zn = now' := by (first | omega | (simp only [cst] at *; omega) | (simp only [sm] at *; omega))
        subst hzn
        refine ⟨(⟨k', c', zn, s'⟩, z), ⟨hS', by show z = (k' : Int); (first | omega | (simp only [cst] at *; omega) | (simp only [sm] at *; omega))⟩, by show k' < k; omega, ?_⟩
        cbv
        repeat' (first | exact rfl | exact trivial | apply And.intro)
      · obtain ⟨e41, e42⟩ := e4 rfl
        have e42 : s' = s1 := e42
        subst e41
        subst e42
        (refine callq (e7) rfl rfl ?_; cbv; (repeat' (first
| (refine q1w (fun z hz => ?_); (try simp only at hz); cbv)
| (refine rqw ?_; cbv)
| (refine QC.tw ?_; cbv)
| (refine QC.tt ?_ ?_; (focus (simp only [decide_true, Bool.and_true, Bool.and_self] <;> fail)); cbv)
| (refine QC.ff ?_ ?_; (focus (simp only [decide_true, Bool.and_true, Bool.and_self, decide_false, Bool.false_and, reduceCtorEq, not_false_eq_true] <;> fail)); cbv)
| (refine QC.fw ?_; cbv)
| (refine QC.mk (fun hc => ?_) (fun hc => ?_) <;> (try dsimp only at hc) <;> cbv)
| (refine br_mk2 (fun hb => ?_) (fun hb => ?_) <;> (try subst hb) <;> cbv))))
        rename_i zn hzn
        have hzn : zn = now' := by (first | omega | (simp only [cst] at *; omega) | (simp only [sm] at *; omega))
        subst hzn
        refine ⟨(⟨k', c', zn, s'⟩, z), ⟨hS', by show z = (k' : Int); (first | omega | (simp only [cst] at *; omega) | (simp only [sm] at *; omega))⟩, by show k' < k; omega, ?_⟩
        cbv
        repeat' (first | exact rfl | exact trivial | apply And.intro)
    · have hk : ¬ 0 < k := by (first | omega | (simp only [cst] at *; omega) | (simp only [sm] at *; omega))
      have hE := hE hk
      injection hE with e1 e2 e3 e4
      subst e1; subst e2; subst e3; subst e4
      exact ⟨rfl, rfl, rfl⟩
end Go.Proofs.Ytjhicdoigllblaa
namespace Go.Proofs.Ytjhicdoigllblaa
set_option linter.unusedVariables false
set_option linter.unusedSimpArgs false
open Go.RowKit
set_option maxHeartbeats 8000000
def byF (N : Int → Int → Int) (B : Int → Int) : Nat → Nat → Int → List Int → List Int × Int
  | 0, _, c, r => (r, c)
  | k + 1, i, c, r => byF N B k (i + 1) (B c) (r.set i (N c 256))
theorem byF_ok {L : List SV} {N : Int → Int → Int} {B : Int → Int} (hN : ∀ a n, Tp L a → 1 ≤ n ∧ n ≤ 1000000 → 0 ≤ N a n ∧ N a n < n ∧ Tp L (B a)) : ∀ (k i : Nat) (c : Int) (r : List Int), Tp L c → (∀ v ∈ r, 0 ≤ v ∧ v ≤ 255) → (byF N B k i c r).1.length = r.length ∧ (∀ v ∈ (byF N B k i c r).1, 0 ≤ v ∧ v ≤ 255) ∧ Tp L (byF N B k i c r).2
  | 0, i, c, r, hc, hr => ⟨rfl, hr, hc⟩
  | k + 1, i, c, r, hc, hr => by
    obtain ⟨d1, d2, d3⟩ := hN c 256 hc (by omega)
    have := byF_ok hN k (i + 1) (B c) (r.set i (N c 256)) d3 (fun v hv => by
      rcases List.mem_or_eq_of_mem_set hv with h | h
      · exact hr v h
      · omega)
    unfold byF
    rw [List.length_set] at this
    exact this
theorem bytes_e {L : List SV} {a : Int} (h : Tp L a) (m : Int) (hm : 0 ≤ m ∧ m ≤ 1000) : ∃ (bs : List UInt8) (b : Int), (bs.length : Int) ≤ m ∧ Tp L b ∧
    Good 14 (leN 81 (.agg [.lst none L, .int .i64 a]) [.int .i64 m] (.row 1) (.agg [.lst none L, .int .i64 b]) (.row none 5 (u8l bs))) := by
  obtain ⟨r, b, p1, u1, t1, g1⟩ := next_e h (m + 1) (by omega)
  obtain ⟨n, hn⟩ : ∃ n : Nat, r = (n : Int) := Int.eq_ofNat_of_zero_le p1
  obtain ⟨N, B, hNB⟩ := next_f h
  have hN : ∀ a n, Tp L a → 1 ≤ n ∧ n ≤ 1000000 → 0 ≤ N a n ∧ N a n < n ∧ Tp L (B a) := fun a n ha hn => by have := hNB a n ha hn; exact ⟨this.1, this.2.1, this.2.2.1⟩
  have hok := byF_ok hN n 0 b (List.replicate n 0) t1 (fun v hv => by simp at hv; omega)
  generalize hfin : byF N B n 0 b (List.replicate n 0) = fin at hok
  obtain ⟨rf, d⟩ := fin
  obtain ⟨h1, h2, td⟩ := hok
  dsimp only at h1 h2 td
  rw [List.length_replicate] at h1
  obtain ⟨bs, hbs, hbl⟩ := u8l_of rf h2
  obtain ⟨U, hU⟩ : ∃ U : List Int → List SV, ∀ r, U r = ints .u8 r := ⟨_, fun _ => rfl⟩
  have hU0 : ∀ z : Int, z = n → O.rp z (.int .u8 0) = U (List.replicate n 0) := fun z hz => by rw [hU, orp, hz]; simp [ints]
  have hUl : ∀ r, (U r).length = r.length := fun r => by rw [hU]; simp [ints]
  have hUs : ∀ r i v, O.st (U r) i (.int .u8 v) = U (r.set i v) := fun r i v => by rw [hU, hU, ost, ints_set]
  refine ⟨bs, d, by omega, td, ?_⟩
  rw [← hbs, ← hU]
  refine Good.of Try.func14 rfl (by rfl) (by kernel_rfl) ?_
  cbv
  (repeat' (first
| (refine q1w (fun z hz => ?_); (try simp only at hz); cbv)
| (refine rqw ?_; cbv)
| (refine QC.tw ?_; cbv)
| (refine QC.tt ?_ ?_; (focus (simp only [decide_true, Bool.and_true, Bool.and_self] <;> fail)); cbv)
| (refine QC.ff ?_ ?_; (focus (simp only [decide_true, Bool.and_true, Bool.and_self, decide_false, Bool.false_and, reduceCtorEq, not_false_eq_true] <;> fail)); cbv)
| (refine QC.fw ?_; cbv)
| (refine QC.mk (fun hc => ?_) (fun hc => ?_) <;> (try dsimp only at hc) <;> cbv)
| (refine br_mk2 (fun hb => ?_) (fun hb => ?_) <;> (try subst hb) <;> cbv)))
  have ez : m + 1 = z := by (first | omega | (simp only [cst] at *; omega) | (simp only [sm] at *; omega))
  rw [ez] at g1
  (refine callq (g1) rfl rfl ?_; cbv; (repeat' (first
| (refine q1w (fun z hz => ?_); (try simp only at hz); cbv)
| (refine rqw ?_; cbv)
| (refine QC.tw ?_; cbv)
| (refine QC.tt ?_ ?_; (focus (simp only [decide_true, Bool.and_true, Bool.and_self] <;> fail)); cbv)
| (refine QC.ff ?_ ?_; (focus (simp only [decide_true, Bool.and_true, Bool.and_self, decide_false, Bool.false_and, reduceCtorEq, not_false_eq_true] <;> fail)); cbv)
| (refine QC.fw ?_; cbv)
| (refine QC.mk (fun hc => ?_) (fun hc => ?_) <;> (try dsimp only at hc) <;> cbv)
| (refine br_mk2 (fun hb => ?_) (fun hb => ?_) <;> (try subst hb) <;> cbv))))
  have hu0 := hU0 r hn
  refine loopQ (A := Nat × Int × List Int × Int) (fun p => p.2.1 = p.1 ∧ p.1 ≤ n ∧ p.2.2.1.length = n ∧ Tp L p.2.2.2 ∧ byF N B (n - p.1) p.1 p.2.2.2 p.2.2.1 = (rf, d)) (fun p => n - p.1) (fun p => [(6, .int .i64 p.2.1), (5, .row 11)]) (fun p => [(0, .chunk 81 (.agg [.lst none L, .int .i64 p.2.2.2])), (11, .row none 5 (U p.2.2.1))])
    (0, 0, List.replicate n 0, b) ⟨rfl, Nat.zero_le _, by show (List.replicate n 0).length = n; simp, t1, hfin⟩ ?_ ?_
  · cbv
    refine ⟨?_, trivial⟩
    show Blk.row none 5 (O.rp r (.int .u8 0)) = .row none 5 (U (List.replicate n 0))
    rw [hu0]
  · intro ⟨i, j, row, c⟩ hh
    have hj : j = (i : Int) := hh.1
    have hi : i ≤ n := hh.2.1
    have hrl : row.length = n := hh.2.2.1
    have tc0 : Tp L c := hh.2.2.2.1
    have hrr : byF N B (n - i) i c row = (rf, d) := hh.2.2.2.2
    clear hh
    have hmk : True := trivial
    have hul := hUl row
    have hus := hUs row i
    cbv
    (repeat' (first
| (refine q1w (fun z hz => ?_); (try simp only at hz); cbv)
| (refine rqw ?_; cbv)
| (refine QC.tw ?_; cbv)
| (refine QC.tt ?_ ?_; (focus (simp only [decide_true, Bool.and_true, Bool.and_self] <;> fail)); cbv)
| (refine QC.ff ?_ ?_; (focus (simp only [decide_true, Bool.and_true, Bool.and_self, decide_false, Bool.false_and, reduceCtorEq, not_false_eq_true] <;> fail)); cbv)
| (refine QC.fw ?_; cbv)
| (refine QC.mk (fun hc => ?_) (fun hc => ?_) <;> (try dsimp only at hc) <;> cbv)
| (refine br_mk2 (fun hb => ?_) (fun hb => ?_) <;> (try subst hb) <;> cbv)))
    · have hlt : i < n := by (first | omega | (simp only [cst] at *; omega) | (simp only [sm] at *; omega))
      obtain ⟨dd5, dd6, dd7, dd8⟩ := hNB c 256 tc0 (by omega)
      have hkey : byF N B (n - (i + 1)) (i + 1) (B c) (row.set i (N c 256)) = (rf, d) := by
        have e : n - i = (n - (i + 1)) + 1 := by omega
        rw [e, byF] at hrr
        exact hrr
      obtain ⟨x, hx⟩ : ∃ x, x = N c 256 := ⟨_, rfl⟩
      obtain ⟨c2, hc2⟩ : ∃ y, y = B c := ⟨_, rfl⟩
      rw [← hx] at dd5 dd6 dd8 hkey
      rw [← hc2] at dd7 dd8 hkey
      have hv := hus x
      (refine callq (dd8) rfl rfl ?_; cbv; (repeat' (first
| (refine q1w (fun z hz => ?_); (try simp only at hz); cbv)
| (refine rqw ?_; cbv)
| (refine QC.tw ?_; cbv)
| (refine QC.tt ?_ ?_; (focus (simp only [decide_true, Bool.and_true, Bool.and_self] <;> fail)); cbv)
| (refine QC.ff ?_ ?_; (focus (simp only [decide_true, Bool.and_true, Bool.and_self, decide_false, Bool.false_and, reduceCtorEq, not_false_eq_true] <;> fail)); cbv)
| (refine QC.fw ?_; cbv)
| (refine QC.mk (fun hc => ?_) (fun hc => ?_) <;> (try dsimp only at hc) <;> cbv)
| (refine br_mk2 (fun hb => ?_) (fun hb => ?_) <;> (try subst hb) <;> cbv))))
      have ez : x = z := by (first | omega | (simp only [cst] at *; omega) | (simp only [sm] at *; omega))
      subst ez
      (refine qv (i) (by (first | omega | (simp only [cst] at *; omega) | (simp only [sm] at *; omega))) ?_; cbv; (repeat' (first
| (refine q1w (fun z hz => ?_); (try simp only at hz); cbv)
| (refine rqw ?_; cbv)
| (refine QC.tw ?_; cbv)
| (refine QC.tt ?_ ?_; (focus (simp only [decide_true, Bool.and_true, Bool.and_self] <;> fail)); cbv)
| (refine QC.ff ?_ ?_; (focus (simp only [decide_true, Bool.and_true, Bool.and_self, decide_false, Bool.false_and, reduceCtorEq, not_false_eq_true] <;> fail)); cbv)
| (refine QC.fw ?_; cbv)
| (refine QC.mk (fun hc => ?_) (fun hc => ?_) <;> (try dsimp only at hc) <;> cbv)
| (refine br_mk2 (fun hb => ?_) (fun hb => ?_) <;> (try subst hb) <;> cbv))))
      refine ⟨(i + 1, z, row.set i x, c2), ⟨by show z = ((i + 1 : Nat) : Int); (first | omega | (simp only [cst] at *; omega) | (simp only [sm] at *; omega)), by show i + 1 ≤ n; omega, by show (row.set i x).length = n; rw [List.length_set]; exact hrl, dd7, hkey⟩, by show n - (i + 1) < n - i; omega, ?_⟩
      cbv
      refine ⟨?_, trivial⟩
      show Blk.row none 5 (O.st (U row) i (.int .u8 x)) = .row none 5 (U (row.set i x))
      rw [hv]
    · have e : i = n := by (first | omega | (simp only [cst] at *; omega) | (simp only [sm] at *; omega))
      rw [e, Nat.sub_self, byF] at hrr
      injection hrr with hr1 hr2
      subst hr1; subst hr2
      exact ⟨rfl, rfl, rfl⟩
end Go.Proofs.Ytjhicdoigllblaa
namespace Go.Proofs.Ytjhicdoigllblaa
set_option linter.unusedVariables false
set_option linter.unusedSimpArgs false
open Go.ChangeShapes Go.WideShapes Go.ChangeAt Go.RowKit Go.WideElems Go.Deep

theorem prog_own : ownKnob Try.prog.godebug = none := by kernel_rfl
theorem prog_laidOut : laidOutB Try.prog = true := by kernel_rfl
def NoX : Nat → Prop := fun _ => False

def SliceDatum {H : Type} (d : DataW H) (l c : Nat) : Prop := (d = .nil ∧ l = 0 ∧ c = 0) ∨ ∃ es sp : List (DataW H), d = .slice es sp ∧ es.length = l ∧ es.length + sp.length = c
theorem SliceDatum.reach {H : Type} {P : Program} {ts : List TypeId} {ds : List (DataW H)} {d : DataW H} {l c : Nat} (h : SliceDatum d l c) (hs : (DataW.weightsEach P ts ds).all (· ≤ reachBytes) = true) {j : Nat} {t e : TypeId}
    (ht : ts[j]? = some t) (hd : ds[j]? = some d) (hu : P.underlying t = some (.slice e)) : c * P.bytesOf e ≤ 140737488351232 := by
  rcases h with ⟨_, _, rfl⟩ | ⟨es, sp, rfl, _, hc⟩
  · omega
  · have := sized_slice hs ht hd hu
    rw [hc] at this
    simpa [reachBytes] using this

section
variable {H : Type} {enc : TypeId × Value → H} {P : Program} {w : World}
theorem block_lt {ad : Addr} {u : Value} (h : w.cell? ad = some u) : ad.block < w.heap.size := World.block_lt_of_cell? w ad h

theorem open_list {r : Reach} {b0 : Nat} {t e : TypeId} {k : IntKind} {v : Value} {d : DataW H} {p : List MemPlace} (ht : P.underlying t = some (.slice e)) (he : P.underlying e = some (.int k)) (hc : P.cellsOf e = 1)
    (hval : Value.okWide P w r b0 t v) (h : DataW.Trod enc P w 0 (fun _ => true) true t v d p) :
    ∃ (zs : List Int) (c : Nat), Den w NoX noEnv (.lst none (zs.map (SV.int k))) v ∧ zs.length ≤ c ∧ c ≤ maxLen ∧ (∀ n ∈ zs, (Lit.int k n).wf = true) ∧ SliceDatum d zs.length c := by
  obtain ⟨a0, len0, cap0, rfl⟩ := okWide_slice ht hval
  obtain ⟨fuel, hf⟩ := h
  rcases open_ints ht he hc hf with ⟨hcs, hx⟩ | ⟨x, l, c, zs, hcs, _, hl, hm, hz, hx, hcell, hwz⟩
  · simp [Value.cells] at hcs
    obtain ⟨rfl, rfl, rfl⟩ := hcs
    simp only [Prod.mk.injEq] at hx
    exact ⟨[], 0, .lst0 _ _ _ _, Nat.le_refl _, by simp [maxLen], by simp, .inl ⟨hx.1, rfl, rfl⟩⟩
  · simp [Value.cells] at hcs
    obtain ⟨rfl, rfl, rfl⟩ := hcs
    simp only [if_true] at hz
    simp only [Prod.mk.injEq] at hx
    have hlen : (zs.take len0).length = len0 := by rw [List.length_take]; omega
    refine ⟨zs.take len0, cap0, ?_, by omega, hm, fun n hn => hwz n (List.mem_of_mem_take hn), .inr ⟨_, _, hx.1, ?_, ?_⟩⟩
    · by_cases h0 : len0 = 0
      · subst h0
        exact .lst0 _ _ _ _
      · have hspot : x.spot = none := by
          have := hcell 0 (by omega)
          have := World.cell?_spot this
          simpa [Addr.add] using this
        obtain ⟨b, off, spot⟩ := x
        simp only at hspot
        subst hspot
        have e1 : ((zs.take len0).map (SV.int k)).length = len0 := by rw [List.length_map, hlen]
        have e2 : Den w NoX noEnv (.lst none ((zs.take len0).map (SV.int k))) (.slice (some ⟨b, off, none⟩) ((zs.take len0).map (SV.int k)).length cap0) := by
          refine .lst _ _ _ b off cap0 ((zs.take len0).map (Value.int k)) ?_ (fun h => h) (by rw [e1]; omega) (fun j u hu => ?_) (by simp [wid]) (fun u hu => by obtain ⟨z, _, rfl⟩ := List.mem_map.1 hu; rfl) (fun i h1 => ?_)
          · have := block_lt (hcell 0 (by omega))
            exact this
          · obtain ⟨hj, hu⟩ := List.getElem?_eq_some_iff.1 hu
            rw [List.length_map] at hj
            have := hcell j (by omega)
            rw [Addr.add_lit] at this
            rw [this, ← hu]
            simp [List.getD]
            rw [List.getElem?_eq_getElem (by omega)]
            rfl
          · simp only [valAt]
            rw [List.length_map] at h1
            rw [List.getElem?_eq_getElem (by simpa using h1)]
            simp only [List.getElem_map, Option.getD_some]
            exact .int _ _ _
        rw [e1] at e2
        exact e2
    · simp [lits] <;> omega
    · simp [lits] <;> omega

theorem open_agg5 {r : Reach} {b0 : Nat} {t : TypeId} {f0 f1 f2 f3 f4 : Field} {v : Value} {d : DataW H} {p : List MemPlace} {base : Nat} {spare : Nat → Bool} {held : Bool}
    (hs : P.underlying t = some (.struct #[f0, f1, f2, f3, f4])) (hone : oneCellFields P #[f0, f1, f2, f3, f4] = true) (hC : P.cellsOf t = 5)
    (hv : Value.okWide P w r b0 t v) (h : DataW.Trod enc P w base spare held t v d p) :
    ∃ (v0 v1 v2 v3 v4 : Value) (y0 y1 y2 y3 y4 : DataW H × List MemPlace) (n : Nat), v = .agg #[v0, v1, v2, v3, v4] ∧
      DataW.trod enc P w base spare held n f0.type [v0] = some y0 ∧ DataW.trod enc P w base spare held n f1.type [v1] = some y1 ∧ DataW.trod enc P w base spare held n f2.type [v2] = some y2 ∧
      DataW.trod enc P w base spare held n f3.type [v3] = some y3 ∧ DataW.trod enc P w base spare held n f4.type [v4] = some y4 := by
  obtain ⟨cs, rfl, hsz⟩ := okWide_struct hs hv
  have hsz' : cs.size = 5 := hsz.trans hC
  obtain ⟨l⟩ := cs
  match l, hsz' with
  | [c0, c1, c2, c3, c4], _ =>
    obtain ⟨fuel, hf⟩ := h
    obtain ⟨xs, n, _, _, _, hlen, hx⟩ := DataW.trod_struct hs hf
    match xs, hlen with
    | [y0, y1, y2, y3, y4], _ =>
      obtain ⟨o0, k0⟩ := Deep.hone_of hone 0 f0 rfl
      obtain ⟨o1, k1⟩ := Deep.hone_of hone 1 f1 rfl
      obtain ⟨o2, k2⟩ := Deep.hone_of hone 2 f2 rfl
      obtain ⟨o3, k3⟩ := Deep.hone_of hone 3 f3 rfl
      obtain ⟨o4, k4⟩ := Deep.hone_of hone 4 f4 rfl
      exact ⟨c0, c1, c2, c3, c4, y0, y1, y2, y3, y4, n, rfl, by simpa [Value.cells, o0, k0] using hx 0 f0 rfl, by simpa [Value.cells, o1, k1] using hx 1 f1 rfl, by simpa [Value.cells, o2, k2] using hx 2 f2 rfl,
        by simpa [Value.cells, o3, k3] using hx 3 f3 rfl, by simpa [Value.cells, o4, k4] using hx 4 f4 rfl⟩
end
theorem denl_nil {w : World} {X : Nat → Prop} {ρ : Env} : DenL w X ρ [] [] := ⟨rfl, fun i x u h _ => by simp at h⟩
theorem denl_cons {w : World} {X : Nat → Prop} {ρ : Env} {x : SV} {v : Value} {xs : List SV} {vs : List Value} (h : Den w X ρ x v) (g : DenL w X ρ xs vs) : DenL w X ρ (x :: xs) (v :: vs) := by
  refine ⟨by simp [g.1], fun i y u hy hu => ?_⟩
  cases i with
  | zero => simp at hy hu; subst hy; subst hu; exact h
  | succ i => exact g.2 i y u (by simpa using hy) (by simpa using hu)
def GlobsAt (w : World) : Prop := ∀ g x, glob g = some x → plainB x = true ∧ Den w NoX noEnv x (.pointer (some ⟨g, 0, none⟩))
theorem noX_keep {w : World} {f : Nat} {xs : List SV} {b : Bool} : ∀ k, k < w.heap.size → ¬ NoX k → ¬ Forb NoX (inM (pu xs (.bool b))) noEnv k ∧ w.heap[k]? = w.heap[k]? := fun k _ _ => by
  refine ⟨?_, rfl⟩
  rintro (h | ⟨r, v, ho, _⟩)
  · exact h
  · simp [inM, getM, Blk.own] at ho
theorem Good.rowG {f : Nat} {xs : List SV} {b : Bool} (h : Good f (pu xs (.bool b))) {w : World} (hg : GlobsAt w) {vs : List Value} (hd : DenL w NoX noEnv xs vs) : Calls Try.prog f ⟨vs⟩ w fun e w' => e = .returned (.bool b) ∧ Below w.heap.size w w' := by
  have m : MRep tinfo (fun b => w.heap.size ≤ b) w w NoX (inM (pu xs (.bool b))) noEnv :=
    ⟨fun _ h => h.elim, .refl _ _, fun _ h => h, fun r => by simp [inM, getM, BlkRep, noEnv], fun r r' v v' b h => by simp [inM, getM, Blk.own] at h, fun g x hx => ⟨(hg g x hx).1, (hg g x hx).2.mono (Nat.le_refl _) (noX_keep (f := f))⟩⟩
  refine (h.h.h rfl (fun b => w.heap.size ≤ b) w NoX noEnv vs m ?_).mono fun e w' ⟨v, ρ', he, hm, _, hv⟩ => ⟨by rw [he, Den.bool_iff.1 hv], hm.below.new⟩
  exact ⟨hd.1, fun i x u hx hu => (hd.2 i x u hx hu).mono (Nat.le_refl _) (noX_keep (f := f))⟩
end Go.Proofs.Ytjhicdoigllblaa
namespace Go.Proofs.Ytjhicdoigllblaa
set_option linter.unusedVariables false
set_option linter.unusedSimpArgs false
open Go.ChangeShapes Go.WideShapes Go.ChangeAt Go.RowKit Go.WideElems Go.Deep
def wrapC : Option Nat → List SV → SV
  | none, ys => ys.headD .any
  | some _, ys => .agg ys
def wfC (T : Nat → Option TI) : Nat → Nat → List SV → Prop
  | 0, _, _ => False
  | m + 1, t, xs => match T t with
    | none => False
    | some i => match i.kind with
      | .bool => ∃ b, xs = [.bool b]
      | .int k => ∃ n, xs = [.int k n] ∧ (Lit.int k n).wf = true
      | .string => ∃ s, xs = [.str s] ∧ s.size ≤ maxLen
      | .slice e => (match T e with
        | some j => ∃ l c, xs = [.lst j.shape l] ∧ l.length ≤ c ∧ c ≤ maxLen ∧ c * j.bytes ≤ 140737488351232 ∧ ∀ x ∈ l, ∃ ys, wfC T m e ys ∧ x = wrapC j.shape ys
        | none => False)
      | .struct fs => xs.length = i.size ∧ ∀ q ∈ fs, ∀ j, T q.2 = some j → wfC T m q.2 ((xs.drop q.1).take j.size)
      | .array n e => xs.length = i.size ∧ ∀ k, k < n → ∀ j, T e = some j → wfC T m e ((xs.drop (k * j.size)).take j.size)
      | .other => False
def tiles (T : Nat → Option TI) (size : Nat) : Nat → List (Nat × Nat) → Bool
  | off, [] => Nat.beq off size
  | off, (o, t) :: fs => (match T t with | some j => Nat.beq o off && tiles T size (off + j.size) fs | none => false)
def okTy (T : Nat → Option TI) : Nat → Nat → Bool
  | 0, _ => false
  | m + 1, t => match T t with
    | none => false
    | some i => match i.kind with
      | .bool | .int _ | .string => true
      | .slice e => (match T e with | some j => !(Nat.beq j.size 0) | none => false) && okTy T m e
      | .struct fs => tiles T i.size 0 fs && fs.all fun q => okTy T m q.2
      | .array n e => (match T e with | some j => Nat.beq i.size (n * j.size) | none => false) && okTy T m e
      | .other => false
section
variable {H : Type} {enc : TypeId × Value → H} {P : Program} {T : Nat → Option TI} {w : World}
theorem cellsOf_T (tys : Types P T) {t : Nat} {i : TI} (h : T t = some i) : P.cellsOf t = i.size ∧ P.bytesOf t = i.bytes := by
  obtain ⟨j, h1, h2, h3⟩ := (tys.ok t i h).inf
  simp [Program.cellsOf, Program.bytesOf, h1, h2, h3]
theorem okTy_T {m t : Nat} (h : okTy T m t = true) : ∃ i m', m = m' + 1 ∧ T t = some i := by
  cases m with
  | zero => cases h
  | succ m =>
    unfold okTy at h
    cases ht : T t with
    | none => rw [ht] at h; cases h
    | some i => exact ⟨i, m, rfl, rfl⟩
theorem DenL.app {w : World} {X : Nat → Prop} {ρ : Env} {xs ys : List SV} {us vs : List Value} (h : DenL w X ρ xs us) (g : DenL w X ρ ys vs) : DenL w X ρ (xs ++ ys) (us ++ vs) := by
  refine ⟨by simp [h.1, g.1], fun i x u hx hu => ?_⟩
  by_cases hi : i < xs.length
  · rw [List.getElem?_append_left hi] at hx
    rw [List.getElem?_append_left (by rw [← h.1]; exact hi)] at hu
    exact h.2 i x u hx hu
  · rw [List.getElem?_append_right (by omega)] at hx
    rw [List.getElem?_append_right (by rw [← h.1]; omega), ← h.1] at hu
    exact g.2 _ x u hx hu

theorem fields_join {X : Nat → Prop} {ρ : Env} {m : Nat} {cs : List Value} {size : Nat} (hcs : cs.length = size) : ∀ (fs : List (Nat × Nat)) (off : Nat), tiles T size off fs = true → off ≤ size →
    (∀ q ∈ fs, ∀ j, T q.2 = some j → ∃ xs, wfC T m q.2 xs ∧ DenL w X ρ xs ((cs.drop q.1).take j.size) ∧ xs.length = j.size) →
    ∃ ys, DenL w X ρ ys (cs.drop off) ∧ ys.length = size - off ∧ ∀ q ∈ fs, ∀ j, T q.2 = some j → off ≤ q.1 ∧ wfC T m q.2 ((ys.drop (q.1 - off)).take j.size)
  | [], off, ht, hof, _ => by
    simp only [tiles, nbeq] at ht
    refine ⟨[], ⟨by simp; omega, fun i x u h => by simp at h⟩, by simp; omega, fun q hq => by simp at hq⟩
  | (o, t) :: fs, off, ht, hof, hp => by
    simp only [tiles] at ht
    cases hj : T t with
    | none => rw [hj] at ht; cases ht
    | some j =>
      rw [hj] at ht
      simp only [Bool.and_eq_true, nbeq] at ht
      obtain ⟨rfl, ht⟩ := ht
      obtain ⟨xs, h1, h2, h3⟩ := hp (o, t) (by simp) j hj
      dsimp only at h1 h2
      have hfit : o + j.size ≤ size := by
        have := h2.1
        rw [h3, List.length_take, List.length_drop, hcs] at this
        omega
      obtain ⟨ys, g1, g2, g3⟩ := fields_join hcs fs (o + j.size) ht hfit (fun q hq => hp q (by simp [hq]))
      refine ⟨xs ++ ys, ?_, by simp [h3, g2]; omega, fun q hq j' hj' => ?_⟩
      · have := h2.app g1
        rw [show cs.drop o = (cs.drop o).take j.size ++ cs.drop (o + j.size) by rw [← List.drop_drop]; exact (List.take_append_drop _ _).symm]
        exact this
      · rcases List.mem_cons.1 hq with rfl | hq
        · rw [hj] at hj'
          injection hj' with hj'; subst hj'
          refine ⟨Nat.le_refl _, ?_⟩
          rw [Nat.sub_self, List.drop_zero, List.take_append_of_le_length (by omega), List.take_of_length_le (by omega)]
          exact h1
        · obtain ⟨k1, k2⟩ := g3 q hq j' hj'
          refine ⟨by omega, ?_⟩
          rw [List.drop_append, List.drop_eq_nil_of_le (show xs.length ≤ q.1 - o by omega), List.nil_append, h3, show q.1 - o - j.size = q.1 - (o + j.size) by omega]
          exact k2
theorem seg_join {X : Nat → Prop} {ρ : Env} {cs : List Value} {c : Nat} {q : List SV → Prop} : ∀ (n : Nat), cs.length = n * c → (∀ k, k < n → ∃ xs, q xs ∧ DenL w X ρ xs ((cs.drop (k * c)).take c) ∧ xs.length = c) →
    ∃ ys, DenL w X ρ ys cs ∧ ys.length = n * c ∧ ∀ k, k < n → q ((ys.drop (k * c)).take c)
  | 0, h, _ => ⟨[], ⟨by simp at h; simp [h], fun i x u h => by simp at h⟩, by simp, fun k hk => absurd hk (by omega)⟩
  | n + 1, h, hp => by
    have hm : (n + 1) * c = n * c + c := Nat.succ_mul n c
    obtain ⟨ys, g1, g2, g3⟩ := seg_join (cs := cs.take (n * c)) (c := c) (q := q) n (by simp; omega) (fun k hk => by
      obtain ⟨xs, h1, h2, h3⟩ := hp k (by omega)
      refine ⟨xs, h1, ?_, h3⟩
      have hle : k * c + c ≤ n * c := by rw [← Nat.succ_mul]; exact Nat.mul_le_mul_right _ hk
      have : ((cs.take (n * c)).drop (k * c)).take c = (cs.drop (k * c)).take c := by
        rw [List.drop_take, List.take_take, Nat.min_eq_left (by omega)]
      rw [this]; exact h2)
    obtain ⟨xs, h1, h2, h3⟩ := hp n (by omega)
    have e : (cs.drop (n * c)).take c = cs.drop (n * c) := List.take_of_length_le (by simp; omega)
    rw [e] at h2
    refine ⟨ys ++ xs, ?_, by simp [g2, h3]; omega, fun k hk => ?_⟩
    · have := g1.app h2
      rw [List.take_append_drop] at this
      exact this
    · by_cases hk' : k < n
      · have hle : k * c + c ≤ n * c := by rw [← Nat.succ_mul]; exact Nat.mul_le_mul_right _ hk'
        rw [List.drop_append_of_le_length (by omega), List.take_append_of_le_length (by simp; omega)]
        exact g3 k hk'
      · obtain rfl : k = n := by omega
        rw [List.drop_append, List.drop_eq_nil_of_le (by omega), List.nil_append, g2, Nat.sub_self, List.drop_zero, List.take_of_length_le (by omega)]
        exact h1
theorem weightsAll_mem {P : Program} {e : TypeId} : ∀ {ds : List (DataW H)} {d : DataW H}, d ∈ ds → ∀ n ∈ d.weights P e, n ∈ DataW.weightsAll P e ds
  | [], d, h, n, hn => by simp at h
  | x :: ds, d, h, n, hn => by
    simp only [DataW.weightsAll, List.mem_append]
    rcases List.mem_cons.1 h with rfl | h
    · exact .inl hn
    · exact .inr (weightsAll_mem h n hn)
theorem all_sub {a b : List Nat} {p : Nat → Bool} (h : a.all p = true) (hs : ∀ n ∈ b, n ∈ a) : b.all p = true := List.all_eq_true.2 fun n hn => List.all_eq_true.1 h n (hs n hn)
def OneC (cs : List Value) : Prop := ∀ u ∈ cs, u.oneCell' = true
theorem open_cells (tys : Types P T) (sz : Sizes T) : ∀ (n m t : Nat) (cs : List Value) (x : DataW H × List MemPlace) (i : TI), T t = some i → okTy T m t = true → DataW.trod enc P w 0 (fun _ => true) true n t cs = some x → (x.1.weights P t).all (· ≤ reachBytes) = true →
    ∃ xs, wfC T n t xs ∧ DenL w NoX noEnv xs cs ∧ xs.length = i.size ∧ OneC cs := by
  intro n
  induction n with
  | zero => intro m t cs x i _ _ h; simp [DataW.trod] at h
  | succ n ih =>
    intro m t cs x i ht hok h hw
    obtain ⟨i', m', rfl, ht'⟩ := okTy_T hok
    rw [ht] at ht'; injection ht' with ht'; subst ht'
    have tok := tys.ok t i ht
    have hok' := hok
    unfold okTy at hok'
    simp only [ht] at hok'
    have one : ∀ {sv : SV} {v : Value}, Den w NoX noEnv sv v → DenL w NoX noEnv [sv] [v] := fun h => denl_cons h denl_nil
    cases hk : i.kind with
    | bool =>
      have hs : i.size = 1 := sz.one t i ht (by rw [hk]; rfl)
      obtain ⟨b, rfl, _⟩ := DataW.trod_bool (tok.und_bool hk) h
      exact ⟨[.bool b], by simp only [wfC, ht, hk]; exact ⟨b, rfl⟩, one (.bool _ _), by simp [hs], fun u hu => by simp at hu; subst hu; rfl⟩
    | int k =>
      have hs : i.size = 1 := sz.one t i ht (by rw [hk]; rfl)
      obtain ⟨b, rfl, _, hb⟩ := DataW.trod_int (tok.und_int hk) h
      exact ⟨[.int k b], by simp only [wfC, ht, hk]; exact ⟨b, rfl, hb⟩, one (.int _ _ _), by simp [hs], fun u hu => by simp at hu; subst hu; rfl⟩
    | string =>
      have hs : i.size = 1 := sz.one t i ht (by rw [hk]; rfl)
      obtain ⟨b, rfl, _, hb⟩ := DataW.trod_string (tok.und_string hk) h
      exact ⟨[.str b], by simp only [wfC, ht, hk]; exact ⟨b, rfl, hb⟩, one (.str _ _), by simp [hs], fun u hu => by simp at hu; subst hu; rfl⟩
    | other => simp [hk] at hok'
    | slice e =>
      simp only [hk, Bool.and_eq_true] at hok'
      have hs : i.size = 1 := sz.one t i ht (by rw [hk]; rfl)
      have hok2 := hok'.1
      replace hok' := hok'.2
      obtain ⟨j, _, _, hj⟩ := okTy_T hok'
      have tokE := tys.ok e j hj
      have hu := tok.und_slice hk
      obtain ⟨hc, hbt⟩ := cellsOf_T tys hj
      rcases DataW.trod_slice hu h with ⟨rfl, _⟩ | ⟨a, len, cap, elems, rest, n', hn, rfl, rfl, _, hlc, hcm, hel, hE, hR, _⟩
      · refine ⟨[.lst j.shape []], ?_, one (.lst0 _ _ _ _), by simp [hs], fun u hu => by simp at hu; subst hu; rfl⟩
        simp only [wfC, ht, hk, hj]
        exact ⟨[], 0, rfl, by simp, by simp [maxLen], by omega, fun x hx => by simp at hx⟩
      · obtain rfl : n = n' := by omega
        simp only [DataW.weights, hu] at hw
        have hcap : cap * j.bytes ≤ 140737488351232 := by
          have := List.all_eq_true.1 hw _ (List.mem_cons_self ..)
          simp only [List.length_map, hel, (hR rfl).1, decide_eq_true_eq, hbt] at this
          rw [Nat.add_sub_cancel' hlc] at this
          simpa [reachBytes] using this
        have hall : ∀ k, k < len → ∃ cs', w.cells? 0 (a.add (k * j.size)) j.size = some cs' ∧ ∃ ys, wfC T n e ys ∧ DenL w NoX noEnv ys cs' ∧ ys.length = j.size ∧ OneC cs' := fun k hk => by
          have := hE k hk
          rw [hc, List.getElem?_eq_getElem (by omega)] at this
          simp only [Option.bind_eq_some_iff] at this
          obtain ⟨cs', h1, h2⟩ := this
          refine ⟨cs', h1, ih m' e cs' _ j hj hok' h2 (all_sub hw fun q hq => ?_)⟩
          refine List.mem_cons_of_mem _ (List.mem_append_left _ (weightsAll_mem (d := elems[k].1) (List.mem_map.2 ⟨elems[k], List.getElem_mem _, rfl⟩) q hq))
        by_cases h0 : len = 0
        · subst h0
          refine ⟨[.lst j.shape []], ?_, one (.lst0 _ _ _ _), by simp [hs], fun u hu => by simp at hu; subst hu; rfl⟩
          simp only [wfC, ht, hk, hj]
          exact ⟨[], cap, rfl, by simp, hcm, hcap, fun x hx => by simp at hx⟩
        · have hw1 := TI.wid_size (sz.one e j hj)
          have hsz0 : 0 < j.size := by
            rw [hj] at hok2
            simp at hok2
            have : j.size ≠ 0 := fun h => by rw [h] at hok2; cases hok2
            omega
          have hcells : ∃ us : List Value, us.length = len * j.size ∧ OneC us ∧ (∀ q u, us[q]? = some u → w.cell? (a.add q) = some u) ∧ ∀ k, k < len → ∃ ys, wfC T n e ys ∧ DenL w NoX noEnv ys ((us.drop (k * j.size)).take j.size) ∧ ys.length = j.size := by
            have step : ∀ len', len' ≤ len → ∃ us : List Value, us.length = len' * j.size ∧ OneC us ∧ (∀ q u, us[q]? = some u → w.cell? (a.add q) = some u) ∧ ∀ k, k < len' → ∃ ys, wfC T n e ys ∧ DenL w NoX noEnv ys ((us.drop (k * j.size)).take j.size) ∧ ys.length = j.size := by
              intro len' hle
              induction len' with
              | zero => exact ⟨[], by simp, fun u hu => by simp at hu, fun q u hq => by simp at hq, fun k hk => absurd hk (by omega)⟩
              | succ l ihl =>
                obtain ⟨us, u1, u2, u3, u4⟩ := ihl (by omega)
                obtain ⟨cs', c1, ys, y1, y2, y3, y4⟩ := hall l (by omega)
                obtain ⟨_, c2, c3⟩ := World.cells?_some c1
                have hsm : (l + 1) * j.size = l * j.size + j.size := Nat.succ_mul _ _
                refine ⟨us ++ cs', by simp [u1, c2]; omega, fun u hu => by rcases List.mem_append.1 hu with g | g; exact u2 u g; exact y4 u g, fun q u hq => ?_, fun k hk => ?_⟩
                · by_cases hq' : q < us.length
                  · rw [List.getElem?_append_left hq'] at hq
                    exact u3 q u hq
                  · rw [List.getElem?_append_right (by omega)] at hq
                    have hlt : q - us.length < j.size := by
                      obtain ⟨g, _⟩ := List.getElem?_eq_some_iff.1 hq
                      omega
                    have := c3 (q - us.length) hlt
                    rw [hq, Addr.add_add, u1, show l * j.size + (q - l * j.size) = q by omega] at this
                    exact this
                · by_cases hk' : k < l
                  · obtain ⟨zs, z1, z2, z3⟩ := u4 k hk'
                    have hle2 : k * j.size + j.size ≤ l * j.size := by rw [← Nat.succ_mul]; exact Nat.mul_le_mul_right _ hk'
                    exact ⟨zs, z1, by rw [List.drop_append_of_le_length (by omega), List.take_append_of_le_length (by simp; omega)]; exact z2, z3⟩
                  · obtain rfl : k = l := by omega
                    refine ⟨ys, y1, ?_, y3⟩
                    rw [List.drop_append, List.drop_eq_nil_of_le (by omega), List.nil_append, u1, Nat.sub_self, List.drop_zero, List.take_of_length_le (by omega)]
                    exact y2
            exact step len (Nat.le_refl _)
          obtain ⟨us, u1, u2, u3, u4⟩ := hcells
          have hf : ∃ f : Nat → List SV, ∀ k, k < len → wfC T n e (f k) ∧ DenL w NoX noEnv (f k) ((us.drop (k * j.size)).take j.size) ∧ (f k).length = j.size :=
            ⟨fun k => if h : k < len then Classical.choose (u4 k h) else [], fun k h => by dsimp only; rw [dif_pos h]; exact Classical.choose_spec (u4 k h)⟩
          obtain ⟨f, hf⟩ := hf
          have hlen : us.length ≠ 0 := by
            rw [u1]
            have : 1 * j.size ≤ len * j.size := Nat.mul_le_mul_right _ (by omega)
            omega
          have hc0 := u3 0 _ (List.getElem?_eq_getElem (by omega))
          rw [Addr.add_zero'] at hc0
          have hsp := World.cell?_spot hc0
          have hblt := block_lt hc0
          obtain ⟨b, off, spot⟩ := a
          simp only at hsp
          subst hsp
          have hll : ((List.range len).map fun k => wrapC j.shape (f k)).length = len := by simp
          refine ⟨[.lst j.shape ((List.range len).map fun k => wrapC j.shape (f k))], ?_, one ?_, by simp [hs], fun u hu => by simp at hu; subst hu; rfl⟩
          · simp only [wfC, ht, hk, hj]
            refine ⟨_, cap, rfl, by rw [hll]; exact hlc, hcm, hcap, fun x hx => ?_⟩
            obtain ⟨k, hk, rfl⟩ := List.mem_map.1 hx
            exact ⟨f k, (hf k (by simpa using hk)).1, rfl⟩
          · have key : Den w NoX noEnv (.lst j.shape ((List.range len).map fun k => wrapC j.shape (f k))) (.slice (some ⟨b, off, none⟩) ((List.range len).map fun k => wrapC j.shape (f k)).length cap) := by
              refine .lst _ _ _ b off cap us hblt (fun h => h) (by rw [hll]; exact hlc) (fun q u hq => by have := u3 q u hq; rwa [Addr.add_lit] at this) (by rw [hll, u1, hw1]) u2 (fun k hk => ?_)
              rw [hll] at hk
              obtain ⟨f1, f2, f3⟩ := hf k hk
              simp only [List.getElem_map, List.getElem_range]
              have hle2 : k * j.size + j.size ≤ len * j.size := by rw [← Nat.succ_mul]; exact Nat.mul_le_mul_right _ hk
              rw [valAt_seg j.shape us k (by rw [← hw1]; omega), ← hw1]
              cases hsh : j.shape with
              | none =>
                rw [hsh] at hw1
                simp only [wid] at hw1
                obtain ⟨y, hy⟩ := List.length_eq_one_iff.1 (f3.trans hw1)
                rw [hy] at f2 ⊢
                have hl1 : ((us.drop (k * j.size)).take j.size).length = 1 := by rw [← f2.1]; rfl
                obtain ⟨u, hu⟩ := List.length_eq_one_iff.1 hl1
                rw [hu] at f2 ⊢
                exact f2.2 0 y u rfl rfl
              | some q =>
                rw [hsh] at hw1
                simp only [wid] at hw1
                exact f2.val q (f3.trans hw1)
            rw [hll] at key
            exact key
    | struct fs =>
      simp only [hk, Bool.and_eq_true] at hok'
      obtain ⟨gs, hg, hgs⟩ := tok.und_struct hk
      obtain ⟨xs, n', hn, hx, hcl, hxl, hX⟩ := DataW.trod_struct hg h
      obtain rfl : n = n' := by omega
      rw [(cellsOf_T tys ht).1] at hcl
      subst hx
      simp only [DataW.weights, hg] at hw
      have hparts : ∀ q ∈ fs, ∀ j, T q.2 = some j → ∃ ys, wfC T n q.2 ys ∧ DenL w NoX noEnv ys ((cs.drop q.1).take j.size) ∧ ys.length = j.size ∧ OneC ((cs.drop q.1).take j.size) := fun q hq j hj => by
        subst hgs
        obtain ⟨fd, hfd, rfl⟩ := List.mem_map.1 hq
        obtain ⟨k, hk, rfl⟩ := List.mem_iff_getElem.1 hfd
        have hk' : k < gs.size := by simpa using hk
        simp only [Array.getElem_toList] at hj hq ⊢
        have := hX k gs[k] (by simp [hk'])
        rw [(cellsOf_T tys hj).1, List.getElem?_eq_getElem (by omega)] at this
        have hty : okTy T m' gs[k].type = true := by
          have := List.all_eq_true.1 hok'.2 _ hq
          simpa using this
        have := ih m' gs[k].type _ xs[k] j hj hty this (all_sub hw fun a ha => DataW.weights_mem_each (j := k) (by simp [hk']) (by simp [show k < xs.length by omega]) a ha)
        simpa using this
      obtain ⟨ys, g1, g2, g3⟩ := fields_join (T := T) (w := w) (X := NoX) (ρ := noEnv) (m := n) hcl fs 0 hok'.1 (Nat.zero_le _) (fun q hq j hj => by
        obtain ⟨ys, y1, y2, y3, _⟩ := hparts q hq j hj
        exact ⟨ys, y1, y2, y3⟩)
      refine ⟨ys, ?_, by simpa using g1, by simpa using g2, ?_⟩
      · simp only [wfC, ht, hk]
        exact ⟨by simpa using g2, fun q hq j hj => by simpa using (g3 q hq j hj).2⟩
      · have cover : ∀ (fs : List (Nat × Nat)) (off : Nat), tiles T i.size off fs = true → (∀ q ∈ fs, ∀ j, T q.2 = some j → OneC ((cs.drop q.1).take j.size)) → OneC (cs.drop off) := by
          intro fs
          induction fs with
          | nil => intro off ht _ u hu; simp only [tiles, nbeq] at ht; rw [List.drop_eq_nil_of_le (by omega)] at hu; simp at hu
          | cons q fs ihf =>
            obtain ⟨o, t'⟩ := q
            intro off ht hp u hu
            simp only [tiles] at ht
            cases hj : T t' with
            | none => rw [hj] at ht; cases ht
            | some j =>
              rw [hj] at ht
              simp only [Bool.and_eq_true, nbeq] at ht
              obtain ⟨rfl, ht⟩ := ht
              rw [← List.take_append_drop j.size (cs.drop o), List.drop_drop] at hu
              rcases List.mem_append.1 hu with g | g
              · exact hp (o, t') (by simp) j hj u g
              · exact ihf (o + j.size) ht (fun q hq => hp q (by simp [hq])) u g
        have := cover fs 0 hok'.1 (fun q hq j hj => by obtain ⟨_, _, _, _, y4⟩ := hparts q hq j hj; exact y4)
        simpa using this
    | array n' e =>
      simp only [hk, Bool.and_eq_true] at hok'
      obtain ⟨h1, hok'⟩ := hok'
      obtain ⟨j, _, _, hj⟩ := okTy_T hok'
      rw [hj] at h1
      simp only [nbeq] at h1
      have hu := tok.und_array hk
      obtain ⟨xs, n1, hn, hx, hcl, hxl, hX⟩ := DataW.trod_array hu h
      obtain rfl : n = n1 := by omega
      rw [(cellsOf_T tys ht).1] at hcl
      subst hx
      simp only [DataW.weights, hu] at hw
      have hparts : ∀ k, k < n' → ∃ ys, wfC T n e ys ∧ DenL w NoX noEnv ys ((cs.drop (k * j.size)).take j.size) ∧ ys.length = j.size ∧ OneC ((cs.drop (k * j.size)).take j.size) := fun k hk => by
        have := hX k hk
        rw [(cellsOf_T tys hj).1, List.getElem?_eq_getElem (by omega)] at this
        exact ih m' e _ xs[k] j hj hok' this (all_sub hw fun a ha => weightsAll_mem (d := xs[k].1) (List.mem_map.2 ⟨xs[k], List.getElem_mem _, rfl⟩) a ha)
      obtain ⟨ys, g1, g2, g3⟩ := seg_join (w := w) (X := NoX) (ρ := noEnv) (cs := cs) (c := j.size) (q := wfC T n e) n' (by omega) (fun k hk => by
        obtain ⟨ys, y1, y2, y3, _⟩ := hparts k hk
        exact ⟨ys, y1, y2, y3⟩)
      refine ⟨ys, ?_, g1, by omega, fun u hu => ?_⟩
      · simp only [wfC, ht, hk]
        exact ⟨by omega, fun k hk j' hj' => by rw [hj] at hj'; injection hj' with hj'; subst hj'; exact g3 k hk⟩
      · obtain ⟨q, hq, rfl⟩ := List.mem_iff_getElem.1 hu
        have hpos : 0 < j.size := by
          rcases Nat.eq_zero_or_pos j.size with e0 | e0
          · rw [e0, Nat.mul_zero] at h1; omega
          · exact e0
        have hk : q / j.size < n' := by rw [Nat.div_lt_iff_lt_mul hpos]; omega
        obtain ⟨_, _, _, _, y4⟩ := hparts (q / j.size) hk
        refine y4 _ (List.mem_iff_getElem?.2 ⟨q % j.size, ?_⟩)
        rw [List.getElem?_take, if_pos (Nat.mod_lt _ hpos), List.getElem?_drop, Nat.mul_comm, Nat.div_add_mod, List.getElem?_eq_getElem hq]
theorem weights_of {H : Type} {P : Program} {ts : List TypeId} {ds : List (DataW H)} (h : (DataW.weightsEach P ts ds).all (· ≤ reachBytes) = true) {j : Nat} {t : TypeId} {d : DataW H} (ht : ts[j]? = some t) (hd : ds[j]? = some d) : (d.weights P t).all (· ≤ reachBytes) = true :=
  List.all_eq_true.2 fun n hn => List.all_eq_true.1 h n (DataW.weights_mem_each ht hd n hn)
theorem open_den (tys : Types P T) (sz : Sizes T) {n m t : Nat} {v : Value} {x : DataW H × List MemPlace} {i : TI} (ht : T t = some i) (hok : okTy T m t = true) (hsh : i.kind.aggB = true → ∃ cs, v = .agg cs) (hna : i.kind.aggB = false → ∀ cs, v ≠ .agg cs) (h : DataW.trod enc P w 0 (fun _ => true) true n t v.cells.toList = some x) (hw : (x.1.weights P t).all (· ≤ reachBytes) = true) :
    ∃ xs, wfC T n t xs ∧ Den w NoX noEnv (wrapC i.shape xs) v ∧ xs.length = i.size := by
  obtain ⟨xs, h1, h2, h3, h4⟩ := open_cells tys sz n m t _ x i ht hok h hw
  refine ⟨xs, h1, ?_, h3⟩
  cases hb : i.kind.aggB with
  | true =>
    obtain ⟨cs, rfl⟩ := hsh hb
    simp only [TI.shape, hb, if_true, wrapC]
    exact Den.agg_iff.2 ⟨_, rfl, by simpa [Value.cells] using h2⟩
  | false =>
    have h5 := sz.one t i ht hb
    obtain ⟨y, rfl⟩ := List.length_eq_one_iff.1 (h3.trans h5)
    have : v.cells = #[v] := by
      cases v <;> first | rfl | exact absurd rfl (hna hb _)
    rw [this] at h2
    simp only [TI.shape, hb, wrapC]
    exact h2.2 0 y v rfl rfl
end
theorem wf_int {T : Nat → Option TI} {n t : Nat} {i : TI} {k : IntKind} {x : SV} (ht : T t = some i) (hk : i.kind = .int k) (h : wfC T n t [x]) : ∃ z, x = .int k z ∧ (Lit.int k z).wf = true := by
  cases n with
  | zero => exact h.elim
  | succ n =>
    simp only [wfC, ht, hk] at h
    obtain ⟨z, h1, h2⟩ := h
    simp at h1
    exact ⟨z, h1, h2⟩
theorem wf_slice {T : Nat → Option TI} {n t e : Nat} {i j : TI} {x : SV} (ht : T t = some i) (hk : i.kind = .slice e) (he : T e = some j) (h : wfC T n t [x]) :
    ∃ l n', x = .lst j.shape l ∧ l.length * j.bytes ≤ 140737488351232 ∧ ∀ x ∈ l, ∃ ys, wfC T n' e ys ∧ x = wrapC j.shape ys := by
  cases n with
  | zero => exact h.elim
  | succ n =>
    simp only [wfC, ht, hk, he] at h
    obtain ⟨l, c, h1, h2, h3, h4, h5⟩ := h
    simp at h1
    exact ⟨l, n, h1, Nat.le_trans (Nat.mul_le_mul_right _ h2) h4, h5⟩
theorem wf_struct {T : Nat → Option TI} {n t : Nat} {i : TI} {fs : List (Nat × Nat)} {xs : List SV} (ht : T t = some i) (hk : i.kind = .struct fs) (h : wfC T n t xs) :
    xs.length = i.size ∧ ∃ n', ∀ q ∈ fs, ∀ j, T q.2 = some j → wfC T n' q.2 ((xs.drop q.1).take j.size) := by
  cases n with
  | zero => exact h.elim
  | succ n =>
    simp only [wfC, ht, hk] at h
    exact ⟨h.1, n, h.2⟩
theorem lst_choose {A : Type} {p : A → Prop} {f : A → SV} : ∀ (l : List SV), (∀ x ∈ l, ∃ a, p a ∧ x = f a) → ∃ es : List A, l = es.map f ∧ ∀ a ∈ es, p a
  | [], _ => ⟨[], rfl, fun a h => by simp at h⟩
  | x :: l, h => by
    obtain ⟨a, h1, h2⟩ := h x (by simp)
    obtain ⟨es, h3, h4⟩ := lst_choose l (fun y hy => h y (by simp [hy]))
    exact ⟨a :: es, by simp [h2, h3], fun b hb => by rcases List.mem_cons.1 hb with rfl | hb; exact h1; exact h4 b hb⟩
theorem wf_bytes {n : Nat} {x : SV} (h : wfC tinfo n 26 [x]) : ∃ bs : List UInt8, x = .lst none (u8l bs) ∧ bs.length ≤ 140737488351232 := by
  obtain ⟨l, n', rfl, h2, h3⟩ := wf_slice (show tinfo 26 = some _ from rfl) rfl (show tinfo 5 = some _ from rfl) h
  obtain ⟨bs, h4, _⟩ := lst_choose (A := UInt8) (p := fun _ => True) (f := fun b => SV.int .u8 b.toNat) l (fun x hx => by
    obtain ⟨ys, g1, g2⟩ := h3 x hx
    cases n' with
    | zero => exact g1.elim
    | succ n' =>
      obtain ⟨z, g3, g4⟩ := g1
      refine ⟨UInt8.ofNat z.toNat, trivial, ?_⟩
      rw [g2, g3]
      have := bounds_u8 g4
      show SV.int .u8 z = _
      congr 1
      simp only [UInt8.toNat_ofNat']
      omega)
  refine ⟨bs, by rw [h4]; rfl, ?_⟩
  have : l.length = bs.length := by rw [h4]; simp
  simp only at h2
  omega
theorem open_bytes {n : Nat} {xs : List SV} (h : wfC tinfo n 26 xs) : ∃ bs : List UInt8, bs.length ≤ 140737488351232 ∧ xs = [.lst none (u8l bs)] := by
  have hl : xs.length = 1 := by
    cases n with
    | zero => exact h.elim
    | succ n => obtain ⟨l, c, h1, _⟩ := h; rw [h1]; rfl
  obtain ⟨x, rfl⟩ := List.length_eq_one_iff.1 hl
  obtain ⟨bs, rfl, h2⟩ := wf_bytes h
  exact ⟨bs, h2, rfl⟩
end Go.Proofs.Ytjhicdoigllblaa
namespace Go.Proofs.Ytjhicdoigllblaa
set_option linter.unusedVariables false
set_option linter.unusedSimpArgs false
open Go.RowKit
theorem wf_bool {T : Nat → Option TI} {n t : Nat} {i : TI} {x : SV} (ht : T t = some i) (hk : i.kind = .bool) (h : wfC T n t [x]) : ∃ b, x = .bool b := by
  cases n with
  | zero => exact h.elim
  | succ n =>
    unfold wfC at h
    rw [ht] at h
    simp only [hk] at h
    obtain ⟨b, hb⟩ := h
    injection hb with hb
    exact ⟨b, hb⟩
theorem open_bss {n : Nat} {x : SV} (h : wfC tinfo n 22 [x]) : ∃ ps : List (List UInt8), x = .lst none (rowsB ps) ∧ (∀ p ∈ ps, p.length ≤ 140737488351232) ∧ ps.length ≤ 5864062014805 := by
  obtain ⟨l, n', rfl, h2, h3⟩ := wf_slice (show tinfo 22 = some _ from rfl) rfl (show tinfo 26 = some _ from rfl) h
  obtain ⟨ps, h4, h5⟩ := lst_choose (A := List UInt8) (p := fun p => p.length ≤ 140737488351232) (f := fun b => .lst none (u8l b)) l (fun x hx => by
    obtain ⟨ys, g1, g2⟩ := h3 x hx
    obtain ⟨bs, g3, g4⟩ := open_bytes g1
    exact ⟨bs, g3, by rw [g2, g4]; rfl⟩)
  refine ⟨ps, by rw [h4]; rfl, h5, ?_⟩
  have : l.length = ps.length := by rw [h4]; simp
  simp only at h2
  omega
structure Pce.fits (p : Pce) : Prop where
  t : 0 ≤ p.tag ∧ p.tag ≤ 255
  n : -9223372036854775808 ≤ p.n ∧ p.n ≤ 9223372036854775807
  c : -9223372036854775808 ≤ p.c ∧ p.c ≤ 9223372036854775807
  d : p.d.length ≤ 140737488351232
theorem open_piece {n : Nat} {xs : List SV} (h : wfC tinfo n 51 xs) : ∃ p : Pce, p.fits ∧ xs = [.int .u8 p.tag, .int .i64 p.n, .int .i64 p.c, .bool p.ack, .lst none (u8l p.d)] := by
  obtain ⟨hl, n', h⟩ := wf_struct (show tinfo 51 = some _ from rfl) rfl h
  match xs, hl with
  | [a, b, c, d, e], _ =>
    obtain ⟨z0, rfl, w0⟩ := wf_int (show tinfo 5 = some _ from rfl) rfl (h (0, 5) (by simp) _ rfl)
    obtain ⟨z1, rfl, w1⟩ := wf_int (show tinfo 3 = some _ from rfl) rfl (h (1, 3) (by simp) _ rfl)
    obtain ⟨z2, rfl, w2⟩ := wf_int (show tinfo 3 = some _ from rfl) rfl (h (2, 3) (by simp) _ rfl)
    obtain ⟨k, rfl⟩ := wf_bool (show tinfo 4 = some _ from rfl) rfl (h (3, 4) (by simp) _ rfl)
    obtain ⟨bs, rfl, w3⟩ := wf_bytes (h (4, 26) (by simp) _ rfl)
    have b0 := bounds_u8 w0
    have b1 := bounds_i64 w1
    have b2 := bounds_i64 w2
    exact ⟨⟨z0, z1, z2, k, bs⟩, ⟨b0, b1, b2, w3⟩, rfl⟩
theorem open_sender {n : Nat} {xs : List SV} (h : wfC tinfo n 25 xs) : ∃ s : Snd, s.fits ∧ xs = [.int .i64 s.st, .int .u8 s.tag, .lst none (rowsB s.ps), .int .u32 s.ak, .int .i64 s.rd, .int .i64 s.un] := by
  obtain ⟨hl, n', h⟩ := wf_struct (show tinfo 25 = some _ from rfl) rfl h
  match xs, hl with
  | [a, b, c, d, e, f], _ =>
    obtain ⟨z0, rfl, w0⟩ := wf_int (show tinfo 3 = some _ from rfl) rfl (h (0, 3) (by simp) _ rfl)
    obtain ⟨z1, rfl, w1⟩ := wf_int (show tinfo 5 = some _ from rfl) rfl (h (1, 5) (by simp) _ rfl)
    obtain ⟨ps, rfl, w2, w3⟩ := open_bss (h (2, 22) (by simp) _ rfl)
    obtain ⟨z3, rfl, w4⟩ := wf_int (show tinfo 23 = some _ from rfl) rfl (h (3, 23) (by simp) _ rfl)
    obtain ⟨z4, rfl, w5⟩ := wf_int (show tinfo 3 = some _ from rfl) rfl (h (4, 3) (by simp) _ rfl)
    obtain ⟨z5, rfl, w6⟩ := wf_int (show tinfo 3 = some _ from rfl) rfl (h (5, 3) (by simp) _ rfl)
    exact ⟨⟨z0, z1, ps, z3, z4, z5⟩, ⟨bounds_i64 w0, bounds_u8 w1, bounds_u32 w4, bounds_i64 w5, bounds_i64 w6, w3, w2⟩, rfl⟩
structure Rcv where
  tag : Int
  cnt : Int
  ps : List (List UInt8)
  hv : Int
  dn : Bool
structure Rcv.fits (r : Rcv) : Prop where
  tag : 0 ≤ r.tag ∧ r.tag ≤ 255
  cnt : -9223372036854775808 ≤ r.cnt ∧ r.cnt ≤ 9223372036854775807
  hv : 0 ≤ r.hv ∧ r.hv ≤ 4294967295
  n : r.ps.length ≤ 5864062014805
  b : ∀ p ∈ r.ps, p.length ≤ 140737488351232
theorem open_receiver {n : Nat} {xs : List SV} (h : wfC tinfo n 55 xs) : ∃ r : Rcv, r.fits ∧ xs = [.int .u8 r.tag, .int .i64 r.cnt, .lst none (rowsB r.ps), .int .u32 r.hv, .bool r.dn] := by
  obtain ⟨hl, n', h⟩ := wf_struct (show tinfo 55 = some _ from rfl) rfl h
  match xs, hl with
  | [a, b, c, d, e], _ =>
    obtain ⟨z0, rfl, w0⟩ := wf_int (show tinfo 5 = some _ from rfl) rfl (h (0, 5) (by simp) _ rfl)
    obtain ⟨z1, rfl, w1⟩ := wf_int (show tinfo 3 = some _ from rfl) rfl (h (1, 3) (by simp) _ rfl)
    obtain ⟨ps, rfl, w2, w3⟩ := open_bss (h (2, 22) (by simp) _ rfl)
    obtain ⟨z3, rfl, w4⟩ := wf_int (show tinfo 23 = some _ from rfl) rfl (h (3, 23) (by simp) _ rfl)
    obtain ⟨k, rfl⟩ := wf_bool (show tinfo 4 = some _ from rfl) rfl (h (4, 4) (by simp) _ rfl)
    exact ⟨⟨z0, z1, ps, z3, k⟩, ⟨bounds_u8 w0, bounds_i64 w1, bounds_u32 w4, w3, w2⟩, rfl⟩
end Go.Proofs.Ytjhicdoigllblaa
namespace Go.Proofs.Ytjhicdoigllblaa
set_option linter.unusedVariables false
set_option linter.unusedSimpArgs false
open Go.RowKit
set_option maxHeartbeats 8000000
theorem clonedRow_c (ps : List (List UInt8)) (R : List SV) (hR : R = rowsB ps) (hn : ps.length ≤ 5864062014805) (hb : ∀ p ∈ ps, p.length ≤ 140737488351232) : Good 51 (nu [.lst none R] (.row 1) (.row none 26 R)) := by
  have hRl : R.length = ps.length := by rw [hR, rowsB_len]
  have hE := fun i hi => rowsB_at hR i hi
  obtain ⟨H, hH⟩ : ∃ H : Nat → List SV, ∀ i, H i = R.take i ++ List.replicate (R.length - i) .nil := ⟨_, fun _ => rfl⟩
  have hH0 : List.replicate R.length SV.nil = H 0 := by rw [hH]; simp
  have hHl : ∀ i, i ≤ R.length → (H i).length = R.length := fun i hi => by rw [hH]; simp; omega
  have hHs : ∀ i y, R[i]? = some y → (H i).set i y = H (i + 1) := fun i y hy => by
    obtain ⟨h1, h2⟩ := List.getElem?_eq_some_iff.1 hy
    rw [hH, hH]
    apply List.ext_getElem?
    intro k
    rw [List.getElem?_set]
    by_cases hk : i = k
    · subst hk
      rw [if_pos rfl, if_pos (by simp; omega), List.getElem?_append_left (by simp; omega), List.getElem?_take, if_pos (by omega), hy]
    · rw [if_neg hk]
      by_cases h3 : k < i
      · rw [List.getElem?_append_left (by simp; omega), List.getElem?_append_left (by simp; omega), List.getElem?_take, List.getElem?_take, if_pos h3, if_pos (by omega)]
      · rw [List.getElem?_append_right (by simp; omega), List.getElem?_append_right (by simp; omega), List.getElem?_replicate, List.getElem?_replicate]
        simp only [List.length_take]
        by_cases h4 : k < R.length
        · rw [if_pos (by omega), if_pos (by omega)]
        · rw [if_neg (by omega), if_neg (by omega)]
  have hHn : H R.length = R := by rw [hH]; simp
  clear hH
  refine Good.of Try.func51 rfl (by rfl) (by kernel_rfl) ?_
  cbv
  (repeat' (first
    | (refine q1 (by first | exact trivial | omega | (dsimp only; omega) | exact pow62 _ (by omega) | exact mul9 (by omega) (by omega) | (simp only [sm] at *; omega)) (fun z hz => ?_); (try simp only at hz); cbv)
    | (refine rq (by first | exact trivial | omega | (dsimp only; omega) | (simp only [sm] at *; omega)) ?_; cbv)
    | (refine QC.tt (by first | omega | (dsimp only; omega) | exact rfl | (simp only [sm] at *; omega)) ?_; cbv)
    | (refine QC.tt ?_ ?_; (focus (simp only [decide_true, Bool.and_true, Bool.and_self] <;> fail)); cbv)
    | (refine QC.ff ?_ ?_; (focus (simp only [decide_true, Bool.and_true, Bool.and_self, decide_false, Bool.false_and, reduceCtorEq, not_false_eq_true] <;> fail)); cbv)
    | (refine QC.ff (by first | omega | (dsimp only; omega) | (simp only [sm] at *; omega)) ?_; cbv)
    | (refine QC.mk (fun hc => ?_) (fun hc => ?_) <;> (try dsimp only at hc) <;> cbv)
    | (refine br_mk2 (fun hb => ?_) (fun hb => ?_) <;> (try subst hb) <;> cbv)))
  refine loopQ (A := Nat × Int) (fun p => p.2 = p.1 ∧ p.1 ≤ ps.length) (fun p => ps.length - p.1) (fun p => [(11, .int .i64 p.2), (3, .row 8)]) (fun p => [(8, .row none 26 (H p.1))]) (0, 0) ⟨rfl, Nat.zero_le _⟩ ?_ ?_
  · cbv
    rename_i z0 hz0
    refine ⟨?_, trivial⟩
    show Blk.row none 26 (O.rp z0 .nil) = .row none 26 (H 0)
    rw [orp, ← hH0, show z0.toNat = R.length by (first | omega | (simp only [cst] at *; omega) | (simp only [sm] at *; omega))]
  · intro ⟨i, j⟩ hi0
    have hj : j = (i : Int) := hi0.1
    have hi : i ≤ ps.length := hi0.2
    clear hi0
    have hmk : True := trivial
    have hli := hHl i (by omega)
    cbv
    (repeat' (first
    | (refine q1 (by first | exact trivial | omega | (dsimp only; omega) | exact pow62 _ (by omega) | exact mul9 (by omega) (by omega) | (simp only [sm] at *; omega)) (fun z hz => ?_); (try simp only at hz); cbv)
    | (refine rq (by first | exact trivial | omega | (dsimp only; omega) | (simp only [sm] at *; omega)) ?_; cbv)
    | (refine QC.tt (by first | omega | (dsimp only; omega) | exact rfl | (simp only [sm] at *; omega)) ?_; cbv)
    | (refine QC.tt ?_ ?_; (focus (simp only [decide_true, Bool.and_true, Bool.and_self] <;> fail)); cbv)
    | (refine QC.ff ?_ ?_; (focus (simp only [decide_true, Bool.and_true, Bool.and_self, decide_false, Bool.false_and, reduceCtorEq, not_false_eq_true] <;> fail)); cbv)
    | (refine QC.ff (by first | omega | (dsimp only; omega) | (simp only [sm] at *; omega)) ?_; cbv)
    | (refine QC.mk (fun hc => ?_) (fun hc => ?_) <;> (try dsimp only at hc) <;> cbv)
    | (refine br_mk2 (fun hb => ?_) (fun hb => ?_) <;> (try subst hb) <;> cbv)))
    · have hlt : i < ps.length := by (first | omega | (simp only [cst] at *; omega) | (simp only [sm] at *; omega))
      obtain ⟨b, B, hbi, hB, hEi⟩ := hE i hlt
      have hbl := hb b (List.mem_of_getElem? hbi)
      have g1 := cloned_c b B hB hbl
      have hs := hHs i _ hEi
      (refine qv (i, _) ⟨hj, hEi⟩ ?_; cbv; (repeat' (first
    | (refine q1 (by first | exact trivial | omega | (dsimp only; omega) | exact pow62 _ (by omega) | exact mul9 (by omega) (by omega) | (simp only [sm] at *; omega)) (fun z hz => ?_); (try simp only at hz); cbv)
    | (refine rq (by first | exact trivial | omega | (dsimp only; omega) | (simp only [sm] at *; omega)) ?_; cbv)
    | (refine QC.tt (by first | omega | (dsimp only; omega) | exact rfl | (simp only [sm] at *; omega)) ?_; cbv)
    | (refine QC.tt ?_ ?_; (focus (simp only [decide_true, Bool.and_true, Bool.and_self] <;> fail)); cbv)
    | (refine QC.ff ?_ ?_; (focus (simp only [decide_true, Bool.and_true, Bool.and_self, decide_false, Bool.false_and, reduceCtorEq, not_false_eq_true] <;> fail)); cbv)
    | (refine QC.ff (by first | omega | (dsimp only; omega) | (simp only [sm] at *; omega)) ?_; cbv)
    | (refine QC.mk (fun hc => ?_) (fun hc => ?_) <;> (try dsimp only at hc) <;> cbv)
    | (refine br_mk2 (fun hb => ?_) (fun hb => ?_) <;> (try subst hb) <;> cbv))))
      (refine callq (g1) rfl rfl ?_; cbv; (repeat' (first
    | (refine q1 (by first | exact trivial | omega | (dsimp only; omega) | exact pow62 _ (by omega) | exact mul9 (by omega) (by omega) | (simp only [sm] at *; omega)) (fun z hz => ?_); (try simp only at hz); cbv)
    | (refine rq (by first | exact trivial | omega | (dsimp only; omega) | (simp only [sm] at *; omega)) ?_; cbv)
    | (refine QC.tt (by first | omega | (dsimp only; omega) | exact rfl | (simp only [sm] at *; omega)) ?_; cbv)
    | (refine QC.tt ?_ ?_; (focus (simp only [decide_true, Bool.and_true, Bool.and_self] <;> fail)); cbv)
    | (refine QC.ff ?_ ?_; (focus (simp only [decide_true, Bool.and_true, Bool.and_self, decide_false, Bool.false_and, reduceCtorEq, not_false_eq_true] <;> fail)); cbv)
    | (refine QC.ff (by first | omega | (dsimp only; omega) | (simp only [sm] at *; omega)) ?_; cbv)
    | (refine QC.mk (fun hc => ?_) (fun hc => ?_) <;> (try dsimp only at hc) <;> cbv)
    | (refine br_mk2 (fun hb => ?_) (fun hb => ?_) <;> (try subst hb) <;> cbv))))
      refine qv i ⟨hj, by show i < O.ln (H i); rw [oln]; omega⟩ ?_
      cbv
      (repeat' (first
    | (refine q1 (by first | exact trivial | omega | (dsimp only; omega) | exact pow62 _ (by omega) | exact mul9 (by omega) (by omega) | (simp only [sm] at *; omega)) (fun z hz => ?_); (try simp only at hz); cbv)
    | (refine rq (by first | exact trivial | omega | (dsimp only; omega) | (simp only [sm] at *; omega)) ?_; cbv)
    | (refine QC.tt (by first | omega | (dsimp only; omega) | exact rfl | (simp only [sm] at *; omega)) ?_; cbv)
    | (refine QC.tt ?_ ?_; (focus (simp only [decide_true, Bool.and_true, Bool.and_self] <;> fail)); cbv)
    | (refine QC.ff ?_ ?_; (focus (simp only [decide_true, Bool.and_true, Bool.and_self, decide_false, Bool.false_and, reduceCtorEq, not_false_eq_true] <;> fail)); cbv)
    | (refine QC.ff (by first | omega | (dsimp only; omega) | (simp only [sm] at *; omega)) ?_; cbv)
    | (refine QC.mk (fun hc => ?_) (fun hc => ?_) <;> (try dsimp only at hc) <;> cbv)
    | (refine br_mk2 (fun hb => ?_) (fun hb => ?_) <;> (try subst hb) <;> cbv)))
      refine ⟨(i + 1, z), ⟨by show z = ((i + 1 : Nat) : Int); (first | omega | (simp only [cst] at *; omega) | (simp only [sm] at *; omega)), by show i + 1 ≤ ps.length; omega⟩, by show ps.length - (i + 1) < ps.length - i; omega, ?_⟩
      cbv
      refine ⟨?_, trivial⟩
      show Blk.row none 26 (O.st (H i) i (.lst none B)) = .row none 26 (H (i + 1))
      rw [ost, hs]
    · have e : i = ps.length := by (first | omega | (simp only [cst] at *; omega) | (simp only [sm] at *; omega))
      refine ⟨rfl, ?_, rfl⟩
      show Blk.row none 26 (H i) = _
      rw [e, ← hRl, hHn]
theorem copiedRow_c (ps : List (List UInt8)) (R : List SV) (hR : R = rowsB ps) (hn : ps.length ≤ 5864062014805) (hb : ∀ p ∈ ps, p.length ≤ 140737488351232) : Good 55 (nu [.lst none R] (.row 1) (.row none 26 R)) := by
  have hRl : R.length = ps.length := by rw [hR, rowsB_len]
  have hE := fun i hi => rowsB_at hR i hi
  obtain ⟨H, hH⟩ : ∃ H : Nat → List SV, ∀ i, H i = R.take i := ⟨_, fun _ => rfl⟩
  have hH0 : [] = H 0 := by rw [hH]; simp
  have hHl : ∀ i, i ≤ R.length → (H i).length = i := fun i hi => by rw [hH]; simp; omega
  have hHs : ∀ i y, R[i]? = some y → H i ++ [y] = H (i + 1) := fun i y hy => by
    obtain ⟨h1, h2⟩ := List.getElem?_eq_some_iff.1 hy
    rw [hH, hH, ← h2, List.take_append_getElem h1]
  have hHn : H R.length = R := by rw [hH]; simp
  clear hH
  refine Good.of Try.func55 rfl (by rfl) (by kernel_rfl) ?_
  cbv
  (repeat' (first
    | (refine q1 (by first | exact trivial | omega | (dsimp only; omega) | exact pow62 _ (by omega) | exact mul9 (by omega) (by omega) | (simp only [sm] at *; omega)) (fun z hz => ?_); (try simp only at hz); cbv)
    | (refine rq (by first | exact trivial | omega | (dsimp only; omega) | (simp only [sm] at *; omega)) ?_; cbv)
    | (refine QC.tt (by first | omega | (dsimp only; omega) | exact rfl | (simp only [sm] at *; omega)) ?_; cbv)
    | (refine QC.tt ?_ ?_; (focus (simp only [decide_true, Bool.and_true, Bool.and_self] <;> fail)); cbv)
    | (refine QC.ff ?_ ?_; (focus (simp only [decide_true, Bool.and_true, Bool.and_self, decide_false, Bool.false_and, reduceCtorEq, not_false_eq_true] <;> fail)); cbv)
    | (refine QC.ff (by first | omega | (dsimp only; omega) | (simp only [sm] at *; omega)) ?_; cbv)
    | (refine QC.mk (fun hc => ?_) (fun hc => ?_) <;> (try dsimp only at hc) <;> cbv)
    | (refine br_mk2 (fun hb => ?_) (fun hb => ?_) <;> (try subst hb) <;> cbv)))
  refine loopQ (A := Nat × Int) (fun p => p.2 = p.1 ∧ p.1 ≤ ps.length) (fun p => ps.length - p.1) (fun p => [(4, .int .i64 p.2), (3, .row 3)]) (fun p => [(3, .row none 26 (H p.1))]) (0, 0) ⟨rfl, Nat.zero_le _⟩ ?_ ?_
  · cbv
    refine ⟨?_, trivial⟩
    show Blk.row none 26 [] = .row none 26 (H 0)
    rw [← hH0]
  · intro ⟨i, j⟩ hi0
    have hj : j = (i : Int) := hi0.1
    have hi : i ≤ ps.length := hi0.2
    clear hi0
    have hmk : True := trivial
    have hli := hHl i (by omega)
    cbv
    (repeat' (first
    | (refine q1 (by first | exact trivial | omega | (dsimp only; omega) | exact pow62 _ (by omega) | exact mul9 (by omega) (by omega) | (simp only [sm] at *; omega)) (fun z hz => ?_); (try simp only at hz); cbv)
    | (refine rq (by first | exact trivial | omega | (dsimp only; omega) | (simp only [sm] at *; omega)) ?_; cbv)
    | (refine QC.tt (by first | omega | (dsimp only; omega) | exact rfl | (simp only [sm] at *; omega)) ?_; cbv)
    | (refine QC.tt ?_ ?_; (focus (simp only [decide_true, Bool.and_true, Bool.and_self] <;> fail)); cbv)
    | (refine QC.ff ?_ ?_; (focus (simp only [decide_true, Bool.and_true, Bool.and_self, decide_false, Bool.false_and, reduceCtorEq, not_false_eq_true] <;> fail)); cbv)
    | (refine QC.ff (by first | omega | (dsimp only; omega) | (simp only [sm] at *; omega)) ?_; cbv)
    | (refine QC.mk (fun hc => ?_) (fun hc => ?_) <;> (try dsimp only at hc) <;> cbv)
    | (refine br_mk2 (fun hb => ?_) (fun hb => ?_) <;> (try subst hb) <;> cbv)))
    · have hlt : i < ps.length := by (first | omega | (simp only [cst] at *; omega) | (simp only [sm] at *; omega))
      obtain ⟨b, B, hbi, hB, hEi⟩ := hE i hlt
      have hbl := hb b (List.mem_of_getElem? hbi)
      have hBl : B.length = b.length := by rw [hB, u8l_len]
      have hs := hHs i _ hEi
      (refine qv (i, _) ⟨hj, hEi⟩ ?_; cbv; (repeat' (first
    | (refine q1 (by first | exact trivial | omega | (dsimp only; omega) | exact pow62 _ (by omega) | exact mul9 (by omega) (by omega) | (simp only [sm] at *; omega)) (fun z hz => ?_); (try simp only at hz); cbv)
    | (refine rq (by first | exact trivial | omega | (dsimp only; omega) | (simp only [sm] at *; omega)) ?_; cbv)
    | (refine QC.tt (by first | omega | (dsimp only; omega) | exact rfl | (simp only [sm] at *; omega)) ?_; cbv)
    | (refine QC.tt ?_ ?_; (focus (simp only [decide_true, Bool.and_true, Bool.and_self] <;> fail)); cbv)
    | (refine QC.ff ?_ ?_; (focus (simp only [decide_true, Bool.and_true, Bool.and_self, decide_false, Bool.false_and, reduceCtorEq, not_false_eq_true] <;> fail)); cbv)
    | (refine QC.ff (by first | omega | (dsimp only; omega) | (simp only [sm] at *; omega)) ?_; cbv)
    | (refine QC.mk (fun hc => ?_) (fun hc => ?_) <;> (try dsimp only at hc) <;> cbv)
    | (refine br_mk2 (fun hb => ?_) (fun hb => ?_) <;> (try subst hb) <;> cbv))))
      refine ⟨(i + 1, z), ⟨by show z = ((i + 1 : Nat) : Int); (first | omega | (simp only [cst] at *; omega) | (simp only [sm] at *; omega)), by show i + 1 ≤ ps.length; omega⟩, by show ps.length - (i + 1) < ps.length - i; omega, ?_⟩
      cbv
      refine ⟨?_, trivial⟩
      show Blk.row none 26 (apL (H i) [.lst none B]) = .row none 26 (H (i + 1))
      rw [apL_eq, hs]
    · have e : i = ps.length := by (first | omega | (simp only [cst] at *; omega) | (simp only [sm] at *; omega))
      refine ⟨rfl, ?_, rfl⟩
      show Blk.row none 26 (H i) = _
      rw [e, ← hRl, hHn]
def zeroB (tag cnt : Int) (n : Nat) (hv : Int) (dn : Bool) : Bool := !dn && decide (tag = 0 ∧ cnt = 0 ∧ n = 0 ∧ hv = 0)
theorem zero_c (tag cnt hv : Int) (dn : Bool) (R : List SV) (n : Nat) (hRl : R.length = n) (r : Bool) (hr : r = zeroB tag cnt n hv dn) :
    Good 61 (pu [.agg [.int .u8 tag, .int .i64 cnt, .lst none R, .int .u32 hv, .bool dn]] (.bool r)) := by
  cases dn
  · have hr : r = decide (tag = 0 ∧ cnt = 0 ∧ n = 0 ∧ hv = 0) := hr
    refine Good.of Try.func61 rfl (by rfl) (by kernel_rfl) ?_
    cbv
    (repeat' (first
    | (refine q1 (by first | exact trivial | omega | (dsimp only; omega) | exact pow62 _ (by omega) | exact mul9 (by omega) (by omega) | (simp only [sm] at *; omega)) (fun z hz => ?_); (try simp only at hz); cbv)
    | (refine rq (by first | exact trivial | omega | (dsimp only; omega) | (simp only [sm] at *; omega)) ?_; cbv)
    | (refine QC.tt (by first | omega | (dsimp only; omega) | exact rfl | (simp only [sm] at *; omega)) ?_; cbv)
    | (refine QC.tt ?_ ?_; (focus (simp only [decide_true, Bool.and_true, Bool.and_self] <;> fail)); cbv)
    | (refine QC.ff ?_ ?_; (focus (simp only [decide_true, Bool.and_true, Bool.and_self, decide_false, Bool.false_and, reduceCtorEq, not_false_eq_true] <;> fail)); cbv)
    | (refine QC.ff (by first | omega | (dsimp only; omega) | (simp only [sm] at *; omega)) ?_; cbv)
    | (refine QC.mk (fun hc => ?_) (fun hc => ?_) <;> (try dsimp only at hc) <;> cbv)
    | (refine br_mk2 (fun hb => ?_) (fun hb => ?_) <;> (try subst hb) <;> cbv)))
    all_goals first
      | (refine Fin.mk ?_ rfl rfl
         have : r = true := by rw [hr]; exact decide_eq_true (by (first | omega | (simp only [cst] at *; omega) | (simp only [sm] at *; omega)))
         rw [this]; done)
      | (refine Fin.mk ?_ rfl rfl
         have : r = false := by rw [hr]; exact decide_eq_false (by (first | omega | (simp only [cst] at *; omega) | (simp only [sm] at *; omega)))
         rw [this]; done)
      | skip
  · have hr : r = false := hr
    refine Good.of Try.func61 rfl (by rfl) (by kernel_rfl) ?_
    cbv
    (repeat' (first
    | (refine q1 (by first | exact trivial | omega | (dsimp only; omega) | exact pow62 _ (by omega) | exact mul9 (by omega) (by omega) | (simp only [sm] at *; omega)) (fun z hz => ?_); (try simp only at hz); cbv)
    | (refine rq (by first | exact trivial | omega | (dsimp only; omega) | (simp only [sm] at *; omega)) ?_; cbv)
    | (refine QC.tt (by first | omega | (dsimp only; omega) | exact rfl | (simp only [sm] at *; omega)) ?_; cbv)
    | (refine QC.tt ?_ ?_; (focus (simp only [decide_true, Bool.and_true, Bool.and_self] <;> fail)); cbv)
    | (refine QC.ff ?_ ?_; (focus (simp only [decide_true, Bool.and_true, Bool.and_self, decide_false, Bool.false_and, reduceCtorEq, not_false_eq_true] <;> fail)); cbv)
    | (refine QC.ff (by first | omega | (dsimp only; omega) | (simp only [sm] at *; omega)) ?_; cbv)
    | (refine QC.mk (fun hc => ?_) (fun hc => ?_) <;> (try dsimp only at hc) <;> cbv)
    | (refine br_mk2 (fun hb => ?_) (fun hb => ?_) <;> (try subst hb) <;> cbv)))
    all_goals (refine Fin.mk ?_ rfl rfl; rw [hr])
theorem rzero_c (tag cnt hv : Int) (dn : Bool) (R : List SV) (n : Nat) (hRl : R.length = n) (r : Bool) (hr : r = zeroB tag cnt n hv dn) :
    Good 62 (pu [.agg [.int .u8 tag, .int .i64 cnt, .lst none R, .int .u32 hv, .bool dn]] (.bool r)) := by
  cases dn
  · have hr : r = decide (tag = 0 ∧ cnt = 0 ∧ n = 0 ∧ hv = 0) := hr
    refine Good.of Try.func62 rfl (by rfl) (by kernel_rfl) ?_
    cbv
    (repeat' (first
    | (refine q1 (by first | exact trivial | omega | (dsimp only; omega) | exact pow62 _ (by omega) | exact mul9 (by omega) (by omega) | (simp only [sm] at *; omega)) (fun z hz => ?_); (try simp only at hz); cbv)
    | (refine rq (by first | exact trivial | omega | (dsimp only; omega) | (simp only [sm] at *; omega)) ?_; cbv)
    | (refine QC.tt (by first | omega | (dsimp only; omega) | exact rfl | (simp only [sm] at *; omega)) ?_; cbv)
    | (refine QC.tt ?_ ?_; (focus (simp only [decide_true, Bool.and_true, Bool.and_self] <;> fail)); cbv)
    | (refine QC.ff ?_ ?_; (focus (simp only [decide_true, Bool.and_true, Bool.and_self, decide_false, Bool.false_and, reduceCtorEq, not_false_eq_true] <;> fail)); cbv)
    | (refine QC.ff (by first | omega | (dsimp only; omega) | (simp only [sm] at *; omega)) ?_; cbv)
    | (refine QC.mk (fun hc => ?_) (fun hc => ?_) <;> (try dsimp only at hc) <;> cbv)
    | (refine br_mk2 (fun hb => ?_) (fun hb => ?_) <;> (try subst hb) <;> cbv)))
    all_goals first
      | (refine Fin.mk ?_ rfl rfl
         have : r = true := by rw [hr]; exact decide_eq_true (by (first | omega | (simp only [cst] at *; omega) | (simp only [sm] at *; omega)))
         rw [this]; done)
      | (refine Fin.mk ?_ rfl rfl
         have : r = false := by rw [hr]; exact decide_eq_false (by (first | omega | (simp only [cst] at *; omega) | (simp only [sm] at *; omega)))
         rw [this]; done)
      | skip
  · have hr : r = false := hr
    refine Good.of Try.func62 rfl (by rfl) (by kernel_rfl) ?_
    cbv
    (repeat' (first
    | (refine q1 (by first | exact trivial | omega | (dsimp only; omega) | exact pow62 _ (by omega) | exact mul9 (by omega) (by omega) | (simp only [sm] at *; omega)) (fun z hz => ?_); (try simp only at hz); cbv)
    | (refine rq (by first | exact trivial | omega | (dsimp only; omega) | (simp only [sm] at *; omega)) ?_; cbv)
    | (refine QC.tt (by first | omega | (dsimp only; omega) | exact rfl | (simp only [sm] at *; omega)) ?_; cbv)
    | (refine QC.tt ?_ ?_; (focus (simp only [decide_true, Bool.and_true, Bool.and_self] <;> fail)); cbv)
    | (refine QC.ff ?_ ?_; (focus (simp only [decide_true, Bool.and_true, Bool.and_self, decide_false, Bool.false_and, reduceCtorEq, not_false_eq_true] <;> fail)); cbv)
    | (refine QC.ff (by first | omega | (dsimp only; omega) | (simp only [sm] at *; omega)) ?_; cbv)
    | (refine QC.mk (fun hc => ?_) (fun hc => ?_) <;> (try dsimp only at hc) <;> cbv)
    | (refine br_mk2 (fun hb => ?_) (fun hb => ?_) <;> (try subst hb) <;> cbv)))
    all_goals (refine Fin.mk ?_ rfl rfl; rw [hr])
def VRc (tag cnt : Int) (ps : List (List UInt8)) (hv : Int) (dn : Bool) : Prop :=
  zeroB tag cnt ps.length hv dn = true ∨ (1 ≤ cnt ∧ cnt ≤ 32 ∧ (ps.length : Int) = cnt ∧ hv ≠ 0 ∧ hv = hasN ps ps.length ∧ (dn = true ↔ hv = allI ps.length))
theorem vreceiver_c (tag cnt hv : Int) (dn : Bool) (ps : List (List UInt8)) (R : List SV) (hR : R = rowsB ps) (hf : Rcv.fits ⟨tag, cnt, ps, hv, dn⟩) (b : Bool) (hb : b = true ↔ VRc tag cnt ps hv dn) :
    Good 36 (pu [.agg [.int .u8 tag, .int .i64 cnt, .lst none R, .int .u32 hv, .bool dn]] (.bool b)) := by
  have hRl : R.length = ps.length := by rw [hR, rowsB_len]
  have hfb := hf.b
  have hcb := hf.cnt
  obtain ⟨r, hr⟩ : ∃ r, r = zeroB tag cnt ps.length hv dn := ⟨_, rfl⟩
  have g0 := zero_c tag cnt hv dn R ps.length hRl r hr
  have g1 : ps.length ≤ 32 → Good 59 (pu [.lst none R] (.int .u32 (hasN ps ps.length))) := fun hn => has_c ps R hR hn hfb _ rfl
  have g2 : ∀ N : Int, N = ps.length → ps.length ≤ 32 → Good 57 (pu [.int .i64 N] (.int .u32 (allI ps.length))) := fun N hN hn => all_c ps.length N _ hN hn rfl
  unfold VRc at hb
  rw [← hr] at hb
  obtain ⟨h, hh⟩ : ∃ h : Int, h = hasN ps ps.length := ⟨_, rfl⟩
  obtain ⟨A, hA⟩ : ∃ A : Int, A = allI ps.length := ⟨_, rfl⟩
  rw [← hh] at g1 hb
  rw [← hA] at g2 hb
  have hbt : r = true → b = true := fun h => hb.2 (.inl h)
  have hbf : r = false → (b = true ↔ 1 ≤ cnt ∧ cnt ≤ 32 ∧ (ps.length : Int) = cnt ∧ hv ≠ 0 ∧ hv = h ∧ (dn = true ↔ hv = A)) := fun h => by rw [hb, h]; simp
  clear hb hr
  have hmk : True := trivial
  cases dn
  · have hbf : r = false → (b = true ↔ 1 ≤ cnt ∧ cnt ≤ 32 ∧ (ps.length : Int) = cnt ∧ hv ≠ 0 ∧ hv = h ∧ ¬ hv = A) := fun e => by have := hbf e; simpa using this
    refine Good.of Try.func36 rfl (by rfl) (by kernel_rfl) ?_
    cbv
    (repeat' (first
    | (refine q1 (by first | exact trivial | omega | (dsimp only; omega) | exact pow62 _ (by omega) | exact mul9 (by omega) (by omega) | (simp only [sm] at *; omega)) (fun z hz => ?_); (try simp only at hz); cbv)
    | (refine rq (by first | exact trivial | omega | (dsimp only; omega) | (simp only [sm] at *; omega)) ?_; cbv)
    | (refine QC.tt (by first | omega | (dsimp only; omega) | exact rfl | (simp only [sm] at *; omega)) ?_; cbv)
    | (refine QC.tt ?_ ?_; (focus (simp only [decide_true, Bool.and_true, Bool.and_self] <;> fail)); cbv)
    | (refine QC.ff ?_ ?_; (focus (simp only [decide_true, Bool.and_true, Bool.and_self, decide_false, Bool.false_and, reduceCtorEq, not_false_eq_true] <;> fail)); cbv)
    | (refine QC.ff (by first | omega | (dsimp only; omega) | (simp only [sm] at *; omega)) ?_; cbv)
    | (refine QC.mk (fun hc => ?_) (fun hc => ?_) <;> (try dsimp only at hc) <;> cbv)
    | (refine br_mk2 (fun hb => ?_) (fun hb => ?_) <;> (try subst hb) <;> cbv)))
    (refine callq (g0) rfl rfl ?_; cbv; (repeat' (first
    | (refine q1 (by first | exact trivial | omega | (dsimp only; omega) | exact pow62 _ (by omega) | exact mul9 (by omega) (by omega) | (simp only [sm] at *; omega)) (fun z hz => ?_); (try simp only at hz); cbv)
    | (refine rq (by first | exact trivial | omega | (dsimp only; omega) | (simp only [sm] at *; omega)) ?_; cbv)
    | (refine QC.tt (by first | omega | (dsimp only; omega) | exact rfl | (simp only [sm] at *; omega)) ?_; cbv)
    | (refine QC.tt ?_ ?_; (focus (simp only [decide_true, Bool.and_true, Bool.and_self] <;> fail)); cbv)
    | (refine QC.ff ?_ ?_; (focus (simp only [decide_true, Bool.and_true, Bool.and_self, decide_false, Bool.false_and, reduceCtorEq, not_false_eq_true] <;> fail)); cbv)
    | (refine QC.ff (by first | omega | (dsimp only; omega) | (simp only [sm] at *; omega)) ?_; cbv)
    | (refine QC.mk (fun hc => ?_) (fun hc => ?_) <;> (try dsimp only at hc) <;> cbv)
    | (refine br_mk2 (fun hb => ?_) (fun hb => ?_) <;> (try subst hb) <;> cbv))))
    · refine Fin.mk ?_ rfl rfl
      rw [hbt rfl]
    all_goals first
      | (refine Fin.mk ?_ rfl rfl
         have : b = true := (hbf rfl).2 (by (first | omega | (simp only [cst] at *; omega) | (simp only [sm] at *; omega)))
         rw [this]; done)
      | (refine Fin.mk ?_ rfl rfl
         have : b = false := by
           cases hb0 : b
           · rfl
           · exfalso
             have hq := (hbf rfl).1 hb0
             clear hbf
             (first | omega | (simp only [cst] at *; omega) | (simp only [sm] at *; omega))
         rw [this]; done)
      | skip
    have hn : ps.length ≤ 32 := by (first | omega | (simp only [cst] at *; omega) | (simp only [sm] at *; omega))
    have g1 := g1 hn
    (refine callq (g1) rfl rfl ?_; cbv; (repeat' (first
    | (refine q1 (by first | exact trivial | omega | (dsimp only; omega) | exact pow62 _ (by omega) | exact mul9 (by omega) (by omega) | (simp only [sm] at *; omega)) (fun z hz => ?_); (try simp only at hz); cbv)
    | (refine rq (by first | exact trivial | omega | (dsimp only; omega) | (simp only [sm] at *; omega)) ?_; cbv)
    | (refine QC.tt (by first | omega | (dsimp only; omega) | exact rfl | (simp only [sm] at *; omega)) ?_; cbv)
    | (refine QC.tt ?_ ?_; (focus (simp only [decide_true, Bool.and_true, Bool.and_self] <;> fail)); cbv)
    | (refine QC.ff ?_ ?_; (focus (simp only [decide_true, Bool.and_true, Bool.and_self, decide_false, Bool.false_and, reduceCtorEq, not_false_eq_true] <;> fail)); cbv)
    | (refine QC.ff (by first | omega | (dsimp only; omega) | (simp only [sm] at *; omega)) ?_; cbv)
    | (refine QC.mk (fun hc => ?_) (fun hc => ?_) <;> (try dsimp only at hc) <;> cbv)
    | (refine br_mk2 (fun hb => ?_) (fun hb => ?_) <;> (try subst hb) <;> cbv))))
    all_goals first
      | (refine Fin.mk ?_ rfl rfl
         have : b = true := (hbf rfl).2 (by (first | omega | (simp only [cst] at *; omega) | (simp only [sm] at *; omega)))
         rw [this]; done)
      | (refine Fin.mk ?_ rfl rfl
         have : b = false := by
           cases hb0 : b
           · rfl
           · exfalso
             have hq := (hbf rfl).1 hb0
             clear hbf
             (first | omega | (simp only [cst] at *; omega) | (simp only [sm] at *; omega))
         rw [this]; done)
      | skip
    have g2 := g2 cnt (by (first | omega | (simp only [cst] at *; omega) | (simp only [sm] at *; omega))) hn
    (refine callq (g2) rfl rfl ?_; cbv; (repeat' (first
    | (refine q1 (by first | exact trivial | omega | (dsimp only; omega) | exact pow62 _ (by omega) | exact mul9 (by omega) (by omega) | (simp only [sm] at *; omega)) (fun z hz => ?_); (try simp only at hz); cbv)
    | (refine rq (by first | exact trivial | omega | (dsimp only; omega) | (simp only [sm] at *; omega)) ?_; cbv)
    | (refine QC.tt (by first | omega | (dsimp only; omega) | exact rfl | (simp only [sm] at *; omega)) ?_; cbv)
    | (refine QC.tt ?_ ?_; (focus (simp only [decide_true, Bool.and_true, Bool.and_self] <;> fail)); cbv)
    | (refine QC.ff ?_ ?_; (focus (simp only [decide_true, Bool.and_true, Bool.and_self, decide_false, Bool.false_and, reduceCtorEq, not_false_eq_true] <;> fail)); cbv)
    | (refine QC.ff (by first | omega | (dsimp only; omega) | (simp only [sm] at *; omega)) ?_; cbv)
    | (refine QC.mk (fun hc => ?_) (fun hc => ?_) <;> (try dsimp only at hc) <;> cbv)
    | (refine br_mk2 (fun hb => ?_) (fun hb => ?_) <;> (try subst hb) <;> cbv))))
    all_goals first
      | (refine Fin.mk ?_ rfl rfl
         have : b = true := (hbf rfl).2 (by (first | omega | (simp only [cst] at *; omega) | (simp only [sm] at *; omega)))
         rw [this]; done)
      | (refine Fin.mk ?_ rfl rfl
         have : b = false := by
           cases hb0 : b
           · rfl
           · exfalso
             have hq := (hbf rfl).1 hb0
             clear hbf
             (first | omega | (simp only [cst] at *; omega) | (simp only [sm] at *; omega))
         rw [this]; done)
      | skip
  · have hbf : r = false → (b = true ↔ 1 ≤ cnt ∧ cnt ≤ 32 ∧ (ps.length : Int) = cnt ∧ hv ≠ 0 ∧ hv = h ∧ hv = A) := fun e => by have := hbf e; simpa using this
    refine Good.of Try.func36 rfl (by rfl) (by kernel_rfl) ?_
    cbv
    (repeat' (first
    | (refine q1 (by first | exact trivial | omega | (dsimp only; omega) | exact pow62 _ (by omega) | exact mul9 (by omega) (by omega) | (simp only [sm] at *; omega)) (fun z hz => ?_); (try simp only at hz); cbv)
    | (refine rq (by first | exact trivial | omega | (dsimp only; omega) | (simp only [sm] at *; omega)) ?_; cbv)
    | (refine QC.tt (by first | omega | (dsimp only; omega) | exact rfl | (simp only [sm] at *; omega)) ?_; cbv)
    | (refine QC.tt ?_ ?_; (focus (simp only [decide_true, Bool.and_true, Bool.and_self] <;> fail)); cbv)
    | (refine QC.ff ?_ ?_; (focus (simp only [decide_true, Bool.and_true, Bool.and_self, decide_false, Bool.false_and, reduceCtorEq, not_false_eq_true] <;> fail)); cbv)
    | (refine QC.ff (by first | omega | (dsimp only; omega) | (simp only [sm] at *; omega)) ?_; cbv)
    | (refine QC.mk (fun hc => ?_) (fun hc => ?_) <;> (try dsimp only at hc) <;> cbv)
    | (refine br_mk2 (fun hb => ?_) (fun hb => ?_) <;> (try subst hb) <;> cbv)))
    (refine callq (g0) rfl rfl ?_; cbv; (repeat' (first
    | (refine q1 (by first | exact trivial | omega | (dsimp only; omega) | exact pow62 _ (by omega) | exact mul9 (by omega) (by omega) | (simp only [sm] at *; omega)) (fun z hz => ?_); (try simp only at hz); cbv)
    | (refine rq (by first | exact trivial | omega | (dsimp only; omega) | (simp only [sm] at *; omega)) ?_; cbv)
    | (refine QC.tt (by first | omega | (dsimp only; omega) | exact rfl | (simp only [sm] at *; omega)) ?_; cbv)
    | (refine QC.tt ?_ ?_; (focus (simp only [decide_true, Bool.and_true, Bool.and_self] <;> fail)); cbv)
    | (refine QC.ff ?_ ?_; (focus (simp only [decide_true, Bool.and_true, Bool.and_self, decide_false, Bool.false_and, reduceCtorEq, not_false_eq_true] <;> fail)); cbv)
    | (refine QC.ff (by first | omega | (dsimp only; omega) | (simp only [sm] at *; omega)) ?_; cbv)
    | (refine QC.mk (fun hc => ?_) (fun hc => ?_) <;> (try dsimp only at hc) <;> cbv)
    | (refine br_mk2 (fun hb => ?_) (fun hb => ?_) <;> (try subst hb) <;> cbv))))
    · refine Fin.mk ?_ rfl rfl
      rw [hbt rfl]
    all_goals first
      | (refine Fin.mk ?_ rfl rfl
         have : b = true := (hbf rfl).2 (by (first | omega | (simp only [cst] at *; omega) | (simp only [sm] at *; omega)))
         rw [this]; done)
      | (refine Fin.mk ?_ rfl rfl
         have : b = false := by
           cases hb0 : b
           · rfl
           · exfalso
             have hq := (hbf rfl).1 hb0
             clear hbf
             (first | omega | (simp only [cst] at *; omega) | (simp only [sm] at *; omega))
         rw [this]; done)
      | skip
    have hn : ps.length ≤ 32 := by (first | omega | (simp only [cst] at *; omega) | (simp only [sm] at *; omega))
    have g1 := g1 hn
    (refine callq (g1) rfl rfl ?_; cbv; (repeat' (first
    | (refine q1 (by first | exact trivial | omega | (dsimp only; omega) | exact pow62 _ (by omega) | exact mul9 (by omega) (by omega) | (simp only [sm] at *; omega)) (fun z hz => ?_); (try simp only at hz); cbv)
    | (refine rq (by first | exact trivial | omega | (dsimp only; omega) | (simp only [sm] at *; omega)) ?_; cbv)
    | (refine QC.tt (by first | omega | (dsimp only; omega) | exact rfl | (simp only [sm] at *; omega)) ?_; cbv)
    | (refine QC.tt ?_ ?_; (focus (simp only [decide_true, Bool.and_true, Bool.and_self] <;> fail)); cbv)
    | (refine QC.ff ?_ ?_; (focus (simp only [decide_true, Bool.and_true, Bool.and_self, decide_false, Bool.false_and, reduceCtorEq, not_false_eq_true] <;> fail)); cbv)
    | (refine QC.ff (by first | omega | (dsimp only; omega) | (simp only [sm] at *; omega)) ?_; cbv)
    | (refine QC.mk (fun hc => ?_) (fun hc => ?_) <;> (try dsimp only at hc) <;> cbv)
    | (refine br_mk2 (fun hb => ?_) (fun hb => ?_) <;> (try subst hb) <;> cbv))))
    all_goals first
      | (refine Fin.mk ?_ rfl rfl
         have : b = true := (hbf rfl).2 (by (first | omega | (simp only [cst] at *; omega) | (simp only [sm] at *; omega)))
         rw [this]; done)
      | (refine Fin.mk ?_ rfl rfl
         have : b = false := by
           cases hb0 : b
           · rfl
           · exfalso
             have hq := (hbf rfl).1 hb0
             clear hbf
             (first | omega | (simp only [cst] at *; omega) | (simp only [sm] at *; omega))
         rw [this]; done)
      | skip
    have g2 := g2 cnt (by (first | omega | (simp only [cst] at *; omega) | (simp only [sm] at *; omega))) hn
    (refine callq (g2) rfl rfl ?_; cbv; (repeat' (first
    | (refine q1 (by first | exact trivial | omega | (dsimp only; omega) | exact pow62 _ (by omega) | exact mul9 (by omega) (by omega) | (simp only [sm] at *; omega)) (fun z hz => ?_); (try simp only at hz); cbv)
    | (refine rq (by first | exact trivial | omega | (dsimp only; omega) | (simp only [sm] at *; omega)) ?_; cbv)
    | (refine QC.tt (by first | omega | (dsimp only; omega) | exact rfl | (simp only [sm] at *; omega)) ?_; cbv)
    | (refine QC.tt ?_ ?_; (focus (simp only [decide_true, Bool.and_true, Bool.and_self] <;> fail)); cbv)
    | (refine QC.ff ?_ ?_; (focus (simp only [decide_true, Bool.and_true, Bool.and_self, decide_false, Bool.false_and, reduceCtorEq, not_false_eq_true] <;> fail)); cbv)
    | (refine QC.ff (by first | omega | (dsimp only; omega) | (simp only [sm] at *; omega)) ?_; cbv)
    | (refine QC.mk (fun hc => ?_) (fun hc => ?_) <;> (try dsimp only at hc) <;> cbv)
    | (refine br_mk2 (fun hb => ?_) (fun hb => ?_) <;> (try subst hb) <;> cbv))))
    all_goals first
      | (refine Fin.mk ?_ rfl rfl
         have : b = true := (hbf rfl).2 (by (first | omega | (simp only [cst] at *; omega) | (simp only [sm] at *; omega)))
         rw [this]; done)
      | (refine Fin.mk ?_ rfl rfl
         have : b = false := by
           cases hb0 : b
           · rfl
           · exfalso
             have hq := (hbf rfl).1 hb0
             clear hbf
             (first | omega | (simp only [cst] at *; omega) | (simp only [sm] at *; omega))
         rw [this]; done)
      | skip
theorem rvreceiver_c (tag cnt hv : Int) (dn : Bool) (ps : List (List UInt8)) (R : List SV) (hR : R = rowsB ps) (hf : Rcv.fits ⟨tag, cnt, ps, hv, dn⟩) (b : Bool) (hb : b = true ↔ VRc tag cnt ps hv dn) :
    Good 37 (pu [.agg [.int .u8 tag, .int .i64 cnt, .lst none R, .int .u32 hv, .bool dn]] (.bool b)) := by
  have hRl : R.length = ps.length := by rw [hR, rowsB_len]
  have hfb := hf.b
  have hcb := hf.cnt
  obtain ⟨r, hr⟩ : ∃ r, r = zeroB tag cnt ps.length hv dn := ⟨_, rfl⟩
  have g0 := rzero_c tag cnt hv dn R ps.length hRl r hr
  have hE := fun i hi => rowsB_at hR i hi
  obtain ⟨H, hH⟩ : ∃ H : Nat → Int, ∀ i, H i = hasN ps i := ⟨_, fun _ => rfl⟩
  have hHb : ∀ i, i ≤ 32 → 0 ≤ H i ∧ H i ≤ 4294967295 := fun i hi => by
    have h1 := bm_lt (fun i => decide (0 < (ps.getD i []).length)) i
    have h2 : (2 : Nat) ^ i ≤ 2 ^ 32 := Nat.pow_le_pow_right (by omega) hi
    rw [hH, hasN]
    omega
  have hHs : ∀ i b, ps[i]? = some b → (0 < b.length → (((H i).toNat ||| (2 ^ i : Nat) : Nat) : Int) = H (i + 1)) ∧ (¬ 0 < b.length → H i = H (i + 1)) := fun i b hib => by
    have hg : ps.getD i [] = b := by rw [List.getD_eq_getElem?_getD, hib]; rfl
    refine ⟨fun hp => ?_, fun hp => ?_⟩
    · rw [hH, hH, hasN, hasN, Int.toNat_natCast, bm_or _ _ (by rw [hg]; simpa using hp)]
    · rw [hH, hH, hasN, hasN, bm, if_neg (by rw [hg]; simpa using hp), Nat.add_zero]
  have hH0 : (0 : Int) = H 0 := by rw [hH]; rfl
  have g2 : ∀ N : Int, N = ps.length → ps.length ≤ 32 → Good 58 (pu [.int .i64 N] (.int .u32 (allI ps.length))) := fun N hN hn => rall_c ps.length N _ hN hn rfl
  unfold VRc at hb
  rw [← hr] at hb
  obtain ⟨h, hh⟩ : ∃ h : Int, h = hasN ps ps.length := ⟨_, rfl⟩
  obtain ⟨A, hA⟩ : ∃ A : Int, A = allI ps.length := ⟨_, rfl⟩
  rw [← hh] at hb
  rw [← hH] at hh
  clear hH
  rw [← hA] at g2 hb
  have hbt : r = true → b = true := fun h => hb.2 (.inl h)
  have hbf : r = false → (b = true ↔ 1 ≤ cnt ∧ cnt ≤ 32 ∧ (ps.length : Int) = cnt ∧ hv ≠ 0 ∧ hv = h ∧ (dn = true ↔ hv = A)) := fun h => by rw [hb, h]; simp
  clear hb hr
  cases dn
  · have hbf : r = false → (b = true ↔ 1 ≤ cnt ∧ cnt ≤ 32 ∧ (ps.length : Int) = cnt ∧ hv ≠ 0 ∧ hv = h ∧ ¬ hv = A) := fun e => by have := hbf e; simpa using this
    skip
    refine Good.of Try.func37 rfl (by rfl) (by kernel_rfl) ?_
    cbv
    (repeat' (first
    | (refine q1 (by first | exact trivial | omega | (dsimp only; omega) | exact pow62 _ (by omega) | exact mul9 (by omega) (by omega) | (simp only [sm] at *; omega)) (fun z hz => ?_); (try simp only at hz); cbv)
    | (refine rq (by first | exact trivial | omega | (dsimp only; omega) | (simp only [sm] at *; omega)) ?_; cbv)
    | (refine QC.tt (by first | omega | (dsimp only; omega) | exact rfl | (simp only [sm] at *; omega)) ?_; cbv)
    | (refine QC.tt ?_ ?_; (focus (simp only [decide_true, Bool.and_true, Bool.and_self] <;> fail)); cbv)
    | (refine QC.ff ?_ ?_; (focus (simp only [decide_true, Bool.and_true, Bool.and_self, decide_false, Bool.false_and, reduceCtorEq, not_false_eq_true] <;> fail)); cbv)
    | (refine QC.ff (by first | omega | (dsimp only; omega) | (simp only [sm] at *; omega)) ?_; cbv)
    | (refine QC.mk (fun hc => ?_) (fun hc => ?_) <;> (try dsimp only at hc) <;> cbv)
    | (refine br_mk2 (fun hb => ?_) (fun hb => ?_) <;> (try subst hb) <;> cbv)))
    (refine callq (g0) rfl rfl ?_; cbv; (repeat' (first
    | (refine q1 (by first | exact trivial | omega | (dsimp only; omega) | exact pow62 _ (by omega) | exact mul9 (by omega) (by omega) | (simp only [sm] at *; omega)) (fun z hz => ?_); (try simp only at hz); cbv)
    | (refine rq (by first | exact trivial | omega | (dsimp only; omega) | (simp only [sm] at *; omega)) ?_; cbv)
    | (refine QC.tt (by first | omega | (dsimp only; omega) | exact rfl | (simp only [sm] at *; omega)) ?_; cbv)
    | (refine QC.tt ?_ ?_; (focus (simp only [decide_true, Bool.and_true, Bool.and_self] <;> fail)); cbv)
    | (refine QC.ff ?_ ?_; (focus (simp only [decide_true, Bool.and_true, Bool.and_self, decide_false, Bool.false_and, reduceCtorEq, not_false_eq_true] <;> fail)); cbv)
    | (refine QC.ff (by first | omega | (dsimp only; omega) | (simp only [sm] at *; omega)) ?_; cbv)
    | (refine QC.mk (fun hc => ?_) (fun hc => ?_) <;> (try dsimp only at hc) <;> cbv)
    | (refine br_mk2 (fun hb => ?_) (fun hb => ?_) <;> (try subst hb) <;> cbv))))
    · refine Fin.mk ?_ rfl rfl
      rw [hbt rfl]
    all_goals first
      | (refine Fin.mk ?_ rfl rfl
         have : b = true := (hbf rfl).2 (by (first | omega | (simp only [cst] at *; omega) | (simp only [sm] at *; omega)))
         rw [this]; done)
      | (refine Fin.mk ?_ rfl rfl
         have : b = false := by
           cases hb0 : b
           · rfl
           · exfalso
             have hq := (hbf rfl).1 hb0
             clear hbf
             (first | omega | (simp only [cst] at *; omega) | (simp only [sm] at *; omega))
         rw [this]; done)
      | skip
    have hn : ps.length ≤ 32 := by (first | omega | (simp only [cst] at *; omega) | (simp only [sm] at *; omega))
    have hcn : cnt = ps.length := by (first | omega | (simp only [cst] at *; omega) | (simp only [sm] at *; omega))
    have g2 := g2 cnt hcn hn
    refine loopQ (A := Nat × Int × Int) (fun p => p.2.1 = p.1 ∧ p.1 ≤ ps.length ∧ p.2.2 = H p.1) (fun p => ps.length - p.1) (fun p => [(4, .int .i64 p.2.1), (3, .int .u32 p.2.2)]) (fun p => []) (0, 0, 0) ⟨rfl, Nat.zero_le _, hH0⟩ ?_ ?_
    · cbv
    · intro ⟨i, j, x⟩ hi0
      have hj : j = (i : Int) := hi0.1
      have hi : i ≤ ps.length := hi0.2.1
      have hx : x = H i := hi0.2.2
      clear hi0
      have hmk : True := trivial
      have hHi := hHb i (by omega)
      cbv
      (repeat' (first
    | (refine q1 (by first | exact trivial | omega | (dsimp only; omega) | exact pow62 _ (by omega) | exact mul9 (by omega) (by omega) | (simp only [sm] at *; omega)) (fun z hz => ?_); (try simp only at hz); cbv)
    | (refine rq (by first | exact trivial | omega | (dsimp only; omega) | (simp only [sm] at *; omega)) ?_; cbv)
    | (refine QC.tt (by first | omega | (dsimp only; omega) | exact rfl | (simp only [sm] at *; omega)) ?_; cbv)
    | (refine QC.tt ?_ ?_; (focus (simp only [decide_true, Bool.and_true, Bool.and_self] <;> fail)); cbv)
    | (refine QC.ff ?_ ?_; (focus (simp only [decide_true, Bool.and_true, Bool.and_self, decide_false, Bool.false_and, reduceCtorEq, not_false_eq_true] <;> fail)); cbv)
    | (refine QC.ff (by first | omega | (dsimp only; omega) | (simp only [sm] at *; omega)) ?_; cbv)
    | (refine QC.mk (fun hc => ?_) (fun hc => ?_) <;> (try dsimp only at hc) <;> cbv)
    | (refine br_mk2 (fun hb => ?_) (fun hb => ?_) <;> (try subst hb) <;> cbv)))
      · have hlt : i < ps.length := by (first | omega | (simp only [cst] at *; omega) | (simp only [sm] at *; omega))
        obtain ⟨b0, B, hbi, hB, hEi⟩ := hE i hlt
        have hBl : B.length = b0.length := by rw [hB, u8l_len]
        have hs := hHs i b0 hbi
        have hbl := hfb b0 (List.mem_of_getElem? hbi)
        (refine qv (i, _) ⟨hj, hEi⟩ ?_; cbv; (repeat' (first
    | (refine q1 (by first | exact trivial | omega | (dsimp only; omega) | exact pow62 _ (by omega) | exact mul9 (by omega) (by omega) | (simp only [sm] at *; omega)) (fun z hz => ?_); (try simp only at hz); cbv)
    | (refine rq (by first | exact trivial | omega | (dsimp only; omega) | (simp only [sm] at *; omega)) ?_; cbv)
    | (refine QC.tt (by first | omega | (dsimp only; omega) | exact rfl | (simp only [sm] at *; omega)) ?_; cbv)
    | (refine QC.tt ?_ ?_; (focus (simp only [decide_true, Bool.and_true, Bool.and_self] <;> fail)); cbv)
    | (refine QC.ff ?_ ?_; (focus (simp only [decide_true, Bool.and_true, Bool.and_self, decide_false, Bool.false_and, reduceCtorEq, not_false_eq_true] <;> fail)); cbv)
    | (refine QC.ff (by first | omega | (dsimp only; omega) | (simp only [sm] at *; omega)) ?_; cbv)
    | (refine QC.mk (fun hc => ?_) (fun hc => ?_) <;> (try dsimp only at hc) <;> cbv)
    | (refine br_mk2 (fun hb => ?_) (fun hb => ?_) <;> (try subst hb) <;> cbv))))
        · rename_i zj hzj zs hzs zo hzo
          have hp : 0 < b0.length := by (first | omega | (simp only [cst] at *; omega) | (simp only [sm] at *; omega))
          have ej : zj.toNat = i := by (first | omega | (simp only [cst] at *; omega) | (simp only [sm] at *; omega))
          have e2 : (2 : Nat) ^ i < 4294967296 := by
            have : (2 : Nat) ^ i ≤ 2 ^ 31 := Nat.pow_le_pow_right (by omega) (by omega)
            omega
          have e3 : zs = ((2 ^ i : Nat) : Int) := by
            rw [hzs, ej, Int.one_mul]
            have : (2 : Int) ^ i = ((2 ^ i : Nat) : Int) := by simp
            have e5 : ∀ p : Nat, p < 4294967296 → (p : Int) % 4294967296 = p := fun p hp => by omega
            rw [this]
            exact e5 _ e2
          have e4 : zo = H (i + 1) := by
            rw [hzo, hx, e3, Int.toNat_natCast]
            exact hs.1 hp
          refine ⟨(i + 1, z, zo), ⟨by show z = ((i + 1 : Nat) : Int); (first | omega | (simp only [cst] at *; omega) | (simp only [sm] at *; omega)), by show i + 1 ≤ ps.length; omega, e4⟩, by show ps.length - (i + 1) < ps.length - i; omega, ?_⟩
          cbv
        · have hp : ¬ 0 < b0.length := by (first | omega | (simp only [cst] at *; omega) | (simp only [sm] at *; omega))
          refine ⟨(i + 1, z, x), ⟨by show z = ((i + 1 : Nat) : Int); (first | omega | (simp only [cst] at *; omega) | (simp only [sm] at *; omega)), by show i + 1 ≤ ps.length; omega, by show x = H (i + 1); rw [hx]; exact hs.2 hp⟩, by show ps.length - (i + 1) < ps.length - i; omega, ?_⟩
          cbv
      all_goals have e : i = ps.length := by (first | omega | (simp only [cst] at *; omega) | (simp only [sm] at *; omega))
      all_goals have hxh : x = h := by rw [hx, hh, e]
      skip
      all_goals first
        | (refine Fin.mk ?_ rfl rfl
           have : b = true := (hbf rfl).2 (by (first | omega | (simp only [cst] at *; omega) | (simp only [sm] at *; omega)))
           rw [this]; done)
        | (refine Fin.mk ?_ rfl rfl
           have : b = false := by
             cases hb0 : b
             · rfl
             · exfalso
               have hq := (hbf rfl).1 hb0
               clear hbf
               (first | omega | (simp only [cst] at *; omega) | (simp only [sm] at *; omega))
           rw [this]; done)
        | skip
      (refine callq (g2) rfl rfl ?_; cbv; (repeat' (first
    | (refine q1 (by first | exact trivial | omega | (dsimp only; omega) | exact pow62 _ (by omega) | exact mul9 (by omega) (by omega) | (simp only [sm] at *; omega)) (fun z hz => ?_); (try simp only at hz); cbv)
    | (refine rq (by first | exact trivial | omega | (dsimp only; omega) | (simp only [sm] at *; omega)) ?_; cbv)
    | (refine QC.tt (by first | omega | (dsimp only; omega) | exact rfl | (simp only [sm] at *; omega)) ?_; cbv)
    | (refine QC.tt ?_ ?_; (focus (simp only [decide_true, Bool.and_true, Bool.and_self] <;> fail)); cbv)
    | (refine QC.ff ?_ ?_; (focus (simp only [decide_true, Bool.and_true, Bool.and_self, decide_false, Bool.false_and, reduceCtorEq, not_false_eq_true] <;> fail)); cbv)
    | (refine QC.ff (by first | omega | (dsimp only; omega) | (simp only [sm] at *; omega)) ?_; cbv)
    | (refine QC.mk (fun hc => ?_) (fun hc => ?_) <;> (try dsimp only at hc) <;> cbv)
    | (refine br_mk2 (fun hb => ?_) (fun hb => ?_) <;> (try subst hb) <;> cbv))))
      all_goals first
        | (refine Fin.mk ?_ rfl rfl
           have : b = true := (hbf rfl).2 (by (first | omega | (simp only [cst] at *; omega) | (simp only [sm] at *; omega)))
           rw [this]; done)
        | (refine Fin.mk ?_ rfl rfl
           have : b = false := by
             cases hb0 : b
             · rfl
             · exfalso
               have hq := (hbf rfl).1 hb0
               clear hbf
               (first | omega | (simp only [cst] at *; omega) | (simp only [sm] at *; omega))
           rw [this]; done)
        | skip
  · have hbf : r = false → (b = true ↔ 1 ≤ cnt ∧ cnt ≤ 32 ∧ (ps.length : Int) = cnt ∧ hv ≠ 0 ∧ hv = h ∧ hv = A) := fun e => by have := hbf e; simpa using this
    skip
    refine Good.of Try.func37 rfl (by rfl) (by kernel_rfl) ?_
    cbv
    (repeat' (first
    | (refine q1 (by first | exact trivial | omega | (dsimp only; omega) | exact pow62 _ (by omega) | exact mul9 (by omega) (by omega) | (simp only [sm] at *; omega)) (fun z hz => ?_); (try simp only at hz); cbv)
    | (refine rq (by first | exact trivial | omega | (dsimp only; omega) | (simp only [sm] at *; omega)) ?_; cbv)
    | (refine QC.tt (by first | omega | (dsimp only; omega) | exact rfl | (simp only [sm] at *; omega)) ?_; cbv)
    | (refine QC.tt ?_ ?_; (focus (simp only [decide_true, Bool.and_true, Bool.and_self] <;> fail)); cbv)
    | (refine QC.ff ?_ ?_; (focus (simp only [decide_true, Bool.and_true, Bool.and_self, decide_false, Bool.false_and, reduceCtorEq, not_false_eq_true] <;> fail)); cbv)
    | (refine QC.ff (by first | omega | (dsimp only; omega) | (simp only [sm] at *; omega)) ?_; cbv)
    | (refine QC.mk (fun hc => ?_) (fun hc => ?_) <;> (try dsimp only at hc) <;> cbv)
    | (refine br_mk2 (fun hb => ?_) (fun hb => ?_) <;> (try subst hb) <;> cbv)))
    (refine callq (g0) rfl rfl ?_; cbv; (repeat' (first
    | (refine q1 (by first | exact trivial | omega | (dsimp only; omega) | exact pow62 _ (by omega) | exact mul9 (by omega) (by omega) | (simp only [sm] at *; omega)) (fun z hz => ?_); (try simp only at hz); cbv)
    | (refine rq (by first | exact trivial | omega | (dsimp only; omega) | (simp only [sm] at *; omega)) ?_; cbv)
    | (refine QC.tt (by first | omega | (dsimp only; omega) | exact rfl | (simp only [sm] at *; omega)) ?_; cbv)
    | (refine QC.tt ?_ ?_; (focus (simp only [decide_true, Bool.and_true, Bool.and_self] <;> fail)); cbv)
    | (refine QC.ff ?_ ?_; (focus (simp only [decide_true, Bool.and_true, Bool.and_self, decide_false, Bool.false_and, reduceCtorEq, not_false_eq_true] <;> fail)); cbv)
    | (refine QC.ff (by first | omega | (dsimp only; omega) | (simp only [sm] at *; omega)) ?_; cbv)
    | (refine QC.mk (fun hc => ?_) (fun hc => ?_) <;> (try dsimp only at hc) <;> cbv)
    | (refine br_mk2 (fun hb => ?_) (fun hb => ?_) <;> (try subst hb) <;> cbv))))
    · refine Fin.mk ?_ rfl rfl
      rw [hbt rfl]
    all_goals first
      | (refine Fin.mk ?_ rfl rfl
         have : b = true := (hbf rfl).2 (by (first | omega | (simp only [cst] at *; omega) | (simp only [sm] at *; omega)))
         rw [this]; done)
      | (refine Fin.mk ?_ rfl rfl
         have : b = false := by
           cases hb0 : b
           · rfl
           · exfalso
             have hq := (hbf rfl).1 hb0
             clear hbf
             (first | omega | (simp only [cst] at *; omega) | (simp only [sm] at *; omega))
         rw [this]; done)
      | skip
    have hn : ps.length ≤ 32 := by (first | omega | (simp only [cst] at *; omega) | (simp only [sm] at *; omega))
    have hcn : cnt = ps.length := by (first | omega | (simp only [cst] at *; omega) | (simp only [sm] at *; omega))
    have g2 := g2 cnt hcn hn
    refine loopQ (A := Nat × Int × Int) (fun p => p.2.1 = p.1 ∧ p.1 ≤ ps.length ∧ p.2.2 = H p.1) (fun p => ps.length - p.1) (fun p => [(4, .int .i64 p.2.1), (3, .int .u32 p.2.2)]) (fun p => []) (0, 0, 0) ⟨rfl, Nat.zero_le _, hH0⟩ ?_ ?_
    · cbv
    · intro ⟨i, j, x⟩ hi0
      have hj : j = (i : Int) := hi0.1
      have hi : i ≤ ps.length := hi0.2.1
      have hx : x = H i := hi0.2.2
      clear hi0
      have hmk : True := trivial
      have hHi := hHb i (by omega)
      cbv
      (repeat' (first
    | (refine q1 (by first | exact trivial | omega | (dsimp only; omega) | exact pow62 _ (by omega) | exact mul9 (by omega) (by omega) | (simp only [sm] at *; omega)) (fun z hz => ?_); (try simp only at hz); cbv)
    | (refine rq (by first | exact trivial | omega | (dsimp only; omega) | (simp only [sm] at *; omega)) ?_; cbv)
    | (refine QC.tt (by first | omega | (dsimp only; omega) | exact rfl | (simp only [sm] at *; omega)) ?_; cbv)
    | (refine QC.tt ?_ ?_; (focus (simp only [decide_true, Bool.and_true, Bool.and_self] <;> fail)); cbv)
    | (refine QC.ff ?_ ?_; (focus (simp only [decide_true, Bool.and_true, Bool.and_self, decide_false, Bool.false_and, reduceCtorEq, not_false_eq_true] <;> fail)); cbv)
    | (refine QC.ff (by first | omega | (dsimp only; omega) | (simp only [sm] at *; omega)) ?_; cbv)
    | (refine QC.mk (fun hc => ?_) (fun hc => ?_) <;> (try dsimp only at hc) <;> cbv)
    | (refine br_mk2 (fun hb => ?_) (fun hb => ?_) <;> (try subst hb) <;> cbv)))
      · have hlt : i < ps.length := by (first | omega | (simp only [cst] at *; omega) | (simp only [sm] at *; omega))
        obtain ⟨b0, B, hbi, hB, hEi⟩ := hE i hlt
        have hBl : B.length = b0.length := by rw [hB, u8l_len]
        have hs := hHs i b0 hbi
        have hbl := hfb b0 (List.mem_of_getElem? hbi)
        (refine qv (i, _) ⟨hj, hEi⟩ ?_; cbv; (repeat' (first
    | (refine q1 (by first | exact trivial | omega | (dsimp only; omega) | exact pow62 _ (by omega) | exact mul9 (by omega) (by omega) | (simp only [sm] at *; omega)) (fun z hz => ?_); (try simp only at hz); cbv)
    | (refine rq (by first | exact trivial | omega | (dsimp only; omega) | (simp only [sm] at *; omega)) ?_; cbv)
    | (refine QC.tt (by first | omega | (dsimp only; omega) | exact rfl | (simp only [sm] at *; omega)) ?_; cbv)
    | (refine QC.tt ?_ ?_; (focus (simp only [decide_true, Bool.and_true, Bool.and_self] <;> fail)); cbv)
    | (refine QC.ff ?_ ?_; (focus (simp only [decide_true, Bool.and_true, Bool.and_self, decide_false, Bool.false_and, reduceCtorEq, not_false_eq_true] <;> fail)); cbv)
    | (refine QC.ff (by first | omega | (dsimp only; omega) | (simp only [sm] at *; omega)) ?_; cbv)
    | (refine QC.mk (fun hc => ?_) (fun hc => ?_) <;> (try dsimp only at hc) <;> cbv)
    | (refine br_mk2 (fun hb => ?_) (fun hb => ?_) <;> (try subst hb) <;> cbv))))
        · rename_i zj hzj zs hzs zo hzo
          have hp : 0 < b0.length := by (first | omega | (simp only [cst] at *; omega) | (simp only [sm] at *; omega))
          have ej : zj.toNat = i := by (first | omega | (simp only [cst] at *; omega) | (simp only [sm] at *; omega))
          have e2 : (2 : Nat) ^ i < 4294967296 := by
            have : (2 : Nat) ^ i ≤ 2 ^ 31 := Nat.pow_le_pow_right (by omega) (by omega)
            omega
          have e3 : zs = ((2 ^ i : Nat) : Int) := by
            rw [hzs, ej, Int.one_mul]
            have : (2 : Int) ^ i = ((2 ^ i : Nat) : Int) := by simp
            have e5 : ∀ p : Nat, p < 4294967296 → (p : Int) % 4294967296 = p := fun p hp => by omega
            rw [this]
            exact e5 _ e2
          have e4 : zo = H (i + 1) := by
            rw [hzo, hx, e3, Int.toNat_natCast]
            exact hs.1 hp
          refine ⟨(i + 1, z, zo), ⟨by show z = ((i + 1 : Nat) : Int); (first | omega | (simp only [cst] at *; omega) | (simp only [sm] at *; omega)), by show i + 1 ≤ ps.length; omega, e4⟩, by show ps.length - (i + 1) < ps.length - i; omega, ?_⟩
          cbv
        · have hp : ¬ 0 < b0.length := by (first | omega | (simp only [cst] at *; omega) | (simp only [sm] at *; omega))
          refine ⟨(i + 1, z, x), ⟨by show z = ((i + 1 : Nat) : Int); (first | omega | (simp only [cst] at *; omega) | (simp only [sm] at *; omega)), by show i + 1 ≤ ps.length; omega, by show x = H (i + 1); rw [hx]; exact hs.2 hp⟩, by show ps.length - (i + 1) < ps.length - i; omega, ?_⟩
          cbv
      all_goals have e : i = ps.length := by (first | omega | (simp only [cst] at *; omega) | (simp only [sm] at *; omega))
      all_goals have hxh : x = h := by rw [hx, hh, e]
      skip
      all_goals first
        | (refine Fin.mk ?_ rfl rfl
           have : b = true := (hbf rfl).2 (by (first | omega | (simp only [cst] at *; omega) | (simp only [sm] at *; omega)))
           rw [this]; done)
        | (refine Fin.mk ?_ rfl rfl
           have : b = false := by
             cases hb0 : b
             · rfl
             · exfalso
               have hq := (hbf rfl).1 hb0
               clear hbf
               (first | omega | (simp only [cst] at *; omega) | (simp only [sm] at *; omega))
           rw [this]; done)
        | skip
      (refine callq (g2) rfl rfl ?_; cbv; (repeat' (first
    | (refine q1 (by first | exact trivial | omega | (dsimp only; omega) | exact pow62 _ (by omega) | exact mul9 (by omega) (by omega) | (simp only [sm] at *; omega)) (fun z hz => ?_); (try simp only at hz); cbv)
    | (refine rq (by first | exact trivial | omega | (dsimp only; omega) | (simp only [sm] at *; omega)) ?_; cbv)
    | (refine QC.tt (by first | omega | (dsimp only; omega) | exact rfl | (simp only [sm] at *; omega)) ?_; cbv)
    | (refine QC.tt ?_ ?_; (focus (simp only [decide_true, Bool.and_true, Bool.and_self] <;> fail)); cbv)
    | (refine QC.ff ?_ ?_; (focus (simp only [decide_true, Bool.and_true, Bool.and_self, decide_false, Bool.false_and, reduceCtorEq, not_false_eq_true] <;> fail)); cbv)
    | (refine QC.ff (by first | omega | (dsimp only; omega) | (simp only [sm] at *; omega)) ?_; cbv)
    | (refine QC.mk (fun hc => ?_) (fun hc => ?_) <;> (try dsimp only at hc) <;> cbv)
    | (refine br_mk2 (fun hb => ?_) (fun hb => ?_) <;> (try subst hb) <;> cbv))))
      all_goals first
        | (refine Fin.mk ?_ rfl rfl
           have : b = true := (hbf rfl).2 (by (first | omega | (simp only [cst] at *; omega) | (simp only [sm] at *; omega)))
           rw [this]; done)
        | (refine Fin.mk ?_ rfl rfl
           have : b = false := by
             cases hb0 : b
             · rfl
             · exfalso
               have hq := (hbf rfl).1 hb0
               clear hbf
               (first | omega | (simp only [cst] at *; omega) | (simp only [sm] at *; omega))
           rw [this]; done)
        | skip
end Go.Proofs.Ytjhicdoigllblaa
namespace Go.Proofs.Ytjhicdoigllblaa
set_option linter.unusedVariables false
set_option linter.unusedSimpArgs false
open Go.RowKit
set_option maxHeartbeats 4000000
theorem rappG (bs : List UInt8) (v : Int) (n : Nat) : ∃ G : Nat → List SV, G 0 = u8l bs ∧ (∀ k, k < n → apL (G k) [.int .u8 (v / 2 ^ (8 * (n - 1 - k)) % 256)] = G (k + 1)) ∧ (∀ k, k ≤ n → (G k).length = bs.length + k) ∧ G n = u8l (bs ++ bytesOf v n) := by
  refine ⟨fun k => u8l (bs ++ (bytesOf v n).take k), by simp, ?_, ?_, ?_⟩
  · intro k hk
    rw [apL_eq, ← digit_val, show [SV.int .u8 ((digit v n k).toNat : Int)] = u8l [digit v n k] from rfl, u8l_app, List.append_assoc]
    congr 2
    rw [List.take_add_one, bytesOf_get v n k hk]; rfl
  · intro k hk; simp [u8l_len, bytesOf_length]; omega
  · simp [List.take_of_length_le (Nat.le_of_eq (bytesOf_length v n))]
theorem rappend_c (bs : List UInt8) (X R : List SV) (v N : Int) (n : Nat) (hX : X = u8l bs) (hN : N = n) (hn : n ≤ 8) (hv : 0 ≤ v ∧ v < 18446744073709551616) (hl : bs.length ≤ 140737488352000) (hR : R = u8l (bs ++ bytesOf v n)) :
    Good 63 (nu [.lst none X, .int .u64 v, .int .i64 N] (.row 1) (.row none 5 R)) := by
  obtain ⟨G, G0, Gs, Gl, Gn⟩ := rappG bs v n
  have hl' : X.length = bs.length := by rw [hX, u8l_len]
  refine Good.of Try.func63 rfl (by rfl) (by kernel_rfl) ?_
  cbv
  (repeat' (first
    | (refine q1 (by first | exact trivial | omega | (dsimp only; omega) | exact pow62 _ (by omega) | exact mul9 (by omega) (by omega) | (simp only [sm] at *; omega)) (fun z hz => ?_); (try simp only at hz); cbv)
    | (refine rq (by first | exact trivial | omega | (dsimp only; omega) | (simp only [sm] at *; omega)) ?_; cbv)
    | (refine QC.tt (by first | omega | (dsimp only; omega) | exact rfl | (simp only [sm] at *; omega)) ?_; cbv)
    | (refine QC.tt ?_ ?_; (focus (simp only [decide_true, Bool.and_true, Bool.and_self] <;> fail)); cbv)
    | (refine QC.ff ?_ ?_; (focus (simp only [decide_true, Bool.and_true, Bool.and_self, decide_false, Bool.false_and, reduceCtorEq, not_false_eq_true] <;> fail)); cbv)
    | (refine QC.ff (by first | omega | (dsimp only; omega) | (simp only [sm] at *; omega)) ?_; cbv)
    | (refine QC.mk (fun hc => ?_) (fun hc => ?_) <;> (try dsimp only at hc) <;> cbv)
    | (refine br_mk2 (fun hb => ?_) (fun hb => ?_) <;> (try subst hb) <;> cbv)))
  refine loopQ (A := Nat × Int) (fun p => p.2 = n - 1 - p.1 ∧ p.1 ≤ n) (fun p => n - p.1) (fun p => [(7, .row 7), (8, .int .i64 p.2), (9, .any), (11, .any)]) (fun p => [(7, .row none 5 (G p.1))]) (0, z) ⟨by show z = (n : Int) - 1 - (0 : Nat); (first | omega | (simp only [cst] at *; omega) | (simp only [sm] at *; omega)), Nat.zero_le _⟩ ?_ ?_
  · cbv
    refine ⟨?_, trivial⟩
    show _ = Blk.row none 5 (G 0)
    rw [G0, hX]
  · intro ⟨i, j⟩ h
    have hj : j = (n : Int) - 1 - (i : Int) := h.1
    have hi : i ≤ n := h.2
    clear h
    have hgs := Gs i
    have hgl := Gl i hi
    cbv
    (repeat' (first
    | (refine q1 (by first | exact trivial | omega | (dsimp only; omega) | exact pow62 _ (by omega) | exact mul9 (by omega) (by omega) | (simp only [sm] at *; omega)) (fun z hz => ?_); (try simp only at hz); cbv)
    | (refine rq (by first | exact trivial | omega | (dsimp only; omega) | (simp only [sm] at *; omega)) ?_; cbv)
    | (refine QC.tt (by first | omega | (dsimp only; omega) | exact rfl | (simp only [sm] at *; omega)) ?_; cbv)
    | (refine QC.tt ?_ ?_; (focus (simp only [decide_true, Bool.and_true, Bool.and_self] <;> fail)); cbv)
    | (refine QC.ff ?_ ?_; (focus (simp only [decide_true, Bool.and_true, Bool.and_self, decide_false, Bool.false_and, reduceCtorEq, not_false_eq_true] <;> fail)); cbv)
    | (refine QC.ff (by first | omega | (dsimp only; omega) | (simp only [sm] at *; omega)) ?_; cbv)
    | (refine QC.mk (fun hc => ?_) (fun hc => ?_) <;> (try dsimp only at hc) <;> cbv)
    | (refine br_mk2 (fun hb => ?_) (fun hb => ?_) <;> (try subst hb) <;> cbv)))
    · have hlt : i < n := by (first | omega | (simp only [cst] at *; omega) | (simp only [sm] at *; omega))
      have hgs := hgs hlt
      rename_i z1 h1 z2 h2 z3 h3 z4 h4
      refine ⟨(i + 1, z), ⟨by show z = (n : Int) - 1 - (i + 1 : Nat); (first | omega | (simp only [cst] at *; omega) | (simp only [sm] at *; omega)), by omega⟩, by show n - (i + 1) < n - i; omega, ?_⟩
      cbv
      refine ⟨?_, trivial⟩
      have e4 : z4 = v / 2 ^ (8 * (n - 1 - i)) % 256 := by rw [h4, h3, show z2.toNat = 8 * (n - 1 - i) by (first | omega | (simp only [cst] at *; omega) | (simp only [sm] at *; omega))]
      rw [← e4] at hgs
      exact congrArg (Blk.row none 5) hgs
    · have e : i = n := by (first | omega | (simp only [cst] at *; omega) | (simp only [sm] at *; omega))
      refine ⟨rfl, ?_, rfl⟩
      show Blk.row none 5 (G i) = _
      rw [e, Gn, hR]
end Go.Proofs.Ytjhicdoigllblaa
namespace Go.Proofs.Ytjhicdoigllblaa
set_option linter.unusedVariables false
set_option linter.unusedSimpArgs false
open Go.RowKit
set_option maxHeartbeats 4000000
theorem rbeG (bs : List UInt8) (X : List SV) (hX : X = u8l bs) (a n : Nat) (h : a + n ≤ bs.length) : ∃ H Y : Nat → Int, H 0 = 0 ∧ (∀ i, 0 ≤ H i ∧ (i < 8 → H i < 72057594037927936)) ∧ (∀ i, 0 ≤ Y i ∧ Y i < 256) ∧ H n = be ((bs.drop a).take n) ∧
    (∀ i, i < n → H i * 256 + Y i = H (i + 1)) ∧ (∀ i, i < n → X[a + i]? = some (.int .u8 (Y i))) := by
  refine ⟨fun i => (be ((bs.drop a).take i) : Int), fun i => (bs.getD (a + i) 0).toNat, by simp [be], ?_, ?_, rfl, ?_, ?_⟩
  · intro i
    refine ⟨by dsimp only; omega, fun hi => ?_⟩
    have h1 := be_lt ((bs.drop a).take i)
    have h2 : 256 ^ ((bs.drop a).take i).length ≤ 256 ^ 7 := Nat.pow_le_pow_right (by omega) (by simp; omega)
    dsimp only
    omega
  · intro i; have := (bs.getD (a + i) 0).toNat_lt; dsimp only; omega
  · intro i hi
    dsimp only
    rw [take_snoc_u8 _ i (by simp; omega), be_snoc]
    simp [show a + i < bs.length by omega]
  · intro i hi
    rw [hX]
    exact u8l_at (a + i) (by omega)
theorem ruint_c (bs : List UInt8) (X : List SV) (A N r : Int) (a n : Nat) (hX : X = u8l bs) (hA : A = a) (hN : N = n) (h1 : 1 ≤ n) (hn : n ≤ 8) (hl : bs.length ≤ 140737488352000) (hb : a + n ≤ bs.length) (hr : r = be ((bs.drop a).take n)) :
    Good 65 (pu [.lst none X, .int .i64 A, .int .i64 N] (.tup [.int .u64 r, .bool true])) := by
  have hl : X.length = bs.length := by rw [hX, u8l_len]
  obtain ⟨H, Y, H0, Hb, HY, Hn, Hs, Hy⟩ := rbeG bs X hX a n hb
  refine Good.of Try.func65 rfl (by rfl) (by kernel_rfl) ?_
  cbv
  (repeat' (first
    | (refine q1 (by first | exact trivial | omega | (dsimp only; omega) | exact pow62 _ (by omega) | exact mul9 (by omega) (by omega) | (simp only [sm] at *; omega)) (fun z hz => ?_); (try simp only at hz); cbv)
    | (refine rq (by first | exact trivial | omega | (dsimp only; omega) | (simp only [sm] at *; omega)) ?_; cbv)
    | (refine QC.tt (by first | omega | (dsimp only; omega) | exact rfl | (simp only [sm] at *; omega)) ?_; cbv)
    | (refine QC.tt ?_ ?_; (focus (simp only [decide_true, Bool.and_true, Bool.and_self] <;> fail)); cbv)
    | (refine QC.ff ?_ ?_; (focus (simp only [decide_true, Bool.and_true, Bool.and_self, decide_false, Bool.false_and, reduceCtorEq, not_false_eq_true] <;> fail)); cbv)
    | (refine QC.ff (by first | omega | (dsimp only; omega) | (simp only [sm] at *; omega)) ?_; cbv)
    | (refine QC.mk (fun hc => ?_) (fun hc => ?_) <;> (try dsimp only at hc) <;> cbv)
    | (refine br_mk2 (fun hb => ?_) (fun hb => ?_) <;> (try subst hb) <;> cbv)))
  refine loopQ (A := Nat × Int × Int) (fun p => p.2.1 = p.1 ∧ p.1 ≤ n ∧ p.2.2 = H p.1) (fun p => n - p.1) (fun p => [(8, .int .u64 p.2.2), (9, .int .i64 p.2.1)]) (fun p => []) (0, 0, 0) ⟨rfl, Nat.zero_le _, H0.symm⟩ ?_ ?_
  · cbv
  · intro ⟨i, j, x⟩ h
    have hj : j = (i : Int) := h.1
    have hi : i ≤ n := h.2.1
    have hx : x = H i := h.2.2
    clear h
    have hb1 := Hb i
    have hy1 := HY i
    have hs1 := Hs i
    have hy2 := Hy i
    generalize Y i = y at hy1 hs1 hy2
    generalize hq : a + i = q at hy2
    have hmk : True := trivial
    cbv
    (repeat' (first
    | (refine q1 (by first | exact trivial | omega | (dsimp only; omega) | exact pow62 _ (by omega) | exact mul9 (by omega) (by omega) | (simp only [sm] at *; omega)) (fun z hz => ?_); (try simp only at hz); cbv)
    | (refine rq (by first | exact trivial | omega | (dsimp only; omega) | (simp only [sm] at *; omega)) ?_; cbv)
    | (refine QC.tt (by first | omega | (dsimp only; omega) | exact rfl | (simp only [sm] at *; omega)) ?_; cbv)
    | (refine QC.tt ?_ ?_; (focus (simp only [decide_true, Bool.and_true, Bool.and_self] <;> fail)); cbv)
    | (refine QC.ff ?_ ?_; (focus (simp only [decide_true, Bool.and_true, Bool.and_self, decide_false, Bool.false_and, reduceCtorEq, not_false_eq_true] <;> fail)); cbv)
    | (refine QC.ff (by first | omega | (dsimp only; omega) | (simp only [sm] at *; omega)) ?_; cbv)
    | (refine QC.mk (fun hc => ?_) (fun hc => ?_) <;> (try dsimp only at hc) <;> cbv)
    | (refine br_mk2 (fun hb => ?_) (fun hb => ?_) <;> (try subst hb) <;> cbv)))
    · have hjm : i < n := by (first | omega | (simp only [cst] at *; omega) | (simp only [sm] at *; omega))
      have hy3 := hy2 hjm
      have hs3 := hs1 hjm
      have hb2 := hb1.2 (by omega)
      (refine qv (q, _) ⟨(by (first | omega | (simp only [cst] at *; omega) | (simp only [sm] at *; omega))), hy3⟩ ?_; cbv; (repeat' (first
    | (refine q1 (by first | exact trivial | omega | (dsimp only; omega) | exact pow62 _ (by omega) | exact mul9 (by omega) (by omega) | (simp only [sm] at *; omega)) (fun z hz => ?_); (try simp only at hz); cbv)
    | (refine rq (by first | exact trivial | omega | (dsimp only; omega) | (simp only [sm] at *; omega)) ?_; cbv)
    | (refine QC.tt (by first | omega | (dsimp only; omega) | exact rfl | (simp only [sm] at *; omega)) ?_; cbv)
    | (refine QC.tt ?_ ?_; (focus (simp only [decide_true, Bool.and_true, Bool.and_self] <;> fail)); cbv)
    | (refine QC.ff ?_ ?_; (focus (simp only [decide_true, Bool.and_true, Bool.and_self, decide_false, Bool.false_and, reduceCtorEq, not_false_eq_true] <;> fail)); cbv)
    | (refine QC.ff (by first | omega | (dsimp only; omega) | (simp only [sm] at *; omega)) ?_; cbv)
    | (refine QC.mk (fun hc => ?_) (fun hc => ?_) <;> (try dsimp only at hc) <;> cbv)
    | (refine br_mk2 (fun hb => ?_) (fun hb => ?_) <;> (try subst hb) <;> cbv))))
      rename_i z3 h3 z2 h2 z1 h1' z0 h0
      have e1 : (2 : Int) ^ Int.toNat 8 = 256 := rfl
      rw [e1] at h3
      refine ⟨(i + 1, z, z0), ⟨by show z = ((i + 1 : Nat) : Int); (first | omega | (simp only [cst] at *; omega) | (simp only [sm] at *; omega)), by show i + 1 ≤ n; omega, by show z0 = H (i + 1); (first | omega | (simp only [cst] at *; omega) | (simp only [sm] at *; omega))⟩, by show n - (i + 1) < n - i; omega, ?_⟩
      cbv
    · have e : i = n := by (first | omega | (simp only [cst] at *; omega) | (simp only [sm] at *; omega))
      refine ⟨?_, rfl, rfl⟩
      rw [hx, hr, e, Hn]
end Go.Proofs.Ytjhicdoigllblaa
namespace Go.Proofs.Ytjhicdoigllblaa
set_option linter.unusedVariables false
set_option linter.unusedSimpArgs false
open Go.RowKit
set_option maxHeartbeats 8000000
def valP (n c : Int) (len : Nat) : Bool := decide (1 ≤ c ∧ c ≤ 32 ∧ 0 ≤ n ∧ n < c ∧ 0 < len)
theorem valid_c (t n c : Int) (k : Bool) (D : List SV) (len : Nat) (r : Bool) (hD : D.length = len) (hr : r = valP n c len) :
    Good 41 (pu [.agg [.int .u8 t, .int .i64 n, .int .i64 c, .bool k, .lst none D]] (.bool r)) := by
  unfold valP at hr
  refine Good.of Try.func41 rfl (by rfl) (by kernel_rfl) ?_
  cbv
  (repeat' (first
    | (refine q1 (by first | exact trivial | omega | (dsimp only; omega) | exact pow62 _ (by omega) | exact mul9 (by omega) (by omega) | (simp only [sm] at *; omega)) (fun z hz => ?_); (try simp only at hz); cbv)
    | (refine rq (by first | exact trivial | omega | (dsimp only; omega) | (simp only [sm] at *; omega)) ?_; cbv)
    | (refine QC.tt (by first | omega | (dsimp only; omega) | exact rfl | (simp only [sm] at *; omega)) ?_; cbv)
    | (refine QC.tt ?_ ?_; (focus (simp only [decide_true, Bool.and_true, Bool.and_self] <;> fail)); cbv)
    | (refine QC.ff ?_ ?_; (focus (simp only [decide_true, Bool.and_true, Bool.and_self, decide_false, Bool.false_and, reduceCtorEq, not_false_eq_true] <;> fail)); cbv)
    | (refine QC.ff (by first | omega | (dsimp only; omega) | (simp only [sm] at *; omega)) ?_; cbv)
    | (refine QC.mk (fun hc => ?_) (fun hc => ?_) <;> (try dsimp only at hc) <;> cbv)
    | (refine br_mk2 (fun hb => ?_) (fun hb => ?_) <;> (try subst hb) <;> cbv)))
  all_goals first
    | (refine Fin.mk ?_ rfl rfl
       have : r = true := by rw [hr]; exact decide_eq_true (by (first | omega | (simp only [cst] at *; omega) | (simp only [sm] at *; omega)))
       rw [this]; done)
    | (refine Fin.mk ?_ rfl rfl
       have : r = false := by rw [hr]; exact decide_eq_false (by (first | omega | (simp only [cst] at *; omega) | (simp only [sm] at *; omega)))
       rw [this]; done)
    | skip
theorem rvalid_c (t n c : Int) (k : Bool) (D : List SV) (len : Nat) (r : Bool) (hD : D.length = len) (hr : r = valP n c len) :
    Good 42 (pu [.agg [.int .u8 t, .int .i64 n, .int .i64 c, .bool k, .lst none D]] (.bool r)) := by
  unfold valP at hr
  refine Good.of Try.func42 rfl (by rfl) (by kernel_rfl) ?_
  cbv
  (repeat' (first
    | (refine q1 (by first | exact trivial | omega | (dsimp only; omega) | exact pow62 _ (by omega) | exact mul9 (by omega) (by omega) | (simp only [sm] at *; omega)) (fun z hz => ?_); (try simp only at hz); cbv)
    | (refine rq (by first | exact trivial | omega | (dsimp only; omega) | (simp only [sm] at *; omega)) ?_; cbv)
    | (refine QC.tt (by first | omega | (dsimp only; omega) | exact rfl | (simp only [sm] at *; omega)) ?_; cbv)
    | (refine QC.tt ?_ ?_; (focus (simp only [decide_true, Bool.and_true, Bool.and_self] <;> fail)); cbv)
    | (refine QC.ff ?_ ?_; (focus (simp only [decide_true, Bool.and_true, Bool.and_self, decide_false, Bool.false_and, reduceCtorEq, not_false_eq_true] <;> fail)); cbv)
    | (refine QC.ff (by first | omega | (dsimp only; omega) | (simp only [sm] at *; omega)) ?_; cbv)
    | (refine QC.mk (fun hc => ?_) (fun hc => ?_) <;> (try dsimp only at hc) <;> cbv)
    | (refine br_mk2 (fun hb => ?_) (fun hb => ?_) <;> (try subst hb) <;> cbv)))
  all_goals first
    | (refine Fin.mk ?_ rfl rfl
       have : r = true := by rw [hr]; exact decide_eq_true (by (first | omega | (simp only [cst] at *; omega) | (simp only [sm] at *; omega)))
       rw [this]; done)
    | (refine Fin.mk ?_ rfl rfl
       have : r = false := by rw [hr]; exact decide_eq_false (by (first | omega | (simp only [cst] at *; omega) | (simp only [sm] at *; omega)))
       rw [this]; done)
    | skip
theorem u8_of (z : Int) (h : 0 ≤ z ∧ z ≤ 255) : ∃ b : UInt8, SV.int .u8 z = .int .u8 b.toNat := by
  refine ⟨UInt8.ofNat z.toNat, ?_⟩
  have : ((UInt8.ofNat z.toNat).toNat : Int) = z := by
    rw [UInt8.toNat_ofNat']
    omega
  rw [this]
theorem enc_no (t n c : Int) (k : Bool) (D : List SV) (len : Nat) (hDl : D.length = len) (hr : valP n c len = false) :
    Good 39 (pu [.agg [.int .u8 t, .int .i64 n, .int .i64 c, .bool k, .lst none D]] (.tup [.lst none [], .int .i64 1])) := by
  have gv := valid_c t n c k D len false hDl hr.symm
  refine Good.of Try.func39 rfl (by rfl) (by kernel_rfl) ?_
  cbv
  (repeat' (first
    | (refine q1 (by first | exact trivial | omega | (dsimp only; omega) | exact pow62 _ (by omega) | exact mul9 (by omega) (by omega) | (simp only [sm] at *; omega)) (fun z hz => ?_); (try simp only at hz); cbv)
    | (refine rq (by first | exact trivial | omega | (dsimp only; omega) | (simp only [sm] at *; omega)) ?_; cbv)
    | (refine QC.tt (by first | omega | (dsimp only; omega) | exact rfl | (simp only [sm] at *; omega)) ?_; cbv)
    | (refine QC.tt ?_ ?_; (focus (simp only [decide_true, Bool.and_true, Bool.and_self] <;> fail)); cbv)
    | (refine QC.ff ?_ ?_; (focus (simp only [decide_true, Bool.and_true, Bool.and_self, decide_false, Bool.false_and, reduceCtorEq, not_false_eq_true] <;> fail)); cbv)
    | (refine QC.ff (by first | omega | (dsimp only; omega) | (simp only [sm] at *; omega)) ?_; cbv)
    | (refine QC.mk (fun hc => ?_) (fun hc => ?_) <;> (try dsimp only at hc) <;> cbv)
    | (refine br_mk2 (fun hb => ?_) (fun hb => ?_) <;> (try subst hb) <;> cbv)))
  (refine callq (gv) rfl rfl ?_; cbv; (repeat' (first
    | (refine q1 (by first | exact trivial | omega | (dsimp only; omega) | exact pow62 _ (by omega) | exact mul9 (by omega) (by omega) | (simp only [sm] at *; omega)) (fun z hz => ?_); (try simp only at hz); cbv)
    | (refine rq (by first | exact trivial | omega | (dsimp only; omega) | (simp only [sm] at *; omega)) ?_; cbv)
    | (refine QC.tt (by first | omega | (dsimp only; omega) | exact rfl | (simp only [sm] at *; omega)) ?_; cbv)
    | (refine QC.tt ?_ ?_; (focus (simp only [decide_true, Bool.and_true, Bool.and_self] <;> fail)); cbv)
    | (refine QC.ff ?_ ?_; (focus (simp only [decide_true, Bool.and_true, Bool.and_self, decide_false, Bool.false_and, reduceCtorEq, not_false_eq_true] <;> fail)); cbv)
    | (refine QC.ff (by first | omega | (dsimp only; omega) | (simp only [sm] at *; omega)) ?_; cbv)
    | (refine QC.mk (fun hc => ?_) (fun hc => ?_) <;> (try dsimp only at hc) <;> cbv)
    | (refine br_mk2 (fun hb => ?_) (fun hb => ?_) <;> (try subst hb) <;> cbv))))
  exact ⟨rfl, rfl, rfl⟩
theorem enc_yes (t n c : Int) (k : Bool) (D : List SV) (len : Nat) (hDl : D.length = len) (hl : len ≤ 140737488351232) (hr : valP n c len = true) (x : Int) (hx : x = if k = true then n + 128 else n) :
    Good 39 (pu [.agg [.int .u8 t, .int .i64 n, .int .i64 c, .bool k, .lst none D]] (.tup [.lst none (.int .u8 232 :: .int .u8 t :: .int .u8 x :: .int .u8 c :: D), .int .i64 0])) := by
  have gv := valid_c t n c k D len true hDl hr.symm
  have hv := of_decide_eq_true hr
  clear hr
  cases k
  · rw [if_neg (by simp)] at hx
    subst hx
    refine Good.of Try.func39 rfl (by rfl) (by kernel_rfl) ?_
    cbv
    (repeat' (first
    | (refine q1 (by first | exact trivial | omega | (dsimp only; omega) | exact pow62 _ (by omega) | exact mul9 (by omega) (by omega) | (simp only [sm] at *; omega)) (fun z hz => ?_); (try simp only at hz); cbv)
    | (refine rq (by first | exact trivial | omega | (dsimp only; omega) | (simp only [sm] at *; omega)) ?_; cbv)
    | (refine QC.tt (by first | omega | (dsimp only; omega) | exact rfl | (simp only [sm] at *; omega)) ?_; cbv)
    | (refine QC.tt ?_ ?_; (focus (simp only [decide_true, Bool.and_true, Bool.and_self] <;> fail)); cbv)
    | (refine QC.ff ?_ ?_; (focus (simp only [decide_true, Bool.and_true, Bool.and_self, decide_false, Bool.false_and, reduceCtorEq, not_false_eq_true] <;> fail)); cbv)
    | (refine QC.ff (by first | omega | (dsimp only; omega) | (simp only [sm] at *; omega)) ?_; cbv)
    | (refine QC.mk (fun hc => ?_) (fun hc => ?_) <;> (try dsimp only at hc) <;> cbv)
    | (refine br_mk2 (fun hb => ?_) (fun hb => ?_) <;> (try subst hb) <;> cbv)))
    (refine callq (gv) rfl rfl ?_; cbv; (repeat' (first
    | (refine q1 (by first | exact trivial | omega | (dsimp only; omega) | exact pow62 _ (by omega) | exact mul9 (by omega) (by omega) | (simp only [sm] at *; omega)) (fun z hz => ?_); (try simp only at hz); cbv)
    | (refine rq (by first | exact trivial | omega | (dsimp only; omega) | (simp only [sm] at *; omega)) ?_; cbv)
    | (refine QC.tt (by first | omega | (dsimp only; omega) | exact rfl | (simp only [sm] at *; omega)) ?_; cbv)
    | (refine QC.tt ?_ ?_; (focus (simp only [decide_true, Bool.and_true, Bool.and_self] <;> fail)); cbv)
    | (refine QC.ff ?_ ?_; (focus (simp only [decide_true, Bool.and_true, Bool.and_self, decide_false, Bool.false_and, reduceCtorEq, not_false_eq_true] <;> fail)); cbv)
    | (refine QC.ff (by first | omega | (dsimp only; omega) | (simp only [sm] at *; omega)) ?_; cbv)
    | (refine QC.mk (fun hc => ?_) (fun hc => ?_) <;> (try dsimp only at hc) <;> cbv)
    | (refine br_mk2 (fun hb => ?_) (fun hb => ?_) <;> (try subst hb) <;> cbv))))
    rename_i za hza
    have e1 : za = x := by (first | omega | (simp only [cst] at *; omega) | (simp only [sm] at *; omega))
    have e2 : z = c := by (first | omega | (simp only [cst] at *; omega) | (simp only [sm] at *; omega))
    refine Fin.mk ?_ rfl rfl
    rw [e1, e2]
    show SV.tup [.lst none (O.ap [.int .u8 232, .int .u8 t, .int .u8 x, .int .u8 c] D), .int .i64 0] = _
    rw [oap]
    rfl
  · rw [if_pos rfl] at hx
    refine Good.of Try.func39 rfl (by rfl) (by kernel_rfl) ?_
    cbv
    (repeat' (first
    | (refine q1 (by first | exact trivial | omega | (dsimp only; omega) | exact pow62 _ (by omega) | exact mul9 (by omega) (by omega) | (simp only [sm] at *; omega)) (fun z hz => ?_); (try simp only at hz); cbv)
    | (refine rq (by first | exact trivial | omega | (dsimp only; omega) | (simp only [sm] at *; omega)) ?_; cbv)
    | (refine QC.tt (by first | omega | (dsimp only; omega) | exact rfl | (simp only [sm] at *; omega)) ?_; cbv)
    | (refine QC.tt ?_ ?_; (focus (simp only [decide_true, Bool.and_true, Bool.and_self] <;> fail)); cbv)
    | (refine QC.ff ?_ ?_; (focus (simp only [decide_true, Bool.and_true, Bool.and_self, decide_false, Bool.false_and, reduceCtorEq, not_false_eq_true] <;> fail)); cbv)
    | (refine QC.ff (by first | omega | (dsimp only; omega) | (simp only [sm] at *; omega)) ?_; cbv)
    | (refine QC.mk (fun hc => ?_) (fun hc => ?_) <;> (try dsimp only at hc) <;> cbv)
    | (refine br_mk2 (fun hb => ?_) (fun hb => ?_) <;> (try subst hb) <;> cbv)))
    (refine callq (gv) rfl rfl ?_; cbv; (repeat' (first
    | (refine q1 (by first | exact trivial | omega | (dsimp only; omega) | exact pow62 _ (by omega) | exact mul9 (by omega) (by omega) | (simp only [sm] at *; omega)) (fun z hz => ?_); (try simp only at hz); cbv)
    | (refine rq (by first | exact trivial | omega | (dsimp only; omega) | (simp only [sm] at *; omega)) ?_; cbv)
    | (refine QC.tt (by first | omega | (dsimp only; omega) | exact rfl | (simp only [sm] at *; omega)) ?_; cbv)
    | (refine QC.tt ?_ ?_; (focus (simp only [decide_true, Bool.and_true, Bool.and_self] <;> fail)); cbv)
    | (refine QC.ff ?_ ?_; (focus (simp only [decide_true, Bool.and_true, Bool.and_self, decide_false, Bool.false_and, reduceCtorEq, not_false_eq_true] <;> fail)); cbv)
    | (refine QC.ff (by first | omega | (dsimp only; omega) | (simp only [sm] at *; omega)) ?_; cbv)
    | (refine QC.mk (fun hc => ?_) (fun hc => ?_) <;> (try dsimp only at hc) <;> cbv)
    | (refine br_mk2 (fun hb => ?_) (fun hb => ?_) <;> (try subst hb) <;> cbv))))
    rename_i za hza
    have e1 : za = x := by (first | omega | (simp only [cst] at *; omega) | (simp only [sm] at *; omega))
    have e2 : z = c := by (first | omega | (simp only [cst] at *; omega) | (simp only [sm] at *; omega))
    refine Fin.mk ?_ rfl rfl
    rw [e1, e2]
    show SV.tup [.lst none (O.ap [.int .u8 232, .int .u8 t, .int .u8 x, .int .u8 c] D), .int .i64 0] = _
    rw [oap]
    rfl
theorem renc_no (t n c : Int) (k : Bool) (D : List SV) (len : Nat) (hDl : D.length = len) (hr : valP n c len = false) :
    Good 40 (pu [.agg [.int .u8 t, .int .i64 n, .int .i64 c, .bool k, .lst none D]] (.tup [.lst none [], .int .i64 1])) := by
  have gv := rvalid_c t n c k D len false hDl hr.symm
  refine Good.of Try.func40 rfl (by rfl) (by kernel_rfl) ?_
  cbv
  (repeat' (first
    | (refine q1 (by first | exact trivial | omega | (dsimp only; omega) | exact pow62 _ (by omega) | exact mul9 (by omega) (by omega) | (simp only [sm] at *; omega)) (fun z hz => ?_); (try simp only at hz); cbv)
    | (refine rq (by first | exact trivial | omega | (dsimp only; omega) | (simp only [sm] at *; omega)) ?_; cbv)
    | (refine QC.tt (by first | omega | (dsimp only; omega) | exact rfl | (simp only [sm] at *; omega)) ?_; cbv)
    | (refine QC.tt ?_ ?_; (focus (simp only [decide_true, Bool.and_true, Bool.and_self] <;> fail)); cbv)
    | (refine QC.ff ?_ ?_; (focus (simp only [decide_true, Bool.and_true, Bool.and_self, decide_false, Bool.false_and, reduceCtorEq, not_false_eq_true] <;> fail)); cbv)
    | (refine QC.ff (by first | omega | (dsimp only; omega) | (simp only [sm] at *; omega)) ?_; cbv)
    | (refine QC.mk (fun hc => ?_) (fun hc => ?_) <;> (try dsimp only at hc) <;> cbv)
    | (refine br_mk2 (fun hb => ?_) (fun hb => ?_) <;> (try subst hb) <;> cbv)))
  (refine callq (gv) rfl rfl ?_; cbv; (repeat' (first
    | (refine q1 (by first | exact trivial | omega | (dsimp only; omega) | exact pow62 _ (by omega) | exact mul9 (by omega) (by omega) | (simp only [sm] at *; omega)) (fun z hz => ?_); (try simp only at hz); cbv)
    | (refine rq (by first | exact trivial | omega | (dsimp only; omega) | (simp only [sm] at *; omega)) ?_; cbv)
    | (refine QC.tt (by first | omega | (dsimp only; omega) | exact rfl | (simp only [sm] at *; omega)) ?_; cbv)
    | (refine QC.tt ?_ ?_; (focus (simp only [decide_true, Bool.and_true, Bool.and_self] <;> fail)); cbv)
    | (refine QC.ff ?_ ?_; (focus (simp only [decide_true, Bool.and_true, Bool.and_self, decide_false, Bool.false_and, reduceCtorEq, not_false_eq_true] <;> fail)); cbv)
    | (refine QC.ff (by first | omega | (dsimp only; omega) | (simp only [sm] at *; omega)) ?_; cbv)
    | (refine QC.mk (fun hc => ?_) (fun hc => ?_) <;> (try dsimp only at hc) <;> cbv)
    | (refine br_mk2 (fun hb => ?_) (fun hb => ?_) <;> (try subst hb) <;> cbv))))
  exact ⟨rfl, rfl, rfl⟩
theorem renc_yes (t n c : Int) (k : Bool) (D : List SV) (len : Nat) (hDl : D.length = len) (hl : len ≤ 140737488351232) (hr : valP n c len = true) (x : Int) (hx : x = if k = true then n + 128 else n) :
    Good 40 (pu [.agg [.int .u8 t, .int .i64 n, .int .i64 c, .bool k, .lst none D]] (.tup [.lst none (.int .u8 232 :: .int .u8 t :: .int .u8 x :: .int .u8 c :: D), .int .i64 0])) := by
  have gv := rvalid_c t n c k D len true hDl hr.symm
  have hv := of_decide_eq_true hr
  clear hr
  cases k
  · rw [if_neg (by simp)] at hx
    subst hx
    refine Good.of Try.func40 rfl (by rfl) (by kernel_rfl) ?_
    cbv
    (repeat' (first
    | (refine q1 (by first | exact trivial | omega | (dsimp only; omega) | exact pow62 _ (by omega) | exact mul9 (by omega) (by omega) | (simp only [sm] at *; omega)) (fun z hz => ?_); (try simp only at hz); cbv)
    | (refine rq (by first | exact trivial | omega | (dsimp only; omega) | (simp only [sm] at *; omega)) ?_; cbv)
    | (refine QC.tt (by first | omega | (dsimp only; omega) | exact rfl | (simp only [sm] at *; omega)) ?_; cbv)
    | (refine QC.tt ?_ ?_; (focus (simp only [decide_true, Bool.and_true, Bool.and_self] <;> fail)); cbv)
    | (refine QC.ff ?_ ?_; (focus (simp only [decide_true, Bool.and_true, Bool.and_self, decide_false, Bool.false_and, reduceCtorEq, not_false_eq_true] <;> fail)); cbv)
    | (refine QC.ff (by first | omega | (dsimp only; omega) | (simp only [sm] at *; omega)) ?_; cbv)
    | (refine QC.mk (fun hc => ?_) (fun hc => ?_) <;> (try dsimp only at hc) <;> cbv)
    | (refine br_mk2 (fun hb => ?_) (fun hb => ?_) <;> (try subst hb) <;> cbv)))
    (refine callq (gv) rfl rfl ?_; cbv; (repeat' (first
    | (refine q1 (by first | exact trivial | omega | (dsimp only; omega) | exact pow62 _ (by omega) | exact mul9 (by omega) (by omega) | (simp only [sm] at *; omega)) (fun z hz => ?_); (try simp only at hz); cbv)
    | (refine rq (by first | exact trivial | omega | (dsimp only; omega) | (simp only [sm] at *; omega)) ?_; cbv)
    | (refine QC.tt (by first | omega | (dsimp only; omega) | exact rfl | (simp only [sm] at *; omega)) ?_; cbv)
    | (refine QC.tt ?_ ?_; (focus (simp only [decide_true, Bool.and_true, Bool.and_self] <;> fail)); cbv)
    | (refine QC.ff ?_ ?_; (focus (simp only [decide_true, Bool.and_true, Bool.and_self, decide_false, Bool.false_and, reduceCtorEq, not_false_eq_true] <;> fail)); cbv)
    | (refine QC.ff (by first | omega | (dsimp only; omega) | (simp only [sm] at *; omega)) ?_; cbv)
    | (refine QC.mk (fun hc => ?_) (fun hc => ?_) <;> (try dsimp only at hc) <;> cbv)
    | (refine br_mk2 (fun hb => ?_) (fun hb => ?_) <;> (try subst hb) <;> cbv))))
    rename_i za hza
    have e1 : za = x := by (first | omega | (simp only [cst] at *; omega) | (simp only [sm] at *; omega))
    have e2 : z = c := by (first | omega | (simp only [cst] at *; omega) | (simp only [sm] at *; omega))
    refine Fin.mk ?_ rfl rfl
    rw [e1, e2]
    show SV.tup [.lst none (O.ap [.int .u8 232, .int .u8 t, .int .u8 x, .int .u8 c] D), .int .i64 0] = _
    rw [oap]
    rfl
  · rw [if_pos rfl] at hx
    refine Good.of Try.func40 rfl (by rfl) (by kernel_rfl) ?_
    cbv
    (repeat' (first
    | (refine q1 (by first | exact trivial | omega | (dsimp only; omega) | exact pow62 _ (by omega) | exact mul9 (by omega) (by omega) | (simp only [sm] at *; omega)) (fun z hz => ?_); (try simp only at hz); cbv)
    | (refine rq (by first | exact trivial | omega | (dsimp only; omega) | (simp only [sm] at *; omega)) ?_; cbv)
    | (refine QC.tt (by first | omega | (dsimp only; omega) | exact rfl | (simp only [sm] at *; omega)) ?_; cbv)
    | (refine QC.tt ?_ ?_; (focus (simp only [decide_true, Bool.and_true, Bool.and_self] <;> fail)); cbv)
    | (refine QC.ff ?_ ?_; (focus (simp only [decide_true, Bool.and_true, Bool.and_self, decide_false, Bool.false_and, reduceCtorEq, not_false_eq_true] <;> fail)); cbv)
    | (refine QC.ff (by first | omega | (dsimp only; omega) | (simp only [sm] at *; omega)) ?_; cbv)
    | (refine QC.mk (fun hc => ?_) (fun hc => ?_) <;> (try dsimp only at hc) <;> cbv)
    | (refine br_mk2 (fun hb => ?_) (fun hb => ?_) <;> (try subst hb) <;> cbv)))
    (refine callq (gv) rfl rfl ?_; cbv; (repeat' (first
    | (refine q1 (by first | exact trivial | omega | (dsimp only; omega) | exact pow62 _ (by omega) | exact mul9 (by omega) (by omega) | (simp only [sm] at *; omega)) (fun z hz => ?_); (try simp only at hz); cbv)
    | (refine rq (by first | exact trivial | omega | (dsimp only; omega) | (simp only [sm] at *; omega)) ?_; cbv)
    | (refine QC.tt (by first | omega | (dsimp only; omega) | exact rfl | (simp only [sm] at *; omega)) ?_; cbv)
    | (refine QC.tt ?_ ?_; (focus (simp only [decide_true, Bool.and_true, Bool.and_self] <;> fail)); cbv)
    | (refine QC.ff ?_ ?_; (focus (simp only [decide_true, Bool.and_true, Bool.and_self, decide_false, Bool.false_and, reduceCtorEq, not_false_eq_true] <;> fail)); cbv)
    | (refine QC.ff (by first | omega | (dsimp only; omega) | (simp only [sm] at *; omega)) ?_; cbv)
    | (refine QC.mk (fun hc => ?_) (fun hc => ?_) <;> (try dsimp only at hc) <;> cbv)
    | (refine br_mk2 (fun hb => ?_) (fun hb => ?_) <;> (try subst hb) <;> cbv))))
    rename_i za hza
    have e1 : za = x := by (first | omega | (simp only [cst] at *; omega) | (simp only [sm] at *; omega))
    have e2 : z = c := by (first | omega | (simp only [cst] at *; omega) | (simp only [sm] at *; omega))
    refine Fin.mk ?_ rfl rfl
    rw [e1, e2]
    show SV.tup [.lst none (O.ap [.int .u8 232, .int .u8 t, .int .u8 x, .int .u8 c] D), .int .i64 0] = _
    rw [oap]
    rfl
theorem an128 : ∀ x : Nat, x < 256 → x ^^^ (x &&& 128) = x % 128 ∧ ((x &&& 128 = 0) ↔ x < 128) := by decide +kernel
def DecV (y0 y1 y2 y3 : Int) (D : List SV) (len : Nat) (V : SV) (e : Int) : Prop :=
  ((y0 = 232 ∧ valP (y2 % 128) y3 len = true) → V = .agg [.int .u8 y1, .int .i64 (y2 % 128), .int .i64 y3, .bool (decide (128 ≤ y2)), .lst none D] ∧ e = 0) ∧
  (¬ (y0 = 232 ∧ valP (y2 % 128) y3 len = true) → V = .agg [.int .u8 0, .int .i64 0, .int .i64 0, .bool false, .nil] ∧ e = 5)
theorem dec_c (y0 y1 y2 y3 : Int) (rest : List UInt8) (X : List SV) (hX : X = .int .u8 y0 :: .int .u8 y1 :: .int .u8 y2 :: .int .u8 y3 :: u8l rest) (hy0 : 0 ≤ y0 ∧ y0 ≤ 255) (hy1 : 0 ≤ y1 ∧ y1 ≤ 255) (hy2 : 0 ≤ y2 ∧ y2 ≤ 255) (hy3 : 0 ≤ y3 ∧ y3 ≤ 255)
    (hl1 : 1 ≤ rest.length) (hl : rest.length ≤ 140737488351232) (V : SV) (e : Int) (hV : DecV y0 y1 y2 y3 (O.dr 4 X) rest.length V e) :
    Good 44 (pu [.lst none X] (.tup [V, .int .i64 e])) := by
  skip
  have hXl : X.length = rest.length + 4 := by rw [hX]; simp [u8l_len]
  obtain ⟨n, hn⟩ : ∃ n, n = y2 % 128 := ⟨_, rfl⟩
  have hD : O.dr 4 X = u8l rest := by rw [odr, hX]; rfl
  have hDl : (O.dr 4 X).length = rest.length := by rw [hD, u8l_len]
  have h0 : X[0]? = some (.int .u8 y0) := by rw [hX]; rfl
  have h1 : X[1]? = some (.int .u8 y1) := by rw [hX]; rfl
  have h2 : X[2]? = some (.int .u8 y2) := by rw [hX]; rfl
  have h3 : X[3]? = some (.int .u8 y3) := by rw [hX]; rfl
  have hab := an128 y2.toNat (by omega)
  obtain ⟨r, hr⟩ : ∃ r, r = valP n y3 rest.length := ⟨_, rfl⟩
  unfold DecV at hV
  rw [← hn, ← hr] at hV
  have hV1 := hV.1
  have hV2 := hV.2
  have g := cloned_c rest (O.dr 4 X) hD hl
  have gv := fun k => valid_c y1 n y3 k (O.dr 4 X) rest.length r hDl hr
  clear hV hX hD hr
  refine Good.of Try.func44 rfl (by rfl) (by kernel_rfl) ?_
  cbv
  have hmk : True := trivial
  (repeat' (first
    | (refine q1 (by first | exact trivial | omega | (dsimp only; omega) | exact pow62 _ (by omega) | exact mul9 (by omega) (by omega) | (simp only [sm] at *; omega)) (fun z hz => ?_); (try simp only at hz); cbv)
    | (refine rq (by first | exact trivial | omega | (dsimp only; omega) | (simp only [sm] at *; omega)) ?_; cbv)
    | (refine QC.tt (by first | omega | (dsimp only; omega) | exact rfl | (simp only [sm] at *; omega)) ?_; cbv)
    | (refine QC.tt ?_ ?_; (focus (simp only [decide_true, Bool.and_true, Bool.and_self] <;> fail)); cbv)
    | (refine QC.ff ?_ ?_; (focus (simp only [decide_true, Bool.and_true, Bool.and_self, decide_false, Bool.false_and, reduceCtorEq, not_false_eq_true] <;> fail)); cbv)
    | (refine QC.ff (by first | omega | (dsimp only; omega) | (simp only [sm] at *; omega)) ?_; cbv)
    | (refine QC.mk (fun hc => ?_) (fun hc => ?_) <;> (try dsimp only at hc) <;> cbv)
    | (refine br_mk2 (fun hb => ?_) (fun hb => ?_) <;> (try subst hb) <;> cbv)))
  (refine qv (1, _) ⟨rfl, h1⟩ ?_; cbv; (repeat' (first
    | (refine q1 (by first | exact trivial | omega | (dsimp only; omega) | exact pow62 _ (by omega) | exact mul9 (by omega) (by omega) | (simp only [sm] at *; omega)) (fun z hz => ?_); (try simp only at hz); cbv)
    | (refine rq (by first | exact trivial | omega | (dsimp only; omega) | (simp only [sm] at *; omega)) ?_; cbv)
    | (refine QC.tt (by first | omega | (dsimp only; omega) | exact rfl | (simp only [sm] at *; omega)) ?_; cbv)
    | (refine QC.tt ?_ ?_; (focus (simp only [decide_true, Bool.and_true, Bool.and_self] <;> fail)); cbv)
    | (refine QC.ff ?_ ?_; (focus (simp only [decide_true, Bool.and_true, Bool.and_self, decide_false, Bool.false_and, reduceCtorEq, not_false_eq_true] <;> fail)); cbv)
    | (refine QC.ff (by first | omega | (dsimp only; omega) | (simp only [sm] at *; omega)) ?_; cbv)
    | (refine QC.mk (fun hc => ?_) (fun hc => ?_) <;> (try dsimp only at hc) <;> cbv)
    | (refine br_mk2 (fun hb => ?_) (fun hb => ?_) <;> (try subst hb) <;> cbv))))
  (refine qv (2, _) ⟨rfl, h2⟩ ?_; cbv; (repeat' (first
    | (refine q1 (by first | exact trivial | omega | (dsimp only; omega) | exact pow62 _ (by omega) | exact mul9 (by omega) (by omega) | (simp only [sm] at *; omega)) (fun z hz => ?_); (try simp only at hz); cbv)
    | (refine rq (by first | exact trivial | omega | (dsimp only; omega) | (simp only [sm] at *; omega)) ?_; cbv)
    | (refine QC.tt (by first | omega | (dsimp only; omega) | exact rfl | (simp only [sm] at *; omega)) ?_; cbv)
    | (refine QC.tt ?_ ?_; (focus (simp only [decide_true, Bool.and_true, Bool.and_self] <;> fail)); cbv)
    | (refine QC.ff ?_ ?_; (focus (simp only [decide_true, Bool.and_true, Bool.and_self, decide_false, Bool.false_and, reduceCtorEq, not_false_eq_true] <;> fail)); cbv)
    | (refine QC.ff (by first | omega | (dsimp only; omega) | (simp only [sm] at *; omega)) ?_; cbv)
    | (refine QC.mk (fun hc => ?_) (fun hc => ?_) <;> (try dsimp only at hc) <;> cbv)
    | (refine br_mk2 (fun hb => ?_) (fun hb => ?_) <;> (try subst hb) <;> cbv))))
  have hzn : z = n := hz.trans (show ((y2.toNat ^^^ (y2.toNat &&& 128) : Nat) : Int) = n by rw [hab.1]; omega)
  clear hz
  subst hzn
  refine rq ⟨by omega, by omega⟩ ?_
  cbv
  (repeat' (first
    | (refine q1 (by first | exact trivial | omega | (dsimp only; omega) | exact pow62 _ (by omega) | exact mul9 (by omega) (by omega) | (simp only [sm] at *; omega)) (fun z hz => ?_); (try simp only at hz); cbv)
    | (refine rq (by first | exact trivial | omega | (dsimp only; omega) | (simp only [sm] at *; omega)) ?_; cbv)
    | (refine QC.tt (by first | omega | (dsimp only; omega) | exact rfl | (simp only [sm] at *; omega)) ?_; cbv)
    | (refine QC.tt ?_ ?_; (focus (simp only [decide_true, Bool.and_true, Bool.and_self] <;> fail)); cbv)
    | (refine QC.ff ?_ ?_; (focus (simp only [decide_true, Bool.and_true, Bool.and_self, decide_false, Bool.false_and, reduceCtorEq, not_false_eq_true] <;> fail)); cbv)
    | (refine QC.ff (by first | omega | (dsimp only; omega) | (simp only [sm] at *; omega)) ?_; cbv)
    | (refine QC.mk (fun hc => ?_) (fun hc => ?_) <;> (try dsimp only at hc) <;> cbv)
    | (refine br_mk2 (fun hb => ?_) (fun hb => ?_) <;> (try subst hb) <;> cbv)))
  (refine qv (3, _) ⟨rfl, h3⟩ ?_; cbv; (repeat' (first
    | (refine q1 (by first | exact trivial | omega | (dsimp only; omega) | exact pow62 _ (by omega) | exact mul9 (by omega) (by omega) | (simp only [sm] at *; omega)) (fun z hz => ?_); (try simp only at hz); cbv)
    | (refine rq (by first | exact trivial | omega | (dsimp only; omega) | (simp only [sm] at *; omega)) ?_; cbv)
    | (refine QC.tt (by first | omega | (dsimp only; omega) | exact rfl | (simp only [sm] at *; omega)) ?_; cbv)
    | (refine QC.tt ?_ ?_; (focus (simp only [decide_true, Bool.and_true, Bool.and_self] <;> fail)); cbv)
    | (refine QC.ff ?_ ?_; (focus (simp only [decide_true, Bool.and_true, Bool.and_self, decide_false, Bool.false_and, reduceCtorEq, not_false_eq_true] <;> fail)); cbv)
    | (refine QC.ff (by first | omega | (dsimp only; omega) | (simp only [sm] at *; omega)) ?_; cbv)
    | (refine QC.mk (fun hc => ?_) (fun hc => ?_) <;> (try dsimp only at hc) <;> cbv)
    | (refine br_mk2 (fun hb => ?_) (fun hb => ?_) <;> (try subst hb) <;> cbv))))
  (refine qv (2, _) ⟨rfl, h2⟩ ?_; cbv; (repeat' (first
    | (refine q1 (by first | exact trivial | omega | (dsimp only; omega) | exact pow62 _ (by omega) | exact mul9 (by omega) (by omega) | (simp only [sm] at *; omega)) (fun z hz => ?_); (try simp only at hz); cbv)
    | (refine rq (by first | exact trivial | omega | (dsimp only; omega) | (simp only [sm] at *; omega)) ?_; cbv)
    | (refine QC.tt (by first | omega | (dsimp only; omega) | exact rfl | (simp only [sm] at *; omega)) ?_; cbv)
    | (refine QC.tt ?_ ?_; (focus (simp only [decide_true, Bool.and_true, Bool.and_self] <;> fail)); cbv)
    | (refine QC.ff ?_ ?_; (focus (simp only [decide_true, Bool.and_true, Bool.and_self, decide_false, Bool.false_and, reduceCtorEq, not_false_eq_true] <;> fail)); cbv)
    | (refine QC.ff (by first | omega | (dsimp only; omega) | (simp only [sm] at *; omega)) ?_; cbv)
    | (refine QC.mk (fun hc => ?_) (fun hc => ?_) <;> (try dsimp only at hc) <;> cbv)
    | (refine br_mk2 (fun hb => ?_) (fun hb => ?_) <;> (try subst hb) <;> cbv))))
  · have hbig : decide (128 ≤ y2) = true := decide_eq_true (Classical.byContradiction fun h => hc (hz.trans (congrArg Nat.cast (hab.2.2 (by omega)))))
    rw [hbig] at hV1
    have gv := gv true
    (refine callq (g) rfl rfl ?_; cbv; (repeat' (first
    | (refine q1 (by first | exact trivial | omega | (dsimp only; omega) | exact pow62 _ (by omega) | exact mul9 (by omega) (by omega) | (simp only [sm] at *; omega)) (fun z hz => ?_); (try simp only at hz); cbv)
    | (refine rq (by first | exact trivial | omega | (dsimp only; omega) | (simp only [sm] at *; omega)) ?_; cbv)
    | (refine QC.tt (by first | omega | (dsimp only; omega) | exact rfl | (simp only [sm] at *; omega)) ?_; cbv)
    | (refine QC.tt ?_ ?_; (focus (simp only [decide_true, Bool.and_true, Bool.and_self] <;> fail)); cbv)
    | (refine QC.ff ?_ ?_; (focus (simp only [decide_true, Bool.and_true, Bool.and_self, decide_false, Bool.false_and, reduceCtorEq, not_false_eq_true] <;> fail)); cbv)
    | (refine QC.ff (by first | omega | (dsimp only; omega) | (simp only [sm] at *; omega)) ?_; cbv)
    | (refine QC.mk (fun hc => ?_) (fun hc => ?_) <;> (try dsimp only at hc) <;> cbv)
    | (refine br_mk2 (fun hb => ?_) (fun hb => ?_) <;> (try subst hb) <;> cbv))))
    (refine qv (0, _) ⟨rfl, h0⟩ ?_; cbv; (repeat' (first
    | (refine q1 (by first | exact trivial | omega | (dsimp only; omega) | exact pow62 _ (by omega) | exact mul9 (by omega) (by omega) | (simp only [sm] at *; omega)) (fun z hz => ?_); (try simp only at hz); cbv)
    | (refine rq (by first | exact trivial | omega | (dsimp only; omega) | (simp only [sm] at *; omega)) ?_; cbv)
    | (refine QC.tt (by first | omega | (dsimp only; omega) | exact rfl | (simp only [sm] at *; omega)) ?_; cbv)
    | (refine QC.tt ?_ ?_; (focus (simp only [decide_true, Bool.and_true, Bool.and_self] <;> fail)); cbv)
    | (refine QC.ff ?_ ?_; (focus (simp only [decide_true, Bool.and_true, Bool.and_self, decide_false, Bool.false_and, reduceCtorEq, not_false_eq_true] <;> fail)); cbv)
    | (refine QC.ff (by first | omega | (dsimp only; omega) | (simp only [sm] at *; omega)) ?_; cbv)
    | (refine QC.mk (fun hc => ?_) (fun hc => ?_) <;> (try dsimp only at hc) <;> cbv)
    | (refine br_mk2 (fun hb => ?_) (fun hb => ?_) <;> (try subst hb) <;> cbv))))
    · obtain ⟨e1, e2⟩ := hV2 fun h => hc h.1
      refine Fin.mk ?_ rfl rfl
      rw [e1, e2]
    · (refine callq (gv) rfl rfl ?_; cbv; (repeat' (first
    | (refine q1 (by first | exact trivial | omega | (dsimp only; omega) | exact pow62 _ (by omega) | exact mul9 (by omega) (by omega) | (simp only [sm] at *; omega)) (fun z hz => ?_); (try simp only at hz); cbv)
    | (refine rq (by first | exact trivial | omega | (dsimp only; omega) | (simp only [sm] at *; omega)) ?_; cbv)
    | (refine QC.tt (by first | omega | (dsimp only; omega) | exact rfl | (simp only [sm] at *; omega)) ?_; cbv)
    | (refine QC.tt ?_ ?_; (focus (simp only [decide_true, Bool.and_true, Bool.and_self] <;> fail)); cbv)
    | (refine QC.ff ?_ ?_; (focus (simp only [decide_true, Bool.and_true, Bool.and_self, decide_false, Bool.false_and, reduceCtorEq, not_false_eq_true] <;> fail)); cbv)
    | (refine QC.ff (by first | omega | (dsimp only; omega) | (simp only [sm] at *; omega)) ?_; cbv)
    | (refine QC.mk (fun hc => ?_) (fun hc => ?_) <;> (try dsimp only at hc) <;> cbv)
    | (refine br_mk2 (fun hb => ?_) (fun hb => ?_) <;> (try subst hb) <;> cbv))))
      · obtain ⟨e1, e2⟩ := hV1 ⟨Classical.not_not.1 hc, rfl⟩
        refine Fin.mk ?_ rfl rfl
        rw [e1, e2]
        rfl
      · obtain ⟨e1, e2⟩ := hV2 fun h => by cases h.2
        refine Fin.mk ?_ rfl rfl
        rw [e1, e2]
  · have hbig : decide (128 ≤ y2) = false := decide_eq_false fun h => by
      have h1 : ((y2.toNat &&& 128 : Nat) : Int) = 0 := hz.symm.trans (Classical.not_not.1 hc)
      have := hab.2.1 (by omega)
      omega
    rw [hbig] at hV1
    have gv := gv false
    (refine callq (g) rfl rfl ?_; cbv; (repeat' (first
    | (refine q1 (by first | exact trivial | omega | (dsimp only; omega) | exact pow62 _ (by omega) | exact mul9 (by omega) (by omega) | (simp only [sm] at *; omega)) (fun z hz => ?_); (try simp only at hz); cbv)
    | (refine rq (by first | exact trivial | omega | (dsimp only; omega) | (simp only [sm] at *; omega)) ?_; cbv)
    | (refine QC.tt (by first | omega | (dsimp only; omega) | exact rfl | (simp only [sm] at *; omega)) ?_; cbv)
    | (refine QC.tt ?_ ?_; (focus (simp only [decide_true, Bool.and_true, Bool.and_self] <;> fail)); cbv)
    | (refine QC.ff ?_ ?_; (focus (simp only [decide_true, Bool.and_true, Bool.and_self, decide_false, Bool.false_and, reduceCtorEq, not_false_eq_true] <;> fail)); cbv)
    | (refine QC.ff (by first | omega | (dsimp only; omega) | (simp only [sm] at *; omega)) ?_; cbv)
    | (refine QC.mk (fun hc => ?_) (fun hc => ?_) <;> (try dsimp only at hc) <;> cbv)
    | (refine br_mk2 (fun hb => ?_) (fun hb => ?_) <;> (try subst hb) <;> cbv))))
    (refine qv (0, _) ⟨rfl, h0⟩ ?_; cbv; (repeat' (first
    | (refine q1 (by first | exact trivial | omega | (dsimp only; omega) | exact pow62 _ (by omega) | exact mul9 (by omega) (by omega) | (simp only [sm] at *; omega)) (fun z hz => ?_); (try simp only at hz); cbv)
    | (refine rq (by first | exact trivial | omega | (dsimp only; omega) | (simp only [sm] at *; omega)) ?_; cbv)
    | (refine QC.tt (by first | omega | (dsimp only; omega) | exact rfl | (simp only [sm] at *; omega)) ?_; cbv)
    | (refine QC.tt ?_ ?_; (focus (simp only [decide_true, Bool.and_true, Bool.and_self] <;> fail)); cbv)
    | (refine QC.ff ?_ ?_; (focus (simp only [decide_true, Bool.and_true, Bool.and_self, decide_false, Bool.false_and, reduceCtorEq, not_false_eq_true] <;> fail)); cbv)
    | (refine QC.ff (by first | omega | (dsimp only; omega) | (simp only [sm] at *; omega)) ?_; cbv)
    | (refine QC.mk (fun hc => ?_) (fun hc => ?_) <;> (try dsimp only at hc) <;> cbv)
    | (refine br_mk2 (fun hb => ?_) (fun hb => ?_) <;> (try subst hb) <;> cbv))))
    · obtain ⟨e1, e2⟩ := hV2 fun h => hc h.1
      refine Fin.mk ?_ rfl rfl
      rw [e1, e2]
    · (refine callq (gv) rfl rfl ?_; cbv; (repeat' (first
    | (refine q1 (by first | exact trivial | omega | (dsimp only; omega) | exact pow62 _ (by omega) | exact mul9 (by omega) (by omega) | (simp only [sm] at *; omega)) (fun z hz => ?_); (try simp only at hz); cbv)
    | (refine rq (by first | exact trivial | omega | (dsimp only; omega) | (simp only [sm] at *; omega)) ?_; cbv)
    | (refine QC.tt (by first | omega | (dsimp only; omega) | exact rfl | (simp only [sm] at *; omega)) ?_; cbv)
    | (refine QC.tt ?_ ?_; (focus (simp only [decide_true, Bool.and_true, Bool.and_self] <;> fail)); cbv)
    | (refine QC.ff ?_ ?_; (focus (simp only [decide_true, Bool.and_true, Bool.and_self, decide_false, Bool.false_and, reduceCtorEq, not_false_eq_true] <;> fail)); cbv)
    | (refine QC.ff (by first | omega | (dsimp only; omega) | (simp only [sm] at *; omega)) ?_; cbv)
    | (refine QC.mk (fun hc => ?_) (fun hc => ?_) <;> (try dsimp only at hc) <;> cbv)
    | (refine br_mk2 (fun hb => ?_) (fun hb => ?_) <;> (try subst hb) <;> cbv))))
      · obtain ⟨e1, e2⟩ := hV1 ⟨Classical.not_not.1 hc, rfl⟩
        refine Fin.mk ?_ rfl rfl
        rw [e1, e2]
        rfl
      · obtain ⟨e1, e2⟩ := hV2 fun h => by cases h.2
        refine Fin.mk ?_ rfl rfl
        rw [e1, e2]
theorem rdec_c (y0 y1 y2 y3 : Int) (rest : List UInt8) (X : List SV) (hX : X = .int .u8 y0 :: .int .u8 y1 :: .int .u8 y2 :: .int .u8 y3 :: u8l rest) (hy0 : 0 ≤ y0 ∧ y0 ≤ 255) (hy1 : 0 ≤ y1 ∧ y1 ≤ 255) (hy2 : 0 ≤ y2 ∧ y2 ≤ 255) (hy3 : 0 ≤ y3 ∧ y3 ≤ 255)
    (hl1 : 1 ≤ rest.length) (hl : rest.length ≤ 140737488351232) (V : SV) (e : Int) (hV : DecV y0 y1 y2 y3 (O.dr 4 X) rest.length V e) :
    Good 45 (pu [.lst none X] (.tup [V, .int .i64 e])) := by
  skip
  have hXl : X.length = rest.length + 4 := by rw [hX]; simp [u8l_len]
  obtain ⟨n, hn⟩ : ∃ n, n = y2 % 128 := ⟨_, rfl⟩
  have hD : O.dr 4 X = u8l rest := by rw [odr, hX]; rfl
  have hDl : (O.dr 4 X).length = rest.length := by rw [hD, u8l_len]
  have h0 : X[0]? = some (.int .u8 y0) := by rw [hX]; rfl
  have h1 : X[1]? = some (.int .u8 y1) := by rw [hX]; rfl
  have h2 : X[2]? = some (.int .u8 y2) := by rw [hX]; rfl
  have h3 : X[3]? = some (.int .u8 y3) := by rw [hX]; rfl
  have hab := an128 y2.toNat (by omega)
  obtain ⟨r, hr⟩ : ∃ r, r = valP n y3 rest.length := ⟨_, rfl⟩
  unfold DecV at hV
  rw [← hn, ← hr] at hV
  have hV1 := hV.1
  have hV2 := hV.2
  have gv := fun k => rvalid_c y1 n y3 k (O.dr 4 X) rest.length r hDl hr
  clear hV hX hD hr
  refine Good.of Try.func45 rfl (by rfl) (by kernel_rfl) ?_
  cbv
  have hmk : True := trivial
  (repeat' (first
    | (refine q1 (by first | exact trivial | omega | (dsimp only; omega) | exact pow62 _ (by omega) | exact mul9 (by omega) (by omega) | (simp only [sm] at *; omega)) (fun z hz => ?_); (try simp only at hz); cbv)
    | (refine rq (by first | exact trivial | omega | (dsimp only; omega) | (simp only [sm] at *; omega)) ?_; cbv)
    | (refine QC.tt (by first | omega | (dsimp only; omega) | exact rfl | (simp only [sm] at *; omega)) ?_; cbv)
    | (refine QC.tt ?_ ?_; (focus (simp only [decide_true, Bool.and_true, Bool.and_self] <;> fail)); cbv)
    | (refine QC.ff ?_ ?_; (focus (simp only [decide_true, Bool.and_true, Bool.and_self, decide_false, Bool.false_and, reduceCtorEq, not_false_eq_true] <;> fail)); cbv)
    | (refine QC.ff (by first | omega | (dsimp only; omega) | (simp only [sm] at *; omega)) ?_; cbv)
    | (refine QC.mk (fun hc => ?_) (fun hc => ?_) <;> (try dsimp only at hc) <;> cbv)
    | (refine br_mk2 (fun hb => ?_) (fun hb => ?_) <;> (try subst hb) <;> cbv)))
  (refine qv (1, _) ⟨rfl, h1⟩ ?_; cbv; (repeat' (first
    | (refine q1 (by first | exact trivial | omega | (dsimp only; omega) | exact pow62 _ (by omega) | exact mul9 (by omega) (by omega) | (simp only [sm] at *; omega)) (fun z hz => ?_); (try simp only at hz); cbv)
    | (refine rq (by first | exact trivial | omega | (dsimp only; omega) | (simp only [sm] at *; omega)) ?_; cbv)
    | (refine QC.tt (by first | omega | (dsimp only; omega) | exact rfl | (simp only [sm] at *; omega)) ?_; cbv)
    | (refine QC.tt ?_ ?_; (focus (simp only [decide_true, Bool.and_true, Bool.and_self] <;> fail)); cbv)
    | (refine QC.ff ?_ ?_; (focus (simp only [decide_true, Bool.and_true, Bool.and_self, decide_false, Bool.false_and, reduceCtorEq, not_false_eq_true] <;> fail)); cbv)
    | (refine QC.ff (by first | omega | (dsimp only; omega) | (simp only [sm] at *; omega)) ?_; cbv)
    | (refine QC.mk (fun hc => ?_) (fun hc => ?_) <;> (try dsimp only at hc) <;> cbv)
    | (refine br_mk2 (fun hb => ?_) (fun hb => ?_) <;> (try subst hb) <;> cbv))))
  (refine qv (2, _) ⟨rfl, h2⟩ ?_; cbv; (repeat' (first
    | (refine q1 (by first | exact trivial | omega | (dsimp only; omega) | exact pow62 _ (by omega) | exact mul9 (by omega) (by omega) | (simp only [sm] at *; omega)) (fun z hz => ?_); (try simp only at hz); cbv)
    | (refine rq (by first | exact trivial | omega | (dsimp only; omega) | (simp only [sm] at *; omega)) ?_; cbv)
    | (refine QC.tt (by first | omega | (dsimp only; omega) | exact rfl | (simp only [sm] at *; omega)) ?_; cbv)
    | (refine QC.tt ?_ ?_; (focus (simp only [decide_true, Bool.and_true, Bool.and_self] <;> fail)); cbv)
    | (refine QC.ff ?_ ?_; (focus (simp only [decide_true, Bool.and_true, Bool.and_self, decide_false, Bool.false_and, reduceCtorEq, not_false_eq_true] <;> fail)); cbv)
    | (refine QC.ff (by first | omega | (dsimp only; omega) | (simp only [sm] at *; omega)) ?_; cbv)
    | (refine QC.mk (fun hc => ?_) (fun hc => ?_) <;> (try dsimp only at hc) <;> cbv)
    | (refine br_mk2 (fun hb => ?_) (fun hb => ?_) <;> (try subst hb) <;> cbv))))
  have hzn : z = n := by omega
  clear hz
  subst hzn
  (refine qv (3, _) ⟨rfl, h3⟩ ?_; cbv; (repeat' (first
    | (refine q1 (by first | exact trivial | omega | (dsimp only; omega) | exact pow62 _ (by omega) | exact mul9 (by omega) (by omega) | (simp only [sm] at *; omega)) (fun z hz => ?_); (try simp only at hz); cbv)
    | (refine rq (by first | exact trivial | omega | (dsimp only; omega) | (simp only [sm] at *; omega)) ?_; cbv)
    | (refine QC.tt (by first | omega | (dsimp only; omega) | exact rfl | (simp only [sm] at *; omega)) ?_; cbv)
    | (refine QC.tt ?_ ?_; (focus (simp only [decide_true, Bool.and_true, Bool.and_self] <;> fail)); cbv)
    | (refine QC.ff ?_ ?_; (focus (simp only [decide_true, Bool.and_true, Bool.and_self, decide_false, Bool.false_and, reduceCtorEq, not_false_eq_true] <;> fail)); cbv)
    | (refine QC.ff (by first | omega | (dsimp only; omega) | (simp only [sm] at *; omega)) ?_; cbv)
    | (refine QC.mk (fun hc => ?_) (fun hc => ?_) <;> (try dsimp only at hc) <;> cbv)
    | (refine br_mk2 (fun hb => ?_) (fun hb => ?_) <;> (try subst hb) <;> cbv))))
  (refine qv (2, _) ⟨rfl, h2⟩ ?_; cbv; (repeat' (first
    | (refine q1 (by first | exact trivial | omega | (dsimp only; omega) | exact pow62 _ (by omega) | exact mul9 (by omega) (by omega) | (simp only [sm] at *; omega)) (fun z hz => ?_); (try simp only at hz); cbv)
    | (refine rq (by first | exact trivial | omega | (dsimp only; omega) | (simp only [sm] at *; omega)) ?_; cbv)
    | (refine QC.tt (by first | omega | (dsimp only; omega) | exact rfl | (simp only [sm] at *; omega)) ?_; cbv)
    | (refine QC.tt ?_ ?_; (focus (simp only [decide_true, Bool.and_true, Bool.and_self] <;> fail)); cbv)
    | (refine QC.ff ?_ ?_; (focus (simp only [decide_true, Bool.and_true, Bool.and_self, decide_false, Bool.false_and, reduceCtorEq, not_false_eq_true] <;> fail)); cbv)
    | (refine QC.ff (by first | omega | (dsimp only; omega) | (simp only [sm] at *; omega)) ?_; cbv)
    | (refine QC.mk (fun hc => ?_) (fun hc => ?_) <;> (try dsimp only at hc) <;> cbv)
    | (refine br_mk2 (fun hb => ?_) (fun hb => ?_) <;> (try subst hb) <;> cbv))))
  · have hbig : decide (128 ≤ y2) = true := decide_eq_true (by omega)
    rw [hbig] at hV1
    have gv := gv true
    (refine qv (0, _) ⟨rfl, h0⟩ ?_; cbv; (repeat' (first
    | (refine q1 (by first | exact trivial | omega | (dsimp only; omega) | exact pow62 _ (by omega) | exact mul9 (by omega) (by omega) | (simp only [sm] at *; omega)) (fun z hz => ?_); (try simp only at hz); cbv)
    | (refine rq (by first | exact trivial | omega | (dsimp only; omega) | (simp only [sm] at *; omega)) ?_; cbv)
    | (refine QC.tt (by first | omega | (dsimp only; omega) | exact rfl | (simp only [sm] at *; omega)) ?_; cbv)
    | (refine QC.tt ?_ ?_; (focus (simp only [decide_true, Bool.and_true, Bool.and_self] <;> fail)); cbv)
    | (refine QC.ff ?_ ?_; (focus (simp only [decide_true, Bool.and_true, Bool.and_self, decide_false, Bool.false_and, reduceCtorEq, not_false_eq_true] <;> fail)); cbv)
    | (refine QC.ff (by first | omega | (dsimp only; omega) | (simp only [sm] at *; omega)) ?_; cbv)
    | (refine QC.mk (fun hc => ?_) (fun hc => ?_) <;> (try dsimp only at hc) <;> cbv)
    | (refine br_mk2 (fun hb => ?_) (fun hb => ?_) <;> (try subst hb) <;> cbv))))
    · obtain ⟨e1, e2⟩ := hV2 fun h => hc h.1
      refine Fin.mk ?_ rfl rfl
      rw [e1, e2]
    · (refine callq (gv) rfl rfl ?_; cbv; (repeat' (first
    | (refine q1 (by first | exact trivial | omega | (dsimp only; omega) | exact pow62 _ (by omega) | exact mul9 (by omega) (by omega) | (simp only [sm] at *; omega)) (fun z hz => ?_); (try simp only at hz); cbv)
    | (refine rq (by first | exact trivial | omega | (dsimp only; omega) | (simp only [sm] at *; omega)) ?_; cbv)
    | (refine QC.tt (by first | omega | (dsimp only; omega) | exact rfl | (simp only [sm] at *; omega)) ?_; cbv)
    | (refine QC.tt ?_ ?_; (focus (simp only [decide_true, Bool.and_true, Bool.and_self] <;> fail)); cbv)
    | (refine QC.ff ?_ ?_; (focus (simp only [decide_true, Bool.and_true, Bool.and_self, decide_false, Bool.false_and, reduceCtorEq, not_false_eq_true] <;> fail)); cbv)
    | (refine QC.ff (by first | omega | (dsimp only; omega) | (simp only [sm] at *; omega)) ?_; cbv)
    | (refine QC.mk (fun hc => ?_) (fun hc => ?_) <;> (try dsimp only at hc) <;> cbv)
    | (refine br_mk2 (fun hb => ?_) (fun hb => ?_) <;> (try subst hb) <;> cbv))))
      · obtain ⟨e1, e2⟩ := hV1 ⟨Classical.not_not.1 hc, rfl⟩
        refine Fin.mk ?_ rfl rfl
        rw [e1, e2]
        rfl
      · obtain ⟨e1, e2⟩ := hV2 fun h => by cases h.2
        refine Fin.mk ?_ rfl rfl
        rw [e1, e2]
  · have hbig : decide (128 ≤ y2) = false := decide_eq_false (by omega)
    rw [hbig] at hV1
    have gv := gv false
    (refine qv (0, _) ⟨rfl, h0⟩ ?_; cbv; (repeat' (first
    | (refine q1 (by first | exact trivial | omega | (dsimp only; omega) | exact pow62 _ (by omega) | exact mul9 (by omega) (by omega) | (simp only [sm] at *; omega)) (fun z hz => ?_); (try simp only at hz); cbv)
    | (refine rq (by first | exact trivial | omega | (dsimp only; omega) | (simp only [sm] at *; omega)) ?_; cbv)
    | (refine QC.tt (by first | omega | (dsimp only; omega) | exact rfl | (simp only [sm] at *; omega)) ?_; cbv)
    | (refine QC.tt ?_ ?_; (focus (simp only [decide_true, Bool.and_true, Bool.and_self] <;> fail)); cbv)
    | (refine QC.ff ?_ ?_; (focus (simp only [decide_true, Bool.and_true, Bool.and_self, decide_false, Bool.false_and, reduceCtorEq, not_false_eq_true] <;> fail)); cbv)
    | (refine QC.ff (by first | omega | (dsimp only; omega) | (simp only [sm] at *; omega)) ?_; cbv)
    | (refine QC.mk (fun hc => ?_) (fun hc => ?_) <;> (try dsimp only at hc) <;> cbv)
    | (refine br_mk2 (fun hb => ?_) (fun hb => ?_) <;> (try subst hb) <;> cbv))))
    · obtain ⟨e1, e2⟩ := hV2 fun h => hc h.1
      refine Fin.mk ?_ rfl rfl
      rw [e1, e2]
    · (refine callq (gv) rfl rfl ?_; cbv; (repeat' (first
    | (refine q1 (by first | exact trivial | omega | (dsimp only; omega) | exact pow62 _ (by omega) | exact mul9 (by omega) (by omega) | (simp only [sm] at *; omega)) (fun z hz => ?_); (try simp only at hz); cbv)
    | (refine rq (by first | exact trivial | omega | (dsimp only; omega) | (simp only [sm] at *; omega)) ?_; cbv)
    | (refine QC.tt (by first | omega | (dsimp only; omega) | exact rfl | (simp only [sm] at *; omega)) ?_; cbv)
    | (refine QC.tt ?_ ?_; (focus (simp only [decide_true, Bool.and_true, Bool.and_self] <;> fail)); cbv)
    | (refine QC.ff ?_ ?_; (focus (simp only [decide_true, Bool.and_true, Bool.and_self, decide_false, Bool.false_and, reduceCtorEq, not_false_eq_true] <;> fail)); cbv)
    | (refine QC.ff (by first | omega | (dsimp only; omega) | (simp only [sm] at *; omega)) ?_; cbv)
    | (refine QC.mk (fun hc => ?_) (fun hc => ?_) <;> (try dsimp only at hc) <;> cbv)
    | (refine br_mk2 (fun hb => ?_) (fun hb => ?_) <;> (try subst hb) <;> cbv))))
      · obtain ⟨e1, e2⟩ := hV1 ⟨Classical.not_not.1 hc, rfl⟩
        refine Fin.mk ?_ rfl rfl
        rw [e1, e2]
        rfl
      · obtain ⟨e1, e2⟩ := hV2 fun h => by cases h.2
        refine Fin.mk ?_ rfl rfl
        rw [e1, e2]
theorem dec_e (b : List UInt8) (X : List SV) (hX : X = u8l b) (hl : b.length ≤ 140737488351236) : ∃ (p : Pce) (D : List SV) (e : Int), D = u8l p.d ∧ p.d.length ≤ 140737488351232 ∧
    Good 44 (pu [.lst none X] (.tup [.agg [.int .u8 p.tag, .int .i64 p.n, .int .i64 p.c, .bool p.ack, .lst none D], .int .i64 e])) ∧
    Good 45 (pu [.lst none X] (.tup [.agg [.int .u8 p.tag, .int .i64 p.n, .int .i64 p.c, .bool p.ack, .lst none D], .int .i64 e])) := by
  have wz : ∀ e : Int, Wk (.tup [.agg [.int .u8 0, .int .i64 0, .int .i64 0, .bool false, .nil], .int .i64 e]) (.tup [.agg [.int .u8 0, .int .i64 0, .int .i64 0, .bool false, .lst none []], .int .i64 e]) := fun e => .tup ⟨.agg ⟨.rfl' _, .rfl' _, .rfl' _, .rfl' _, .nil _, trivial⟩, .rfl' _, trivial⟩
  by_cases h4 : b.length ≤ 4
  · have hXl : X.length = b.length := by rw [hX, u8l_len]
    refine ⟨⟨0, 0, 0, false, []⟩, [], 4, rfl, by simp, Good.res ?_ (wz 4), Good.res ?_ (wz 4)⟩
    · refine Good.of Try.func44 rfl (by rfl) (by kernel_rfl) ?_
      cbv
      (repeat' (first
    | (refine q1 (by first | exact trivial | omega | (dsimp only; omega) | exact pow62 _ (by omega) | exact mul9 (by omega) (by omega) | (simp only [sm] at *; omega)) (fun z hz => ?_); (try simp only at hz); cbv)
    | (refine rq (by first | exact trivial | omega | (dsimp only; omega) | (simp only [sm] at *; omega)) ?_; cbv)
    | (refine QC.tt (by first | omega | (dsimp only; omega) | exact rfl | (simp only [sm] at *; omega)) ?_; cbv)
    | (refine QC.tt ?_ ?_; (focus (simp only [decide_true, Bool.and_true, Bool.and_self] <;> fail)); cbv)
    | (refine QC.ff ?_ ?_; (focus (simp only [decide_true, Bool.and_true, Bool.and_self, decide_false, Bool.false_and, reduceCtorEq, not_false_eq_true] <;> fail)); cbv)
    | (refine QC.ff (by first | omega | (dsimp only; omega) | (simp only [sm] at *; omega)) ?_; cbv)
    | (refine QC.mk (fun hc => ?_) (fun hc => ?_) <;> (try dsimp only at hc) <;> cbv)
    | (refine br_mk2 (fun hb => ?_) (fun hb => ?_) <;> (try subst hb) <;> cbv)))
      exact ⟨rfl, rfl, rfl⟩
    · refine Good.of Try.func45 rfl (by rfl) (by kernel_rfl) ?_
      cbv
      (repeat' (first
    | (refine q1 (by first | exact trivial | omega | (dsimp only; omega) | exact pow62 _ (by omega) | exact mul9 (by omega) (by omega) | (simp only [sm] at *; omega)) (fun z hz => ?_); (try simp only at hz); cbv)
    | (refine rq (by first | exact trivial | omega | (dsimp only; omega) | (simp only [sm] at *; omega)) ?_; cbv)
    | (refine QC.tt (by first | omega | (dsimp only; omega) | exact rfl | (simp only [sm] at *; omega)) ?_; cbv)
    | (refine QC.tt ?_ ?_; (focus (simp only [decide_true, Bool.and_true, Bool.and_self] <;> fail)); cbv)
    | (refine QC.ff ?_ ?_; (focus (simp only [decide_true, Bool.and_true, Bool.and_self, decide_false, Bool.false_and, reduceCtorEq, not_false_eq_true] <;> fail)); cbv)
    | (refine QC.ff (by first | omega | (dsimp only; omega) | (simp only [sm] at *; omega)) ?_; cbv)
    | (refine QC.mk (fun hc => ?_) (fun hc => ?_) <;> (try dsimp only at hc) <;> cbv)
    | (refine br_mk2 (fun hb => ?_) (fun hb => ?_) <;> (try subst hb) <;> cbv)))
      exact ⟨rfl, rfl, rfl⟩
  · match b, hX, hl, h4 with
    | x0 :: x1 :: x2 :: x3 :: rest, hX, hl, h4 =>
      simp only [List.length_cons] at hl h4
      have hd : O.dr 4 X = u8l rest := by rw [odr, hX]; rfl
      have bb : ∀ x : UInt8, 0 ≤ (x.toNat : Int) ∧ (x.toNat : Int) ≤ 255 := fun x => by have := x.toNat_lt; omega
      by_cases hv : (x0.toNat : Int) = 232 ∧ valP ((x2.toNat : Int) % 128) x3.toNat rest.length = true
      · have hV : DecV x0.toNat x1.toNat x2.toNat x3.toNat (O.dr 4 X) rest.length (.agg [.int .u8 x1.toNat, .int .i64 ((x2.toNat : Int) % 128), .int .i64 x3.toNat, .bool (decide (128 ≤ (x2.toNat : Int))), .lst none (O.dr 4 X)]) 0 := ⟨fun _ => ⟨rfl, rfl⟩, fun h => absurd hv h⟩
        exact ⟨⟨x1.toNat, (x2.toNat : Int) % 128, x3.toNat, decide (128 ≤ (x2.toNat : Int)), rest⟩, O.dr 4 X, 0, hd, by dsimp only; omega, dec_c _ _ _ _ rest X hX (bb _) (bb _) (bb _) (bb _) (by omega) (by omega) _ _ hV, rdec_c _ _ _ _ rest X hX (bb _) (bb _) (bb _) (bb _) (by omega) (by omega) _ _ hV⟩
      · have hV : DecV x0.toNat x1.toNat x2.toNat x3.toNat (O.dr 4 X) rest.length (.agg [.int .u8 0, .int .i64 0, .int .i64 0, .bool false, .nil]) 5 := ⟨fun h => absurd h hv, fun _ => ⟨rfl, rfl⟩⟩
        exact ⟨⟨0, 0, 0, false, []⟩, [], 5, rfl, by simp, (dec_c _ _ _ _ rest X hX (bb _) (bb _) (bb _) (bb _) (by omega) (by omega) _ _ hV).res (wz 5), (rdec_c _ _ _ _ rest X hX (bb _) (bb _) (bb _) (bb _) (by omega) (by omega) _ _ hV).res (wz 5)⟩
    | [], _, _, h4 => exact absurd (by simp) h4
    | [_], _, _, h4 => exact absurd (by simp) h4
    | [_, _], _, _, h4 => exact absurd (by simp) h4
    | [_, _, _], _, _, h4 => exact absurd (by simp) h4
theorem enc2_e (t n c : Int) (k : Bool) (d : List UInt8) (D : List SV) (hD : D = u8l d) (ht : 0 ≤ t ∧ t ≤ 255) (hl : d.length ≤ 140737488351232) :
    ∃ (C : List SV) (cs : List UInt8) (e : Int) (r : Bool), C = u8l cs ∧ cs.length ≤ d.length + 4 ∧ (valP n c d.length = false → cs.length = 0) ∧ (valP n c d.length = true → 1 ≤ cs.length) ∧ Good 39 (pu [.agg [.int .u8 t, .int .i64 n, .int .i64 c, .bool k, .lst none D]] (.tup [.lst none C, .int .i64 e])) ∧
      Good 40 (pu [.agg [.int .u8 t, .int .i64 n, .int .i64 c, .bool k, .lst none D]] (.tup [.lst none C, .int .i64 e])) ∧
      Good 41 (pu [.agg [.int .u8 t, .int .i64 n, .int .i64 c, .bool k, .lst none D]] (.bool r)) ∧ Good 42 (pu [.agg [.int .u8 t, .int .i64 n, .int .i64 c, .bool k, .lst none D]] (.bool r)) := by
  have hDl : D.length = d.length := by rw [hD, u8l_len]
  cases hr : valP n c d.length with
  | false => exact ⟨[], [], 1, false, rfl, by simp, fun _ => rfl, fun h => (by cases h), enc_no t n c k D _ hDl hr, renc_no t n c k D _ hDl hr, valid_c t n c k D _ _ hDl hr.symm, rvalid_c t n c k D _ _ hDl hr.symm⟩
  | true =>
    have hv := of_decide_eq_true hr
    obtain ⟨x, hx⟩ : ∃ x : Int, x = if k = true then n + 128 else n := ⟨_, rfl⟩
    obtain ⟨b1, e1⟩ := u8_of t ht
    obtain ⟨b2, e2⟩ := u8_of x (by rw [hx]; split <;> omega)
    obtain ⟨b3, e3⟩ := u8_of c (by omega)
    refine ⟨_, 232 :: b1 :: b2 :: b3 :: d, 0, true, ?_, by simp, fun h => (by cases h), fun _ => by simp, enc_yes t n c k D _ hDl hl hr x hx, renc_yes t n c k D _ hDl hl hr x hx, valid_c t n c k D _ _ hDl hr.symm, rvalid_c t n c k D _ _ hDl hr.symm⟩
    rw [e1, e2, e3, hD]; rfl
def ackB (t m : Int) : List UInt8 := 234 :: UInt8.ofNat t.toNat :: bytesOf m 4
theorem ackB_len (t m : Int) : (ackB t m).length = 6 := by simp [ackB, bytesOf_length]
theorem encack_c (t m : Int) (ht : 0 ≤ t ∧ t ≤ 255) (hm : 0 ≤ m ∧ m ≤ 4294967295) (R : List SV) (hR : R = u8l (ackB t m)) : Good 49 (nu [.int .u8 t, .int .u32 m] (.row 1) (.row none 5 R)) := by
  have e : [SV.int .u8 234, .int .u8 t] = u8l [234, UInt8.ofNat t.toNat] := by
    have : ((UInt8.ofNat t.toNat).toNat : Int) = t := by rw [UInt8.toNat_ofNat']; omega
    rw [u8l, List.map_cons, List.map_cons, this]; rfl
  have g := append_c _ _ R m 4 4 e rfl (by omega) (by omega) (by simp) (by rw [hR]; rfl)
  refine Good.of Try.func49 rfl (by rfl) (by kernel_rfl) ?_
  cbv
  have hmk : True := trivial
  (repeat' (first
    | (refine q1 (by first | exact trivial | omega | (dsimp only; omega) | exact pow62 _ (by omega) | exact mul9 (by omega) (by omega) | (simp only [sm] at *; omega)) (fun z hz => ?_); (try simp only at hz); cbv)
    | (refine rq (by first | exact trivial | omega | (dsimp only; omega) | (simp only [sm] at *; omega)) ?_; cbv)
    | (refine QC.tt (by first | omega | (dsimp only; omega) | exact rfl | (simp only [sm] at *; omega)) ?_; cbv)
    | (refine QC.tt ?_ ?_; (focus (simp only [decide_true, Bool.and_true, Bool.and_self] <;> fail)); cbv)
    | (refine QC.ff ?_ ?_; (focus (simp only [decide_true, Bool.and_true, Bool.and_self, decide_false, Bool.false_and, reduceCtorEq, not_false_eq_true] <;> fail)); cbv)
    | (refine QC.ff (by first | omega | (dsimp only; omega) | (simp only [sm] at *; omega)) ?_; cbv)
    | (refine QC.mk (fun hc => ?_) (fun hc => ?_) <;> (try dsimp only at hc) <;> cbv)
    | (refine br_mk2 (fun hb => ?_) (fun hb => ?_) <;> (try subst hb) <;> cbv)))
  have hzm : z = m := by omega
  subst hzm
  (refine callq (g) rfl rfl ?_; cbv; (repeat' (first
    | (refine q1 (by first | exact trivial | omega | (dsimp only; omega) | exact pow62 _ (by omega) | exact mul9 (by omega) (by omega) | (simp only [sm] at *; omega)) (fun z hz => ?_); (try simp only at hz); cbv)
    | (refine rq (by first | exact trivial | omega | (dsimp only; omega) | (simp only [sm] at *; omega)) ?_; cbv)
    | (refine QC.tt (by first | omega | (dsimp only; omega) | exact rfl | (simp only [sm] at *; omega)) ?_; cbv)
    | (refine QC.tt ?_ ?_; (focus (simp only [decide_true, Bool.and_true, Bool.and_self] <;> fail)); cbv)
    | (refine QC.ff ?_ ?_; (focus (simp only [decide_true, Bool.and_true, Bool.and_self, decide_false, Bool.false_and, reduceCtorEq, not_false_eq_true] <;> fail)); cbv)
    | (refine QC.ff (by first | omega | (dsimp only; omega) | (simp only [sm] at *; omega)) ?_; cbv)
    | (refine QC.mk (fun hc => ?_) (fun hc => ?_) <;> (try dsimp only at hc) <;> cbv)
    | (refine br_mk2 (fun hb => ?_) (fun hb => ?_) <;> (try subst hb) <;> cbv))))
  exact ⟨rfl, rfl, rfl⟩
theorem rencack_c (t m : Int) (ht : 0 ≤ t ∧ t ≤ 255) (hm : 0 ≤ m ∧ m ≤ 4294967295) (R : List SV) (hR : R = u8l (ackB t m)) : Good 43 (nu [.int .u8 t, .int .u32 m] (.row 1) (.row none 5 R)) := by
  have e : [SV.int .u8 234, .int .u8 t] = u8l [234, UInt8.ofNat t.toNat] := by
    have : ((UInt8.ofNat t.toNat).toNat : Int) = t := by rw [UInt8.toNat_ofNat']; omega
    rw [u8l, List.map_cons, List.map_cons, this]; rfl
  have g := rappend_c _ _ R m 4 4 e rfl (by omega) (by omega) (by simp) (by rw [hR]; rfl)
  refine Good.of Try.func43 rfl (by rfl) (by kernel_rfl) ?_
  cbv
  (repeat' (first
    | (refine q1 (by first | exact trivial | omega | (dsimp only; omega) | exact pow62 _ (by omega) | exact mul9 (by omega) (by omega) | (simp only [sm] at *; omega)) (fun z hz => ?_); (try simp only at hz); cbv)
    | (refine rq (by first | exact trivial | omega | (dsimp only; omega) | (simp only [sm] at *; omega)) ?_; cbv)
    | (refine QC.tt (by first | omega | (dsimp only; omega) | exact rfl | (simp only [sm] at *; omega)) ?_; cbv)
    | (refine QC.tt ?_ ?_; (focus (simp only [decide_true, Bool.and_true, Bool.and_self] <;> fail)); cbv)
    | (refine QC.ff ?_ ?_; (focus (simp only [decide_true, Bool.and_true, Bool.and_self, decide_false, Bool.false_and, reduceCtorEq, not_false_eq_true] <;> fail)); cbv)
    | (refine QC.ff (by first | omega | (dsimp only; omega) | (simp only [sm] at *; omega)) ?_; cbv)
    | (refine QC.mk (fun hc => ?_) (fun hc => ?_) <;> (try dsimp only at hc) <;> cbv)
    | (refine br_mk2 (fun hb => ?_) (fun hb => ?_) <;> (try subst hb) <;> cbv)))
  have hzm : z = m := by omega
  subst hzm
  (refine callq (g) rfl rfl ?_; cbv; (repeat' (first
    | (refine q1 (by first | exact trivial | omega | (dsimp only; omega) | exact pow62 _ (by omega) | exact mul9 (by omega) (by omega) | (simp only [sm] at *; omega)) (fun z hz => ?_); (try simp only at hz); cbv)
    | (refine rq (by first | exact trivial | omega | (dsimp only; omega) | (simp only [sm] at *; omega)) ?_; cbv)
    | (refine QC.tt (by first | omega | (dsimp only; omega) | exact rfl | (simp only [sm] at *; omega)) ?_; cbv)
    | (refine QC.tt ?_ ?_; (focus (simp only [decide_true, Bool.and_true, Bool.and_self] <;> fail)); cbv)
    | (refine QC.ff ?_ ?_; (focus (simp only [decide_true, Bool.and_true, Bool.and_self, decide_false, Bool.false_and, reduceCtorEq, not_false_eq_true] <;> fail)); cbv)
    | (refine QC.ff (by first | omega | (dsimp only; omega) | (simp only [sm] at *; omega)) ?_; cbv)
    | (refine QC.mk (fun hc => ?_) (fun hc => ?_) <;> (try dsimp only at hc) <;> cbv)
    | (refine br_mk2 (fun hb => ?_) (fun hb => ?_) <;> (try subst hb) <;> cbv))))
  exact ⟨rfl, rfl, rfl⟩
theorem be4 (l : List UInt8) : be (l.take 4) < 4294967296 := by
  have := be_lt (l.take 4)
  have h : (l.take 4).length ≤ 4 := by rw [List.length_take]; omega
  have : 256 ^ (l.take 4).length ≤ 256 ^ 4 := Nat.pow_le_pow_right (by omega) h
  omega
theorem decack_e (b : List UInt8) (X : List SV) (hX : X = u8l b) (hl : b.length ≤ 140737488351300) : ∃ (t m : Int) (k : Bool), Good 46 (pu [.lst none X] (.tup [.int .u8 t, .int .u32 m, .bool k])) ∧ Good 47 (pu [.lst none X] (.tup [.int .u8 t, .int .u32 m, .bool k])) := by
  have hXl : X.length = b.length := by rw [hX, u8l_len]
  by_cases h6 : b.length = 6
  · have h0 : X[0]? = some (.int .u8 (b.getD 0 0).toNat) := by rw [hX]; exact u8l_at 0 (by omega)
    have h1 : X[1]? = some (.int .u8 (b.getD 1 0).toNat) := by rw [hX]; exact u8l_at 1 (by omega)
    obtain ⟨x0, hx0⟩ : ∃ x : Int, x = (b.getD 0 0).toNat := ⟨_, rfl⟩
    obtain ⟨x1, hx1⟩ : ∃ x : Int, x = (b.getD 1 0).toNat := ⟨_, rfl⟩
    rw [← hx0] at h0
    rw [← hx1] at h1
    by_cases h234 : x0 = 234
    · obtain ⟨v, hv⟩ : ∃ v : Int, v = (be ((b.drop 2).take 4) : Nat) := ⟨_, rfl⟩
      have hvb : 0 ≤ v ∧ v < 4294967296 := by have := be4 (b.drop 2); omega
      have g1 := uint_c b X 2 4 v 2 4 hX rfl rfl (by omega) (by omega) (by omega) (by omega) hv
      have g2 := ruint_c b X 2 4 v 2 4 hX rfl rfl (by omega) (by omega) (by omega) (by omega) hv
      clear hX hv
      refine ⟨x1, v, true, ?_, ?_⟩
      · refine Good.of Try.func46 rfl (by rfl) (by kernel_rfl) ?_
        cbv
        (repeat' (first
    | (refine q1 (by first | exact trivial | omega | (dsimp only; omega) | exact pow62 _ (by omega) | exact mul9 (by omega) (by omega) | (simp only [sm] at *; omega)) (fun z hz => ?_); (try simp only at hz); cbv)
    | (refine rq (by first | exact trivial | omega | (dsimp only; omega) | (simp only [sm] at *; omega)) ?_; cbv)
    | (refine QC.tt (by first | omega | (dsimp only; omega) | exact rfl | (simp only [sm] at *; omega)) ?_; cbv)
    | (refine QC.tt ?_ ?_; (focus (simp only [decide_true, Bool.and_true, Bool.and_self] <;> fail)); cbv)
    | (refine QC.ff ?_ ?_; (focus (simp only [decide_true, Bool.and_true, Bool.and_self, decide_false, Bool.false_and, reduceCtorEq, not_false_eq_true] <;> fail)); cbv)
    | (refine QC.ff (by first | omega | (dsimp only; omega) | (simp only [sm] at *; omega)) ?_; cbv)
    | (refine QC.mk (fun hc => ?_) (fun hc => ?_) <;> (try dsimp only at hc) <;> cbv)
    | (refine br_mk2 (fun hb => ?_) (fun hb => ?_) <;> (try subst hb) <;> cbv)))
        (refine qv (0, _) ⟨rfl, h0⟩ ?_; cbv; (repeat' (first
    | (refine q1 (by first | exact trivial | omega | (dsimp only; omega) | exact pow62 _ (by omega) | exact mul9 (by omega) (by omega) | (simp only [sm] at *; omega)) (fun z hz => ?_); (try simp only at hz); cbv)
    | (refine rq (by first | exact trivial | omega | (dsimp only; omega) | (simp only [sm] at *; omega)) ?_; cbv)
    | (refine QC.tt (by first | omega | (dsimp only; omega) | exact rfl | (simp only [sm] at *; omega)) ?_; cbv)
    | (refine QC.tt ?_ ?_; (focus (simp only [decide_true, Bool.and_true, Bool.and_self] <;> fail)); cbv)
    | (refine QC.ff ?_ ?_; (focus (simp only [decide_true, Bool.and_true, Bool.and_self, decide_false, Bool.false_and, reduceCtorEq, not_false_eq_true] <;> fail)); cbv)
    | (refine QC.ff (by first | omega | (dsimp only; omega) | (simp only [sm] at *; omega)) ?_; cbv)
    | (refine QC.mk (fun hc => ?_) (fun hc => ?_) <;> (try dsimp only at hc) <;> cbv)
    | (refine br_mk2 (fun hb => ?_) (fun hb => ?_) <;> (try subst hb) <;> cbv))))
        (refine callq (g1) rfl rfl ?_; cbv; (repeat' (first
    | (refine q1 (by first | exact trivial | omega | (dsimp only; omega) | exact pow62 _ (by omega) | exact mul9 (by omega) (by omega) | (simp only [sm] at *; omega)) (fun z hz => ?_); (try simp only at hz); cbv)
    | (refine rq (by first | exact trivial | omega | (dsimp only; omega) | (simp only [sm] at *; omega)) ?_; cbv)
    | (refine QC.tt (by first | omega | (dsimp only; omega) | exact rfl | (simp only [sm] at *; omega)) ?_; cbv)
    | (refine QC.tt ?_ ?_; (focus (simp only [decide_true, Bool.and_true, Bool.and_self] <;> fail)); cbv)
    | (refine QC.ff ?_ ?_; (focus (simp only [decide_true, Bool.and_true, Bool.and_self, decide_false, Bool.false_and, reduceCtorEq, not_false_eq_true] <;> fail)); cbv)
    | (refine QC.ff (by first | omega | (dsimp only; omega) | (simp only [sm] at *; omega)) ?_; cbv)
    | (refine QC.mk (fun hc => ?_) (fun hc => ?_) <;> (try dsimp only at hc) <;> cbv)
    | (refine br_mk2 (fun hb => ?_) (fun hb => ?_) <;> (try subst hb) <;> cbv))))
        (refine qv (1, _) ⟨rfl, h1⟩ ?_; cbv; (repeat' (first
    | (refine q1 (by first | exact trivial | omega | (dsimp only; omega) | exact pow62 _ (by omega) | exact mul9 (by omega) (by omega) | (simp only [sm] at *; omega)) (fun z hz => ?_); (try simp only at hz); cbv)
    | (refine rq (by first | exact trivial | omega | (dsimp only; omega) | (simp only [sm] at *; omega)) ?_; cbv)
    | (refine QC.tt (by first | omega | (dsimp only; omega) | exact rfl | (simp only [sm] at *; omega)) ?_; cbv)
    | (refine QC.tt ?_ ?_; (focus (simp only [decide_true, Bool.and_true, Bool.and_self] <;> fail)); cbv)
    | (refine QC.ff ?_ ?_; (focus (simp only [decide_true, Bool.and_true, Bool.and_self, decide_false, Bool.false_and, reduceCtorEq, not_false_eq_true] <;> fail)); cbv)
    | (refine QC.ff (by first | omega | (dsimp only; omega) | (simp only [sm] at *; omega)) ?_; cbv)
    | (refine QC.mk (fun hc => ?_) (fun hc => ?_) <;> (try dsimp only at hc) <;> cbv)
    | (refine br_mk2 (fun hb => ?_) (fun hb => ?_) <;> (try subst hb) <;> cbv))))
        refine Fin.mk ?_ rfl rfl
        have e : z = v := by omega
        rw [e]
      · refine Good.of Try.func47 rfl (by rfl) (by kernel_rfl) ?_
        cbv
        (repeat' (first
    | (refine q1 (by first | exact trivial | omega | (dsimp only; omega) | exact pow62 _ (by omega) | exact mul9 (by omega) (by omega) | (simp only [sm] at *; omega)) (fun z hz => ?_); (try simp only at hz); cbv)
    | (refine rq (by first | exact trivial | omega | (dsimp only; omega) | (simp only [sm] at *; omega)) ?_; cbv)
    | (refine QC.tt (by first | omega | (dsimp only; omega) | exact rfl | (simp only [sm] at *; omega)) ?_; cbv)
    | (refine QC.tt ?_ ?_; (focus (simp only [decide_true, Bool.and_true, Bool.and_self] <;> fail)); cbv)
    | (refine QC.ff ?_ ?_; (focus (simp only [decide_true, Bool.and_true, Bool.and_self, decide_false, Bool.false_and, reduceCtorEq, not_false_eq_true] <;> fail)); cbv)
    | (refine QC.ff (by first | omega | (dsimp only; omega) | (simp only [sm] at *; omega)) ?_; cbv)
    | (refine QC.mk (fun hc => ?_) (fun hc => ?_) <;> (try dsimp only at hc) <;> cbv)
    | (refine br_mk2 (fun hb => ?_) (fun hb => ?_) <;> (try subst hb) <;> cbv)))
        (refine qv (0, _) ⟨rfl, h0⟩ ?_; cbv; (repeat' (first
    | (refine q1 (by first | exact trivial | omega | (dsimp only; omega) | exact pow62 _ (by omega) | exact mul9 (by omega) (by omega) | (simp only [sm] at *; omega)) (fun z hz => ?_); (try simp only at hz); cbv)
    | (refine rq (by first | exact trivial | omega | (dsimp only; omega) | (simp only [sm] at *; omega)) ?_; cbv)
    | (refine QC.tt (by first | omega | (dsimp only; omega) | exact rfl | (simp only [sm] at *; omega)) ?_; cbv)
    | (refine QC.tt ?_ ?_; (focus (simp only [decide_true, Bool.and_true, Bool.and_self] <;> fail)); cbv)
    | (refine QC.ff ?_ ?_; (focus (simp only [decide_true, Bool.and_true, Bool.and_self, decide_false, Bool.false_and, reduceCtorEq, not_false_eq_true] <;> fail)); cbv)
    | (refine QC.ff (by first | omega | (dsimp only; omega) | (simp only [sm] at *; omega)) ?_; cbv)
    | (refine QC.mk (fun hc => ?_) (fun hc => ?_) <;> (try dsimp only at hc) <;> cbv)
    | (refine br_mk2 (fun hb => ?_) (fun hb => ?_) <;> (try subst hb) <;> cbv))))
        (refine callq (g2) rfl rfl ?_; cbv; (repeat' (first
    | (refine q1 (by first | exact trivial | omega | (dsimp only; omega) | exact pow62 _ (by omega) | exact mul9 (by omega) (by omega) | (simp only [sm] at *; omega)) (fun z hz => ?_); (try simp only at hz); cbv)
    | (refine rq (by first | exact trivial | omega | (dsimp only; omega) | (simp only [sm] at *; omega)) ?_; cbv)
    | (refine QC.tt (by first | omega | (dsimp only; omega) | exact rfl | (simp only [sm] at *; omega)) ?_; cbv)
    | (refine QC.tt ?_ ?_; (focus (simp only [decide_true, Bool.and_true, Bool.and_self] <;> fail)); cbv)
    | (refine QC.ff ?_ ?_; (focus (simp only [decide_true, Bool.and_true, Bool.and_self, decide_false, Bool.false_and, reduceCtorEq, not_false_eq_true] <;> fail)); cbv)
    | (refine QC.ff (by first | omega | (dsimp only; omega) | (simp only [sm] at *; omega)) ?_; cbv)
    | (refine QC.mk (fun hc => ?_) (fun hc => ?_) <;> (try dsimp only at hc) <;> cbv)
    | (refine br_mk2 (fun hb => ?_) (fun hb => ?_) <;> (try subst hb) <;> cbv))))
        (refine qv (1, _) ⟨rfl, h1⟩ ?_; cbv; (repeat' (first
    | (refine q1 (by first | exact trivial | omega | (dsimp only; omega) | exact pow62 _ (by omega) | exact mul9 (by omega) (by omega) | (simp only [sm] at *; omega)) (fun z hz => ?_); (try simp only at hz); cbv)
    | (refine rq (by first | exact trivial | omega | (dsimp only; omega) | (simp only [sm] at *; omega)) ?_; cbv)
    | (refine QC.tt (by first | omega | (dsimp only; omega) | exact rfl | (simp only [sm] at *; omega)) ?_; cbv)
    | (refine QC.tt ?_ ?_; (focus (simp only [decide_true, Bool.and_true, Bool.and_self] <;> fail)); cbv)
    | (refine QC.ff ?_ ?_; (focus (simp only [decide_true, Bool.and_true, Bool.and_self, decide_false, Bool.false_and, reduceCtorEq, not_false_eq_true] <;> fail)); cbv)
    | (refine QC.ff (by first | omega | (dsimp only; omega) | (simp only [sm] at *; omega)) ?_; cbv)
    | (refine QC.mk (fun hc => ?_) (fun hc => ?_) <;> (try dsimp only at hc) <;> cbv)
    | (refine br_mk2 (fun hb => ?_) (fun hb => ?_) <;> (try subst hb) <;> cbv))))
        refine Fin.mk ?_ rfl rfl
        have e : z = v := by omega
        rw [e]
    · refine ⟨0, 0, false, ?_, ?_⟩
      · refine Good.of Try.func46 rfl (by rfl) (by kernel_rfl) ?_
        cbv
        (repeat' (first
    | (refine q1 (by first | exact trivial | omega | (dsimp only; omega) | exact pow62 _ (by omega) | exact mul9 (by omega) (by omega) | (simp only [sm] at *; omega)) (fun z hz => ?_); (try simp only at hz); cbv)
    | (refine rq (by first | exact trivial | omega | (dsimp only; omega) | (simp only [sm] at *; omega)) ?_; cbv)
    | (refine QC.tt (by first | omega | (dsimp only; omega) | exact rfl | (simp only [sm] at *; omega)) ?_; cbv)
    | (refine QC.tt ?_ ?_; (focus (simp only [decide_true, Bool.and_true, Bool.and_self] <;> fail)); cbv)
    | (refine QC.ff ?_ ?_; (focus (simp only [decide_true, Bool.and_true, Bool.and_self, decide_false, Bool.false_and, reduceCtorEq, not_false_eq_true] <;> fail)); cbv)
    | (refine QC.ff (by first | omega | (dsimp only; omega) | (simp only [sm] at *; omega)) ?_; cbv)
    | (refine QC.mk (fun hc => ?_) (fun hc => ?_) <;> (try dsimp only at hc) <;> cbv)
    | (refine br_mk2 (fun hb => ?_) (fun hb => ?_) <;> (try subst hb) <;> cbv)))
        (refine qv (0, _) ⟨rfl, h0⟩ ?_; cbv; (repeat' (first
    | (refine q1 (by first | exact trivial | omega | (dsimp only; omega) | exact pow62 _ (by omega) | exact mul9 (by omega) (by omega) | (simp only [sm] at *; omega)) (fun z hz => ?_); (try simp only at hz); cbv)
    | (refine rq (by first | exact trivial | omega | (dsimp only; omega) | (simp only [sm] at *; omega)) ?_; cbv)
    | (refine QC.tt (by first | omega | (dsimp only; omega) | exact rfl | (simp only [sm] at *; omega)) ?_; cbv)
    | (refine QC.tt ?_ ?_; (focus (simp only [decide_true, Bool.and_true, Bool.and_self] <;> fail)); cbv)
    | (refine QC.ff ?_ ?_; (focus (simp only [decide_true, Bool.and_true, Bool.and_self, decide_false, Bool.false_and, reduceCtorEq, not_false_eq_true] <;> fail)); cbv)
    | (refine QC.ff (by first | omega | (dsimp only; omega) | (simp only [sm] at *; omega)) ?_; cbv)
    | (refine QC.mk (fun hc => ?_) (fun hc => ?_) <;> (try dsimp only at hc) <;> cbv)
    | (refine br_mk2 (fun hb => ?_) (fun hb => ?_) <;> (try subst hb) <;> cbv))))
        exact ⟨rfl, rfl, rfl⟩
      · refine Good.of Try.func47 rfl (by rfl) (by kernel_rfl) ?_
        cbv
        (repeat' (first
    | (refine q1 (by first | exact trivial | omega | (dsimp only; omega) | exact pow62 _ (by omega) | exact mul9 (by omega) (by omega) | (simp only [sm] at *; omega)) (fun z hz => ?_); (try simp only at hz); cbv)
    | (refine rq (by first | exact trivial | omega | (dsimp only; omega) | (simp only [sm] at *; omega)) ?_; cbv)
    | (refine QC.tt (by first | omega | (dsimp only; omega) | exact rfl | (simp only [sm] at *; omega)) ?_; cbv)
    | (refine QC.tt ?_ ?_; (focus (simp only [decide_true, Bool.and_true, Bool.and_self] <;> fail)); cbv)
    | (refine QC.ff ?_ ?_; (focus (simp only [decide_true, Bool.and_true, Bool.and_self, decide_false, Bool.false_and, reduceCtorEq, not_false_eq_true] <;> fail)); cbv)
    | (refine QC.ff (by first | omega | (dsimp only; omega) | (simp only [sm] at *; omega)) ?_; cbv)
    | (refine QC.mk (fun hc => ?_) (fun hc => ?_) <;> (try dsimp only at hc) <;> cbv)
    | (refine br_mk2 (fun hb => ?_) (fun hb => ?_) <;> (try subst hb) <;> cbv)))
        (refine qv (0, _) ⟨rfl, h0⟩ ?_; cbv; (repeat' (first
    | (refine q1 (by first | exact trivial | omega | (dsimp only; omega) | exact pow62 _ (by omega) | exact mul9 (by omega) (by omega) | (simp only [sm] at *; omega)) (fun z hz => ?_); (try simp only at hz); cbv)
    | (refine rq (by first | exact trivial | omega | (dsimp only; omega) | (simp only [sm] at *; omega)) ?_; cbv)
    | (refine QC.tt (by first | omega | (dsimp only; omega) | exact rfl | (simp only [sm] at *; omega)) ?_; cbv)
    | (refine QC.tt ?_ ?_; (focus (simp only [decide_true, Bool.and_true, Bool.and_self] <;> fail)); cbv)
    | (refine QC.ff ?_ ?_; (focus (simp only [decide_true, Bool.and_true, Bool.and_self, decide_false, Bool.false_and, reduceCtorEq, not_false_eq_true] <;> fail)); cbv)
    | (refine QC.ff (by first | omega | (dsimp only; omega) | (simp only [sm] at *; omega)) ?_; cbv)
    | (refine QC.mk (fun hc => ?_) (fun hc => ?_) <;> (try dsimp only at hc) <;> cbv)
    | (refine br_mk2 (fun hb => ?_) (fun hb => ?_) <;> (try subst hb) <;> cbv))))
        exact ⟨rfl, rfl, rfl⟩
  · refine ⟨0, 0, false, ?_, ?_⟩
    · refine Good.of Try.func46 rfl (by rfl) (by kernel_rfl) ?_
      cbv
      (repeat' (first
    | (refine q1 (by first | exact trivial | omega | (dsimp only; omega) | exact pow62 _ (by omega) | exact mul9 (by omega) (by omega) | (simp only [sm] at *; omega)) (fun z hz => ?_); (try simp only at hz); cbv)
    | (refine rq (by first | exact trivial | omega | (dsimp only; omega) | (simp only [sm] at *; omega)) ?_; cbv)
    | (refine QC.tt (by first | omega | (dsimp only; omega) | exact rfl | (simp only [sm] at *; omega)) ?_; cbv)
    | (refine QC.tt ?_ ?_; (focus (simp only [decide_true, Bool.and_true, Bool.and_self] <;> fail)); cbv)
    | (refine QC.ff ?_ ?_; (focus (simp only [decide_true, Bool.and_true, Bool.and_self, decide_false, Bool.false_and, reduceCtorEq, not_false_eq_true] <;> fail)); cbv)
    | (refine QC.ff (by first | omega | (dsimp only; omega) | (simp only [sm] at *; omega)) ?_; cbv)
    | (refine QC.mk (fun hc => ?_) (fun hc => ?_) <;> (try dsimp only at hc) <;> cbv)
    | (refine br_mk2 (fun hb => ?_) (fun hb => ?_) <;> (try subst hb) <;> cbv)))
      exact ⟨rfl, rfl, rfl⟩
    · refine Good.of Try.func47 rfl (by rfl) (by kernel_rfl) ?_
      cbv
      (repeat' (first
    | (refine q1 (by first | exact trivial | omega | (dsimp only; omega) | exact pow62 _ (by omega) | exact mul9 (by omega) (by omega) | (simp only [sm] at *; omega)) (fun z hz => ?_); (try simp only at hz); cbv)
    | (refine rq (by first | exact trivial | omega | (dsimp only; omega) | (simp only [sm] at *; omega)) ?_; cbv)
    | (refine QC.tt (by first | omega | (dsimp only; omega) | exact rfl | (simp only [sm] at *; omega)) ?_; cbv)
    | (refine QC.tt ?_ ?_; (focus (simp only [decide_true, Bool.and_true, Bool.and_self] <;> fail)); cbv)
    | (refine QC.ff ?_ ?_; (focus (simp only [decide_true, Bool.and_true, Bool.and_self, decide_false, Bool.false_and, reduceCtorEq, not_false_eq_true] <;> fail)); cbv)
    | (refine QC.ff (by first | omega | (dsimp only; omega) | (simp only [sm] at *; omega)) ?_; cbv)
    | (refine QC.mk (fun hc => ?_) (fun hc => ?_) <;> (try dsimp only at hc) <;> cbv)
    | (refine br_mk2 (fun hb => ?_) (fun hb => ?_) <;> (try subst hb) <;> cbv)))
      exact ⟨rfl, rfl, rfl⟩
end Go.Proofs.Ytjhicdoigllblaa
namespace Go.Proofs.Ytjhicdoigllblaa
set_option linter.unusedVariables false
set_option linter.unusedSimpArgs false
open Go.RowKit
set_option maxHeartbeats 8000000
theorem Wk.lst {sh : Option Nat} {l k : List SV} (h : WkL l k) : Wk (.lst sh l) (.lst sh k) := fun w X ρ v hd => by
  cases hd with
  | lst0 _ _ a cap =>
    have : k = [] := List.length_eq_zero_iff.1 h.len.symm
    subst this
    exact .lst0 ρ sh a cap
  | lst _ _ _ b off cap us hb hx hc hu hl ho hh =>
    rw [h.len] at hc hl ⊢
    refine .lst ρ sh k b off cap us hb hx hc hu hl ho fun i h1 => ?_
    obtain ⟨x, e1, e2⟩ := h.at i _ (List.getElem?_eq_getElem h1)
    obtain ⟨h2, e3⟩ := List.getElem?_eq_some_iff.1 e1
    have := hh i h2
    rw [e3] at this
    exact e2 _ _ _ _ this
theorem WkL.nils : ∀ n : Nat, WkL (List.replicate n .nil) (List.replicate n (.lst none []))
  | 0 => trivial
  | n + 1 => ⟨Wk.nil _, WkL.nils n⟩
theorem rowsB_rep (n : Nat) : rowsB (List.replicate n []) = List.replicate n (.lst none []) := by simp [rowsB, u8l]
theorem rowsB_set (ps : List (List UInt8)) (i : Nat) (d : List UInt8) : (rowsB ps).set i (.lst none (u8l d)) = rowsB (ps.set i d) := by simp [rowsB, List.map_set]
def putP (ps : List (List UInt8)) (n : Nat) (d : List UInt8) : List (List UInt8) := if (ps.getD n []).length = 0 then ps.set n d else ps
theorem putP_len (ps : List (List UInt8)) (n : Nat) (d : List UInt8) : (putP ps n d).length = ps.length := by
  unfold putP; split <;> simp
theorem hasN_put (ps : List (List UInt8)) (n : Nat) (d : List UInt8) (hn : n < ps.length) (hd : 0 < d.length) : hasN ps ps.length ||| 2 ^ n = hasN (putP ps n d) (putP ps n d).length := by
  rw [putP_len]
  apply Nat.eq_of_testBit_eq
  intro i
  rw [Nat.testBit_or, hasN, hasN, bm_bit, bm_bit, Nat.testBit_two_pow]
  unfold putP
  by_cases hi : i = n
  · subst hi
    simp only [hn, decide_true, Bool.true_and, Bool.or_true]
    split
    · simp [hn, hd]
    · rename_i h; simp only [decide_eq_true (show 0 < (ps.getD i []).length by omega)]
  · rw [decide_eq_false (show ¬ n = i from fun h => hi h.symm), Bool.or_false]
    congr 1
    split
    · simp [List.getElem?_set, Ne.symm hi]
    · rfl
end Go.Proofs.Ytjhicdoigllblaa
