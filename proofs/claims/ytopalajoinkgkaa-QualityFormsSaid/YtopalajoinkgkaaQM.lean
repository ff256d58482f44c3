/- The contract of reached. -/
import Derived.Test.YtopalajoinkgkaaQL
namespace Go.Proofs.Ytopalajoinkgkaa
set_option maxHeartbeats 1000000
def encB (q : Ql) : Blk := .chunk 25 (.agg [.bool q.k, .int .u8 q.h, .int .i64 q.c, .int .u16 q.n, .int .i64 q.r])
structure IntsL (l : List SV) (bs : List Int) : Prop where
  len : l.length = bs.length
  at' : ∀ (i : Nat) (v : Int), bs[i]? = some v → l[i]? = some (SV.int .i64 v) ∧ (-9223372036854775808 ≤ v ∧ v ≤ 9223372036854775807)

theorem reached_c (l : List SV) (bs : List Int) (hl : IntsL l bs) : Good 9 [.lst none l] (encQ (reachQ bs)) := by
  have e1 : helloQ (cleanQ zeroQ) 65530 = startQ := by decide
  have h1 := hello_r zeroQ 65530 Vq.zero.ok (by omega)
  rw [e1] at h1
  have hR : ∀ q, q = reachQ bs → encQ q = encQ (reachQ bs) := by rintro _ rfl; rfl
  have hR2 : ∀ i : Int, 0 ≤ i → i ≤ bs.length → i ≤ 60 → (bs.length ≤ i ∨ 60 ≤ i) → playQ startQ bs i.toNat = reachQ bs := by
    intro i i0 i1 i2 i3
    rw [reachQ, show min bs.length 60 = i.toNat by omega]
  generalize hrr : reachQ bs = rr at *
  obtain ⟨wk, wh, wc, wn, wr⟩ := rr
  have hlen := hl.len
  refine Good.of Try.func9 rfl (by rfl) (by kernel_rfl) ?_
  cbv
  (repeat' (first
    | (refine q1 (by first | exact trivial | omega | (dsimp only; omega) | exact pow62 _ (by omega) | exact mul9 (by omega) (by omega)) (fun z hz => ?_); (try simp only at hz); cbv)
    | (refine rq (by first | exact trivial | omega | (dsimp only; omega)) ?_; cbv)
    | (refine QC.tt (by first | omega | (dsimp only; omega) | exact rfl) ?_; cbv)
    | (refine QC.tt ?_ ?_; (focus (simp only [decide_true, Bool.and_true, Bool.and_self] <;> fail)); cbv)
    | (refine QC.ff ?_ ?_; (focus (simp only [decide_true, Bool.and_true, Bool.and_self, decide_false, Bool.false_and, reduceCtorEq, not_false_eq_true] <;> fail)); cbv)
    | (refine QC.ff (by first | omega | (dsimp only; omega)) ?_; cbv)
    | (refine QC.mk (fun hc => ?_) (fun hc => ?_) <;> (try dsimp only at hc) <;> cbv)
    | (refine br_mk2 (fun hb => ?_) (fun hb => ?_) <;> (try subst hb) <;> cbv)))
  (refine callq (h1) rfl (fun h => by cases h) ?_; cbv; (repeat' (first
    | (refine q1 (by first | exact trivial | omega | (dsimp only; omega) | exact pow62 _ (by omega) | exact mul9 (by omega) (by omega)) (fun z hz => ?_); (try simp only at hz); cbv)
    | (refine rq (by first | exact trivial | omega | (dsimp only; omega)) ?_; cbv)
    | (refine QC.tt (by first | omega | (dsimp only; omega) | exact rfl) ?_; cbv)
    | (refine QC.tt ?_ ?_; (focus (simp only [decide_true, Bool.and_true, Bool.and_self] <;> fail)); cbv)
    | (refine QC.ff ?_ ?_; (focus (simp only [decide_true, Bool.and_true, Bool.and_self, decide_false, Bool.false_and, reduceCtorEq, not_false_eq_true] <;> fail)); cbv)
    | (refine QC.ff (by first | omega | (dsimp only; omega)) ?_; cbv)
    | (refine QC.mk (fun hc => ?_) (fun hc => ?_) <;> (try dsimp only at hc) <;> cbv)
    | (refine br_mk2 (fun hb => ?_) (fun hb => ?_) <;> (try subst hb) <;> cbv))))
  refine loopQ (A := Int × Ql) (fun p => 0 ≤ p.1 ∧ p.1 ≤ bs.length ∧ p.1 ≤ 60 ∧ p.2 = playQ startQ bs p.1.toNat) (fun p => (60 - p.1).toNat) (fun p => [(4, .int .i64 p.1)]) (fun p => [(3, encB p.2)]) (0, startQ) ⟨by dsimp only; omega, by dsimp only; omega, by dsimp only; omega, rfl⟩ ?_ ?_
  · cbv
  · intro p hp
    cbv
    obtain ⟨i, q⟩ := p
    dsimp only at hp ⊢
    obtain ⟨h0, hm, h60, hi⟩ := hp
    have hV := startQ_Vq.play bs i.toNat
    rw [← hi] at hV
    obtain ⟨k, h, c, n, r⟩ := q
    (repeat' (first
    | (refine q1 (by first | exact trivial | omega | (dsimp only; omega) | exact pow62 _ (by omega) | exact mul9 (by omega) (by omega)) (fun z hz => ?_); (try simp only at hz); cbv)
    | (refine rq (by first | exact trivial | omega | (dsimp only; omega)) ?_; cbv)
    | (refine QC.tt (by first | omega | (dsimp only; omega) | exact rfl) ?_; cbv)
    | (refine QC.tt ?_ ?_; (focus (simp only [decide_true, Bool.and_true, Bool.and_self] <;> fail)); cbv)
    | (refine QC.ff ?_ ?_; (focus (simp only [decide_true, Bool.and_true, Bool.and_self, decide_false, Bool.false_and, reduceCtorEq, not_false_eq_true] <;> fail)); cbv)
    | (refine QC.ff (by first | omega | (dsimp only; omega)) ?_; cbv)
    | (refine QC.mk (fun hc => ?_) (fun hc => ?_) <;> (try dsimp only at hc) <;> cbv)
    | (refine br_mk2 (fun hb => ?_) (fun hb => ?_) <;> (try subst hb) <;> cbv)))
    · have hz' : z = (bs.length : Int) := by rw [← hlen]; exact hz
      clear hz
      have hj : i.toNat < bs.length := by omega
      have hsm : bs[i.toNat]? = some bs[i.toNat] := by simp [hj]
      generalize bs[i.toNat] = v at hsm
      have hat := hl.at' i.toNat v hsm
      have hnx := play_next startQ bs i v h0 hsm
      rw [← hi] at hnx
      have hst := step_r ⟨k, h, c, n, r⟩ v hV hat.2
      refine ⟨(i.toNat, .int .i64 v), ⟨?_, hat.1⟩, ?_⟩
      · show i = (i.toNat : Int)
        omega
      rw [← hnx] at hst
      generalize hnx' : playQ startQ bs (i + 1).toNat = w at *
      obtain ⟨wk, wh, wc, wn, wr⟩ := w
      cbv
      (repeat' (first
    | (refine q1 (by first | exact trivial | omega | (dsimp only; omega) | exact pow62 _ (by omega) | exact mul9 (by omega) (by omega)) (fun z hz => ?_); (try simp only at hz); cbv)
    | (refine rq (by first | exact trivial | omega | (dsimp only; omega)) ?_; cbv)
    | (refine QC.tt (by first | omega | (dsimp only; omega) | exact rfl) ?_; cbv)
    | (refine QC.tt ?_ ?_; (focus (simp only [decide_true, Bool.and_true, Bool.and_self] <;> fail)); cbv)
    | (refine QC.ff ?_ ?_; (focus (simp only [decide_true, Bool.and_true, Bool.and_self, decide_false, Bool.false_and, reduceCtorEq, not_false_eq_true] <;> fail)); cbv)
    | (refine QC.ff (by first | omega | (dsimp only; omega)) ?_; cbv)
    | (refine QC.mk (fun hc => ?_) (fun hc => ?_) <;> (try dsimp only at hc) <;> cbv)
    | (refine br_mk2 (fun hb => ?_) (fun hb => ?_) <;> (try subst hb) <;> cbv)))
      (refine callq (hst) rfl (fun h => by cases h) ?_; cbv; (repeat' (first
    | (refine q1 (by first | exact trivial | omega | (dsimp only; omega) | exact pow62 _ (by omega) | exact mul9 (by omega) (by omega)) (fun z hz => ?_); (try simp only at hz); cbv)
    | (refine rq (by first | exact trivial | omega | (dsimp only; omega)) ?_; cbv)
    | (refine QC.tt (by first | omega | (dsimp only; omega) | exact rfl) ?_; cbv)
    | (refine QC.tt ?_ ?_; (focus (simp only [decide_true, Bool.and_true, Bool.and_self] <;> fail)); cbv)
    | (refine QC.ff ?_ ?_; (focus (simp only [decide_true, Bool.and_true, Bool.and_self, decide_false, Bool.false_and, reduceCtorEq, not_false_eq_true] <;> fail)); cbv)
    | (refine QC.ff (by first | omega | (dsimp only; omega)) ?_; cbv)
    | (refine QC.mk (fun hc => ?_) (fun hc => ?_) <;> (try dsimp only at hc) <;> cbv)
    | (refine br_mk2 (fun hb => ?_) (fun hb => ?_) <;> (try subst hb) <;> cbv))))
      refine ⟨(z, ⟨wk, wh, wc, wn, wr⟩), ⟨?_, ?_, ?_, ?_⟩, ?_, ?_⟩
      · show 0 ≤ z
        omega
      · show z ≤ (bs.length : Int)
        omega
      · show z ≤ 60
        omega
      · show _ = playQ startQ bs z.toNat
        rw [hz]
        exact hnx'.symm
      · dsimp only; omega
      · cbv
    all_goals
      have hz' : z = (bs.length : Int) := by rw [← hlen]; exact hz
      have h3 : (bs.length : Int) ≤ i ∨ 60 ≤ i := by omega
      have he := hR2 i h0 hm h60 h3
      rw [← hi] at he
      cases he
      exact ⟨rfl⟩
end Go.Proofs.Ytopalajoinkgkaa
