/- Contracts of package quality and of its reference. -/
import Derived.Test.YtopalajoinkgkaaTy
import Derived.Test.YtopalajoinkgkaaQP
namespace Go.Proofs.Ytopalajoinkgkaa
set_option maxHeartbeats 1000000

def encQ (q : Ql) : SV := .agg [.bool q.k, .int .u8 q.h, .int .i64 q.c, .int .u16 q.n, .int .i64 q.r]
theorem pow_i (c : Int) : 0 ≤ c → c ≤ 8 → 0 < (2 : Int) ^ c.toNat ∧ (2 : Int) ^ c.toNat ≤ 256 := fun h1 h2 => pow_bd c.toNat (by omega)

theorem and255 (n : Int) (h : 0 ≤ n) : ((n.toNat &&& 255 : Nat) : Int) = n % 256 := by
  have := Nat.and_two_pow_sub_one_eq_mod n.toNat 8
  rw [show (255 : Nat) = 2 ^ 8 - 1 from rfl, this]
  omega

theorem valid_c (q : Ql) (ok : q.ok) : Good 10 [encQ q] (.bool (validQ q)) := by
  obtain ⟨k, h, c, n, r⟩ := q
  obtain ⟨⟨o1, o2⟩, ⟨o3, o4⟩, ⟨o5, o6⟩, ⟨o7, o8⟩⟩ := ok
  simp only at o1 o2 o3 o4 o5 o6 o7 o8
  have hp := pow_i c
  refine Good.of Try.func10 rfl (by rfl) (by kernel_rfl) ?_
  cbv
  (repeat' (first
    | (refine q1 (by first | exact trivial | omega | (dsimp only; omega) | exact pow62 _ (by omega) | exact mul9 (by omega) (by omega)) (fun z hz => ?_); (try simp only at hz); cbv)
    | (refine rq (by first | exact trivial | omega | (dsimp only; omega)) ?_; cbv)
    | (refine QC.tt (by first | omega | (dsimp only; omega) | exact rfl) ?_; cbv)
    | (refine QC.tt ?_ ?_; (focus (simp only [decide_true, Bool.and_true, Bool.and_self] <;> fail)); cbv)
    | (refine QC.ff ?_ ?_; (focus (simp only [decide_true, Bool.and_true, Bool.and_self, decide_false, Bool.false_and, reduceCtorEq, not_false_eq_true] <;> fail)); cbv)
    | (refine QC.ff (by first | omega | (dsimp only; omega)) ?_; cbv)
    | (refine QC.mk (fun hc => ?_) (fun hc => ?_) <;> (try dsimp only at hc) <;> cbv)
    | (refine br_mk2 (fun hb => ?_) (fun hb => ?_) <;> (try subst hb) <;> cbv)))
  all_goals refine ⟨congrArg SV.bool ?_⟩
  all_goals subst_vars
  all_goals symm
  all_goals simp [validQ] at *
  all_goals first | omega | exact .inl hc

theorem valid_r (q : Ql) (ok : q.ok) : Good 25 [encQ q] (.bool (validQ q)) := by
  obtain ⟨k, h, c, n, r⟩ := q
  obtain ⟨⟨o1, o2⟩, ⟨o3, o4⟩, ⟨o5, o6⟩, ⟨o7, o8⟩⟩ := ok
  simp only at o1 o2 o3 o4 o5 o6 o7 o8
  have hp := pow_i c
  refine Good.of Try.func25 rfl (by rfl) (by kernel_rfl) ?_
  cbv
  (repeat' (first
    | (refine q1 (by first | exact trivial | omega | (dsimp only; omega) | exact pow62 _ (by omega) | exact mul9 (by omega) (by omega)) (fun z hz => ?_); (try simp only at hz); cbv)
    | (refine rq (by first | exact trivial | omega | (dsimp only; omega)) ?_; cbv)
    | (refine QC.tt (by first | omega | (dsimp only; omega) | exact rfl) ?_; cbv)
    | (refine QC.tt ?_ ?_; (focus (simp only [decide_true, Bool.and_true, Bool.and_self] <;> fail)); cbv)
    | (refine QC.ff ?_ ?_; (focus (simp only [decide_true, Bool.and_true, Bool.and_self, decide_false, Bool.false_and, reduceCtorEq, not_false_eq_true] <;> fail)); cbv)
    | (refine QC.ff (by first | omega | (dsimp only; omega)) ?_; cbv)
    | (refine QC.mk (fun hc => ?_) (fun hc => ?_) <;> (try dsimp only at hc) <;> cbv)
    | (refine br_mk2 (fun hb => ?_) (fun hb => ?_) <;> (try subst hb) <;> cbv)))
  all_goals refine ⟨congrArg SV.bool ?_⟩
  all_goals subst_vars
  all_goals symm
  all_goals simp [validQ] at *
  all_goals first | omega | (rw [Int.emod_eq_of_lt (by omega) (by omega)] at *; omega) | skip

theorem add_c (q : Ql) (b : Int) (hx : 0 ≤ q.h ∧ q.h ≤ 255) (hc : 0 ≤ q.c ∧ q.c ≤ 8) (hb : b = 0 ∨ b = 1) : Good 23 [encQ q, .int .u8 b] (encQ (addQ q b)) := by
  obtain ⟨k, x, c, n, r⟩ := q
  simp only at hx hc
  have ho := or_one x b hx.1 hb
  refine Good.of Try.func23 rfl (by rfl) (by rfl) ?_
  cbv
  (repeat' (first
    | (refine q1 (by first | exact trivial | omega | (dsimp only; omega) | exact pow62 _ (by omega) | exact mul9 (by omega) (by omega)) (fun z hz => ?_); (try simp only at hz); cbv)
    | (refine rq (by first | exact trivial | omega | (dsimp only; omega)) ?_; cbv)
    | (refine QC.tt (by first | omega | (dsimp only; omega) | exact rfl) ?_; cbv)
    | (refine QC.tt ?_ ?_; (focus (simp only [decide_true, Bool.and_true, Bool.and_self] <;> fail)); cbv)
    | (refine QC.ff ?_ ?_; (focus (simp only [decide_true, Bool.and_true, Bool.and_self, decide_false, Bool.false_and, reduceCtorEq, not_false_eq_true] <;> fail)); cbv)
    | (refine QC.ff (by first | omega | (dsimp only; omega)) ?_; cbv)
    | (refine QC.mk (fun hc => ?_) (fun hc => ?_) <;> (try dsimp only at hc) <;> cbv)
    | (refine br_mk2 (fun hb => ?_) (fun hb => ?_) <;> (try subst hb) <;> cbv)))
  refine ⟨?_⟩
  subst_vars
  simp only [addQ, encQ]
  rw [← ho]
  rfl

theorem add_r (q : Ql) (b : Int) (hx : 0 ≤ q.h ∧ q.h ≤ 255) (hc : 0 ≤ q.c ∧ q.c ≤ 8) (hb : b = 0 ∨ b = 1) : Good 30 [encQ q, .int .i64 b] (encQ (addQ q b)) := by
  obtain ⟨k, x, c, n, r⟩ := q
  simp only at hx hc
  refine Good.of Try.func30 rfl (by rfl) (by rfl) ?_
  cbv
  (repeat' (first
    | (refine q1 (by first | exact trivial | omega | (dsimp only; omega) | exact pow62 _ (by omega) | exact mul9 (by omega) (by omega)) (fun z hz => ?_); (try simp only at hz); cbv)
    | (refine rq (by first | exact trivial | omega | (dsimp only; omega)) ?_; cbv)
    | (refine QC.tt (by first | omega | (dsimp only; omega) | exact rfl) ?_; cbv)
    | (refine QC.tt ?_ ?_; (focus (simp only [decide_true, Bool.and_true, Bool.and_self] <;> fail)); cbv)
    | (refine QC.ff ?_ ?_; (focus (simp only [decide_true, Bool.and_true, Bool.and_self, decide_false, Bool.false_and, reduceCtorEq, not_false_eq_true] <;> fail)); cbv)
    | (refine QC.ff (by first | omega | (dsimp only; omega)) ?_; cbv)
    | (refine QC.mk (fun hc => ?_) (fun hc => ?_) <;> (try dsimp only at hc) <;> cbv)
    | (refine br_mk2 (fun hb => ?_) (fun hb => ?_) <;> (try subst hb) <;> cbv)))
  refine ⟨?_⟩
  subst_vars
  simp only [addQ, encQ]
  have h1 := and255 (x * 2 + b) (by omega)
  simp only [show Int.toNat 255 = 255 from rfl, h1]
  have h2 : (x * 2 + b) % 256 % 256 = x * 2 % 256 + b := by omega
  rw [h2]

theorem clean_c (q : Ql) (ok : q.ok) : Good 22 [encQ q] (encQ (cleanQ q)) := by
  have hv := valid_c q ok
  obtain ⟨k, h, c, n, r⟩ := q
  refine Good.of Try.func22 rfl (by rfl) (by rfl) ?_
  cbv
  (repeat' (first
    | (refine q1 (by first | exact trivial | omega | (dsimp only; omega) | exact pow62 _ (by omega) | exact mul9 (by omega) (by omega)) (fun z hz => ?_); (try simp only at hz); cbv)
    | (refine rq (by first | exact trivial | omega | (dsimp only; omega)) ?_; cbv)
    | (refine QC.tt (by first | omega | (dsimp only; omega) | exact rfl) ?_; cbv)
    | (refine QC.tt ?_ ?_; (focus (simp only [decide_true, Bool.and_true, Bool.and_self] <;> fail)); cbv)
    | (refine QC.ff ?_ ?_; (focus (simp only [decide_true, Bool.and_true, Bool.and_self, decide_false, Bool.false_and, reduceCtorEq, not_false_eq_true] <;> fail)); cbv)
    | (refine QC.ff (by first | omega | (dsimp only; omega)) ?_; cbv)
    | (refine QC.mk (fun hc => ?_) (fun hc => ?_) <;> (try dsimp only at hc) <;> cbv)
    | (refine br_mk2 (fun hb => ?_) (fun hb => ?_) <;> (try subst hb) <;> cbv)))
  refine callq hv rfl (fun h => by cases h) ?_
  cases hvq : validQ ⟨k, h, c, n, r⟩
  all_goals
    cbv
    (repeat' (first
    | (refine q1 (by first | exact trivial | omega | (dsimp only; omega) | exact pow62 _ (by omega) | exact mul9 (by omega) (by omega)) (fun z hz => ?_); (try simp only at hz); cbv)
    | (refine rq (by first | exact trivial | omega | (dsimp only; omega)) ?_; cbv)
    | (refine QC.tt (by first | omega | (dsimp only; omega) | exact rfl) ?_; cbv)
    | (refine QC.tt ?_ ?_; (focus (simp only [decide_true, Bool.and_true, Bool.and_self] <;> fail)); cbv)
    | (refine QC.ff ?_ ?_; (focus (simp only [decide_true, Bool.and_true, Bool.and_self, decide_false, Bool.false_and, reduceCtorEq, not_false_eq_true] <;> fail)); cbv)
    | (refine QC.ff (by first | omega | (dsimp only; omega)) ?_; cbv)
    | (refine QC.mk (fun hc => ?_) (fun hc => ?_) <;> (try dsimp only at hc) <;> cbv)
    | (refine br_mk2 (fun hb => ?_) (fun hb => ?_) <;> (try subst hb) <;> cbv)))
    refine ⟨?_⟩
    simp only [cleanQ, hvq]
    rfl

theorem clean_r (q : Ql) (ok : q.ok) : Good 29 [encQ q] (encQ (cleanQ q)) := by
  have hv := valid_r q ok
  obtain ⟨k, h, c, n, r⟩ := q
  refine Good.of Try.func29 rfl (by rfl) (by rfl) ?_
  cbv
  (repeat' (first
    | (refine q1 (by first | exact trivial | omega | (dsimp only; omega) | exact pow62 _ (by omega) | exact mul9 (by omega) (by omega)) (fun z hz => ?_); (try simp only at hz); cbv)
    | (refine rq (by first | exact trivial | omega | (dsimp only; omega)) ?_; cbv)
    | (refine QC.tt (by first | omega | (dsimp only; omega) | exact rfl) ?_; cbv)
    | (refine QC.tt ?_ ?_; (focus (simp only [decide_true, Bool.and_true, Bool.and_self] <;> fail)); cbv)
    | (refine QC.ff ?_ ?_; (focus (simp only [decide_true, Bool.and_true, Bool.and_self, decide_false, Bool.false_and, reduceCtorEq, not_false_eq_true] <;> fail)); cbv)
    | (refine QC.ff (by first | omega | (dsimp only; omega)) ?_; cbv)
    | (refine QC.mk (fun hc => ?_) (fun hc => ?_) <;> (try dsimp only at hc) <;> cbv)
    | (refine br_mk2 (fun hb => ?_) (fun hb => ?_) <;> (try subst hb) <;> cbv)))
  refine callq hv rfl (fun h => by cases h) ?_
  cases hvq : validQ ⟨k, h, c, n, r⟩
  all_goals
    cbv
    (repeat' (first
    | (refine q1 (by first | exact trivial | omega | (dsimp only; omega) | exact pow62 _ (by omega) | exact mul9 (by omega) (by omega)) (fun z hz => ?_); (try simp only at hz); cbv)
    | (refine rq (by first | exact trivial | omega | (dsimp only; omega)) ?_; cbv)
    | (refine QC.tt (by first | omega | (dsimp only; omega) | exact rfl) ?_; cbv)
    | (refine QC.tt ?_ ?_; (focus (simp only [decide_true, Bool.and_true, Bool.and_self] <;> fail)); cbv)
    | (refine QC.ff ?_ ?_; (focus (simp only [decide_true, Bool.and_true, Bool.and_self, decide_false, Bool.false_and, reduceCtorEq, not_false_eq_true] <;> fail)); cbv)
    | (refine QC.ff (by first | omega | (dsimp only; omega)) ?_; cbv)
    | (refine QC.mk (fun hc => ?_) (fun hc => ?_) <;> (try dsimp only at hc) <;> cbv)
    | (refine br_mk2 (fun hb => ?_) (fun hb => ?_) <;> (try subst hb) <;> cbv)))
    refine ⟨?_⟩
    simp only [cleanQ, hvq]
    rfl

theorem missed_c (q : Ql) (ok : q.ok) : Good 12 [encQ q] (encQ (missedQ (cleanQ q))) := by
  have hv := clean_c q ok
  have hV := clean_Vq ok
  generalize hq : cleanQ q = p at *
  obtain ⟨k, h, c, n, r⟩ := q
  clear ok hq
  refine Good.of Try.func12 rfl (by rfl) (by rfl) ?_
  cbv
  (repeat' (first
    | (refine q1 (by first | exact trivial | omega | (dsimp only; omega) | exact pow62 _ (by omega) | exact mul9 (by omega) (by omega)) (fun z hz => ?_); (try simp only at hz); cbv)
    | (refine rq (by first | exact trivial | omega | (dsimp only; omega)) ?_; cbv)
    | (refine QC.tt (by first | omega | (dsimp only; omega) | exact rfl) ?_; cbv)
    | (refine QC.tt ?_ ?_; (focus (simp only [decide_true, Bool.and_true, Bool.and_self] <;> fail)); cbv)
    | (refine QC.ff ?_ ?_; (focus (simp only [decide_true, Bool.and_true, Bool.and_self, decide_false, Bool.false_and, reduceCtorEq, not_false_eq_true] <;> fail)); cbv)
    | (refine QC.ff (by first | omega | (dsimp only; omega)) ?_; cbv)
    | (refine QC.mk (fun hc => ?_) (fun hc => ?_) <;> (try dsimp only at hc) <;> cbv)
    | (refine br_mk2 (fun hb => ?_) (fun hb => ?_) <;> (try subst hb) <;> cbv)))
  refine callq hv rfl (fun h => by cases h) ?_
  have hb := hV.tight.bd
  have hx0 := hV.tight.1
  have hc0 := hV.tight.2.2
  have ha := add_c p 0 ⟨hx0, hb⟩ hc0 (.inl rfl)
  obtain ⟨k', h', c', n', r'⟩ := p
  simp only at hb hx0 hc0
  cbv
  (repeat' (first
    | (refine q1 (by first | exact trivial | omega | (dsimp only; omega) | exact pow62 _ (by omega) | exact mul9 (by omega) (by omega)) (fun z hz => ?_); (try simp only at hz); cbv)
    | (refine rq (by first | exact trivial | omega | (dsimp only; omega)) ?_; cbv)
    | (refine QC.tt (by first | omega | (dsimp only; omega) | exact rfl) ?_; cbv)
    | (refine QC.tt ?_ ?_; (focus (simp only [decide_true, Bool.and_true, Bool.and_self] <;> fail)); cbv)
    | (refine QC.ff ?_ ?_; (focus (simp only [decide_true, Bool.and_true, Bool.and_self, decide_false, Bool.false_and, reduceCtorEq, not_false_eq_true] <;> fail)); cbv)
    | (refine QC.ff (by first | omega | (dsimp only; omega)) ?_; cbv)
    | (refine QC.mk (fun hc => ?_) (fun hc => ?_) <;> (try dsimp only at hc) <;> cbv)
    | (refine br_mk2 (fun hb => ?_) (fun hb => ?_) <;> (try subst hb) <;> cbv)))
  refine callq ha rfl (fun h => by cases h) ?_
  simp only [addQ]
  generalize hh : h' * 2 % 256 + 0 = h2
  generalize hc2 : min (c' + 1) 8 = c2
  cbv
  (repeat' (first
    | (refine q1 (by first | exact trivial | omega | (dsimp only; omega) | exact pow62 _ (by omega) | exact mul9 (by omega) (by omega)) (fun z hz => ?_); (try simp only at hz); cbv)
    | (refine rq (by first | exact trivial | omega | (dsimp only; omega)) ?_; cbv)
    | (refine QC.tt (by first | omega | (dsimp only; omega) | exact rfl) ?_; cbv)
    | (refine QC.tt ?_ ?_; (focus (simp only [decide_true, Bool.and_true, Bool.and_self] <;> fail)); cbv)
    | (refine QC.ff ?_ ?_; (focus (simp only [decide_true, Bool.and_true, Bool.and_self, decide_false, Bool.false_and, reduceCtorEq, not_false_eq_true] <;> fail)); cbv)
    | (refine QC.ff (by first | omega | (dsimp only; omega)) ?_; cbv)
    | (refine QC.mk (fun hc => ?_) (fun hc => ?_) <;> (try dsimp only at hc) <;> cbv)
    | (refine br_mk2 (fun hb => ?_) (fun hb => ?_) <;> (try subst hb) <;> cbv)))
  all_goals refine ⟨?_⟩
  all_goals subst_vars
  all_goals simp only [missedQ, encQ, zeroQ, Int.add_zero] at *
  · rw [if_pos (by assumption)]
  · rw [if_neg (by assumption)]
end Go.Proofs.Ytopalajoinkgkaa
