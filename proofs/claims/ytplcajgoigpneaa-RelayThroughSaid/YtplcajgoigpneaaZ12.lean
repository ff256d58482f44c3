/- Texts put together: LG. -/
import Derived.Test.YtplcajgoigpneaaZ11
namespace Go.Proofs.Ytplcajgoigpneaa
set_option linter.unusedVariables false
set_option linter.unusedSimpArgs false
open Go.RowKit
set_option maxHeartbeats 8000000
def delN {A : Type} (l : List A) (i : Nat) : List A := l.take i ++ l.drop (i + 1)
theorem bndA (l ys : List SV) (k : Nat) (h : (l.length + ys.length) * k ≤ 140737488355328) : ((O.ln l : Int) + (O.ln ys : Int)) * (k : Int) ≤ 140737488355328 := by
  rw [oln, oln, ← Int.natCast_add, ← Int.natCast_mul]
  omega
theorem cpX (X : List SV) (z : Int) (v : SV) (h : z = X.length) : O.cp (O.rp z v) 0 (O.ln (O.rp z v)) X = X := by
  rw [ocp, oln, orp]
  simp [h]
set_option maxRecDepth 4000 in
theorem fwd_dup1 (l : List Sw) (L : List SV) (hL : L = swL l) (hf : ∀ x ∈ l, x.fits) (hv : VS l) (now : Int) (ht : timeT now = true) (a b c : Int) (hs : someA a b c = true) (n t : Int) (X : List SV) (len : Nat) (hX : X.length = len) (hok : validF n 0 len = true) (d e f u : Int) (hd : someA d e f = true)
    (k : List Sw) (hk : k = expF l now) (i : Nat) (hi : (i : Int) = idxI (hitI a b c t) k) (k1 : List Sw) (hk1 : k1 = delN k i) (hdup : k1.any (hitO d e f u) = true) :
    Good 18 (pu [.lst (some 11) L, .agg [.int .i64 a, .int .u16 b, .int .u64 c], .agg [.int .i64 n, .int .u16 t, .int .i64 0, .lst none X], .agg [.int .i64 d, .int .u16 e, .int .u64 f], .int .u16 u, .int .i64 now] (.tup [.lst (some 11) [], .agg [.int .i64 0, .int .u16 0, .int .i64 0, .nil], .agg [.int .i64 0, .int .u16 0, .int .u64 0], .int .i64 8])) := by
  have hlen := hv.1
  have htt := of_decide_eq_true ht
  have g1 := svalid_c l L hL (by omega) hf true ⟨fun _ => hv, fun _ => rfl⟩
  have g2 := place_c a b c true hs.symm
  obtain ⟨K, hK⟩ : ∃ K, K = swL k := ⟨_, rfl⟩
  have g5 := expire_n l L hL hf now K (by rw [hK, hk]) hv ht
  have hkl : k.length ≤ 8 := by rw [hk]; have := expF_len l now; omega
  have hKl : K.length = k.length := by rw [hK, swL_len]
  have hvl := of_decide_eq_true (show decide (1 ≤ n ∧ n ≤ 2047 ∧ 0 ≤ (0 : Int) ∧ 0 < n ∧ (0 : Int) % 8 = 0 ∧ 1 ≤ len ∧ (len : Int) ≤ n - 0 ∧ ((len : Int) = n - 0 ∨ len % 8 = 0)) = true from hok)
  have g3 := valid_c X n t 0 len true hX (by omega) (by omega) (by omega) hok.symm
  have g4 := place_c d e f true hd.symm
  obtain ⟨i0, hi0⟩ : ∃ i0 : Int, i0 = i := ⟨_, rfl⟩
  have g6 := sindex_c k K hK (by omega) 36 a b c t i0 (hitI a b c t) (fun _ _ _ _ _ _ _ _ _ _ _ => fwd1_c _ _ _ _ _ _ _ _ _ _ _ _ _ _ _ _ rfl) (by rw [hi0, hi])
  have hil : i < k.length := by
    rcases idxI_spec _ _ _ hi with ⟨h, _⟩ | ⟨i', h, h2, _⟩ <;> omega
  obtain ⟨K1, hK1⟩ : ∃ K, K = swL k1 := ⟨_, rfl⟩
  have g7 := delete_l K K1 i k.length hKl (by omega) hil (by rw [hK1, hk1, hK]; simp [delN, swL])
  obtain ⟨i1, hi1⟩ : ∃ i1 : Int, i1 = i + 1 := ⟨_, rfl⟩
  rw [← hi1, ← hi0] at g7
  have hk1l : k1.length = k.length - 1 := by rw [hk1]; simp [delN]; omega
  have hK1l : K1.length = k1.length := by rw [hK1, swL_len]
  have g8 := scontains_c k1 K1 hK1 (by omega) 39 d e f u (hitO d e f u) (fun _ _ _ _ _ _ _ _ _ _ _ => fwd2_c _ _ _ _ _ _ _ _ _ _ _ _ _ _ _ _ rfl) true hdup.symm
  clear hi hdup
  refine Good.of Try.func18 rfl (by rfl) (by kernel_rfl) ?_
  cbv
  (repeat' (first
| (refine q1w (fun z hz => ?_); (try simp only at hz); cbv)
| (refine rqw ?_; cbv)
| (refine rq (show kfitQ _ _ from by simp [kfitQ, IntKind.min, IntKind.max, IntKind.signed, IntKind.bits]; omega) ?_; cbv)
| (refine chpA ?_; cbv)
| (refine QC.tw ?_; cbv)
| (refine QC.tt ?_ ?_; (focus (simp only [decide_true, Bool.and_true, Bool.and_self] <;> fail)); cbv)
| (refine QC.ff ?_ ?_; (focus (simp only [decide_true, Bool.and_true, Bool.and_self, decide_false, Bool.false_and, reduceCtorEq, not_false_eq_true] <;> fail)); cbv)
| (refine QC.fw ?_; cbv)
| (refine QC.mk (fun hc => ?_) (fun hc => ?_) <;> (try dsimp only at hc) <;> cbv)
| (refine br_mk2 (fun hb => ?_) (fun hb => ?_) <;> (try subst hb) <;> cbv)))
  (refine callq (g1) rfl rfl ?_; cbv; (repeat' (first
| (refine q1w (fun z hz => ?_); (try simp only at hz); cbv)
| (refine rqw ?_; cbv)
| (refine rq (show kfitQ _ _ from by simp [kfitQ, IntKind.min, IntKind.max, IntKind.signed, IntKind.bits]; omega) ?_; cbv)
| (refine chpA ?_; cbv)
| (refine QC.tw ?_; cbv)
| (refine QC.tt ?_ ?_; (focus (simp only [decide_true, Bool.and_true, Bool.and_self] <;> fail)); cbv)
| (refine QC.ff ?_ ?_; (focus (simp only [decide_true, Bool.and_true, Bool.and_self, decide_false, Bool.false_and, reduceCtorEq, not_false_eq_true] <;> fail)); cbv)
| (refine QC.fw ?_; cbv)
| (refine QC.mk (fun hc => ?_) (fun hc => ?_) <;> (try dsimp only at hc) <;> cbv)
| (refine br_mk2 (fun hb => ?_) (fun hb => ?_) <;> (try subst hb) <;> cbv))))
  (refine callq (g2) rfl rfl ?_; cbv; (repeat' (first
| (refine q1w (fun z hz => ?_); (try simp only at hz); cbv)
| (refine rqw ?_; cbv)
| (refine rq (show kfitQ _ _ from by simp [kfitQ, IntKind.min, IntKind.max, IntKind.signed, IntKind.bits]; omega) ?_; cbv)
| (refine chpA ?_; cbv)
| (refine QC.tw ?_; cbv)
| (refine QC.tt ?_ ?_; (focus (simp only [decide_true, Bool.and_true, Bool.and_self] <;> fail)); cbv)
| (refine QC.ff ?_ ?_; (focus (simp only [decide_true, Bool.and_true, Bool.and_self, decide_false, Bool.false_and, reduceCtorEq, not_false_eq_true] <;> fail)); cbv)
| (refine QC.fw ?_; cbv)
| (refine QC.mk (fun hc => ?_) (fun hc => ?_) <;> (try dsimp only at hc) <;> cbv)
| (refine br_mk2 (fun hb => ?_) (fun hb => ?_) <;> (try subst hb) <;> cbv))))
  (refine callq (g3) rfl rfl ?_; cbv; (repeat' (first
| (refine q1w (fun z hz => ?_); (try simp only at hz); cbv)
| (refine rqw ?_; cbv)
| (refine rq (show kfitQ _ _ from by simp [kfitQ, IntKind.min, IntKind.max, IntKind.signed, IntKind.bits]; omega) ?_; cbv)
| (refine chpA ?_; cbv)
| (refine QC.tw ?_; cbv)
| (refine QC.tt ?_ ?_; (focus (simp only [decide_true, Bool.and_true, Bool.and_self] <;> fail)); cbv)
| (refine QC.ff ?_ ?_; (focus (simp only [decide_true, Bool.and_true, Bool.and_self, decide_false, Bool.false_and, reduceCtorEq, not_false_eq_true] <;> fail)); cbv)
| (refine QC.fw ?_; cbv)
| (refine QC.mk (fun hc => ?_) (fun hc => ?_) <;> (try dsimp only at hc) <;> cbv)
| (refine br_mk2 (fun hb => ?_) (fun hb => ?_) <;> (try subst hb) <;> cbv))))
  (refine callq (g4) rfl rfl ?_; cbv; (repeat' (first
| (refine q1w (fun z hz => ?_); (try simp only at hz); cbv)
| (refine rqw ?_; cbv)
| (refine rq (show kfitQ _ _ from by simp [kfitQ, IntKind.min, IntKind.max, IntKind.signed, IntKind.bits]; omega) ?_; cbv)
| (refine chpA ?_; cbv)
| (refine QC.tw ?_; cbv)
| (refine QC.tt ?_ ?_; (focus (simp only [decide_true, Bool.and_true, Bool.and_self] <;> fail)); cbv)
| (refine QC.ff ?_ ?_; (focus (simp only [decide_true, Bool.and_true, Bool.and_self, decide_false, Bool.false_and, reduceCtorEq, not_false_eq_true] <;> fail)); cbv)
| (refine QC.fw ?_; cbv)
| (refine QC.mk (fun hc => ?_) (fun hc => ?_) <;> (try dsimp only at hc) <;> cbv)
| (refine br_mk2 (fun hb => ?_) (fun hb => ?_) <;> (try subst hb) <;> cbv))))
  (refine callq (g5) rfl rfl ?_; cbv; (repeat' (first
| (refine q1w (fun z hz => ?_); (try simp only at hz); cbv)
| (refine rqw ?_; cbv)
| (refine rq (show kfitQ _ _ from by simp [kfitQ, IntKind.min, IntKind.max, IntKind.signed, IntKind.bits]; omega) ?_; cbv)
| (refine chpA ?_; cbv)
| (refine QC.tw ?_; cbv)
| (refine QC.tt ?_ ?_; (focus (simp only [decide_true, Bool.and_true, Bool.and_self] <;> fail)); cbv)
| (refine QC.ff ?_ ?_; (focus (simp only [decide_true, Bool.and_true, Bool.and_self, decide_false, Bool.false_and, reduceCtorEq, not_false_eq_true] <;> fail)); cbv)
| (refine QC.fw ?_; cbv)
| (refine QC.mk (fun hc => ?_) (fun hc => ?_) <;> (try dsimp only at hc) <;> cbv)
| (refine br_mk2 (fun hb => ?_) (fun hb => ?_) <;> (try subst hb) <;> cbv))))
  (refine callq (g6) rfl rfl ?_; cbv; (repeat' (first
| (refine q1w (fun z hz => ?_); (try simp only at hz); cbv)
| (refine rqw ?_; cbv)
| (refine rq (show kfitQ _ _ from by simp [kfitQ, IntKind.min, IntKind.max, IntKind.signed, IntKind.bits]; omega) ?_; cbv)
| (refine chpA ?_; cbv)
| (refine QC.tw ?_; cbv)
| (refine QC.tt ?_ ?_; (focus (simp only [decide_true, Bool.and_true, Bool.and_self] <;> fail)); cbv)
| (refine QC.ff ?_ ?_; (focus (simp only [decide_true, Bool.and_true, Bool.and_self, decide_false, Bool.false_and, reduceCtorEq, not_false_eq_true] <;> fail)); cbv)
| (refine QC.fw ?_; cbv)
| (refine QC.mk (fun hc => ?_) (fun hc => ?_) <;> (try dsimp only at hc) <;> cbv)
| (refine br_mk2 (fun hb => ?_) (fun hb => ?_) <;> (try subst hb) <;> cbv))))
  have e1 : z = i1 := by omega
  subst e1
  (refine callr ?_; cbv; refine lrq (g7) ?_; cbv; (repeat' (first
| (refine q1w (fun z hz => ?_); (try simp only at hz); cbv)
| (refine rqw ?_; cbv)
| (refine rq (show kfitQ _ _ from by simp [kfitQ, IntKind.min, IntKind.max, IntKind.signed, IntKind.bits]; omega) ?_; cbv)
| (refine chpA ?_; cbv)
| (refine QC.tw ?_; cbv)
| (refine QC.tt ?_ ?_; (focus (simp only [decide_true, Bool.and_true, Bool.and_self] <;> fail)); cbv)
| (refine QC.ff ?_ ?_; (focus (simp only [decide_true, Bool.and_true, Bool.and_self, decide_false, Bool.false_and, reduceCtorEq, not_false_eq_true] <;> fail)); cbv)
| (refine QC.fw ?_; cbv)
| (refine QC.mk (fun hc => ?_) (fun hc => ?_) <;> (try dsimp only at hc) <;> cbv)
| (refine br_mk2 (fun hb => ?_) (fun hb => ?_) <;> (try subst hb) <;> cbv))))
  (refine callq (g8) rfl rfl ?_; cbv; (repeat' (first
| (refine q1w (fun z hz => ?_); (try simp only at hz); cbv)
| (refine rqw ?_; cbv)
| (refine rq (show kfitQ _ _ from by simp [kfitQ, IntKind.min, IntKind.max, IntKind.signed, IntKind.bits]; omega) ?_; cbv)
| (refine chpA ?_; cbv)
| (refine QC.tw ?_; cbv)
| (refine QC.tt ?_ ?_; (focus (simp only [decide_true, Bool.and_true, Bool.and_self] <;> fail)); cbv)
| (refine QC.ff ?_ ?_; (focus (simp only [decide_true, Bool.and_true, Bool.and_self, decide_false, Bool.false_and, reduceCtorEq, not_false_eq_true] <;> fail)); cbv)
| (refine QC.fw ?_; cbv)
| (refine QC.mk (fun hc => ?_) (fun hc => ?_) <;> (try dsimp only at hc) <;> cbv)
| (refine br_mk2 (fun hb => ?_) (fun hb => ?_) <;> (try subst hb) <;> cbv))))
  exact ⟨rfl, rfl, rfl⟩
set_option maxRecDepth 4000 in
theorem fwd_dup0 (l : List Sw) (L : List SV) (hL : L = swL l) (hf : ∀ x ∈ l, x.fits) (hv : VS l) (now : Int) (ht : timeT now = true) (a b c : Int) (hs : someA a b c = true) (n t : Int) (X : List SV) (len : Nat) (hX : X.length = len) (hok : validF n 0 len = true) (d e f u : Int) (hd : someA d e f = true)
    (k : List Sw) (hk : k = expF l now) (hi : -1 = idxI (hitI a b c t) k) (hdup : k.any (hitO d e f u) = true) :
    Good 18 (pu [.lst (some 11) L, .agg [.int .i64 a, .int .u16 b, .int .u64 c], .agg [.int .i64 n, .int .u16 t, .int .i64 0, .lst none X], .agg [.int .i64 d, .int .u16 e, .int .u64 f], .int .u16 u, .int .i64 now] (.tup [.lst (some 11) [], .agg [.int .i64 0, .int .u16 0, .int .i64 0, .nil], .agg [.int .i64 0, .int .u16 0, .int .u64 0], .int .i64 8])) := by
  have hlen := hv.1
  have htt := of_decide_eq_true ht
  have g1 := svalid_c l L hL (by omega) hf true ⟨fun _ => hv, fun _ => rfl⟩
  have g2 := place_c a b c true hs.symm
  obtain ⟨K, hK⟩ : ∃ K, K = swL k := ⟨_, rfl⟩
  have g5 := expire_n l L hL hf now K (by rw [hK, hk]) hv ht
  have hkl : k.length ≤ 8 := by rw [hk]; have := expF_len l now; omega
  have hKl : K.length = k.length := by rw [hK, swL_len]
  have hvl := of_decide_eq_true (show decide (1 ≤ n ∧ n ≤ 2047 ∧ 0 ≤ (0 : Int) ∧ 0 < n ∧ (0 : Int) % 8 = 0 ∧ 1 ≤ len ∧ (len : Int) ≤ n - 0 ∧ ((len : Int) = n - 0 ∨ len % 8 = 0)) = true from hok)
  have g3 := valid_c X n t 0 len true hX (by omega) (by omega) (by omega) hok.symm
  have g4 := place_c d e f true hd.symm
  have g6 := sindex_c k K hK (by omega) 36 a b c t (-1) (hitI a b c t) (fun _ _ _ _ _ _ _ _ _ _ _ => fwd1_c _ _ _ _ _ _ _ _ _ _ _ _ _ _ _ _ rfl) hi
  have g8 := scontains_c k K hK (by omega) 39 d e f u (hitO d e f u) (fun _ _ _ _ _ _ _ _ _ _ _ => fwd2_c _ _ _ _ _ _ _ _ _ _ _ _ _ _ _ _ rfl) true hdup.symm
  clear hi hdup
  refine Good.of Try.func18 rfl (by rfl) (by kernel_rfl) ?_
  cbv
  (repeat' (first
| (refine q1w (fun z hz => ?_); (try simp only at hz); cbv)
| (refine rqw ?_; cbv)
| (refine rq (show kfitQ _ _ from by simp [kfitQ, IntKind.min, IntKind.max, IntKind.signed, IntKind.bits]; omega) ?_; cbv)
| (refine chpA ?_; cbv)
| (refine QC.tw ?_; cbv)
| (refine QC.tt ?_ ?_; (focus (simp only [decide_true, Bool.and_true, Bool.and_self] <;> fail)); cbv)
| (refine QC.ff ?_ ?_; (focus (simp only [decide_true, Bool.and_true, Bool.and_self, decide_false, Bool.false_and, reduceCtorEq, not_false_eq_true] <;> fail)); cbv)
| (refine QC.fw ?_; cbv)
| (refine QC.mk (fun hc => ?_) (fun hc => ?_) <;> (try dsimp only at hc) <;> cbv)
| (refine br_mk2 (fun hb => ?_) (fun hb => ?_) <;> (try subst hb) <;> cbv)))
  (refine callq (g1) rfl rfl ?_; cbv; (repeat' (first
| (refine q1w (fun z hz => ?_); (try simp only at hz); cbv)
| (refine rqw ?_; cbv)
| (refine rq (show kfitQ _ _ from by simp [kfitQ, IntKind.min, IntKind.max, IntKind.signed, IntKind.bits]; omega) ?_; cbv)
| (refine chpA ?_; cbv)
| (refine QC.tw ?_; cbv)
| (refine QC.tt ?_ ?_; (focus (simp only [decide_true, Bool.and_true, Bool.and_self] <;> fail)); cbv)
| (refine QC.ff ?_ ?_; (focus (simp only [decide_true, Bool.and_true, Bool.and_self, decide_false, Bool.false_and, reduceCtorEq, not_false_eq_true] <;> fail)); cbv)
| (refine QC.fw ?_; cbv)
| (refine QC.mk (fun hc => ?_) (fun hc => ?_) <;> (try dsimp only at hc) <;> cbv)
| (refine br_mk2 (fun hb => ?_) (fun hb => ?_) <;> (try subst hb) <;> cbv))))
  (refine callq (g2) rfl rfl ?_; cbv; (repeat' (first
| (refine q1w (fun z hz => ?_); (try simp only at hz); cbv)
| (refine rqw ?_; cbv)
| (refine rq (show kfitQ _ _ from by simp [kfitQ, IntKind.min, IntKind.max, IntKind.signed, IntKind.bits]; omega) ?_; cbv)
| (refine chpA ?_; cbv)
| (refine QC.tw ?_; cbv)
| (refine QC.tt ?_ ?_; (focus (simp only [decide_true, Bool.and_true, Bool.and_self] <;> fail)); cbv)
| (refine QC.ff ?_ ?_; (focus (simp only [decide_true, Bool.and_true, Bool.and_self, decide_false, Bool.false_and, reduceCtorEq, not_false_eq_true] <;> fail)); cbv)
| (refine QC.fw ?_; cbv)
| (refine QC.mk (fun hc => ?_) (fun hc => ?_) <;> (try dsimp only at hc) <;> cbv)
| (refine br_mk2 (fun hb => ?_) (fun hb => ?_) <;> (try subst hb) <;> cbv))))
  (refine callq (g3) rfl rfl ?_; cbv; (repeat' (first
| (refine q1w (fun z hz => ?_); (try simp only at hz); cbv)
| (refine rqw ?_; cbv)
| (refine rq (show kfitQ _ _ from by simp [kfitQ, IntKind.min, IntKind.max, IntKind.signed, IntKind.bits]; omega) ?_; cbv)
| (refine chpA ?_; cbv)
| (refine QC.tw ?_; cbv)
| (refine QC.tt ?_ ?_; (focus (simp only [decide_true, Bool.and_true, Bool.and_self] <;> fail)); cbv)
| (refine QC.ff ?_ ?_; (focus (simp only [decide_true, Bool.and_true, Bool.and_self, decide_false, Bool.false_and, reduceCtorEq, not_false_eq_true] <;> fail)); cbv)
| (refine QC.fw ?_; cbv)
| (refine QC.mk (fun hc => ?_) (fun hc => ?_) <;> (try dsimp only at hc) <;> cbv)
| (refine br_mk2 (fun hb => ?_) (fun hb => ?_) <;> (try subst hb) <;> cbv))))
  (refine callq (g4) rfl rfl ?_; cbv; (repeat' (first
| (refine q1w (fun z hz => ?_); (try simp only at hz); cbv)
| (refine rqw ?_; cbv)
| (refine rq (show kfitQ _ _ from by simp [kfitQ, IntKind.min, IntKind.max, IntKind.signed, IntKind.bits]; omega) ?_; cbv)
| (refine chpA ?_; cbv)
| (refine QC.tw ?_; cbv)
| (refine QC.tt ?_ ?_; (focus (simp only [decide_true, Bool.and_true, Bool.and_self] <;> fail)); cbv)
| (refine QC.ff ?_ ?_; (focus (simp only [decide_true, Bool.and_true, Bool.and_self, decide_false, Bool.false_and, reduceCtorEq, not_false_eq_true] <;> fail)); cbv)
| (refine QC.fw ?_; cbv)
| (refine QC.mk (fun hc => ?_) (fun hc => ?_) <;> (try dsimp only at hc) <;> cbv)
| (refine br_mk2 (fun hb => ?_) (fun hb => ?_) <;> (try subst hb) <;> cbv))))
  (refine callq (g5) rfl rfl ?_; cbv; (repeat' (first
| (refine q1w (fun z hz => ?_); (try simp only at hz); cbv)
| (refine rqw ?_; cbv)
| (refine rq (show kfitQ _ _ from by simp [kfitQ, IntKind.min, IntKind.max, IntKind.signed, IntKind.bits]; omega) ?_; cbv)
| (refine chpA ?_; cbv)
| (refine QC.tw ?_; cbv)
| (refine QC.tt ?_ ?_; (focus (simp only [decide_true, Bool.and_true, Bool.and_self] <;> fail)); cbv)
| (refine QC.ff ?_ ?_; (focus (simp only [decide_true, Bool.and_true, Bool.and_self, decide_false, Bool.false_and, reduceCtorEq, not_false_eq_true] <;> fail)); cbv)
| (refine QC.fw ?_; cbv)
| (refine QC.mk (fun hc => ?_) (fun hc => ?_) <;> (try dsimp only at hc) <;> cbv)
| (refine br_mk2 (fun hb => ?_) (fun hb => ?_) <;> (try subst hb) <;> cbv))))
  (refine callq (g6) rfl rfl ?_; cbv; (repeat' (first
| (refine q1w (fun z hz => ?_); (try simp only at hz); cbv)
| (refine rqw ?_; cbv)
| (refine rq (show kfitQ _ _ from by simp [kfitQ, IntKind.min, IntKind.max, IntKind.signed, IntKind.bits]; omega) ?_; cbv)
| (refine chpA ?_; cbv)
| (refine QC.tw ?_; cbv)
| (refine QC.tt ?_ ?_; (focus (simp only [decide_true, Bool.and_true, Bool.and_self] <;> fail)); cbv)
| (refine QC.ff ?_ ?_; (focus (simp only [decide_true, Bool.and_true, Bool.and_self, decide_false, Bool.false_and, reduceCtorEq, not_false_eq_true] <;> fail)); cbv)
| (refine QC.fw ?_; cbv)
| (refine QC.mk (fun hc => ?_) (fun hc => ?_) <;> (try dsimp only at hc) <;> cbv)
| (refine br_mk2 (fun hb => ?_) (fun hb => ?_) <;> (try subst hb) <;> cbv))))
  (refine callq (g8) rfl rfl ?_; cbv; (repeat' (first
| (refine q1w (fun z hz => ?_); (try simp only at hz); cbv)
| (refine rqw ?_; cbv)
| (refine rq (show kfitQ _ _ from by simp [kfitQ, IntKind.min, IntKind.max, IntKind.signed, IntKind.bits]; omega) ?_; cbv)
| (refine chpA ?_; cbv)
| (refine QC.tw ?_; cbv)
| (refine QC.tt ?_ ?_; (focus (simp only [decide_true, Bool.and_true, Bool.and_self] <;> fail)); cbv)
| (refine QC.ff ?_ ?_; (focus (simp only [decide_true, Bool.and_true, Bool.and_self, decide_false, Bool.false_and, reduceCtorEq, not_false_eq_true] <;> fail)); cbv)
| (refine QC.fw ?_; cbv)
| (refine QC.mk (fun hc => ?_) (fun hc => ?_) <;> (try dsimp only at hc) <;> cbv)
| (refine br_mk2 (fun hb => ?_) (fun hb => ?_) <;> (try subst hb) <;> cbv))))
  exact ⟨rfl, rfl, rfl⟩
set_option maxRecDepth 4000 in
theorem fwd_full0 (l : List Sw) (L : List SV) (hL : L = swL l) (hf : ∀ x ∈ l, x.fits) (hv : VS l) (now : Int) (ht : timeT now = true) (a b c : Int) (hs : someA a b c = true) (n t : Int) (X : List SV) (len : Nat) (hX : X.length = len) (hok : validF n 0 len = true) (d e f u : Int) (hd : someA d e f = true)
    (k : List Sw) (hk : k = expF l now) (hi : -1 = idxI (hitI a b c t) k) (hdup : k.any (hitO d e f u) = false) (hfull : k.length = 8) :
    Good 18 (pu [.lst (some 11) L, .agg [.int .i64 a, .int .u16 b, .int .u64 c], .agg [.int .i64 n, .int .u16 t, .int .i64 0, .lst none X], .agg [.int .i64 d, .int .u16 e, .int .u64 f], .int .u16 u, .int .i64 now] (.tup [.lst (some 11) [], .agg [.int .i64 0, .int .u16 0, .int .i64 0, .nil], .agg [.int .i64 0, .int .u16 0, .int .u64 0], .int .i64 10])) := by
  have hlen := hv.1
  have htt := of_decide_eq_true ht
  have g1 := svalid_c l L hL (by omega) hf true ⟨fun _ => hv, fun _ => rfl⟩
  have g2 := place_c a b c true hs.symm
  obtain ⟨K, hK⟩ : ∃ K, K = swL k := ⟨_, rfl⟩
  have g5 := expire_n l L hL hf now K (by rw [hK, hk]) hv ht
  have hkl : k.length ≤ 8 := by rw [hk]; have := expF_len l now; omega
  have hKl : K.length = k.length := by rw [hK, swL_len]
  have hvl := of_decide_eq_true (show decide (1 ≤ n ∧ n ≤ 2047 ∧ 0 ≤ (0 : Int) ∧ 0 < n ∧ (0 : Int) % 8 = 0 ∧ 1 ≤ len ∧ (len : Int) ≤ n - 0 ∧ ((len : Int) = n - 0 ∨ len % 8 = 0)) = true from hok)
  have g3 := valid_c X n t 0 len true hX (by omega) (by omega) (by omega) hok.symm
  have g4 := place_c d e f true hd.symm
  have g6 := sindex_c k K hK (by omega) 36 a b c t (-1) (hitI a b c t) (fun _ _ _ _ _ _ _ _ _ _ _ => fwd1_c _ _ _ _ _ _ _ _ _ _ _ _ _ _ _ _ rfl) hi
  have g8 := scontains_c k K hK (by omega) 39 d e f u (hitO d e f u) (fun _ _ _ _ _ _ _ _ _ _ _ => fwd2_c _ _ _ _ _ _ _ _ _ _ _ _ _ _ _ _ rfl) false hdup.symm
  clear hi hdup
  refine Good.of Try.func18 rfl (by rfl) (by kernel_rfl) ?_
  cbv
  (repeat' (first
| (refine q1w (fun z hz => ?_); (try simp only at hz); cbv)
| (refine rqw ?_; cbv)
| (refine rq (show kfitQ _ _ from by simp [kfitQ, IntKind.min, IntKind.max, IntKind.signed, IntKind.bits]; omega) ?_; cbv)
| (refine chpA ?_; cbv)
| (refine QC.tw ?_; cbv)
| (refine QC.tt ?_ ?_; (focus (simp only [decide_true, Bool.and_true, Bool.and_self] <;> fail)); cbv)
| (refine QC.ff ?_ ?_; (focus (simp only [decide_true, Bool.and_true, Bool.and_self, decide_false, Bool.false_and, reduceCtorEq, not_false_eq_true] <;> fail)); cbv)
| (refine QC.fw ?_; cbv)
| (refine QC.mk (fun hc => ?_) (fun hc => ?_) <;> (try dsimp only at hc) <;> cbv)
| (refine br_mk2 (fun hb => ?_) (fun hb => ?_) <;> (try subst hb) <;> cbv)))
  (refine callq (g1) rfl rfl ?_; cbv; (repeat' (first
| (refine q1w (fun z hz => ?_); (try simp only at hz); cbv)
| (refine rqw ?_; cbv)
| (refine rq (show kfitQ _ _ from by simp [kfitQ, IntKind.min, IntKind.max, IntKind.signed, IntKind.bits]; omega) ?_; cbv)
| (refine chpA ?_; cbv)
| (refine QC.tw ?_; cbv)
| (refine QC.tt ?_ ?_; (focus (simp only [decide_true, Bool.and_true, Bool.and_self] <;> fail)); cbv)
| (refine QC.ff ?_ ?_; (focus (simp only [decide_true, Bool.and_true, Bool.and_self, decide_false, Bool.false_and, reduceCtorEq, not_false_eq_true] <;> fail)); cbv)
| (refine QC.fw ?_; cbv)
| (refine QC.mk (fun hc => ?_) (fun hc => ?_) <;> (try dsimp only at hc) <;> cbv)
| (refine br_mk2 (fun hb => ?_) (fun hb => ?_) <;> (try subst hb) <;> cbv))))
  (refine callq (g2) rfl rfl ?_; cbv; (repeat' (first
| (refine q1w (fun z hz => ?_); (try simp only at hz); cbv)
| (refine rqw ?_; cbv)
| (refine rq (show kfitQ _ _ from by simp [kfitQ, IntKind.min, IntKind.max, IntKind.signed, IntKind.bits]; omega) ?_; cbv)
| (refine chpA ?_; cbv)
| (refine QC.tw ?_; cbv)
| (refine QC.tt ?_ ?_; (focus (simp only [decide_true, Bool.and_true, Bool.and_self] <;> fail)); cbv)
| (refine QC.ff ?_ ?_; (focus (simp only [decide_true, Bool.and_true, Bool.and_self, decide_false, Bool.false_and, reduceCtorEq, not_false_eq_true] <;> fail)); cbv)
| (refine QC.fw ?_; cbv)
| (refine QC.mk (fun hc => ?_) (fun hc => ?_) <;> (try dsimp only at hc) <;> cbv)
| (refine br_mk2 (fun hb => ?_) (fun hb => ?_) <;> (try subst hb) <;> cbv))))
  (refine callq (g3) rfl rfl ?_; cbv; (repeat' (first
| (refine q1w (fun z hz => ?_); (try simp only at hz); cbv)
| (refine rqw ?_; cbv)
| (refine rq (show kfitQ _ _ from by simp [kfitQ, IntKind.min, IntKind.max, IntKind.signed, IntKind.bits]; omega) ?_; cbv)
| (refine chpA ?_; cbv)
| (refine QC.tw ?_; cbv)
| (refine QC.tt ?_ ?_; (focus (simp only [decide_true, Bool.and_true, Bool.and_self] <;> fail)); cbv)
| (refine QC.ff ?_ ?_; (focus (simp only [decide_true, Bool.and_true, Bool.and_self, decide_false, Bool.false_and, reduceCtorEq, not_false_eq_true] <;> fail)); cbv)
| (refine QC.fw ?_; cbv)
| (refine QC.mk (fun hc => ?_) (fun hc => ?_) <;> (try dsimp only at hc) <;> cbv)
| (refine br_mk2 (fun hb => ?_) (fun hb => ?_) <;> (try subst hb) <;> cbv))))
  (refine callq (g4) rfl rfl ?_; cbv; (repeat' (first
| (refine q1w (fun z hz => ?_); (try simp only at hz); cbv)
| (refine rqw ?_; cbv)
| (refine rq (show kfitQ _ _ from by simp [kfitQ, IntKind.min, IntKind.max, IntKind.signed, IntKind.bits]; omega) ?_; cbv)
| (refine chpA ?_; cbv)
| (refine QC.tw ?_; cbv)
| (refine QC.tt ?_ ?_; (focus (simp only [decide_true, Bool.and_true, Bool.and_self] <;> fail)); cbv)
| (refine QC.ff ?_ ?_; (focus (simp only [decide_true, Bool.and_true, Bool.and_self, decide_false, Bool.false_and, reduceCtorEq, not_false_eq_true] <;> fail)); cbv)
| (refine QC.fw ?_; cbv)
| (refine QC.mk (fun hc => ?_) (fun hc => ?_) <;> (try dsimp only at hc) <;> cbv)
| (refine br_mk2 (fun hb => ?_) (fun hb => ?_) <;> (try subst hb) <;> cbv))))
  (refine callq (g5) rfl rfl ?_; cbv; (repeat' (first
| (refine q1w (fun z hz => ?_); (try simp only at hz); cbv)
| (refine rqw ?_; cbv)
| (refine rq (show kfitQ _ _ from by simp [kfitQ, IntKind.min, IntKind.max, IntKind.signed, IntKind.bits]; omega) ?_; cbv)
| (refine chpA ?_; cbv)
| (refine QC.tw ?_; cbv)
| (refine QC.tt ?_ ?_; (focus (simp only [decide_true, Bool.and_true, Bool.and_self] <;> fail)); cbv)
| (refine QC.ff ?_ ?_; (focus (simp only [decide_true, Bool.and_true, Bool.and_self, decide_false, Bool.false_and, reduceCtorEq, not_false_eq_true] <;> fail)); cbv)
| (refine QC.fw ?_; cbv)
| (refine QC.mk (fun hc => ?_) (fun hc => ?_) <;> (try dsimp only at hc) <;> cbv)
| (refine br_mk2 (fun hb => ?_) (fun hb => ?_) <;> (try subst hb) <;> cbv))))
  (refine callq (g6) rfl rfl ?_; cbv; (repeat' (first
| (refine q1w (fun z hz => ?_); (try simp only at hz); cbv)
| (refine rqw ?_; cbv)
| (refine rq (show kfitQ _ _ from by simp [kfitQ, IntKind.min, IntKind.max, IntKind.signed, IntKind.bits]; omega) ?_; cbv)
| (refine chpA ?_; cbv)
| (refine QC.tw ?_; cbv)
| (refine QC.tt ?_ ?_; (focus (simp only [decide_true, Bool.and_true, Bool.and_self] <;> fail)); cbv)
| (refine QC.ff ?_ ?_; (focus (simp only [decide_true, Bool.and_true, Bool.and_self, decide_false, Bool.false_and, reduceCtorEq, not_false_eq_true] <;> fail)); cbv)
| (refine QC.fw ?_; cbv)
| (refine QC.mk (fun hc => ?_) (fun hc => ?_) <;> (try dsimp only at hc) <;> cbv)
| (refine br_mk2 (fun hb => ?_) (fun hb => ?_) <;> (try subst hb) <;> cbv))))
  (refine callq (g8) rfl rfl ?_; cbv; (repeat' (first
| (refine q1w (fun z hz => ?_); (try simp only at hz); cbv)
| (refine rqw ?_; cbv)
| (refine rq (show kfitQ _ _ from by simp [kfitQ, IntKind.min, IntKind.max, IntKind.signed, IntKind.bits]; omega) ?_; cbv)
| (refine chpA ?_; cbv)
| (refine QC.tw ?_; cbv)
| (refine QC.tt ?_ ?_; (focus (simp only [decide_true, Bool.and_true, Bool.and_self] <;> fail)); cbv)
| (refine QC.ff ?_ ?_; (focus (simp only [decide_true, Bool.and_true, Bool.and_self, decide_false, Bool.false_and, reduceCtorEq, not_false_eq_true] <;> fail)); cbv)
| (refine QC.fw ?_; cbv)
| (refine QC.mk (fun hc => ?_) (fun hc => ?_) <;> (try dsimp only at hc) <;> cbv)
| (refine br_mk2 (fun hb => ?_) (fun hb => ?_) <;> (try subst hb) <;> cbv))))
  exact ⟨rfl, rfl, rfl⟩
set_option maxRecDepth 4000 in
theorem fwd_first1 (l : List Sw) (L : List SV) (hL : L = swL l) (hf : ∀ x ∈ l, x.fits) (hv : VS l) (now : Int) (ht : timeT now = true) (a b c : Int) (hs : someA a b c = true) (n t : Int) (X : List SV) (len : Nat) (hX : X.length = len) (hok : validF n 0 len = true) (d e f u : Int) (hd : someA d e f = true)
    (k : List Sw) (hk : k = expF l now) (i : Nat) (hi : (i : Int) = idxI (hitI a b c t) k) (k1 : List Sw) (hk1 : k1 = delN k i) (hdup : k1.any (hitO d e f u) = false) (R : List SV) (hR : R = swL (if n - len ≤ 0 then k1 else k1 ++ [⟨a, b, c, t, d, e, f, u, n, n - len, min (now + 12) 1099511627776⟩])) :
    Good 18 (pu [.lst (some 11) L, .agg [.int .i64 a, .int .u16 b, .int .u64 c], .agg [.int .i64 n, .int .u16 t, .int .i64 0, .lst none X], .agg [.int .i64 d, .int .u16 e, .int .u64 f], .int .u16 u, .int .i64 now] (.tup [.lst (some 11) R, .agg [.int .i64 n, .int .u16 u, .int .i64 0, .lst none X], .agg [.int .i64 d, .int .u16 e, .int .u64 f], .int .i64 0])) := by
  have hlen := hv.1
  have htt := of_decide_eq_true ht
  have g1 := svalid_c l L hL (by omega) hf true ⟨fun _ => hv, fun _ => rfl⟩
  have g2 := place_c a b c true hs.symm
  obtain ⟨K, hK⟩ : ∃ K, K = swL k := ⟨_, rfl⟩
  have g5 := expire_n l L hL hf now K (by rw [hK, hk]) hv ht
  have hkl : k.length ≤ 8 := by rw [hk]; have := expF_len l now; omega
  have hKl : K.length = k.length := by rw [hK, swL_len]
  have hvl := of_decide_eq_true (show decide (1 ≤ n ∧ n ≤ 2047 ∧ 0 ≤ (0 : Int) ∧ 0 < n ∧ (0 : Int) % 8 = 0 ∧ 1 ≤ len ∧ (len : Int) ≤ n - 0 ∧ ((len : Int) = n - 0 ∨ len % 8 = 0)) = true from hok)
  have g3 := valid_c X n t 0 len true hX (by omega) (by omega) (by omega) hok.symm
  have g4 := place_c d e f true hd.symm
  obtain ⟨i0, hi0⟩ : ∃ i0 : Int, i0 = i := ⟨_, rfl⟩
  have g6 := sindex_c k K hK (by omega) 36 a b c t i0 (hitI a b c t) (fun _ _ _ _ _ _ _ _ _ _ _ => fwd1_c _ _ _ _ _ _ _ _ _ _ _ _ _ _ _ _ rfl) (by rw [hi0, hi])
  have hil : i < k.length := by
    rcases idxI_spec _ _ _ hi with ⟨h, _⟩ | ⟨i', h, h2, _⟩ <;> omega
  obtain ⟨K1, hK1⟩ : ∃ K, K = swL k1 := ⟨_, rfl⟩
  have g7 := delete_l K K1 i k.length hKl (by omega) hil (by rw [hK1, hk1, hK]; simp [delN, swL])
  obtain ⟨i1, hi1⟩ : ∃ i1 : Int, i1 = i + 1 := ⟨_, rfl⟩
  rw [← hi1, ← hi0] at g7
  have hk1l : k1.length = k.length - 1 := by rw [hk1]; simp [delN]; omega
  have hK1l : K1.length = k1.length := by rw [hK1, swL_len]
  have g8 := scontains_c k1 K1 hK1 (by omega) 39 d e f u (hitO d e f u) (fun _ _ _ _ _ _ _ _ _ _ _ => fwd2_c _ _ _ _ _ _ _ _ _ _ _ _ _ _ _ _ rfl) false hdup.symm
  clear hi hdup
  refine Good.of Try.func18 rfl (by rfl) (by kernel_rfl) ?_
  cbv
  (repeat' (first
| (refine q1w (fun z hz => ?_); (try simp only at hz); cbv)
| (refine rqw ?_; cbv)
| (refine rq (show kfitQ _ _ from by simp [kfitQ, IntKind.min, IntKind.max, IntKind.signed, IntKind.bits]; omega) ?_; cbv)
| (refine chpA ?_; cbv)
| (refine QC.tw ?_; cbv)
| (refine QC.tt ?_ ?_; (focus (simp only [decide_true, Bool.and_true, Bool.and_self] <;> fail)); cbv)
| (refine QC.ff ?_ ?_; (focus (simp only [decide_true, Bool.and_true, Bool.and_self, decide_false, Bool.false_and, reduceCtorEq, not_false_eq_true] <;> fail)); cbv)
| (refine QC.fw ?_; cbv)
| (refine QC.mk (fun hc => ?_) (fun hc => ?_) <;> (try dsimp only at hc) <;> cbv)
| (refine br_mk2 (fun hb => ?_) (fun hb => ?_) <;> (try subst hb) <;> cbv)))
  (refine callq (g1) rfl rfl ?_; cbv; (repeat' (first
| (refine q1w (fun z hz => ?_); (try simp only at hz); cbv)
| (refine rqw ?_; cbv)
| (refine rq (show kfitQ _ _ from by simp [kfitQ, IntKind.min, IntKind.max, IntKind.signed, IntKind.bits]; omega) ?_; cbv)
| (refine chpA ?_; cbv)
| (refine QC.tw ?_; cbv)
| (refine QC.tt ?_ ?_; (focus (simp only [decide_true, Bool.and_true, Bool.and_self] <;> fail)); cbv)
| (refine QC.ff ?_ ?_; (focus (simp only [decide_true, Bool.and_true, Bool.and_self, decide_false, Bool.false_and, reduceCtorEq, not_false_eq_true] <;> fail)); cbv)
| (refine QC.fw ?_; cbv)
| (refine QC.mk (fun hc => ?_) (fun hc => ?_) <;> (try dsimp only at hc) <;> cbv)
| (refine br_mk2 (fun hb => ?_) (fun hb => ?_) <;> (try subst hb) <;> cbv))))
  (refine callq (g2) rfl rfl ?_; cbv; (repeat' (first
| (refine q1w (fun z hz => ?_); (try simp only at hz); cbv)
| (refine rqw ?_; cbv)
| (refine rq (show kfitQ _ _ from by simp [kfitQ, IntKind.min, IntKind.max, IntKind.signed, IntKind.bits]; omega) ?_; cbv)
| (refine chpA ?_; cbv)
| (refine QC.tw ?_; cbv)
| (refine QC.tt ?_ ?_; (focus (simp only [decide_true, Bool.and_true, Bool.and_self] <;> fail)); cbv)
| (refine QC.ff ?_ ?_; (focus (simp only [decide_true, Bool.and_true, Bool.and_self, decide_false, Bool.false_and, reduceCtorEq, not_false_eq_true] <;> fail)); cbv)
| (refine QC.fw ?_; cbv)
| (refine QC.mk (fun hc => ?_) (fun hc => ?_) <;> (try dsimp only at hc) <;> cbv)
| (refine br_mk2 (fun hb => ?_) (fun hb => ?_) <;> (try subst hb) <;> cbv))))
  (refine callq (g3) rfl rfl ?_; cbv; (repeat' (first
| (refine q1w (fun z hz => ?_); (try simp only at hz); cbv)
| (refine rqw ?_; cbv)
| (refine rq (show kfitQ _ _ from by simp [kfitQ, IntKind.min, IntKind.max, IntKind.signed, IntKind.bits]; omega) ?_; cbv)
| (refine chpA ?_; cbv)
| (refine QC.tw ?_; cbv)
| (refine QC.tt ?_ ?_; (focus (simp only [decide_true, Bool.and_true, Bool.and_self] <;> fail)); cbv)
| (refine QC.ff ?_ ?_; (focus (simp only [decide_true, Bool.and_true, Bool.and_self, decide_false, Bool.false_and, reduceCtorEq, not_false_eq_true] <;> fail)); cbv)
| (refine QC.fw ?_; cbv)
| (refine QC.mk (fun hc => ?_) (fun hc => ?_) <;> (try dsimp only at hc) <;> cbv)
| (refine br_mk2 (fun hb => ?_) (fun hb => ?_) <;> (try subst hb) <;> cbv))))
  (refine callq (g4) rfl rfl ?_; cbv; (repeat' (first
| (refine q1w (fun z hz => ?_); (try simp only at hz); cbv)
| (refine rqw ?_; cbv)
| (refine rq (show kfitQ _ _ from by simp [kfitQ, IntKind.min, IntKind.max, IntKind.signed, IntKind.bits]; omega) ?_; cbv)
| (refine chpA ?_; cbv)
| (refine QC.tw ?_; cbv)
| (refine QC.tt ?_ ?_; (focus (simp only [decide_true, Bool.and_true, Bool.and_self] <;> fail)); cbv)
| (refine QC.ff ?_ ?_; (focus (simp only [decide_true, Bool.and_true, Bool.and_self, decide_false, Bool.false_and, reduceCtorEq, not_false_eq_true] <;> fail)); cbv)
| (refine QC.fw ?_; cbv)
| (refine QC.mk (fun hc => ?_) (fun hc => ?_) <;> (try dsimp only at hc) <;> cbv)
| (refine br_mk2 (fun hb => ?_) (fun hb => ?_) <;> (try subst hb) <;> cbv))))
  (refine callq (g5) rfl rfl ?_; cbv; (repeat' (first
| (refine q1w (fun z hz => ?_); (try simp only at hz); cbv)
| (refine rqw ?_; cbv)
| (refine rq (show kfitQ _ _ from by simp [kfitQ, IntKind.min, IntKind.max, IntKind.signed, IntKind.bits]; omega) ?_; cbv)
| (refine chpA ?_; cbv)
| (refine QC.tw ?_; cbv)
| (refine QC.tt ?_ ?_; (focus (simp only [decide_true, Bool.and_true, Bool.and_self] <;> fail)); cbv)
| (refine QC.ff ?_ ?_; (focus (simp only [decide_true, Bool.and_true, Bool.and_self, decide_false, Bool.false_and, reduceCtorEq, not_false_eq_true] <;> fail)); cbv)
| (refine QC.fw ?_; cbv)
| (refine QC.mk (fun hc => ?_) (fun hc => ?_) <;> (try dsimp only at hc) <;> cbv)
| (refine br_mk2 (fun hb => ?_) (fun hb => ?_) <;> (try subst hb) <;> cbv))))
  (refine callq (g6) rfl rfl ?_; cbv; (repeat' (first
| (refine q1w (fun z hz => ?_); (try simp only at hz); cbv)
| (refine rqw ?_; cbv)
| (refine rq (show kfitQ _ _ from by simp [kfitQ, IntKind.min, IntKind.max, IntKind.signed, IntKind.bits]; omega) ?_; cbv)
| (refine chpA ?_; cbv)
| (refine QC.tw ?_; cbv)
| (refine QC.tt ?_ ?_; (focus (simp only [decide_true, Bool.and_true, Bool.and_self] <;> fail)); cbv)
| (refine QC.ff ?_ ?_; (focus (simp only [decide_true, Bool.and_true, Bool.and_self, decide_false, Bool.false_and, reduceCtorEq, not_false_eq_true] <;> fail)); cbv)
| (refine QC.fw ?_; cbv)
| (refine QC.mk (fun hc => ?_) (fun hc => ?_) <;> (try dsimp only at hc) <;> cbv)
| (refine br_mk2 (fun hb => ?_) (fun hb => ?_) <;> (try subst hb) <;> cbv))))
  have e1 : z = i1 := by omega
  subst e1
  (refine callr ?_; cbv; refine lrq (g7) ?_; cbv; (repeat' (first
| (refine q1w (fun z hz => ?_); (try simp only at hz); cbv)
| (refine rqw ?_; cbv)
| (refine rq (show kfitQ _ _ from by simp [kfitQ, IntKind.min, IntKind.max, IntKind.signed, IntKind.bits]; omega) ?_; cbv)
| (refine chpA ?_; cbv)
| (refine QC.tw ?_; cbv)
| (refine QC.tt ?_ ?_; (focus (simp only [decide_true, Bool.and_true, Bool.and_self] <;> fail)); cbv)
| (refine QC.ff ?_ ?_; (focus (simp only [decide_true, Bool.and_true, Bool.and_self, decide_false, Bool.false_and, reduceCtorEq, not_false_eq_true] <;> fail)); cbv)
| (refine QC.fw ?_; cbv)
| (refine QC.mk (fun hc => ?_) (fun hc => ?_) <;> (try dsimp only at hc) <;> cbv)
| (refine br_mk2 (fun hb => ?_) (fun hb => ?_) <;> (try subst hb) <;> cbv))))
  (refine callq (g8) rfl rfl ?_; cbv; (repeat' (first
| (refine q1w (fun z hz => ?_); (try simp only at hz); cbv)
| (refine rqw ?_; cbv)
| (refine rq (show kfitQ _ _ from by simp [kfitQ, IntKind.min, IntKind.max, IntKind.signed, IntKind.bits]; omega) ?_; cbv)
| (refine chpA ?_; cbv)
| (refine QC.tw ?_; cbv)
| (refine QC.tt ?_ ?_; (focus (simp only [decide_true, Bool.and_true, Bool.and_self] <;> fail)); cbv)
| (refine QC.ff ?_ ?_; (focus (simp only [decide_true, Bool.and_true, Bool.and_self, decide_false, Bool.false_and, reduceCtorEq, not_false_eq_true] <;> fail)); cbv)
| (refine QC.fw ?_; cbv)
| (refine QC.mk (fun hc => ?_) (fun hc => ?_) <;> (try dsimp only at hc) <;> cbv)
| (refine br_mk2 (fun hb => ?_) (fun hb => ?_) <;> (try subst hb) <;> cbv))))
  obtain ⟨M, hM⟩ : ∃ M, apL K1 [.agg [.int .i64 a, .int .u16 b, .int .u64 c, .int .u16 t, .int .i64 d, .int .u16 e, .int .u64 f, .int .u16 u, .int .i64 n, .int .i64 n, .int .i64 z]] = M := ⟨_, rfl⟩
  have hM2 := hM
  unfold apL at hM
  rw [hM]
  clear hM
  obtain ⟨j, hj⟩ : ∃ j, j = k1.length := ⟨_, rfl⟩
  have hM3 : M[j]? = some (.agg [.int .i64 a, .int .u16 b, .int .u64 c, .int .u16 t, .int .i64 d, .int .u16 e, .int .u64 f, .int .u16 u, .int .i64 n, .int .i64 n, .int .i64 z]) := by
    rw [← hM2, apL_eq, hj, ← hK1l]; simp
  have hM4 : M.length = j + 1 := by
    rw [← hM2, apL_eq, hj, ← hK1l]; simp
  refine qv j (by (first | omega | (simp only [cst] at *; omega) | (simp only [sm] at *; omega))) ?_
  cbv
  (repeat' (first
| (refine q1w (fun z hz => ?_); (try simp only at hz); cbv)
| (refine rqw ?_; cbv)
| (refine rq (show kfitQ _ _ from by simp [kfitQ, IntKind.min, IntKind.max, IntKind.signed, IntKind.bits]; omega) ?_; cbv)
| (refine chpA ?_; cbv)
| (refine QC.tw ?_; cbv)
| (refine QC.tt ?_ ?_; (focus (simp only [decide_true, Bool.and_true, Bool.and_self] <;> fail)); cbv)
| (refine QC.ff ?_ ?_; (focus (simp only [decide_true, Bool.and_true, Bool.and_self, decide_false, Bool.false_and, reduceCtorEq, not_false_eq_true] <;> fail)); cbv)
| (refine QC.fw ?_; cbv)
| (refine QC.mk (fun hc => ?_) (fun hc => ?_) <;> (try dsimp only at hc) <;> cbv)
| (refine br_mk2 (fun hb => ?_) (fun hb => ?_) <;> (try subst hb) <;> cbv)))
  (refine qv _ (hM3) ?_; cbv; (repeat' (first
| (refine q1w (fun z hz => ?_); (try simp only at hz); cbv)
| (refine rqw ?_; cbv)
| (refine rq (show kfitQ _ _ from by simp [kfitQ, IntKind.min, IntKind.max, IntKind.signed, IntKind.bits]; omega) ?_; cbv)
| (refine chpA ?_; cbv)
| (refine QC.tw ?_; cbv)
| (refine QC.tt ?_ ?_; (focus (simp only [decide_true, Bool.and_true, Bool.and_self] <;> fail)); cbv)
| (refine QC.ff ?_ ?_; (focus (simp only [decide_true, Bool.and_true, Bool.and_self, decide_false, Bool.false_and, reduceCtorEq, not_false_eq_true] <;> fail)); cbv)
| (refine QC.fw ?_; cbv)
| (refine QC.mk (fun hc => ?_) (fun hc => ?_) <;> (try dsimp only at hc) <;> cbv)
| (refine br_mk2 (fun hb => ?_) (fun hb => ?_) <;> (try subst hb) <;> cbv))))
  (refine qv _ (hM3) ?_; cbv; (repeat' (first
| (refine q1w (fun z hz => ?_); (try simp only at hz); cbv)
| (refine rqw ?_; cbv)
| (refine rq (show kfitQ _ _ from by simp [kfitQ, IntKind.min, IntKind.max, IntKind.signed, IntKind.bits]; omega) ?_; cbv)
| (refine chpA ?_; cbv)
| (refine QC.tw ?_; cbv)
| (refine QC.tt ?_ ?_; (focus (simp only [decide_true, Bool.and_true, Bool.and_self] <;> fail)); cbv)
| (refine QC.ff ?_ ?_; (focus (simp only [decide_true, Bool.and_true, Bool.and_self, decide_false, Bool.false_and, reduceCtorEq, not_false_eq_true] <;> fail)); cbv)
| (refine QC.fw ?_; cbv)
| (refine QC.mk (fun hc => ?_) (fun hc => ?_) <;> (try dsimp only at hc) <;> cbv)
| (refine br_mk2 (fun hb => ?_) (fun hb => ?_) <;> (try subst hb) <;> cbv))))
  (refine qv _ (hM3) ?_; cbv; (repeat' (first
| (refine q1w (fun z hz => ?_); (try simp only at hz); cbv)
| (refine rqw ?_; cbv)
| (refine rq (show kfitQ _ _ from by simp [kfitQ, IntKind.min, IntKind.max, IntKind.signed, IntKind.bits]; omega) ?_; cbv)
| (refine chpA ?_; cbv)
| (refine QC.tw ?_; cbv)
| (refine QC.tt ?_ ?_; (focus (simp only [decide_true, Bool.and_true, Bool.and_self] <;> fail)); cbv)
| (refine QC.ff ?_ ?_; (focus (simp only [decide_true, Bool.and_true, Bool.and_self, decide_false, Bool.false_and, reduceCtorEq, not_false_eq_true] <;> fail)); cbv)
| (refine QC.fw ?_; cbv)
| (refine QC.mk (fun hc => ?_) (fun hc => ?_) <;> (try dsimp only at hc) <;> cbv)
| (refine br_mk2 (fun hb => ?_) (fun hb => ?_) <;> (try subst hb) <;> cbv))))
  refine qv _ ⟨hM3, by simp⟩ ?_
  cbv
  (repeat' (first
| (refine q1w (fun z hz => ?_); (try simp only at hz); cbv)
| (refine rqw ?_; cbv)
| (refine rq (show kfitQ _ _ from by simp [kfitQ, IntKind.min, IntKind.max, IntKind.signed, IntKind.bits]; omega) ?_; cbv)
| (refine chpA ?_; cbv)
| (refine QC.tw ?_; cbv)
| (refine QC.tt ?_ ?_; (focus (simp only [decide_true, Bool.and_true, Bool.and_self] <;> fail)); cbv)
| (refine QC.ff ?_ ?_; (focus (simp only [decide_true, Bool.and_true, Bool.and_self, decide_false, Bool.false_and, reduceCtorEq, not_false_eq_true] <;> fail)); cbv)
| (refine QC.fw ?_; cbv)
| (refine QC.mk (fun hc => ?_) (fun hc => ?_) <;> (try dsimp only at hc) <;> cbv)
| (refine br_mk2 (fun hb => ?_) (fun hb => ?_) <;> (try subst hb) <;> cbv)))
  rename_i z5 hz5 z4 hz4 z3 hz3 z2 hz2 z1 hz1 z0 hz0
  have hleft : z = n - len := by (first | omega | (simp only [cst] at *; omega) | (simp only [sm] at *; omega))
  obtain ⟨M', hM'⟩ : ∃ M', O.st M j (.agg [.int .i64 a, .int .u16 b, .int .u64 c, .int .u16 t, .int .i64 d, .int .u16 e, .int .u64 f, .int .u16 u, .int .i64 n, .int .i64 z, .int .i64 z3]) = M' := ⟨_, rfl⟩
  have hM5 : M'[j]? = some (.agg [.int .i64 a, .int .u16 b, .int .u64 c, .int .u16 t, .int .i64 d, .int .u16 e, .int .u64 f, .int .u16 u, .int .i64 n, .int .i64 z, .int .i64 z3]) := by
    rw [← hM', ost]; simp [hM4]
  have hM6 : M' = K1 ++ [.agg [.int .i64 a, .int .u16 b, .int .u64 c, .int .u16 t, .int .i64 d, .int .u16 e, .int .u64 f, .int .u16 u, .int .i64 n, .int .i64 z, .int .i64 z3]] := by
    rw [← hM', ost, ← hM2, apL_eq, hj, ← hK1l]; simp
  have hM7 : K1 = M'.take j ++ M'.drop (j + 1) := by
    rw [hM6, hj, ← hK1l]; simp
  have hM8 : M'.length = j + 1 := by rw [hM6, hj, ← hK1l]; simp
  have hcp := cpX X z2 (.int .u8 0) (by (first | omega | (simp only [cst] at *; omega) | (simp only [sm] at *; omega)))
  refine qv _ (show (O.st M j _)[j]? = _ from by rw [hM']; exact hM5) ?_
  cbv
  (repeat' (first
| (refine q1w (fun z hz => ?_); (try simp only at hz); cbv)
| (refine rqw ?_; cbv)
| (refine rq (show kfitQ _ _ from by simp [kfitQ, IntKind.min, IntKind.max, IntKind.signed, IntKind.bits]; omega) ?_; cbv)
| (refine chpA ?_; cbv)
| (refine QC.tw ?_; cbv)
| (refine QC.tt ?_ ?_; (focus (simp only [decide_true, Bool.and_true, Bool.and_self] <;> fail)); cbv)
| (refine QC.ff ?_ ?_; (focus (simp only [decide_true, Bool.and_true, Bool.and_self, decide_false, Bool.false_and, reduceCtorEq, not_false_eq_true] <;> fail)); cbv)
| (refine QC.fw ?_; cbv)
| (refine QC.mk (fun hc => ?_) (fun hc => ?_) <;> (try dsimp only at hc) <;> cbv)
| (refine br_mk2 (fun hb => ?_) (fun hb => ?_) <;> (try subst hb) <;> cbv)))
  · rename_i z7 hc z6 hz6
    (refine callr ?_; cbv; refine lrq (delete_v (O.st M j _) K1 j (j + 1) z5 z (by (first | omega | (simp only [cst] at *; omega) | (simp only [sm] at *; omega))) (by (first | omega | (simp only [cst] at *; omega) | (simp only [sm] at *; omega))) (by rw [hM']; exact hM8) (by omega) (by omega) (by rw [hM']; exact hM7)) ?_; cbv; (repeat' (first
| (refine q1w (fun z hz => ?_); (try simp only at hz); cbv)
| (refine rqw ?_; cbv)
| (refine rq (show kfitQ _ _ from by simp [kfitQ, IntKind.min, IntKind.max, IntKind.signed, IntKind.bits]; omega) ?_; cbv)
| (refine chpA ?_; cbv)
| (refine QC.tw ?_; cbv)
| (refine QC.tt ?_ ?_; (focus (simp only [decide_true, Bool.and_true, Bool.and_self] <;> fail)); cbv)
| (refine QC.ff ?_ ?_; (focus (simp only [decide_true, Bool.and_true, Bool.and_self, decide_false, Bool.false_and, reduceCtorEq, not_false_eq_true] <;> fail)); cbv)
| (refine QC.fw ?_; cbv)
| (refine QC.mk (fun hc => ?_) (fun hc => ?_) <;> (try dsimp only at hc) <;> cbv)
| (refine br_mk2 (fun hb => ?_) (fun hb => ?_) <;> (try subst hb) <;> cbv))))
    refine ⟨?_, rfl, rfl⟩
    rw [hR, if_pos (by omega), ← hK1]
    show SV.tup [.lst (some 11) K1, .agg [.int .i64 n, .int .u16 u, .int .i64 0, .lst none (O.cp (O.rp z2 (.int .u8 0)) 0 (O.ln (O.rp z2 (.int .u8 0))) X)], .agg [.int .i64 d, .int .u16 e, .int .u64 f], .int .i64 0] = _
    rw [hcp]
  · refine ⟨?_, rfl, rfl⟩
    rw [hR, if_neg (by omega)]
    show SV.tup [.lst (some 11) (O.st M j _), .agg [.int .i64 n, .int .u16 u, .int .i64 0, .lst none (O.cp (O.rp z2 (.int .u8 0)) 0 (O.ln (O.rp z2 (.int .u8 0))) X)], .agg [.int .i64 d, .int .u16 e, .int .u64 f], .int .i64 0] = _
    rw [hcp, hM', hM6, hK1]
    simp [swL, Sw.v]
    omega
set_option maxRecDepth 4000 in
theorem fwd_first0 (l : List Sw) (L : List SV) (hL : L = swL l) (hf : ∀ x ∈ l, x.fits) (hv : VS l) (now : Int) (ht : timeT now = true) (a b c : Int) (hs : someA a b c = true) (n t : Int) (X : List SV) (len : Nat) (hX : X.length = len) (hok : validF n 0 len = true) (d e f u : Int) (hd : someA d e f = true)
    (k : List Sw) (hk : k = expF l now) (hi : -1 = idxI (hitI a b c t) k) (k1 : List Sw) (hk1 : k1 = k) (hk1l : k1.length ≤ 7) (hdup : k1.any (hitO d e f u) = false) (R : List SV) (hR : R = swL (if n - len ≤ 0 then k1 else k1 ++ [⟨a, b, c, t, d, e, f, u, n, n - len, min (now + 12) 1099511627776⟩])) :
    Good 18 (pu [.lst (some 11) L, .agg [.int .i64 a, .int .u16 b, .int .u64 c], .agg [.int .i64 n, .int .u16 t, .int .i64 0, .lst none X], .agg [.int .i64 d, .int .u16 e, .int .u64 f], .int .u16 u, .int .i64 now] (.tup [.lst (some 11) R, .agg [.int .i64 n, .int .u16 u, .int .i64 0, .lst none X], .agg [.int .i64 d, .int .u16 e, .int .u64 f], .int .i64 0])) := by
  have hlen := hv.1
  have htt := of_decide_eq_true ht
  have g1 := svalid_c l L hL (by omega) hf true ⟨fun _ => hv, fun _ => rfl⟩
  have g2 := place_c a b c true hs.symm
  obtain ⟨K, hK⟩ : ∃ K, K = swL k := ⟨_, rfl⟩
  have g5 := expire_n l L hL hf now K (by rw [hK, hk]) hv ht
  have hkl : k.length ≤ 8 := by rw [hk]; have := expF_len l now; omega
  have hKl : K.length = k.length := by rw [hK, swL_len]
  have hvl := of_decide_eq_true (show decide (1 ≤ n ∧ n ≤ 2047 ∧ 0 ≤ (0 : Int) ∧ 0 < n ∧ (0 : Int) % 8 = 0 ∧ 1 ≤ len ∧ (len : Int) ≤ n - 0 ∧ ((len : Int) = n - 0 ∨ len % 8 = 0)) = true from hok)
  have g3 := valid_c X n t 0 len true hX (by omega) (by omega) (by omega) hok.symm
  have g4 := place_c d e f true hd.symm
  have g6 := sindex_c k K hK (by omega) 36 a b c t (-1) (hitI a b c t) (fun _ _ _ _ _ _ _ _ _ _ _ => fwd1_c _ _ _ _ _ _ _ _ _ _ _ _ _ _ _ _ rfl) hi
  subst hk1
  obtain ⟨K1, hK1⟩ : ∃ K1, K1 = K := ⟨_, rfl⟩
  subst hK1
  have hK1 := hK
  have hK1l := hKl
  have g8 := scontains_c k1 K1 hK1 (by omega) 39 d e f u (hitO d e f u) (fun _ _ _ _ _ _ _ _ _ _ _ => fwd2_c _ _ _ _ _ _ _ _ _ _ _ _ _ _ _ _ rfl) false hdup.symm
  clear hi hdup
  refine Good.of Try.func18 rfl (by rfl) (by kernel_rfl) ?_
  cbv
  (repeat' (first
| (refine q1w (fun z hz => ?_); (try simp only at hz); cbv)
| (refine rqw ?_; cbv)
| (refine rq (show kfitQ _ _ from by simp [kfitQ, IntKind.min, IntKind.max, IntKind.signed, IntKind.bits]; omega) ?_; cbv)
| (refine chpA ?_; cbv)
| (refine QC.tw ?_; cbv)
| (refine QC.tt ?_ ?_; (focus (simp only [decide_true, Bool.and_true, Bool.and_self] <;> fail)); cbv)
| (refine QC.ff ?_ ?_; (focus (simp only [decide_true, Bool.and_true, Bool.and_self, decide_false, Bool.false_and, reduceCtorEq, not_false_eq_true] <;> fail)); cbv)
| (refine QC.fw ?_; cbv)
| (refine QC.mk (fun hc => ?_) (fun hc => ?_) <;> (try dsimp only at hc) <;> cbv)
| (refine br_mk2 (fun hb => ?_) (fun hb => ?_) <;> (try subst hb) <;> cbv)))
  (refine callq (g1) rfl rfl ?_; cbv; (repeat' (first
| (refine q1w (fun z hz => ?_); (try simp only at hz); cbv)
| (refine rqw ?_; cbv)
| (refine rq (show kfitQ _ _ from by simp [kfitQ, IntKind.min, IntKind.max, IntKind.signed, IntKind.bits]; omega) ?_; cbv)
| (refine chpA ?_; cbv)
| (refine QC.tw ?_; cbv)
| (refine QC.tt ?_ ?_; (focus (simp only [decide_true, Bool.and_true, Bool.and_self] <;> fail)); cbv)
| (refine QC.ff ?_ ?_; (focus (simp only [decide_true, Bool.and_true, Bool.and_self, decide_false, Bool.false_and, reduceCtorEq, not_false_eq_true] <;> fail)); cbv)
| (refine QC.fw ?_; cbv)
| (refine QC.mk (fun hc => ?_) (fun hc => ?_) <;> (try dsimp only at hc) <;> cbv)
| (refine br_mk2 (fun hb => ?_) (fun hb => ?_) <;> (try subst hb) <;> cbv))))
  (refine callq (g2) rfl rfl ?_; cbv; (repeat' (first
| (refine q1w (fun z hz => ?_); (try simp only at hz); cbv)
| (refine rqw ?_; cbv)
| (refine rq (show kfitQ _ _ from by simp [kfitQ, IntKind.min, IntKind.max, IntKind.signed, IntKind.bits]; omega) ?_; cbv)
| (refine chpA ?_; cbv)
| (refine QC.tw ?_; cbv)
| (refine QC.tt ?_ ?_; (focus (simp only [decide_true, Bool.and_true, Bool.and_self] <;> fail)); cbv)
| (refine QC.ff ?_ ?_; (focus (simp only [decide_true, Bool.and_true, Bool.and_self, decide_false, Bool.false_and, reduceCtorEq, not_false_eq_true] <;> fail)); cbv)
| (refine QC.fw ?_; cbv)
| (refine QC.mk (fun hc => ?_) (fun hc => ?_) <;> (try dsimp only at hc) <;> cbv)
| (refine br_mk2 (fun hb => ?_) (fun hb => ?_) <;> (try subst hb) <;> cbv))))
  (refine callq (g3) rfl rfl ?_; cbv; (repeat' (first
| (refine q1w (fun z hz => ?_); (try simp only at hz); cbv)
| (refine rqw ?_; cbv)
| (refine rq (show kfitQ _ _ from by simp [kfitQ, IntKind.min, IntKind.max, IntKind.signed, IntKind.bits]; omega) ?_; cbv)
| (refine chpA ?_; cbv)
| (refine QC.tw ?_; cbv)
| (refine QC.tt ?_ ?_; (focus (simp only [decide_true, Bool.and_true, Bool.and_self] <;> fail)); cbv)
| (refine QC.ff ?_ ?_; (focus (simp only [decide_true, Bool.and_true, Bool.and_self, decide_false, Bool.false_and, reduceCtorEq, not_false_eq_true] <;> fail)); cbv)
| (refine QC.fw ?_; cbv)
| (refine QC.mk (fun hc => ?_) (fun hc => ?_) <;> (try dsimp only at hc) <;> cbv)
| (refine br_mk2 (fun hb => ?_) (fun hb => ?_) <;> (try subst hb) <;> cbv))))
  (refine callq (g4) rfl rfl ?_; cbv; (repeat' (first
| (refine q1w (fun z hz => ?_); (try simp only at hz); cbv)
| (refine rqw ?_; cbv)
| (refine rq (show kfitQ _ _ from by simp [kfitQ, IntKind.min, IntKind.max, IntKind.signed, IntKind.bits]; omega) ?_; cbv)
| (refine chpA ?_; cbv)
| (refine QC.tw ?_; cbv)
| (refine QC.tt ?_ ?_; (focus (simp only [decide_true, Bool.and_true, Bool.and_self] <;> fail)); cbv)
| (refine QC.ff ?_ ?_; (focus (simp only [decide_true, Bool.and_true, Bool.and_self, decide_false, Bool.false_and, reduceCtorEq, not_false_eq_true] <;> fail)); cbv)
| (refine QC.fw ?_; cbv)
| (refine QC.mk (fun hc => ?_) (fun hc => ?_) <;> (try dsimp only at hc) <;> cbv)
| (refine br_mk2 (fun hb => ?_) (fun hb => ?_) <;> (try subst hb) <;> cbv))))
  (refine callq (g5) rfl rfl ?_; cbv; (repeat' (first
| (refine q1w (fun z hz => ?_); (try simp only at hz); cbv)
| (refine rqw ?_; cbv)
| (refine rq (show kfitQ _ _ from by simp [kfitQ, IntKind.min, IntKind.max, IntKind.signed, IntKind.bits]; omega) ?_; cbv)
| (refine chpA ?_; cbv)
| (refine QC.tw ?_; cbv)
| (refine QC.tt ?_ ?_; (focus (simp only [decide_true, Bool.and_true, Bool.and_self] <;> fail)); cbv)
| (refine QC.ff ?_ ?_; (focus (simp only [decide_true, Bool.and_true, Bool.and_self, decide_false, Bool.false_and, reduceCtorEq, not_false_eq_true] <;> fail)); cbv)
| (refine QC.fw ?_; cbv)
| (refine QC.mk (fun hc => ?_) (fun hc => ?_) <;> (try dsimp only at hc) <;> cbv)
| (refine br_mk2 (fun hb => ?_) (fun hb => ?_) <;> (try subst hb) <;> cbv))))
  (refine callq (g6) rfl rfl ?_; cbv; (repeat' (first
| (refine q1w (fun z hz => ?_); (try simp only at hz); cbv)
| (refine rqw ?_; cbv)
| (refine rq (show kfitQ _ _ from by simp [kfitQ, IntKind.min, IntKind.max, IntKind.signed, IntKind.bits]; omega) ?_; cbv)
| (refine chpA ?_; cbv)
| (refine QC.tw ?_; cbv)
| (refine QC.tt ?_ ?_; (focus (simp only [decide_true, Bool.and_true, Bool.and_self] <;> fail)); cbv)
| (refine QC.ff ?_ ?_; (focus (simp only [decide_true, Bool.and_true, Bool.and_self, decide_false, Bool.false_and, reduceCtorEq, not_false_eq_true] <;> fail)); cbv)
| (refine QC.fw ?_; cbv)
| (refine QC.mk (fun hc => ?_) (fun hc => ?_) <;> (try dsimp only at hc) <;> cbv)
| (refine br_mk2 (fun hb => ?_) (fun hb => ?_) <;> (try subst hb) <;> cbv))))
  (refine callq (g8) rfl rfl ?_; cbv; (repeat' (first
| (refine q1w (fun z hz => ?_); (try simp only at hz); cbv)
| (refine rqw ?_; cbv)
| (refine rq (show kfitQ _ _ from by simp [kfitQ, IntKind.min, IntKind.max, IntKind.signed, IntKind.bits]; omega) ?_; cbv)
| (refine chpA ?_; cbv)
| (refine QC.tw ?_; cbv)
| (refine QC.tt ?_ ?_; (focus (simp only [decide_true, Bool.and_true, Bool.and_self] <;> fail)); cbv)
| (refine QC.ff ?_ ?_; (focus (simp only [decide_true, Bool.and_true, Bool.and_self, decide_false, Bool.false_and, reduceCtorEq, not_false_eq_true] <;> fail)); cbv)
| (refine QC.fw ?_; cbv)
| (refine QC.mk (fun hc => ?_) (fun hc => ?_) <;> (try dsimp only at hc) <;> cbv)
| (refine br_mk2 (fun hb => ?_) (fun hb => ?_) <;> (try subst hb) <;> cbv))))
  obtain ⟨M, hM⟩ : ∃ M, apL K1 [.agg [.int .i64 a, .int .u16 b, .int .u64 c, .int .u16 t, .int .i64 d, .int .u16 e, .int .u64 f, .int .u16 u, .int .i64 n, .int .i64 n, .int .i64 z]] = M := ⟨_, rfl⟩
  have hM2 := hM
  unfold apL at hM
  rw [hM]
  clear hM
  obtain ⟨j, hj⟩ : ∃ j, j = k1.length := ⟨_, rfl⟩
  have hM3 : M[j]? = some (.agg [.int .i64 a, .int .u16 b, .int .u64 c, .int .u16 t, .int .i64 d, .int .u16 e, .int .u64 f, .int .u16 u, .int .i64 n, .int .i64 n, .int .i64 z]) := by
    rw [← hM2, apL_eq, hj, ← hK1l]; simp
  have hM4 : M.length = j + 1 := by
    rw [← hM2, apL_eq, hj, ← hK1l]; simp
  refine qv j (by (first | omega | (simp only [cst] at *; omega) | (simp only [sm] at *; omega))) ?_
  cbv
  (repeat' (first
| (refine q1w (fun z hz => ?_); (try simp only at hz); cbv)
| (refine rqw ?_; cbv)
| (refine rq (show kfitQ _ _ from by simp [kfitQ, IntKind.min, IntKind.max, IntKind.signed, IntKind.bits]; omega) ?_; cbv)
| (refine chpA ?_; cbv)
| (refine QC.tw ?_; cbv)
| (refine QC.tt ?_ ?_; (focus (simp only [decide_true, Bool.and_true, Bool.and_self] <;> fail)); cbv)
| (refine QC.ff ?_ ?_; (focus (simp only [decide_true, Bool.and_true, Bool.and_self, decide_false, Bool.false_and, reduceCtorEq, not_false_eq_true] <;> fail)); cbv)
| (refine QC.fw ?_; cbv)
| (refine QC.mk (fun hc => ?_) (fun hc => ?_) <;> (try dsimp only at hc) <;> cbv)
| (refine br_mk2 (fun hb => ?_) (fun hb => ?_) <;> (try subst hb) <;> cbv)))
  (refine qv _ (hM3) ?_; cbv; (repeat' (first
| (refine q1w (fun z hz => ?_); (try simp only at hz); cbv)
| (refine rqw ?_; cbv)
| (refine rq (show kfitQ _ _ from by simp [kfitQ, IntKind.min, IntKind.max, IntKind.signed, IntKind.bits]; omega) ?_; cbv)
| (refine chpA ?_; cbv)
| (refine QC.tw ?_; cbv)
| (refine QC.tt ?_ ?_; (focus (simp only [decide_true, Bool.and_true, Bool.and_self] <;> fail)); cbv)
| (refine QC.ff ?_ ?_; (focus (simp only [decide_true, Bool.and_true, Bool.and_self, decide_false, Bool.false_and, reduceCtorEq, not_false_eq_true] <;> fail)); cbv)
| (refine QC.fw ?_; cbv)
| (refine QC.mk (fun hc => ?_) (fun hc => ?_) <;> (try dsimp only at hc) <;> cbv)
| (refine br_mk2 (fun hb => ?_) (fun hb => ?_) <;> (try subst hb) <;> cbv))))
  (refine qv _ (hM3) ?_; cbv; (repeat' (first
| (refine q1w (fun z hz => ?_); (try simp only at hz); cbv)
| (refine rqw ?_; cbv)
| (refine rq (show kfitQ _ _ from by simp [kfitQ, IntKind.min, IntKind.max, IntKind.signed, IntKind.bits]; omega) ?_; cbv)
| (refine chpA ?_; cbv)
| (refine QC.tw ?_; cbv)
| (refine QC.tt ?_ ?_; (focus (simp only [decide_true, Bool.and_true, Bool.and_self] <;> fail)); cbv)
| (refine QC.ff ?_ ?_; (focus (simp only [decide_true, Bool.and_true, Bool.and_self, decide_false, Bool.false_and, reduceCtorEq, not_false_eq_true] <;> fail)); cbv)
| (refine QC.fw ?_; cbv)
| (refine QC.mk (fun hc => ?_) (fun hc => ?_) <;> (try dsimp only at hc) <;> cbv)
| (refine br_mk2 (fun hb => ?_) (fun hb => ?_) <;> (try subst hb) <;> cbv))))
  (refine qv _ (hM3) ?_; cbv; (repeat' (first
| (refine q1w (fun z hz => ?_); (try simp only at hz); cbv)
| (refine rqw ?_; cbv)
| (refine rq (show kfitQ _ _ from by simp [kfitQ, IntKind.min, IntKind.max, IntKind.signed, IntKind.bits]; omega) ?_; cbv)
| (refine chpA ?_; cbv)
| (refine QC.tw ?_; cbv)
| (refine QC.tt ?_ ?_; (focus (simp only [decide_true, Bool.and_true, Bool.and_self] <;> fail)); cbv)
| (refine QC.ff ?_ ?_; (focus (simp only [decide_true, Bool.and_true, Bool.and_self, decide_false, Bool.false_and, reduceCtorEq, not_false_eq_true] <;> fail)); cbv)
| (refine QC.fw ?_; cbv)
| (refine QC.mk (fun hc => ?_) (fun hc => ?_) <;> (try dsimp only at hc) <;> cbv)
| (refine br_mk2 (fun hb => ?_) (fun hb => ?_) <;> (try subst hb) <;> cbv))))
  refine qv _ ⟨hM3, by simp⟩ ?_
  cbv
  (repeat' (first
| (refine q1w (fun z hz => ?_); (try simp only at hz); cbv)
| (refine rqw ?_; cbv)
| (refine rq (show kfitQ _ _ from by simp [kfitQ, IntKind.min, IntKind.max, IntKind.signed, IntKind.bits]; omega) ?_; cbv)
| (refine chpA ?_; cbv)
| (refine QC.tw ?_; cbv)
| (refine QC.tt ?_ ?_; (focus (simp only [decide_true, Bool.and_true, Bool.and_self] <;> fail)); cbv)
| (refine QC.ff ?_ ?_; (focus (simp only [decide_true, Bool.and_true, Bool.and_self, decide_false, Bool.false_and, reduceCtorEq, not_false_eq_true] <;> fail)); cbv)
| (refine QC.fw ?_; cbv)
| (refine QC.mk (fun hc => ?_) (fun hc => ?_) <;> (try dsimp only at hc) <;> cbv)
| (refine br_mk2 (fun hb => ?_) (fun hb => ?_) <;> (try subst hb) <;> cbv)))
  rename_i z5 hz5 z4 hz4 z3 hz3 z2 hz2 z1 hz1 z0 hz0
  have hleft : z = n - len := by (first | omega | (simp only [cst] at *; omega) | (simp only [sm] at *; omega))
  obtain ⟨M', hM'⟩ : ∃ M', O.st M j (.agg [.int .i64 a, .int .u16 b, .int .u64 c, .int .u16 t, .int .i64 d, .int .u16 e, .int .u64 f, .int .u16 u, .int .i64 n, .int .i64 z, .int .i64 z3]) = M' := ⟨_, rfl⟩
  have hM5 : M'[j]? = some (.agg [.int .i64 a, .int .u16 b, .int .u64 c, .int .u16 t, .int .i64 d, .int .u16 e, .int .u64 f, .int .u16 u, .int .i64 n, .int .i64 z, .int .i64 z3]) := by
    rw [← hM', ost]; simp [hM4]
  have hM6 : M' = K1 ++ [.agg [.int .i64 a, .int .u16 b, .int .u64 c, .int .u16 t, .int .i64 d, .int .u16 e, .int .u64 f, .int .u16 u, .int .i64 n, .int .i64 z, .int .i64 z3]] := by
    rw [← hM', ost, ← hM2, apL_eq, hj, ← hK1l]; simp
  have hM7 : K1 = M'.take j ++ M'.drop (j + 1) := by
    rw [hM6, hj, ← hK1l]; simp
  have hM8 : M'.length = j + 1 := by rw [hM6, hj, ← hK1l]; simp
  have hcp := cpX X z2 (.int .u8 0) (by (first | omega | (simp only [cst] at *; omega) | (simp only [sm] at *; omega)))
  refine qv _ (show (O.st M j _)[j]? = _ from by rw [hM']; exact hM5) ?_
  cbv
  (repeat' (first
| (refine q1w (fun z hz => ?_); (try simp only at hz); cbv)
| (refine rqw ?_; cbv)
| (refine rq (show kfitQ _ _ from by simp [kfitQ, IntKind.min, IntKind.max, IntKind.signed, IntKind.bits]; omega) ?_; cbv)
| (refine chpA ?_; cbv)
| (refine QC.tw ?_; cbv)
| (refine QC.tt ?_ ?_; (focus (simp only [decide_true, Bool.and_true, Bool.and_self] <;> fail)); cbv)
| (refine QC.ff ?_ ?_; (focus (simp only [decide_true, Bool.and_true, Bool.and_self, decide_false, Bool.false_and, reduceCtorEq, not_false_eq_true] <;> fail)); cbv)
| (refine QC.fw ?_; cbv)
| (refine QC.mk (fun hc => ?_) (fun hc => ?_) <;> (try dsimp only at hc) <;> cbv)
| (refine br_mk2 (fun hb => ?_) (fun hb => ?_) <;> (try subst hb) <;> cbv)))
  · rename_i z7 hc z6 hz6
    (refine callr ?_; cbv; refine lrq (delete_v (O.st M j _) K1 j (j + 1) z5 z (by (first | omega | (simp only [cst] at *; omega) | (simp only [sm] at *; omega))) (by (first | omega | (simp only [cst] at *; omega) | (simp only [sm] at *; omega))) (by rw [hM']; exact hM8) (by omega) (by omega) (by rw [hM']; exact hM7)) ?_; cbv; (repeat' (first
| (refine q1w (fun z hz => ?_); (try simp only at hz); cbv)
| (refine rqw ?_; cbv)
| (refine rq (show kfitQ _ _ from by simp [kfitQ, IntKind.min, IntKind.max, IntKind.signed, IntKind.bits]; omega) ?_; cbv)
| (refine chpA ?_; cbv)
| (refine QC.tw ?_; cbv)
| (refine QC.tt ?_ ?_; (focus (simp only [decide_true, Bool.and_true, Bool.and_self] <;> fail)); cbv)
| (refine QC.ff ?_ ?_; (focus (simp only [decide_true, Bool.and_true, Bool.and_self, decide_false, Bool.false_and, reduceCtorEq, not_false_eq_true] <;> fail)); cbv)
| (refine QC.fw ?_; cbv)
| (refine QC.mk (fun hc => ?_) (fun hc => ?_) <;> (try dsimp only at hc) <;> cbv)
| (refine br_mk2 (fun hb => ?_) (fun hb => ?_) <;> (try subst hb) <;> cbv))))
    refine ⟨?_, rfl, rfl⟩
    rw [hR, if_pos (by omega), ← hK1]
    show SV.tup [.lst (some 11) K1, .agg [.int .i64 n, .int .u16 u, .int .i64 0, .lst none (O.cp (O.rp z2 (.int .u8 0)) 0 (O.ln (O.rp z2 (.int .u8 0))) X)], .agg [.int .i64 d, .int .u16 e, .int .u64 f], .int .i64 0] = _
    rw [hcp]
  · refine ⟨?_, rfl, rfl⟩
    rw [hR, if_neg (by omega)]
    show SV.tup [.lst (some 11) (O.st M j _), .agg [.int .i64 n, .int .u16 u, .int .i64 0, .lst none (O.cp (O.rp z2 (.int .u8 0)) 0 (O.ln (O.rp z2 (.int .u8 0))) X)], .agg [.int .i64 d, .int .u16 e, .int .u64 f], .int .i64 0] = _
    rw [hcp, hM', hM6, hK1]
    simp [swL, Sw.v]
    omega
end Go.Proofs.Ytplcajgoigpneaa
