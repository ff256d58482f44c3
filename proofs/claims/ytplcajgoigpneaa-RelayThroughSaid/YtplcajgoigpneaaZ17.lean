/- Texts put together: LM. -/
import Derived.Test.YtplcajgoigpneaaZ16
namespace Go.Proofs.Ytplcajgoigpneaa
set_option linter.unusedVariables false
set_option linter.unusedSimpArgs false
open Go.RowKit
set_option maxHeartbeats 8000000
set_option maxRecDepth 4000 in
theorem rfwd_miss0 (l : List Sw) (L : List SV) (hL : L = swL l) (hv : VS l) (now : Int) (ht : timeT now = true) (a b c : Int) (hs : someA a b c = true) (n t o : Int) (X : List SV) (len : Nat) (hX : X.length = len) (hok : validF n o len = true) (ho : o ≠ 0) (d e f u : Int)
    (k : List Sw) (hk : k = expF l now) (hi : -1 = idxI (hitI a b c t) k) :
    Good 19 (pu [.lst (some 11) L, .agg [.int .i64 a, .int .u16 b, .int .u64 c], .agg [.int .i64 n, .int .u16 t, .int .i64 o, .lst none X], .agg [.int .i64 d, .int .u16 e, .int .u64 f], .int .u16 u, .int .i64 now] (.tup [.lst (some 11) [], .agg [.int .i64 0, .int .u16 0, .int .i64 0, .nil], .agg [.int .i64 0, .int .u16 0, .int .u64 0], .int .i64 9])) := by
  have hlen := hv.1
  have htt := of_decide_eq_true ht
  have g1 := srvalid_c l L hL (by omega) true ⟨fun _ => hv, fun _ => rfl⟩
  have g2 := some_c a b c true hs.symm
  obtain ⟨K, hK⟩ : ∃ K, K = swL k := ⟨_, rfl⟩
  have g5 := rexpire_n l L hL now K (by rw [hK, hk]) hv ht
  have hkl : k.length ≤ 8 := by rw [hk]; have := expF_len l now; omega
  have hKl : K.length = k.length := by rw [hK, swL_len]
  have hvl := of_decide_eq_true (show decide (1 ≤ n ∧ n ≤ 2047 ∧ 0 ≤ o ∧ o < n ∧ o % 8 = 0 ∧ 1 ≤ len ∧ (len : Int) ≤ n - o ∧ ((len : Int) = n - o ∨ len % 8 = 0)) = true from hok)
  have g3 := rvalid_c X n t o len true hX (by omega) (by omega) (by omega) hok.symm
  have g6 := find_c k K hK (by omega) a b c t (-1) hi
  clear hi
  refine Good.of Try.func19 rfl (by rfl) (by kernel_rfl) ?_
  cbv
  (repeat' (first
| (refine q1w (fun z hz => ?_); (try simp only at hz); cbv)
| (refine rqw ?_; cbv)
| (refine rq (show kfitQ _ _ from by simp [kfitQ, IntKind.min, IntKind.max, IntKind.signed, IntKind.bits]; omega) ?_; cbv)
| (refine chpA ?_; cbv)
| (refine QC.tw ?_; cbv)
| (refine QC.tt ?_ ?_; (focus (simp only [decide_true, Bool.and_true, Bool.and_self] <;> fail)); cbv)
| (refine QC.ff ?_ ?_; (focus (simp only [decide_true, Bool.and_true, Bool.and_self, decide_false, Bool.false_and, reduceCtorEq, not_false_eq_true] <;> fail)); cbv)
| (refine QC.fw ?_; cbv)
| (refine QC.mk (fun hc => ?_) (fun hc => ?_) <;> (try dsimp only at hc) <;> cbv)
| (refine br_mk2 (fun hb => ?_) (fun hb => ?_) <;> (try subst hb) <;> cbv)))
  (refine callq (g1) rfl rfl ?_; cbv; (repeat' (first
| (refine q1w (fun z hz => ?_); (try simp only at hz); cbv)
| (refine rqw ?_; cbv)
| (refine rq (show kfitQ _ _ from by simp [kfitQ, IntKind.min, IntKind.max, IntKind.signed, IntKind.bits]; omega) ?_; cbv)
| (refine chpA ?_; cbv)
| (refine QC.tw ?_; cbv)
| (refine QC.tt ?_ ?_; (focus (simp only [decide_true, Bool.and_true, Bool.and_self] <;> fail)); cbv)
| (refine QC.ff ?_ ?_; (focus (simp only [decide_true, Bool.and_true, Bool.and_self, decide_false, Bool.false_and, reduceCtorEq, not_false_eq_true] <;> fail)); cbv)
| (refine QC.fw ?_; cbv)
| (refine QC.mk (fun hc => ?_) (fun hc => ?_) <;> (try dsimp only at hc) <;> cbv)
| (refine br_mk2 (fun hb => ?_) (fun hb => ?_) <;> (try subst hb) <;> cbv))))
  (refine callq (g2) rfl rfl ?_; cbv; (repeat' (first
| (refine q1w (fun z hz => ?_); (try simp only at hz); cbv)
| (refine rqw ?_; cbv)
| (refine rq (show kfitQ _ _ from by simp [kfitQ, IntKind.min, IntKind.max, IntKind.signed, IntKind.bits]; omega) ?_; cbv)
| (refine chpA ?_; cbv)
| (refine QC.tw ?_; cbv)
| (refine QC.tt ?_ ?_; (focus (simp only [decide_true, Bool.and_true, Bool.and_self] <;> fail)); cbv)
| (refine QC.ff ?_ ?_; (focus (simp only [decide_true, Bool.and_true, Bool.and_self, decide_false, Bool.false_and, reduceCtorEq, not_false_eq_true] <;> fail)); cbv)
| (refine QC.fw ?_; cbv)
| (refine QC.mk (fun hc => ?_) (fun hc => ?_) <;> (try dsimp only at hc) <;> cbv)
| (refine br_mk2 (fun hb => ?_) (fun hb => ?_) <;> (try subst hb) <;> cbv))))
  (refine callq (g3) rfl rfl ?_; cbv; (repeat' (first
| (refine q1w (fun z hz => ?_); (try simp only at hz); cbv)
| (refine rqw ?_; cbv)
| (refine rq (show kfitQ _ _ from by simp [kfitQ, IntKind.min, IntKind.max, IntKind.signed, IntKind.bits]; omega) ?_; cbv)
| (refine chpA ?_; cbv)
| (refine QC.tw ?_; cbv)
| (refine QC.tt ?_ ?_; (focus (simp only [decide_true, Bool.and_true, Bool.and_self] <;> fail)); cbv)
| (refine QC.ff ?_ ?_; (focus (simp only [decide_true, Bool.and_true, Bool.and_self, decide_false, Bool.false_and, reduceCtorEq, not_false_eq_true] <;> fail)); cbv)
| (refine QC.fw ?_; cbv)
| (refine QC.mk (fun hc => ?_) (fun hc => ?_) <;> (try dsimp only at hc) <;> cbv)
| (refine br_mk2 (fun hb => ?_) (fun hb => ?_) <;> (try subst hb) <;> cbv))))
  (refine callq (g5) rfl rfl ?_; cbv; (repeat' (first
| (refine q1w (fun z hz => ?_); (try simp only at hz); cbv)
| (refine rqw ?_; cbv)
| (refine rq (show kfitQ _ _ from by simp [kfitQ, IntKind.min, IntKind.max, IntKind.signed, IntKind.bits]; omega) ?_; cbv)
| (refine chpA ?_; cbv)
| (refine QC.tw ?_; cbv)
| (refine QC.tt ?_ ?_; (focus (simp only [decide_true, Bool.and_true, Bool.and_self] <;> fail)); cbv)
| (refine QC.ff ?_ ?_; (focus (simp only [decide_true, Bool.and_true, Bool.and_self, decide_false, Bool.false_and, reduceCtorEq, not_false_eq_true] <;> fail)); cbv)
| (refine QC.fw ?_; cbv)
| (refine QC.mk (fun hc => ?_) (fun hc => ?_) <;> (try dsimp only at hc) <;> cbv)
| (refine br_mk2 (fun hb => ?_) (fun hb => ?_) <;> (try subst hb) <;> cbv))))
  (refine callq (g6) rfl rfl ?_; cbv; (repeat' (first
| (refine q1w (fun z hz => ?_); (try simp only at hz); cbv)
| (refine rqw ?_; cbv)
| (refine rq (show kfitQ _ _ from by simp [kfitQ, IntKind.min, IntKind.max, IntKind.signed, IntKind.bits]; omega) ?_; cbv)
| (refine chpA ?_; cbv)
| (refine QC.tw ?_; cbv)
| (refine QC.tt ?_ ?_; (focus (simp only [decide_true, Bool.and_true, Bool.and_self] <;> fail)); cbv)
| (refine QC.ff ?_ ?_; (focus (simp only [decide_true, Bool.and_true, Bool.and_self, decide_false, Bool.false_and, reduceCtorEq, not_false_eq_true] <;> fail)); cbv)
| (refine QC.fw ?_; cbv)
| (refine QC.mk (fun hc => ?_) (fun hc => ?_) <;> (try dsimp only at hc) <;> cbv)
| (refine br_mk2 (fun hb => ?_) (fun hb => ?_) <;> (try subst hb) <;> cbv))))
  exact ⟨rfl, rfl, rfl⟩
set_option maxRecDepth 4000 in
theorem rfwd_miss1 (l : List Sw) (L : List SV) (hL : L = swL l) (hv : VS l) (now : Int) (ht : timeT now = true) (a b c : Int) (hs : someA a b c = true) (n t o : Int) (X : List SV) (len : Nat) (hX : X.length = len) (hok : validF n o len = true) (ho : o ≠ 0) (d e f u : Int)
    (k : List Sw) (hk : k = expF l now) (i : Nat) (hi : (i : Int) = idxI (hitI a b c t) k) (xa xb xc xt xd xe xf xu xz xl xw : Int) (hx : k[i]? = some ⟨xa, xb, xc, xt, xd, xe, xf, xu, xz, xl, xw⟩) (hz : xz ≠ n) :
    Good 19 (pu [.lst (some 11) L, .agg [.int .i64 a, .int .u16 b, .int .u64 c], .agg [.int .i64 n, .int .u16 t, .int .i64 o, .lst none X], .agg [.int .i64 d, .int .u16 e, .int .u64 f], .int .u16 u, .int .i64 now] (.tup [.lst (some 11) [], .agg [.int .i64 0, .int .u16 0, .int .i64 0, .nil], .agg [.int .i64 0, .int .u16 0, .int .u64 0], .int .i64 9])) := by
  have hlen := hv.1
  have htt := of_decide_eq_true ht
  have g1 := srvalid_c l L hL (by omega) true ⟨fun _ => hv, fun _ => rfl⟩
  have g2 := some_c a b c true hs.symm
  obtain ⟨K, hK⟩ : ∃ K, K = swL k := ⟨_, rfl⟩
  have g5 := rexpire_n l L hL now K (by rw [hK, hk]) hv ht
  have hkl : k.length ≤ 8 := by rw [hk]; have := expF_len l now; omega
  have hKl : K.length = k.length := by rw [hK, swL_len]
  have hvl := of_decide_eq_true (show decide (1 ≤ n ∧ n ≤ 2047 ∧ 0 ≤ o ∧ o < n ∧ o % 8 = 0 ∧ 1 ≤ len ∧ (len : Int) ≤ n - o ∧ ((len : Int) = n - o ∨ len % 8 = 0)) = true from hok)
  have g3 := rvalid_c X n t o len true hX (by omega) (by omega) (by omega) hok.symm
  obtain ⟨i0, hi0⟩ : ∃ i0 : Int, i0 = i := ⟨_, rfl⟩
  have g6 := find_c k K hK (by omega) a b c t i0 (by rw [hi0, hi])
  have hil : i < k.length := (List.getElem?_eq_some_iff.1 hx).1
  have hM3 : K[i]? = some (.agg [.int .i64 xa, .int .u16 xb, .int .u64 xc, .int .u16 xt, .int .i64 xd, .int .u16 xe, .int .u64 xf, .int .u16 xu, .int .i64 xz, .int .i64 xl, .int .i64 xw]) := by
    rw [hK, swL, List.getElem?_map, hx]; rfl
  clear hi
  refine Good.of Try.func19 rfl (by rfl) (by kernel_rfl) ?_
  cbv
  (repeat' (first
| (refine q1w (fun z hz => ?_); (try simp only at hz); cbv)
| (refine rqw ?_; cbv)
| (refine rq (show kfitQ _ _ from by simp [kfitQ, IntKind.min, IntKind.max, IntKind.signed, IntKind.bits]; omega) ?_; cbv)
| (refine chpA ?_; cbv)
| (refine QC.tw ?_; cbv)
| (refine QC.tt ?_ ?_; (focus (simp only [decide_true, Bool.and_true, Bool.and_self] <;> fail)); cbv)
| (refine QC.ff ?_ ?_; (focus (simp only [decide_true, Bool.and_true, Bool.and_self, decide_false, Bool.false_and, reduceCtorEq, not_false_eq_true] <;> fail)); cbv)
| (refine QC.fw ?_; cbv)
| (refine QC.mk (fun hc => ?_) (fun hc => ?_) <;> (try dsimp only at hc) <;> cbv)
| (refine br_mk2 (fun hb => ?_) (fun hb => ?_) <;> (try subst hb) <;> cbv)))
  (refine callq (g1) rfl rfl ?_; cbv; (repeat' (first
| (refine q1w (fun z hz => ?_); (try simp only at hz); cbv)
| (refine rqw ?_; cbv)
| (refine rq (show kfitQ _ _ from by simp [kfitQ, IntKind.min, IntKind.max, IntKind.signed, IntKind.bits]; omega) ?_; cbv)
| (refine chpA ?_; cbv)
| (refine QC.tw ?_; cbv)
| (refine QC.tt ?_ ?_; (focus (simp only [decide_true, Bool.and_true, Bool.and_self] <;> fail)); cbv)
| (refine QC.ff ?_ ?_; (focus (simp only [decide_true, Bool.and_true, Bool.and_self, decide_false, Bool.false_and, reduceCtorEq, not_false_eq_true] <;> fail)); cbv)
| (refine QC.fw ?_; cbv)
| (refine QC.mk (fun hc => ?_) (fun hc => ?_) <;> (try dsimp only at hc) <;> cbv)
| (refine br_mk2 (fun hb => ?_) (fun hb => ?_) <;> (try subst hb) <;> cbv))))
  (refine callq (g2) rfl rfl ?_; cbv; (repeat' (first
| (refine q1w (fun z hz => ?_); (try simp only at hz); cbv)
| (refine rqw ?_; cbv)
| (refine rq (show kfitQ _ _ from by simp [kfitQ, IntKind.min, IntKind.max, IntKind.signed, IntKind.bits]; omega) ?_; cbv)
| (refine chpA ?_; cbv)
| (refine QC.tw ?_; cbv)
| (refine QC.tt ?_ ?_; (focus (simp only [decide_true, Bool.and_true, Bool.and_self] <;> fail)); cbv)
| (refine QC.ff ?_ ?_; (focus (simp only [decide_true, Bool.and_true, Bool.and_self, decide_false, Bool.false_and, reduceCtorEq, not_false_eq_true] <;> fail)); cbv)
| (refine QC.fw ?_; cbv)
| (refine QC.mk (fun hc => ?_) (fun hc => ?_) <;> (try dsimp only at hc) <;> cbv)
| (refine br_mk2 (fun hb => ?_) (fun hb => ?_) <;> (try subst hb) <;> cbv))))
  (refine callq (g3) rfl rfl ?_; cbv; (repeat' (first
| (refine q1w (fun z hz => ?_); (try simp only at hz); cbv)
| (refine rqw ?_; cbv)
| (refine rq (show kfitQ _ _ from by simp [kfitQ, IntKind.min, IntKind.max, IntKind.signed, IntKind.bits]; omega) ?_; cbv)
| (refine chpA ?_; cbv)
| (refine QC.tw ?_; cbv)
| (refine QC.tt ?_ ?_; (focus (simp only [decide_true, Bool.and_true, Bool.and_self] <;> fail)); cbv)
| (refine QC.ff ?_ ?_; (focus (simp only [decide_true, Bool.and_true, Bool.and_self, decide_false, Bool.false_and, reduceCtorEq, not_false_eq_true] <;> fail)); cbv)
| (refine QC.fw ?_; cbv)
| (refine QC.mk (fun hc => ?_) (fun hc => ?_) <;> (try dsimp only at hc) <;> cbv)
| (refine br_mk2 (fun hb => ?_) (fun hb => ?_) <;> (try subst hb) <;> cbv))))
  (refine callq (g5) rfl rfl ?_; cbv; (repeat' (first
| (refine q1w (fun z hz => ?_); (try simp only at hz); cbv)
| (refine rqw ?_; cbv)
| (refine rq (show kfitQ _ _ from by simp [kfitQ, IntKind.min, IntKind.max, IntKind.signed, IntKind.bits]; omega) ?_; cbv)
| (refine chpA ?_; cbv)
| (refine QC.tw ?_; cbv)
| (refine QC.tt ?_ ?_; (focus (simp only [decide_true, Bool.and_true, Bool.and_self] <;> fail)); cbv)
| (refine QC.ff ?_ ?_; (focus (simp only [decide_true, Bool.and_true, Bool.and_self, decide_false, Bool.false_and, reduceCtorEq, not_false_eq_true] <;> fail)); cbv)
| (refine QC.fw ?_; cbv)
| (refine QC.mk (fun hc => ?_) (fun hc => ?_) <;> (try dsimp only at hc) <;> cbv)
| (refine br_mk2 (fun hb => ?_) (fun hb => ?_) <;> (try subst hb) <;> cbv))))
  (refine callq (g6) rfl rfl ?_; cbv; (repeat' (first
| (refine q1w (fun z hz => ?_); (try simp only at hz); cbv)
| (refine rqw ?_; cbv)
| (refine rq (show kfitQ _ _ from by simp [kfitQ, IntKind.min, IntKind.max, IntKind.signed, IntKind.bits]; omega) ?_; cbv)
| (refine chpA ?_; cbv)
| (refine QC.tw ?_; cbv)
| (refine QC.tt ?_ ?_; (focus (simp only [decide_true, Bool.and_true, Bool.and_self] <;> fail)); cbv)
| (refine QC.ff ?_ ?_; (focus (simp only [decide_true, Bool.and_true, Bool.and_self, decide_false, Bool.false_and, reduceCtorEq, not_false_eq_true] <;> fail)); cbv)
| (refine QC.fw ?_; cbv)
| (refine QC.mk (fun hc => ?_) (fun hc => ?_) <;> (try dsimp only at hc) <;> cbv)
| (refine br_mk2 (fun hb => ?_) (fun hb => ?_) <;> (try subst hb) <;> cbv))))
  (refine qv (i) (by (first | omega | (simp only [cst] at *; omega) | (simp only [sm] at *; omega))) ?_; cbv; (repeat' (first
| (refine q1w (fun z hz => ?_); (try simp only at hz); cbv)
| (refine rqw ?_; cbv)
| (refine rq (show kfitQ _ _ from by simp [kfitQ, IntKind.min, IntKind.max, IntKind.signed, IntKind.bits]; omega) ?_; cbv)
| (refine chpA ?_; cbv)
| (refine QC.tw ?_; cbv)
| (refine QC.tt ?_ ?_; (focus (simp only [decide_true, Bool.and_true, Bool.and_self] <;> fail)); cbv)
| (refine QC.ff ?_ ?_; (focus (simp only [decide_true, Bool.and_true, Bool.and_self, decide_false, Bool.false_and, reduceCtorEq, not_false_eq_true] <;> fail)); cbv)
| (refine QC.fw ?_; cbv)
| (refine QC.mk (fun hc => ?_) (fun hc => ?_) <;> (try dsimp only at hc) <;> cbv)
| (refine br_mk2 (fun hb => ?_) (fun hb => ?_) <;> (try subst hb) <;> cbv))))
  (refine qv _ (hM3) ?_; cbv; (repeat' (first
| (refine q1w (fun z hz => ?_); (try simp only at hz); cbv)
| (refine rqw ?_; cbv)
| (refine rq (show kfitQ _ _ from by simp [kfitQ, IntKind.min, IntKind.max, IntKind.signed, IntKind.bits]; omega) ?_; cbv)
| (refine chpA ?_; cbv)
| (refine QC.tw ?_; cbv)
| (refine QC.tt ?_ ?_; (focus (simp only [decide_true, Bool.and_true, Bool.and_self] <;> fail)); cbv)
| (refine QC.ff ?_ ?_; (focus (simp only [decide_true, Bool.and_true, Bool.and_self, decide_false, Bool.false_and, reduceCtorEq, not_false_eq_true] <;> fail)); cbv)
| (refine QC.fw ?_; cbv)
| (refine QC.mk (fun hc => ?_) (fun hc => ?_) <;> (try dsimp only at hc) <;> cbv)
| (refine br_mk2 (fun hb => ?_) (fun hb => ?_) <;> (try subst hb) <;> cbv))))
  exact ⟨rfl, rfl, rfl⟩
set_option maxRecDepth 4000 in
theorem rfwd_next1 (l : List Sw) (L : List SV) (hL : L = swL l) (hv : VS l) (now : Int) (ht : timeT now = true) (a b c : Int) (hs : someA a b c = true) (n t o : Int) (X : List SV) (len : Nat) (hX : X.length = len) (hok : validF n o len = true) (ho : o ≠ 0) (d e f u : Int)
    (k : List Sw) (hk : k = expF l now) (i : Nat) (hi : (i : Int) = idxI (hitI a b c t) k) (xa xb xc xt xd xe xf xu xl xw : Int) (hx : k[i]? = some ⟨xa, xb, xc, xt, xd, xe, xf, xu, n, xl, xw⟩) (hxl : -9223372036854775808 + 2047 ≤ xl ∧ xl ≤ 9223372036854775807) (R : List SV) (hR : R = swL (if xl - len ≤ 0 then delN k i else k.set i ⟨xa, xb, xc, xt, xd, xe, xf, xu, n, xl - len, xw⟩)) :
    Good 19 (pu [.lst (some 11) L, .agg [.int .i64 a, .int .u16 b, .int .u64 c], .agg [.int .i64 n, .int .u16 t, .int .i64 o, .lst none X], .agg [.int .i64 d, .int .u16 e, .int .u64 f], .int .u16 u, .int .i64 now] (.tup [.lst (some 11) R, .agg [.int .i64 n, .int .u16 xu, .int .i64 o, .lst none X], .agg [.int .i64 xd, .int .u16 xe, .int .u64 xf], .int .i64 0])) := by
  have hlen := hv.1
  have htt := of_decide_eq_true ht
  have g1 := srvalid_c l L hL (by omega) true ⟨fun _ => hv, fun _ => rfl⟩
  have g2 := some_c a b c true hs.symm
  obtain ⟨K, hK⟩ : ∃ K, K = swL k := ⟨_, rfl⟩
  have g5 := rexpire_n l L hL now K (by rw [hK, hk]) hv ht
  have hkl : k.length ≤ 8 := by rw [hk]; have := expF_len l now; omega
  have hKl : K.length = k.length := by rw [hK, swL_len]
  have hvl := of_decide_eq_true (show decide (1 ≤ n ∧ n ≤ 2047 ∧ 0 ≤ o ∧ o < n ∧ o % 8 = 0 ∧ 1 ≤ len ∧ (len : Int) ≤ n - o ∧ ((len : Int) = n - o ∨ len % 8 = 0)) = true from hok)
  have g3 := rvalid_c X n t o len true hX (by omega) (by omega) (by omega) hok.symm
  obtain ⟨xz, hxz⟩ : ∃ xz, xz = n := ⟨_, rfl⟩
  rw [← hxz] at hx hR
  obtain ⟨i0, hi0⟩ : ∃ i0 : Int, i0 = i := ⟨_, rfl⟩
  have g6 := find_c k K hK (by omega) a b c t i0 (by rw [hi0, hi])
  have hil : i < k.length := (List.getElem?_eq_some_iff.1 hx).1
  have hM3 : K[i]? = some (.agg [.int .i64 xa, .int .u16 xb, .int .u64 xc, .int .u16 xt, .int .i64 xd, .int .u16 xe, .int .u64 xf, .int .u16 xu, .int .i64 xz, .int .i64 xl, .int .i64 xw]) := by
    rw [hK, swL, List.getElem?_map, hx]; rfl
  clear hi
  refine Good.of Try.func19 rfl (by rfl) (by kernel_rfl) ?_
  cbv
  (repeat' (first
| (refine q1w (fun z hz => ?_); (try simp only at hz); cbv)
| (refine rqw ?_; cbv)
| (refine rq (show kfitQ _ _ from by simp [kfitQ, IntKind.min, IntKind.max, IntKind.signed, IntKind.bits]; omega) ?_; cbv)
| (refine chpA ?_; cbv)
| (refine QC.tw ?_; cbv)
| (refine QC.tt ?_ ?_; (focus (simp only [decide_true, Bool.and_true, Bool.and_self] <;> fail)); cbv)
| (refine QC.ff ?_ ?_; (focus (simp only [decide_true, Bool.and_true, Bool.and_self, decide_false, Bool.false_and, reduceCtorEq, not_false_eq_true] <;> fail)); cbv)
| (refine QC.fw ?_; cbv)
| (refine QC.mk (fun hc => ?_) (fun hc => ?_) <;> (try dsimp only at hc) <;> cbv)
| (refine br_mk2 (fun hb => ?_) (fun hb => ?_) <;> (try subst hb) <;> cbv)))
  (refine callq (g1) rfl rfl ?_; cbv; (repeat' (first
| (refine q1w (fun z hz => ?_); (try simp only at hz); cbv)
| (refine rqw ?_; cbv)
| (refine rq (show kfitQ _ _ from by simp [kfitQ, IntKind.min, IntKind.max, IntKind.signed, IntKind.bits]; omega) ?_; cbv)
| (refine chpA ?_; cbv)
| (refine QC.tw ?_; cbv)
| (refine QC.tt ?_ ?_; (focus (simp only [decide_true, Bool.and_true, Bool.and_self] <;> fail)); cbv)
| (refine QC.ff ?_ ?_; (focus (simp only [decide_true, Bool.and_true, Bool.and_self, decide_false, Bool.false_and, reduceCtorEq, not_false_eq_true] <;> fail)); cbv)
| (refine QC.fw ?_; cbv)
| (refine QC.mk (fun hc => ?_) (fun hc => ?_) <;> (try dsimp only at hc) <;> cbv)
| (refine br_mk2 (fun hb => ?_) (fun hb => ?_) <;> (try subst hb) <;> cbv))))
  (refine callq (g2) rfl rfl ?_; cbv; (repeat' (first
| (refine q1w (fun z hz => ?_); (try simp only at hz); cbv)
| (refine rqw ?_; cbv)
| (refine rq (show kfitQ _ _ from by simp [kfitQ, IntKind.min, IntKind.max, IntKind.signed, IntKind.bits]; omega) ?_; cbv)
| (refine chpA ?_; cbv)
| (refine QC.tw ?_; cbv)
| (refine QC.tt ?_ ?_; (focus (simp only [decide_true, Bool.and_true, Bool.and_self] <;> fail)); cbv)
| (refine QC.ff ?_ ?_; (focus (simp only [decide_true, Bool.and_true, Bool.and_self, decide_false, Bool.false_and, reduceCtorEq, not_false_eq_true] <;> fail)); cbv)
| (refine QC.fw ?_; cbv)
| (refine QC.mk (fun hc => ?_) (fun hc => ?_) <;> (try dsimp only at hc) <;> cbv)
| (refine br_mk2 (fun hb => ?_) (fun hb => ?_) <;> (try subst hb) <;> cbv))))
  (refine callq (g3) rfl rfl ?_; cbv; (repeat' (first
| (refine q1w (fun z hz => ?_); (try simp only at hz); cbv)
| (refine rqw ?_; cbv)
| (refine rq (show kfitQ _ _ from by simp [kfitQ, IntKind.min, IntKind.max, IntKind.signed, IntKind.bits]; omega) ?_; cbv)
| (refine chpA ?_; cbv)
| (refine QC.tw ?_; cbv)
| (refine QC.tt ?_ ?_; (focus (simp only [decide_true, Bool.and_true, Bool.and_self] <;> fail)); cbv)
| (refine QC.ff ?_ ?_; (focus (simp only [decide_true, Bool.and_true, Bool.and_self, decide_false, Bool.false_and, reduceCtorEq, not_false_eq_true] <;> fail)); cbv)
| (refine QC.fw ?_; cbv)
| (refine QC.mk (fun hc => ?_) (fun hc => ?_) <;> (try dsimp only at hc) <;> cbv)
| (refine br_mk2 (fun hb => ?_) (fun hb => ?_) <;> (try subst hb) <;> cbv))))
  (refine callq (g5) rfl rfl ?_; cbv; (repeat' (first
| (refine q1w (fun z hz => ?_); (try simp only at hz); cbv)
| (refine rqw ?_; cbv)
| (refine rq (show kfitQ _ _ from by simp [kfitQ, IntKind.min, IntKind.max, IntKind.signed, IntKind.bits]; omega) ?_; cbv)
| (refine chpA ?_; cbv)
| (refine QC.tw ?_; cbv)
| (refine QC.tt ?_ ?_; (focus (simp only [decide_true, Bool.and_true, Bool.and_self] <;> fail)); cbv)
| (refine QC.ff ?_ ?_; (focus (simp only [decide_true, Bool.and_true, Bool.and_self, decide_false, Bool.false_and, reduceCtorEq, not_false_eq_true] <;> fail)); cbv)
| (refine QC.fw ?_; cbv)
| (refine QC.mk (fun hc => ?_) (fun hc => ?_) <;> (try dsimp only at hc) <;> cbv)
| (refine br_mk2 (fun hb => ?_) (fun hb => ?_) <;> (try subst hb) <;> cbv))))
  (refine callq (g6) rfl rfl ?_; cbv; (repeat' (first
| (refine q1w (fun z hz => ?_); (try simp only at hz); cbv)
| (refine rqw ?_; cbv)
| (refine rq (show kfitQ _ _ from by simp [kfitQ, IntKind.min, IntKind.max, IntKind.signed, IntKind.bits]; omega) ?_; cbv)
| (refine chpA ?_; cbv)
| (refine QC.tw ?_; cbv)
| (refine QC.tt ?_ ?_; (focus (simp only [decide_true, Bool.and_true, Bool.and_self] <;> fail)); cbv)
| (refine QC.ff ?_ ?_; (focus (simp only [decide_true, Bool.and_true, Bool.and_self, decide_false, Bool.false_and, reduceCtorEq, not_false_eq_true] <;> fail)); cbv)
| (refine QC.fw ?_; cbv)
| (refine QC.mk (fun hc => ?_) (fun hc => ?_) <;> (try dsimp only at hc) <;> cbv)
| (refine br_mk2 (fun hb => ?_) (fun hb => ?_) <;> (try subst hb) <;> cbv))))
  (refine qv (i) (by (first | omega | (simp only [cst] at *; omega) | (simp only [sm] at *; omega))) ?_; cbv; (repeat' (first
| (refine q1w (fun z hz => ?_); (try simp only at hz); cbv)
| (refine rqw ?_; cbv)
| (refine rq (show kfitQ _ _ from by simp [kfitQ, IntKind.min, IntKind.max, IntKind.signed, IntKind.bits]; omega) ?_; cbv)
| (refine chpA ?_; cbv)
| (refine QC.tw ?_; cbv)
| (refine QC.tt ?_ ?_; (focus (simp only [decide_true, Bool.and_true, Bool.and_self] <;> fail)); cbv)
| (refine QC.ff ?_ ?_; (focus (simp only [decide_true, Bool.and_true, Bool.and_self, decide_false, Bool.false_and, reduceCtorEq, not_false_eq_true] <;> fail)); cbv)
| (refine QC.fw ?_; cbv)
| (refine QC.mk (fun hc => ?_) (fun hc => ?_) <;> (try dsimp only at hc) <;> cbv)
| (refine br_mk2 (fun hb => ?_) (fun hb => ?_) <;> (try subst hb) <;> cbv))))
  (refine qv _ (hM3) ?_; cbv; (repeat' (first
| (refine q1w (fun z hz => ?_); (try simp only at hz); cbv)
| (refine rqw ?_; cbv)
| (refine rq (show kfitQ _ _ from by simp [kfitQ, IntKind.min, IntKind.max, IntKind.signed, IntKind.bits]; omega) ?_; cbv)
| (refine chpA ?_; cbv)
| (refine QC.tw ?_; cbv)
| (refine QC.tt ?_ ?_; (focus (simp only [decide_true, Bool.and_true, Bool.and_self] <;> fail)); cbv)
| (refine QC.ff ?_ ?_; (focus (simp only [decide_true, Bool.and_true, Bool.and_self, decide_false, Bool.false_and, reduceCtorEq, not_false_eq_true] <;> fail)); cbv)
| (refine QC.fw ?_; cbv)
| (refine QC.mk (fun hc => ?_) (fun hc => ?_) <;> (try dsimp only at hc) <;> cbv)
| (refine br_mk2 (fun hb => ?_) (fun hb => ?_) <;> (try subst hb) <;> cbv))))
  (refine qv (i) (by (first | omega | (simp only [cst] at *; omega) | (simp only [sm] at *; omega))) ?_; cbv; (repeat' (first
| (refine q1w (fun z hz => ?_); (try simp only at hz); cbv)
| (refine rqw ?_; cbv)
| (refine rq (show kfitQ _ _ from by simp [kfitQ, IntKind.min, IntKind.max, IntKind.signed, IntKind.bits]; omega) ?_; cbv)
| (refine chpA ?_; cbv)
| (refine QC.tw ?_; cbv)
| (refine QC.tt ?_ ?_; (focus (simp only [decide_true, Bool.and_true, Bool.and_self] <;> fail)); cbv)
| (refine QC.ff ?_ ?_; (focus (simp only [decide_true, Bool.and_true, Bool.and_self, decide_false, Bool.false_and, reduceCtorEq, not_false_eq_true] <;> fail)); cbv)
| (refine QC.fw ?_; cbv)
| (refine QC.mk (fun hc => ?_) (fun hc => ?_) <;> (try dsimp only at hc) <;> cbv)
| (refine br_mk2 (fun hb => ?_) (fun hb => ?_) <;> (try subst hb) <;> cbv))))
  (refine qv _ (hM3) ?_; cbv; (repeat' (first
| (refine q1w (fun z hz => ?_); (try simp only at hz); cbv)
| (refine rqw ?_; cbv)
| (refine rq (show kfitQ _ _ from by simp [kfitQ, IntKind.min, IntKind.max, IntKind.signed, IntKind.bits]; omega) ?_; cbv)
| (refine chpA ?_; cbv)
| (refine QC.tw ?_; cbv)
| (refine QC.tt ?_ ?_; (focus (simp only [decide_true, Bool.and_true, Bool.and_self] <;> fail)); cbv)
| (refine QC.ff ?_ ?_; (focus (simp only [decide_true, Bool.and_true, Bool.and_self, decide_false, Bool.false_and, reduceCtorEq, not_false_eq_true] <;> fail)); cbv)
| (refine QC.fw ?_; cbv)
| (refine QC.mk (fun hc => ?_) (fun hc => ?_) <;> (try dsimp only at hc) <;> cbv)
| (refine br_mk2 (fun hb => ?_) (fun hb => ?_) <;> (try subst hb) <;> cbv))))
  (refine qv (i) (by (first | omega | (simp only [cst] at *; omega) | (simp only [sm] at *; omega))) ?_; cbv; (repeat' (first
| (refine q1w (fun z hz => ?_); (try simp only at hz); cbv)
| (refine rqw ?_; cbv)
| (refine rq (show kfitQ _ _ from by simp [kfitQ, IntKind.min, IntKind.max, IntKind.signed, IntKind.bits]; omega) ?_; cbv)
| (refine chpA ?_; cbv)
| (refine QC.tw ?_; cbv)
| (refine QC.tt ?_ ?_; (focus (simp only [decide_true, Bool.and_true, Bool.and_self] <;> fail)); cbv)
| (refine QC.ff ?_ ?_; (focus (simp only [decide_true, Bool.and_true, Bool.and_self, decide_false, Bool.false_and, reduceCtorEq, not_false_eq_true] <;> fail)); cbv)
| (refine QC.fw ?_; cbv)
| (refine QC.mk (fun hc => ?_) (fun hc => ?_) <;> (try dsimp only at hc) <;> cbv)
| (refine br_mk2 (fun hb => ?_) (fun hb => ?_) <;> (try subst hb) <;> cbv))))
  (refine qv _ (hM3) ?_; cbv; (repeat' (first
| (refine q1w (fun z hz => ?_); (try simp only at hz); cbv)
| (refine rqw ?_; cbv)
| (refine rq (show kfitQ _ _ from by simp [kfitQ, IntKind.min, IntKind.max, IntKind.signed, IntKind.bits]; omega) ?_; cbv)
| (refine chpA ?_; cbv)
| (refine QC.tw ?_; cbv)
| (refine QC.tt ?_ ?_; (focus (simp only [decide_true, Bool.and_true, Bool.and_self] <;> fail)); cbv)
| (refine QC.ff ?_ ?_; (focus (simp only [decide_true, Bool.and_true, Bool.and_self, decide_false, Bool.false_and, reduceCtorEq, not_false_eq_true] <;> fail)); cbv)
| (refine QC.fw ?_; cbv)
| (refine QC.mk (fun hc => ?_) (fun hc => ?_) <;> (try dsimp only at hc) <;> cbv)
| (refine br_mk2 (fun hb => ?_) (fun hb => ?_) <;> (try subst hb) <;> cbv))))
  (refine qv (i) (by (first | omega | (simp only [cst] at *; omega) | (simp only [sm] at *; omega))) ?_; cbv; (repeat' (first
| (refine q1w (fun z hz => ?_); (try simp only at hz); cbv)
| (refine rqw ?_; cbv)
| (refine rq (show kfitQ _ _ from by simp [kfitQ, IntKind.min, IntKind.max, IntKind.signed, IntKind.bits]; omega) ?_; cbv)
| (refine chpA ?_; cbv)
| (refine QC.tw ?_; cbv)
| (refine QC.tt ?_ ?_; (focus (simp only [decide_true, Bool.and_true, Bool.and_self] <;> fail)); cbv)
| (refine QC.ff ?_ ?_; (focus (simp only [decide_true, Bool.and_true, Bool.and_self, decide_false, Bool.false_and, reduceCtorEq, not_false_eq_true] <;> fail)); cbv)
| (refine QC.fw ?_; cbv)
| (refine QC.mk (fun hc => ?_) (fun hc => ?_) <;> (try dsimp only at hc) <;> cbv)
| (refine br_mk2 (fun hb => ?_) (fun hb => ?_) <;> (try subst hb) <;> cbv))))
  refine qv _ ⟨hM3, by simp⟩ ?_
  cbv
  (repeat' (first
| (refine q1w (fun z hz => ?_); (try simp only at hz); cbv)
| (refine rqw ?_; cbv)
| (refine rq (show kfitQ _ _ from by simp [kfitQ, IntKind.min, IntKind.max, IntKind.signed, IntKind.bits]; omega) ?_; cbv)
| (refine chpA ?_; cbv)
| (refine QC.tw ?_; cbv)
| (refine QC.tt ?_ ?_; (focus (simp only [decide_true, Bool.and_true, Bool.and_self] <;> fail)); cbv)
| (refine QC.ff ?_ ?_; (focus (simp only [decide_true, Bool.and_true, Bool.and_self, decide_false, Bool.false_and, reduceCtorEq, not_false_eq_true] <;> fail)); cbv)
| (refine QC.fw ?_; cbv)
| (refine QC.mk (fun hc => ?_) (fun hc => ?_) <;> (try dsimp only at hc) <;> cbv)
| (refine br_mk2 (fun hb => ?_) (fun hb => ?_) <;> (try subst hb) <;> cbv)))
  have hleft : z = xl - len := by (first | omega | (simp only [cst] at *; omega) | (simp only [sm] at *; omega))
  obtain ⟨M', hM'⟩ : ∃ M', O.st K i (.agg [.int .i64 xa, .int .u16 xb, .int .u64 xc, .int .u16 xt, .int .i64 xd, .int .u16 xe, .int .u64 xf, .int .u16 xu, .int .i64 xz, .int .i64 z, .int .i64 xw]) = M' := ⟨_, rfl⟩
  have hM6 : M' = K.set i (.agg [.int .i64 xa, .int .u16 xb, .int .u64 xc, .int .u16 xt, .int .i64 xd, .int .u16 xe, .int .u64 xf, .int .u16 xu, .int .i64 xz, .int .i64 z, .int .i64 xw]) := by
    rw [← hM', ost]
  have hM5 : M'[i]? = some (.agg [.int .i64 xa, .int .u16 xb, .int .u64 xc, .int .u16 xt, .int .i64 xd, .int .u16 xe, .int .u64 xf, .int .u16 xu, .int .i64 xz, .int .i64 z, .int .i64 xw]) := by
    rw [hM6]; simp [hKl, hil]
  obtain ⟨K1, hK1⟩ : ∃ K1, K1 = swL (delN k i) := ⟨_, rfl⟩
  have hM7 : K1 = delN M' i := by
    rw [hM6, hK1, hK]
    simp only [delN]
    rw [List.take_set_of_le (by omega), List.drop_set_of_lt (by omega)]
    simp [swL]
  have hM8 : M'.length = k.length := by rw [hM6]; simp [hKl]
  refine qv i ⟨by (first | omega | (simp only [cst] at *; omega) | (simp only [sm] at *; omega)), show i < O.ln (O.st K i _) from by rw [hM', oln]; omega⟩ ?_
  cbv
  (repeat' (first
| (refine q1w (fun z hz => ?_); (try simp only at hz); cbv)
| (refine rqw ?_; cbv)
| (refine rq (show kfitQ _ _ from by simp [kfitQ, IntKind.min, IntKind.max, IntKind.signed, IntKind.bits]; omega) ?_; cbv)
| (refine chpA ?_; cbv)
| (refine QC.tw ?_; cbv)
| (refine QC.tt ?_ ?_; (focus (simp only [decide_true, Bool.and_true, Bool.and_self] <;> fail)); cbv)
| (refine QC.ff ?_ ?_; (focus (simp only [decide_true, Bool.and_true, Bool.and_self, decide_false, Bool.false_and, reduceCtorEq, not_false_eq_true] <;> fail)); cbv)
| (refine QC.fw ?_; cbv)
| (refine QC.mk (fun hc => ?_) (fun hc => ?_) <;> (try dsimp only at hc) <;> cbv)
| (refine br_mk2 (fun hb => ?_) (fun hb => ?_) <;> (try subst hb) <;> cbv)))
  refine qv _ (show (O.st K i _)[i]? = _ from by rw [hM']; exact hM5) ?_
  cbv
  (repeat' (first
| (refine q1w (fun z hz => ?_); (try simp only at hz); cbv)
| (refine rqw ?_; cbv)
| (refine rq (show kfitQ _ _ from by simp [kfitQ, IntKind.min, IntKind.max, IntKind.signed, IntKind.bits]; omega) ?_; cbv)
| (refine chpA ?_; cbv)
| (refine QC.tw ?_; cbv)
| (refine QC.tt ?_ ?_; (focus (simp only [decide_true, Bool.and_true, Bool.and_self] <;> fail)); cbv)
| (refine QC.ff ?_ ?_; (focus (simp only [decide_true, Bool.and_true, Bool.and_self, decide_false, Bool.false_and, reduceCtorEq, not_false_eq_true] <;> fail)); cbv)
| (refine QC.fw ?_; cbv)
| (refine QC.mk (fun hc => ?_) (fun hc => ?_) <;> (try dsimp only at hc) <;> cbv)
| (refine br_mk2 (fun hb => ?_) (fun hb => ?_) <;> (try subst hb) <;> cbv)))
  · (refine callq (drop_c (O.st K i _) k.length i i0 hi0 (by rw [hM']; exact hM8) (by omega) (by omega) K1 (by rw [hM']; exact hM7)) rfl rfl ?_; cbv; (repeat' (first
| (refine q1w (fun z hz => ?_); (try simp only at hz); cbv)
| (refine rqw ?_; cbv)
| (refine rq (show kfitQ _ _ from by simp [kfitQ, IntKind.min, IntKind.max, IntKind.signed, IntKind.bits]; omega) ?_; cbv)
| (refine chpA ?_; cbv)
| (refine QC.tw ?_; cbv)
| (refine QC.tt ?_ ?_; (focus (simp only [decide_true, Bool.and_true, Bool.and_self] <;> fail)); cbv)
| (refine QC.ff ?_ ?_; (focus (simp only [decide_true, Bool.and_true, Bool.and_self, decide_false, Bool.false_and, reduceCtorEq, not_false_eq_true] <;> fail)); cbv)
| (refine QC.fw ?_; cbv)
| (refine QC.mk (fun hc => ?_) (fun hc => ?_) <;> (try dsimp only at hc) <;> cbv)
| (refine br_mk2 (fun hb => ?_) (fun hb => ?_) <;> (try subst hb) <;> cbv))))
    refine ⟨?_, rfl, rfl⟩
    rw [hR, if_pos (by omega), ← hK1, ← hxz]
  · refine ⟨?_, rfl, rfl⟩
    rw [hR, if_neg (by omega), ← hxz]
    show SV.tup [.lst (some 11) (O.st K i _), .agg [.int .i64 xz, .int .u16 xu, .int .i64 o, .lst none X], .agg [.int .i64 xd, .int .u16 xe, .int .u64 xf], .int .i64 0] = _
    rw [hM', hM6, hK, hleft]
    simp [swL, Sw.v, List.map_set]
set_option maxRecDepth 4000 in
theorem rfwd_no (l : List Sw) (L : List SV) (hL : L = swL l) (hl : l.length ≤ 3600000000000) (a b c n t o : Int) (X : List SV) (len : Nat) (hX : X.length = len) (hlen : len ≤ 140737488355328) (hn : -9223372036854775808 ≤ n ∧ n ≤ 9223372036854775807) (ho : -9223372036854775808 ≤ o ∧ o ≤ 9223372036854775807) (d e f u now er : Int)
    (h : (¬ ForV l a b c n o len d e f ∧ er = 1) ∨ (ForV l a b c n o len d e f ∧ timeT now = false ∧ er = 2)) :
    Good 19 (pu [.lst (some 11) L, .agg [.int .i64 a, .int .u16 b, .int .u64 c], .agg [.int .i64 n, .int .u16 t, .int .i64 o, .lst none X], .agg [.int .i64 d, .int .u16 e, .int .u64 f], .int .u16 u, .int .i64 now] (.tup [.lst (some 11) [], .agg [.int .i64 0, .int .u16 0, .int .i64 0, .nil], .agg [.int .i64 0, .int .u16 0, .int .u64 0], .int .i64 er])) := by
  obtain ⟨b1, hb1⟩ : ∃ r, r = true ↔ VS l := ⟨@decide (VS l) (Classical.propDecidable _), by simp⟩
  obtain ⟨b2, hb2⟩ : ∃ r, r = someA a b c := ⟨_, rfl⟩
  obtain ⟨b3, hb3⟩ : ∃ r, r = validF n o len := ⟨_, rfl⟩
  obtain ⟨b4, hb4⟩ : ∃ r, r = someA d e f := ⟨_, rfl⟩
  have g1 := srvalid_c l L hL hl b1 hb1
  have g2 := some_c a b c b2 hb2
  have g3 := rvalid_c X n t o len b3 hX hlen hn ho hb3
  have g4 := some_c d e f b4 hb4
  unfold ForV at h
  have W : Wrap ((b1 = false → er = 1) ∧ (b2 = false → er = 1) ∧ (b3 = false → er = 1) ∧ (o = 0 → b4 = false → er = 1) ∧ (b1 = true → b2 = true → b3 = true → (o = 0 → b4 = true) → er = 2 ∧ VS l ∧ timeT now = false)) := by
    have key : (VS l ∧ someA a b c = true ∧ validF n o len = true ∧ (o = 0 → someA d e f = true) → er = 2 ∧ VS l ∧ timeT now = false) ∧ (¬ (VS l ∧ someA a b c = true ∧ validF n o len = true ∧ (o = 0 → someA d e f = true)) → er = 1) := by
      rcases h with ⟨h1, h2⟩ | ⟨h1, h2, h3⟩
      · exact ⟨fun h => absurd h h1, fun _ => h2⟩
      · exact ⟨fun h => ⟨h3, h1.1, h2⟩, fun h => absurd h1 h⟩
    refine ⟨fun h1 => key.2 fun hh => ?_, fun h1 => key.2 fun hh => ?_, fun h1 => key.2 fun hh => ?_, fun h0 h1 => key.2 fun hh => ?_, fun h1 h2 h3 h4 => key.1 ⟨hb1.1 h1, hb2.symm.trans h2, hb3.symm.trans h3, fun h0 => hb4.symm.trans (h4 h0)⟩⟩
    · rw [hb1.2 hh.1] at h1; cases h1
    · rw [hb2, hh.2.1] at h1; cases h1
    · rw [hb3, hh.2.2.1] at h1; cases h1
    · rw [hb4, hh.2.2.2 h0] at h1; cases h1
  have g5 : VS l → timeT now = false → Good 31 (pu [.lst (some 11) L, .int .i64 now] (.tup [.lst (some 11) [], .int .i64 2])) := fun h1 h2 => rexpire_no l L hL hl now 2 (.inr ⟨h1, h2, rfl⟩)
  clear hb1 hb2 hb3 hb4 h
  refine Good.of Try.func19 rfl (by rfl) (by kernel_rfl) ?_
  cbv
  (repeat' (first
| (refine q1w (fun z hz => ?_); (try simp only at hz); cbv)
| (refine rqw ?_; cbv)
| (refine rq (show kfitQ _ _ from by simp [kfitQ, IntKind.min, IntKind.max, IntKind.signed, IntKind.bits]; omega) ?_; cbv)
| (refine chpA ?_; cbv)
| (refine QC.tw ?_; cbv)
| (refine QC.tt ?_ ?_; (focus (simp only [decide_true, Bool.and_true, Bool.and_self] <;> fail)); cbv)
| (refine QC.ff ?_ ?_; (focus (simp only [decide_true, Bool.and_true, Bool.and_self, decide_false, Bool.false_and, reduceCtorEq, not_false_eq_true] <;> fail)); cbv)
| (refine QC.fw ?_; cbv)
| (refine QC.mk (fun hc => ?_) (fun hc => ?_) <;> (try dsimp only at hc) <;> cbv)
| (refine br_mk2 (fun hb => ?_) (fun hb => ?_) <;> (try subst hb) <;> cbv)))
  · (refine callq (g1) rfl rfl ?_; cbv; (repeat' (first
| (refine q1w (fun z hz => ?_); (try simp only at hz); cbv)
| (refine rqw ?_; cbv)
| (refine rq (show kfitQ _ _ from by simp [kfitQ, IntKind.min, IntKind.max, IntKind.signed, IntKind.bits]; omega) ?_; cbv)
| (refine chpA ?_; cbv)
| (refine QC.tw ?_; cbv)
| (refine QC.tt ?_ ?_; (focus (simp only [decide_true, Bool.and_true, Bool.and_self] <;> fail)); cbv)
| (refine QC.ff ?_ ?_; (focus (simp only [decide_true, Bool.and_true, Bool.and_self, decide_false, Bool.false_and, reduceCtorEq, not_false_eq_true] <;> fail)); cbv)
| (refine QC.fw ?_; cbv)
| (refine QC.mk (fun hc => ?_) (fun hc => ?_) <;> (try dsimp only at hc) <;> cbv)
| (refine br_mk2 (fun hb => ?_) (fun hb => ?_) <;> (try subst hb) <;> cbv))))
    · (refine callq (g2) rfl rfl ?_; cbv; (repeat' (first
| (refine q1w (fun z hz => ?_); (try simp only at hz); cbv)
| (refine rqw ?_; cbv)
| (refine rq (show kfitQ _ _ from by simp [kfitQ, IntKind.min, IntKind.max, IntKind.signed, IntKind.bits]; omega) ?_; cbv)
| (refine chpA ?_; cbv)
| (refine QC.tw ?_; cbv)
| (refine QC.tt ?_ ?_; (focus (simp only [decide_true, Bool.and_true, Bool.and_self] <;> fail)); cbv)
| (refine QC.ff ?_ ?_; (focus (simp only [decide_true, Bool.and_true, Bool.and_self, decide_false, Bool.false_and, reduceCtorEq, not_false_eq_true] <;> fail)); cbv)
| (refine QC.fw ?_; cbv)
| (refine QC.mk (fun hc => ?_) (fun hc => ?_) <;> (try dsimp only at hc) <;> cbv)
| (refine br_mk2 (fun hb => ?_) (fun hb => ?_) <;> (try subst hb) <;> cbv))))
      · (refine callq (g3) rfl rfl ?_; cbv; (repeat' (first
| (refine q1w (fun z hz => ?_); (try simp only at hz); cbv)
| (refine rqw ?_; cbv)
| (refine rq (show kfitQ _ _ from by simp [kfitQ, IntKind.min, IntKind.max, IntKind.signed, IntKind.bits]; omega) ?_; cbv)
| (refine chpA ?_; cbv)
| (refine QC.tw ?_; cbv)
| (refine QC.tt ?_ ?_; (focus (simp only [decide_true, Bool.and_true, Bool.and_self] <;> fail)); cbv)
| (refine QC.ff ?_ ?_; (focus (simp only [decide_true, Bool.and_true, Bool.and_self, decide_false, Bool.false_and, reduceCtorEq, not_false_eq_true] <;> fail)); cbv)
| (refine QC.fw ?_; cbv)
| (refine QC.mk (fun hc => ?_) (fun hc => ?_) <;> (try dsimp only at hc) <;> cbv)
| (refine br_mk2 (fun hb => ?_) (fun hb => ?_) <;> (try subst hb) <;> cbv))))
        · (refine callq (g4) rfl rfl ?_; cbv; (repeat' (first
| (refine q1w (fun z hz => ?_); (try simp only at hz); cbv)
| (refine rqw ?_; cbv)
| (refine rq (show kfitQ _ _ from by simp [kfitQ, IntKind.min, IntKind.max, IntKind.signed, IntKind.bits]; omega) ?_; cbv)
| (refine chpA ?_; cbv)
| (refine QC.tw ?_; cbv)
| (refine QC.tt ?_ ?_; (focus (simp only [decide_true, Bool.and_true, Bool.and_self] <;> fail)); cbv)
| (refine QC.ff ?_ ?_; (focus (simp only [decide_true, Bool.and_true, Bool.and_self, decide_false, Bool.false_and, reduceCtorEq, not_false_eq_true] <;> fail)); cbv)
| (refine QC.fw ?_; cbv)
| (refine QC.mk (fun hc => ?_) (fun hc => ?_) <;> (try dsimp only at hc) <;> cbv)
| (refine br_mk2 (fun hb => ?_) (fun hb => ?_) <;> (try subst hb) <;> cbv))))
          · have h123 := W.h.2.2.2.2 rfl rfl rfl (fun _ => rfl)
            have g6 := g5 h123.2.1 h123.2.2
            (refine callq (g6) rfl rfl ?_; cbv; (repeat' (first
| (refine q1w (fun z hz => ?_); (try simp only at hz); cbv)
| (refine rqw ?_; cbv)
| (refine rq (show kfitQ _ _ from by simp [kfitQ, IntKind.min, IntKind.max, IntKind.signed, IntKind.bits]; omega) ?_; cbv)
| (refine chpA ?_; cbv)
| (refine QC.tw ?_; cbv)
| (refine QC.tt ?_ ?_; (focus (simp only [decide_true, Bool.and_true, Bool.and_self] <;> fail)); cbv)
| (refine QC.ff ?_ ?_; (focus (simp only [decide_true, Bool.and_true, Bool.and_self, decide_false, Bool.false_and, reduceCtorEq, not_false_eq_true] <;> fail)); cbv)
| (refine QC.fw ?_; cbv)
| (refine QC.mk (fun hc => ?_) (fun hc => ?_) <;> (try dsimp only at hc) <;> cbv)
| (refine br_mk2 (fun hb => ?_) (fun hb => ?_) <;> (try subst hb) <;> cbv))))
            refine ⟨?_, rfl, rfl⟩
            rw [h123.1]
          · skip
            refine ⟨?_, rfl, rfl⟩
            rw [show er = 1 by first | exact W.h.1 rfl | exact W.h.2.1 rfl | exact W.h.2.2.1 rfl | exact W.h.2.2.2.1 (by omega) rfl]
        · skip
          refine ⟨?_, rfl, rfl⟩
          rw [show er = 1 by first | exact W.h.1 rfl | exact W.h.2.1 rfl | exact W.h.2.2.1 rfl | exact W.h.2.2.2.1 (by omega) rfl]
      · skip
        refine ⟨?_, rfl, rfl⟩
        rw [show er = 1 by first | exact W.h.1 rfl | exact W.h.2.1 rfl | exact W.h.2.2.1 rfl | exact W.h.2.2.2.1 (by omega) rfl]
    · skip
      refine ⟨?_, rfl, rfl⟩
      rw [show er = 1 by first | exact W.h.1 rfl | exact W.h.2.1 rfl | exact W.h.2.2.1 rfl | exact W.h.2.2.2.1 (by omega) rfl]
  · skip
    (refine callq (g1) rfl rfl ?_; cbv; (repeat' (first
| (refine q1w (fun z hz => ?_); (try simp only at hz); cbv)
| (refine rqw ?_; cbv)
| (refine rq (show kfitQ _ _ from by simp [kfitQ, IntKind.min, IntKind.max, IntKind.signed, IntKind.bits]; omega) ?_; cbv)
| (refine chpA ?_; cbv)
| (refine QC.tw ?_; cbv)
| (refine QC.tt ?_ ?_; (focus (simp only [decide_true, Bool.and_true, Bool.and_self] <;> fail)); cbv)
| (refine QC.ff ?_ ?_; (focus (simp only [decide_true, Bool.and_true, Bool.and_self, decide_false, Bool.false_and, reduceCtorEq, not_false_eq_true] <;> fail)); cbv)
| (refine QC.fw ?_; cbv)
| (refine QC.mk (fun hc => ?_) (fun hc => ?_) <;> (try dsimp only at hc) <;> cbv)
| (refine br_mk2 (fun hb => ?_) (fun hb => ?_) <;> (try subst hb) <;> cbv))))
    · (refine callq (g2) rfl rfl ?_; cbv; (repeat' (first
| (refine q1w (fun z hz => ?_); (try simp only at hz); cbv)
| (refine rqw ?_; cbv)
| (refine rq (show kfitQ _ _ from by simp [kfitQ, IntKind.min, IntKind.max, IntKind.signed, IntKind.bits]; omega) ?_; cbv)
| (refine chpA ?_; cbv)
| (refine QC.tw ?_; cbv)
| (refine QC.tt ?_ ?_; (focus (simp only [decide_true, Bool.and_true, Bool.and_self] <;> fail)); cbv)
| (refine QC.ff ?_ ?_; (focus (simp only [decide_true, Bool.and_true, Bool.and_self, decide_false, Bool.false_and, reduceCtorEq, not_false_eq_true] <;> fail)); cbv)
| (refine QC.fw ?_; cbv)
| (refine QC.mk (fun hc => ?_) (fun hc => ?_) <;> (try dsimp only at hc) <;> cbv)
| (refine br_mk2 (fun hb => ?_) (fun hb => ?_) <;> (try subst hb) <;> cbv))))
      · (refine callq (g3) rfl rfl ?_; cbv; (repeat' (first
| (refine q1w (fun z hz => ?_); (try simp only at hz); cbv)
| (refine rqw ?_; cbv)
| (refine rq (show kfitQ _ _ from by simp [kfitQ, IntKind.min, IntKind.max, IntKind.signed, IntKind.bits]; omega) ?_; cbv)
| (refine chpA ?_; cbv)
| (refine QC.tw ?_; cbv)
| (refine QC.tt ?_ ?_; (focus (simp only [decide_true, Bool.and_true, Bool.and_self] <;> fail)); cbv)
| (refine QC.ff ?_ ?_; (focus (simp only [decide_true, Bool.and_true, Bool.and_self, decide_false, Bool.false_and, reduceCtorEq, not_false_eq_true] <;> fail)); cbv)
| (refine QC.fw ?_; cbv)
| (refine QC.mk (fun hc => ?_) (fun hc => ?_) <;> (try dsimp only at hc) <;> cbv)
| (refine br_mk2 (fun hb => ?_) (fun hb => ?_) <;> (try subst hb) <;> cbv))))
        · have h123 := W.h.2.2.2.2 rfl rfl rfl (fun h0 => absurd h0 hc)
          have g6 := g5 h123.2.1 h123.2.2
          (refine callq (g6) rfl rfl ?_; cbv; (repeat' (first
| (refine q1w (fun z hz => ?_); (try simp only at hz); cbv)
| (refine rqw ?_; cbv)
| (refine rq (show kfitQ _ _ from by simp [kfitQ, IntKind.min, IntKind.max, IntKind.signed, IntKind.bits]; omega) ?_; cbv)
| (refine chpA ?_; cbv)
| (refine QC.tw ?_; cbv)
| (refine QC.tt ?_ ?_; (focus (simp only [decide_true, Bool.and_true, Bool.and_self] <;> fail)); cbv)
| (refine QC.ff ?_ ?_; (focus (simp only [decide_true, Bool.and_true, Bool.and_self, decide_false, Bool.false_and, reduceCtorEq, not_false_eq_true] <;> fail)); cbv)
| (refine QC.fw ?_; cbv)
| (refine QC.mk (fun hc => ?_) (fun hc => ?_) <;> (try dsimp only at hc) <;> cbv)
| (refine br_mk2 (fun hb => ?_) (fun hb => ?_) <;> (try subst hb) <;> cbv))))
          refine ⟨?_, rfl, rfl⟩
          rw [h123.1]
        · skip
          refine ⟨?_, rfl, rfl⟩
          rw [show er = 1 by first | exact W.h.1 rfl | exact W.h.2.1 rfl | exact W.h.2.2.1 rfl | exact W.h.2.2.2.1 (by omega) rfl]
      · skip
        refine ⟨?_, rfl, rfl⟩
        rw [show er = 1 by first | exact W.h.1 rfl | exact W.h.2.1 rfl | exact W.h.2.2.1 rfl | exact W.h.2.2.2.1 (by omega) rfl]
    · skip
      refine ⟨?_, rfl, rfl⟩
      rw [show er = 1 by first | exact W.h.1 rfl | exact W.h.2.1 rfl | exact W.h.2.2.1 rfl | exact W.h.2.2.2.1 (by omega) rfl]
end Go.Proofs.Ytplcajgoigpneaa
