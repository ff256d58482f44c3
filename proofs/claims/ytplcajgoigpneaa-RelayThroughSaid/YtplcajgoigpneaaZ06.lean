/- Texts put together: LA. -/
import Derived.Test.YtplcajgoigpneaaZ05
namespace Go.Proofs.Ytplcajgoigpneaa
set_option linter.unusedVariables false
set_option linter.unusedSimpArgs false
open Go.RowKit
set_option maxHeartbeats 4000000
structure Sw where
  a : Int
  b : Int
  c : Int
  t : Int
  d : Int
  e : Int
  f : Int
  u : Int
  z : Int
  l : Int
  w : Int
def Sw.v (x : Sw) : SV := .agg [.int .i64 x.a, .int .u16 x.b, .int .u64 x.c, .int .u16 x.t, .int .i64 x.d, .int .u16 x.e, .int .u64 x.f, .int .u16 x.u, .int .i64 x.z, .int .i64 x.l, .int .i64 x.w]
def swL (l : List Sw) : List SV := l.map Sw.v
theorem swL_len (l : List Sw) : (swL l).length = l.length := by simp [swL]
theorem swL_at {l : List Sw} {L : List SV} (hL : L = swL l) (i : Nat) (hi : i < l.length) : ∃ a b c t d e f u z y w : Int, l[i]? = some ⟨a, b, c, t, d, e, f, u, z, y, w⟩ ∧
    L[i]? = some (.agg [.int .i64 a, .int .u16 b, .int .u64 c, .int .u16 t, .int .i64 d, .int .u16 e, .int .u64 f, .int .u16 u, .int .i64 z, .int .i64 y, .int .i64 w]) :=
  ⟨l[i].a, l[i].b, l[i].c, l[i].t, l[i].d, l[i].e, l[i].f, l[i].u, l[i].z, l[i].l, l[i].w, List.getElem?_eq_getElem hi, by rw [hL]; simp [swL, hi, Sw.v]⟩
structure Sw.fits (x : Sw) : Prop where
  a : -9223372036854775808 ≤ x.a ∧ x.a ≤ 9223372036854775807
  b : 0 ≤ x.b ∧ x.b ≤ 65535
  c : 0 ≤ x.c ∧ x.c ≤ 18446744073709551615
  t : 0 ≤ x.t ∧ x.t ≤ 65535
  d : -9223372036854775808 ≤ x.d ∧ x.d ≤ 9223372036854775807
  e : 0 ≤ x.e ∧ x.e ≤ 65535
  f : 0 ≤ x.f ∧ x.f ≤ 18446744073709551615
  u : 0 ≤ x.u ∧ x.u ≤ 65535
  z : -9223372036854775808 ≤ x.z ∧ x.z ≤ 9223372036854775807
  l : -9223372036854775808 ≤ x.l ∧ x.l ≤ 9223372036854775807
  w : -9223372036854775808 ≤ x.w ∧ x.w ≤ 9223372036854775807
def hitI (a b c t : Int) (x : Sw) : Bool := decide (x.a = a ∧ x.b = b ∧ x.c = c ∧ x.t = t)
def hitO (d e f u : Int) (x : Sw) : Bool := decide (x.d = d ∧ x.e = e ∧ x.f = f ∧ x.u = u)
def timeT (t : Int) : Bool := decide (0 ≤ t ∧ t ≤ 1099511627776)
def sizeT (z l : Int) : Bool := decide (1 ≤ z ∧ z ≤ 2047 ∧ 1 ≤ l ∧ l ≤ z)
def ok1 (l : List Sw) (i : Nat) (x : Sw) : Bool := someA x.a x.b x.c && someA x.d x.e x.f && sizeT x.z x.l && timeT x.w && !((l.take i).any (hitI x.a x.b x.c x.t)) && !((l.take i).any (hitO x.d x.e x.f x.u))
def VS (l : List Sw) : Prop := l.length ≤ 8 ∧ ∀ (i : Nat) (x : Sw), l[i]? = some x → ok1 l i x = true
theorem place_c (m s e : Int) (r : Bool) (hr : r = someA m s e) : Good 33 (pu [.agg [.int .i64 m, .int .u16 s, .int .u64 e]] (.bool r)) := by
  obtain ⟨b, hb⟩ : ∃ b, b = decide ((m = 0 ∧ s = 0 ∧ e = 0) ∨ (m = 2 ∧ e = 0) ∨ (m = 3 ∧ s = 0)) := ⟨_, rfl⟩
  have h1 := avalid_c m s e b hb
  unfold someA at hr
  refine Good.of Try.func33 rfl (by rfl) (by kernel_rfl) ?_
  cbv
  (repeat' (first
| (refine q1w (fun z hz => ?_); (try simp only at hz); cbv)
| (refine rqw ?_; cbv)
| (refine rq (show kfitQ _ _ from by simp [kfitQ, IntKind.min, IntKind.max, IntKind.signed, IntKind.bits]; omega) ?_; cbv)
| (refine chpA ?_; cbv)
| (refine QC.tw ?_; cbv)
| (refine QC.tt ?_ ?_; (focus (simp only [decide_true, Bool.and_true, Bool.and_self] <;> fail)); cbv)
| (refine QC.ff ?_ ?_; (focus (simp only [decide_true, Bool.and_true, Bool.and_self, decide_false, Bool.false_and, reduceCtorEq, not_false_eq_true] <;> fail)); cbv)
| (refine QC.fw ?_; cbv)
| (refine QC.mk (fun hc => ?_) (fun hc => ?_) <;> (try dsimp only at hc) <;> cbv)
| (refine br_mk2 (fun hb => ?_) (fun hb => ?_) <;> (try subst hb) <;> cbv)))
  (refine callq (h1) rfl rfl ?_; cbv; (repeat' (first
| (refine q1w (fun z hz => ?_); (try simp only at hz); cbv)
| (refine rqw ?_; cbv)
| (refine rq (show kfitQ _ _ from by simp [kfitQ, IntKind.min, IntKind.max, IntKind.signed, IntKind.bits]; omega) ?_; cbv)
| (refine chpA ?_; cbv)
| (refine QC.tw ?_; cbv)
| (refine QC.tt ?_ ?_; (focus (simp only [decide_true, Bool.and_true, Bool.and_self] <;> fail)); cbv)
| (refine QC.ff ?_ ?_; (focus (simp only [decide_true, Bool.and_true, Bool.and_self, decide_false, Bool.false_and, reduceCtorEq, not_false_eq_true] <;> fail)); cbv)
| (refine QC.fw ?_; cbv)
| (refine QC.mk (fun hc => ?_) (fun hc => ?_) <;> (try dsimp only at hc) <;> cbv)
| (refine br_mk2 (fun hb => ?_) (fun hb => ?_) <;> (try subst hb) <;> cbv))))
  all_goals (first | have hb := of_decide_eq_true hb.symm | have hb := of_decide_eq_false hb.symm)
  all_goals refine ⟨?_, rfl, rfl⟩
  all_goals rw [hr]
  all_goals first | (rw [decide_eq_true (by omega)]) | (rw [decide_eq_false (by omega)])
theorem vtime_c (t : Int) (r : Bool) (hr : r = timeT t) : Good 51 (pu [.int .i64 t] (.bool r)) := by
  unfold timeT at hr
  refine Good.of Try.func51 rfl (by rfl) (by kernel_rfl) ?_
  cbv
  (repeat' (first
| (refine q1w (fun z hz => ?_); (try simp only at hz); cbv)
| (refine rqw ?_; cbv)
| (refine rq (show kfitQ _ _ from by simp [kfitQ, IntKind.min, IntKind.max, IntKind.signed, IntKind.bits]; omega) ?_; cbv)
| (refine chpA ?_; cbv)
| (refine QC.tw ?_; cbv)
| (refine QC.tt ?_ ?_; (focus (simp only [decide_true, Bool.and_true, Bool.and_self] <;> fail)); cbv)
| (refine QC.ff ?_ ?_; (focus (simp only [decide_true, Bool.and_true, Bool.and_self, decide_false, Bool.false_and, reduceCtorEq, not_false_eq_true] <;> fail)); cbv)
| (refine QC.fw ?_; cbv)
| (refine QC.mk (fun hc => ?_) (fun hc => ?_) <;> (try dsimp only at hc) <;> cbv)
| (refine br_mk2 (fun hb => ?_) (fun hb => ?_) <;> (try subst hb) <;> cbv)))
  all_goals refine ⟨?_, rfl, rfl⟩
  all_goals rw [hr]
  all_goals first | (rw [decide_eq_true (by omega)]) | (rw [decide_eq_false (by omega)])
theorem rtime_c (t : Int) (r : Bool) (hr : r = timeT t) : Good 52 (pu [.int .i64 t] (.bool r)) := by
  unfold timeT at hr
  refine Good.of Try.func52 rfl (by rfl) (by kernel_rfl) ?_
  cbv
  (repeat' (first
| (refine q1w (fun z hz => ?_); (try simp only at hz); cbv)
| (refine rqw ?_; cbv)
| (refine rq (show kfitQ _ _ from by simp [kfitQ, IntKind.min, IntKind.max, IntKind.signed, IntKind.bits]; omega) ?_; cbv)
| (refine chpA ?_; cbv)
| (refine QC.tw ?_; cbv)
| (refine QC.tt ?_ ?_; (focus (simp only [decide_true, Bool.and_true, Bool.and_self] <;> fail)); cbv)
| (refine QC.ff ?_ ?_; (focus (simp only [decide_true, Bool.and_true, Bool.and_self, decide_false, Bool.false_and, reduceCtorEq, not_false_eq_true] <;> fail)); cbv)
| (refine QC.fw ?_; cbv)
| (refine QC.mk (fun hc => ?_) (fun hc => ?_) <;> (try dsimp only at hc) <;> cbv)
| (refine br_mk2 (fun hb => ?_) (fun hb => ?_) <;> (try subst hb) <;> cbv)))
  all_goals refine ⟨?_, rfl, rfl⟩
  all_goals rw [hr]
  all_goals first | (rw [decide_eq_true (by omega)]) | (rw [decide_eq_false (by omega)])
def keyI (x : Sw) : SV := .agg [.int .i64 x.a, .int .u16 x.b, .int .u64 x.c, .int .u16 x.t]
def keyO (x : Sw) : SV := .agg [.int .i64 x.d, .int .u16 x.e, .int .u64 x.f, .int .u16 x.u]
theorem keysG (l : List Sw) : ∃ I O' : Nat → List SV, I 0 = [] ∧ O' 0 = [] ∧
    (∀ (i : Nat) (a b c t d e f u z y w : Int), l[i]? = some ⟨a, b, c, t, d, e, f, u, z, y, w⟩ → O.ap (I i) [.agg [.int .i64 a, .int .u16 b, .int .u64 c, .int .u16 t]] = I (i + 1) ∧ O.ap (O' i) [.agg [.int .i64 d, .int .u16 e, .int .u64 f, .int .u16 u]] = O' (i + 1)) ∧
    (∀ (i : Nat) (a b c t : Int), (SV.agg [.int .i64 a, .int .u16 b, .int .u64 c, .int .u16 t] ∈ I i) ↔ (l.take i).any (hitI a b c t) = true) ∧
    (∀ (i : Nat) (d e f u : Int), (SV.agg [.int .i64 d, .int .u16 e, .int .u64 f, .int .u16 u] ∈ O' i) ↔ (l.take i).any (hitO d e f u) = true) := by
  refine ⟨fun i => (l.take i).map keyI, fun i => (l.take i).map keyO, rfl, rfl, fun i a b c t d e f u z y w h => ?_, fun i a b c t => ?_, fun i d e f u => ?_⟩
  · dsimp only
    rw [oap, oap, List.take_add_one, h]
    simp [keyI, keyO]
  · simp only [List.mem_map, List.any_eq_true, keyI, hitI, decide_eq_true_eq]
    constructor
    · rintro ⟨x, hx, h⟩
      injection h with h
      simp only [List.cons.injEq, SV.int.injEq, true_and, and_true] at h
      exact ⟨x, hx, h.1, h.2.1, h.2.2.1, h.2.2.2⟩
    · rintro ⟨x, hx, h1, h2, h3, h4⟩
      exact ⟨x, hx, by rw [h1, h2, h3, h4]⟩
  · simp only [List.mem_map, List.any_eq_true, keyO, hitO, decide_eq_true_eq]
    constructor
    · rintro ⟨x, hx, h⟩
      injection h with h
      simp only [List.cons.injEq, SV.int.injEq, true_and, and_true] at h
      exact ⟨x, hx, h.1, h.2.1, h.2.2.1, h.2.2.2⟩
    · rintro ⟨x, hx, h1, h2, h3, h4⟩
      exact ⟨x, hx, by rw [h1, h2, h3, h4]⟩
end Go.Proofs.Ytplcajgoigpneaa
