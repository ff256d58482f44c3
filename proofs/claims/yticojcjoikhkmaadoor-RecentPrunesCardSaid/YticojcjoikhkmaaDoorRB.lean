/- Contracts of the searches in a list of entries. -/
import Derived.Test.YticojcjoikhkmaaDoorRA
import Derived.Test.YticojcjoikhkmaaDoorAD
namespace Go.Proofs.YticojcjoikhkmaaDoor
set_option linter.unusedVariables false
set_option linter.unusedSimpArgs false
open Go.RowKit
set_option maxHeartbeats 4000000
/-- A fact that omega does not look into. -/
structure Wrap (p : Prop) : Prop where
  h : p
/-- An entry. -/
structure Sn where
  m : Int
  s : Int
  e : Int
  q : Int
  u : Int

def Sn.v (x : Sn) : SV := .agg [.int .i64 x.m, .int .u16 x.s, .int .u64 x.e, .int .u8 x.q, .int .i64 x.u]
def snL (l : List Sn) : List SV := l.map Sn.v
theorem snL_len (l : List Sn) : (snL l).length = l.length := by simp [snL]
/-- Has the entry this address and number? -/
def hitS (m s e q : Int) (x : Sn) : Bool := decide (x.m = m ∧ x.s = s ∧ x.e = e ∧ x.q = q)
theorem snL_at {l : List Sn} {L : List SV} (hL : L = snL l) (i : Nat) (hi : i < l.length) : ∃ m s e q u : Int, l[i] = ⟨m, s, e, q, u⟩ ∧ l[i]? = some ⟨m, s, e, q, u⟩ ∧ L[i]? = some (.agg [.int .i64 m, .int .u16 s, .int .u64 e, .int .u8 q, .int .i64 u]) :=
  ⟨l[i].m, l[i].s, l[i].e, l[i].q, l[i].u, rfl, List.getElem?_eq_getElem hi, by rw [hL]; simp [snL, hi, Sn.v]⟩
theorem index_c (l : List Sn) (L : List SV) (hL : L = snL l) (hl : l.length ≤ 3600000000000) (m s e q r : Int) (hr : (r = -1 ∧ ∀ x ∈ l, hitS m s e q x = false) ∨ ∃ i : Nat, r = i ∧ i < l.length ∧ (∀ (k : Nat) (x : Sn), l[k]? = some x → k < i → hitS m s e q x = false) ∧ ∀ x, l[i]? = some x → hitS m s e q x = true) :
    Good 35 (pu [.lst (some 5) L, .clo 36 [.eptr (some 3) (.agg [.int .i64 m, .int .u16 s, .int .u64 e]) 0, .eptr none (.int .u8 q) 0]] (.int .i64 r)) := by
  have hLl : L.length = l.length := by rw [hL, snL_len]
  have hE := fun i hi => snL_at hL i hi
  have hhit : ∀ (i : Nat) (x : Sn), l[i]? = some x → (∀ (k : Nat) (y : Sn), l[k]? = some y → k < i → hitS m s e q y = false) → hitS m s e q x = true → r = i := by
    intro i x hx hk ht
    rcases hr with ⟨_, h⟩ | ⟨i', h1, h2, h3, h4⟩
    · rw [h x (List.mem_of_getElem? hx)] at ht; cases ht
    · rcases Nat.lt_trichotomy i i' with g | g | g
      · rw [h3 i x hx g] at ht; cases ht
      · rw [h1, g]
      · have := h4 l[i'] (List.getElem?_eq_getElem h2)
        rw [hk i' _ (List.getElem?_eq_getElem h2) g] at this; cases this
  have hmiss : (∀ (k : Nat) (y : Sn), l[k]? = some y → hitS m s e q y = false) → r = -1 := by
    intro hk
    rcases hr with ⟨h, _⟩ | ⟨i', h1, h2, h3, h4⟩
    · exact h
    · have := h4 l[i'] (List.getElem?_eq_getElem h2)
      rw [hk i' _ (List.getElem?_eq_getElem h2)] at this; cases this
  clear hr
  have W : Wrap ((∀ (i : Nat) (x : Sn), l[i]? = some x → (∀ (k : Nat) (y : Sn), l[k]? = some y → k < i → hitS m s e q y = false) → hitS m s e q x = true → r = i) ∧ ((∀ (k : Nat) (y : Sn), l[k]? = some y → hitS m s e q y = false) → r = -1)) := ⟨hhit, hmiss⟩
  clear hhit hmiss
  refine Good.of Tryd.func35 rfl (by rfl) (by kernel_rfl) ?_
  cbv
  (repeat' (first
    | (refine q1 (by first | exact trivial | omega | (dsimp only; omega) | exact pow62 _ (by omega) | exact mul9 (by omega) (by omega) | (simp only [oln, otk, odr, oap, ost, orp, ocp, osg, otn, oad, osb, osi, oby, pln, ptk, pdr, pap, pst, prp, pcp, psg, ptn, pad, psb, psi, pby, cst, ints_len, List.length_take, List.length_drop, List.length_append, List.length_set, List.length_replicate, List.length_cons, List.length_nil] at *; omega)) (fun z hz => ?_); (try simp only at hz); cbv)
    | (refine rq (by first | exact trivial | omega | (dsimp only; omega) | (simp only [oln, otk, odr, oap, ost, orp, ocp, osg, otn, oad, osb, osi, oby, pln, ptk, pdr, pap, pst, prp, pcp, psg, ptn, pad, psb, psi, pby, cst, ints_len, List.length_take, List.length_drop, List.length_append, List.length_set, List.length_replicate, List.length_cons, List.length_nil] at *; omega)) ?_; cbv)
    | (refine QC.tt (by first | omega | (dsimp only; omega) | exact rfl | (simp only [oln, otk, odr, oap, ost, orp, ocp, osg, otn, oad, osb, osi, oby, pln, ptk, pdr, pap, pst, prp, pcp, psg, ptn, pad, psb, psi, pby, cst, ints_len, List.length_take, List.length_drop, List.length_append, List.length_set, List.length_replicate, List.length_cons, List.length_nil] at *; omega)) ?_; cbv)
    | (refine QC.tt ?_ ?_; (focus (simp only [decide_true, Bool.and_true, Bool.and_self] <;> fail)); cbv)
    | (refine QC.ff ?_ ?_; (focus (simp only [decide_true, Bool.and_true, Bool.and_self, decide_false, Bool.false_and, reduceCtorEq, not_false_eq_true] <;> fail)); cbv)
    | (refine QC.ff (by first | omega | (dsimp only; omega) | (simp only [oln, otk, odr, oap, ost, orp, ocp, osg, otn, oad, osb, osi, oby, pln, ptk, pdr, pap, pst, prp, pcp, psg, ptn, pad, psb, psi, pby, cst, ints_len, List.length_take, List.length_drop, List.length_append, List.length_set, List.length_replicate, List.length_cons, List.length_nil] at *; omega)) ?_; cbv)
    | (refine QC.mk (fun hc => ?_) (fun hc => ?_) <;> (try dsimp only at hc) <;> cbv)
    | (refine br_mk2 (fun hb => ?_) (fun hb => ?_) <;> (try subst hb) <;> cbv)))
  refine loopQ (A := Nat × Int) (fun p => p.2 = p.1 ∧ p.1 ≤ l.length ∧ ∀ (k : Nat) (y : Sn), l[k]? = some y → k < p.1 → hitS m s e q y = false) (fun p => l.length - p.1) (fun p => [(8, .int .i64 p.2)]) (fun p => []) (0, 0) ⟨rfl, Nat.zero_le _, fun k y _ h => absurd h (Nat.not_lt_zero k)⟩ ?_ ?_
  · cbv
  · intro ⟨i, j⟩ hh
    have hj : j = (i : Int) := hh.1
    have hi : i ≤ l.length := hh.2.1
    have hk := hh.2.2
    dsimp only at hk
    clear hh
    have hmk : True := trivial
    cbv
    (repeat' (first
    | (refine q1 (by first | exact trivial | omega | (dsimp only; omega) | exact pow62 _ (by omega) | exact mul9 (by omega) (by omega) | (simp only [oln, otk, odr, oap, ost, orp, ocp, osg, otn, oad, osb, osi, oby, pln, ptk, pdr, pap, pst, prp, pcp, psg, ptn, pad, psb, psi, pby, cst, ints_len, List.length_take, List.length_drop, List.length_append, List.length_set, List.length_replicate, List.length_cons, List.length_nil] at *; omega)) (fun z hz => ?_); (try simp only at hz); cbv)
    | (refine rq (by first | exact trivial | omega | (dsimp only; omega) | (simp only [oln, otk, odr, oap, ost, orp, ocp, osg, otn, oad, osb, osi, oby, pln, ptk, pdr, pap, pst, prp, pcp, psg, ptn, pad, psb, psi, pby, cst, ints_len, List.length_take, List.length_drop, List.length_append, List.length_set, List.length_replicate, List.length_cons, List.length_nil] at *; omega)) ?_; cbv)
    | (refine QC.tt (by first | omega | (dsimp only; omega) | exact rfl | (simp only [oln, otk, odr, oap, ost, orp, ocp, osg, otn, oad, osb, osi, oby, pln, ptk, pdr, pap, pst, prp, pcp, psg, ptn, pad, psb, psi, pby, cst, ints_len, List.length_take, List.length_drop, List.length_append, List.length_set, List.length_replicate, List.length_cons, List.length_nil] at *; omega)) ?_; cbv)
    | (refine QC.tt ?_ ?_; (focus (simp only [decide_true, Bool.and_true, Bool.and_self] <;> fail)); cbv)
    | (refine QC.ff ?_ ?_; (focus (simp only [decide_true, Bool.and_true, Bool.and_self, decide_false, Bool.false_and, reduceCtorEq, not_false_eq_true] <;> fail)); cbv)
    | (refine QC.ff (by first | omega | (dsimp only; omega) | (simp only [oln, otk, odr, oap, ost, orp, ocp, osg, otn, oad, osb, osi, oby, pln, ptk, pdr, pap, pst, prp, pcp, psg, ptn, pad, psb, psi, pby, cst, ints_len, List.length_take, List.length_drop, List.length_append, List.length_set, List.length_replicate, List.length_cons, List.length_nil] at *; omega)) ?_; cbv)
    | (refine QC.mk (fun hc => ?_) (fun hc => ?_) <;> (try dsimp only at hc) <;> cbv)
    | (refine br_mk2 (fun hb => ?_) (fun hb => ?_) <;> (try subst hb) <;> cbv)))
    · have hlt : i < l.length := by (first | omega | (simp only [cst] at *; omega) | (simp only [oln, otk, odr, oap, ost, orp, ocp, osg, otn, oad, osb, osi, oby, pln, ptk, pdr, pap, pst, prp, pcp, psg, ptn, pad, psb, psi, pby, cst, ints_len, List.length_take, List.length_drop, List.length_append, List.length_set, List.length_replicate, List.length_cons, List.length_nil] at *; omega))
      obtain ⟨m2, s2, e2, q2, u2, hx, hx', hLi⟩ := hE i hlt
      obtain ⟨b, hb⟩ : ∃ b, b = hitS m s e q ⟨m2, s2, e2, q2, u2⟩ := ⟨_, rfl⟩
      have g1 := is1_c m s e q m2 s2 e2 q2 u2 b hb
      (refine qv (i, _) ⟨hj, hLi⟩ ?_; cbv; (repeat' (first
    | (refine q1 (by first | exact trivial | omega | (dsimp only; omega) | exact pow62 _ (by omega) | exact mul9 (by omega) (by omega) | (simp only [oln, otk, odr, oap, ost, orp, ocp, osg, otn, oad, osb, osi, oby, pln, ptk, pdr, pap, pst, prp, pcp, psg, ptn, pad, psb, psi, pby, cst, ints_len, List.length_take, List.length_drop, List.length_append, List.length_set, List.length_replicate, List.length_cons, List.length_nil] at *; omega)) (fun z hz => ?_); (try simp only at hz); cbv)
    | (refine rq (by first | exact trivial | omega | (dsimp only; omega) | (simp only [oln, otk, odr, oap, ost, orp, ocp, osg, otn, oad, osb, osi, oby, pln, ptk, pdr, pap, pst, prp, pcp, psg, ptn, pad, psb, psi, pby, cst, ints_len, List.length_take, List.length_drop, List.length_append, List.length_set, List.length_replicate, List.length_cons, List.length_nil] at *; omega)) ?_; cbv)
    | (refine QC.tt (by first | omega | (dsimp only; omega) | exact rfl | (simp only [oln, otk, odr, oap, ost, orp, ocp, osg, otn, oad, osb, osi, oby, pln, ptk, pdr, pap, pst, prp, pcp, psg, ptn, pad, psb, psi, pby, cst, ints_len, List.length_take, List.length_drop, List.length_append, List.length_set, List.length_replicate, List.length_cons, List.length_nil] at *; omega)) ?_; cbv)
    | (refine QC.tt ?_ ?_; (focus (simp only [decide_true, Bool.and_true, Bool.and_self] <;> fail)); cbv)
    | (refine QC.ff ?_ ?_; (focus (simp only [decide_true, Bool.and_true, Bool.and_self, decide_false, Bool.false_and, reduceCtorEq, not_false_eq_true] <;> fail)); cbv)
    | (refine QC.ff (by first | omega | (dsimp only; omega) | (simp only [oln, otk, odr, oap, ost, orp, ocp, osg, otn, oad, osb, osi, oby, pln, ptk, pdr, pap, pst, prp, pcp, psg, ptn, pad, psb, psi, pby, cst, ints_len, List.length_take, List.length_drop, List.length_append, List.length_set, List.length_replicate, List.length_cons, List.length_nil] at *; omega)) ?_; cbv)
    | (refine QC.mk (fun hc => ?_) (fun hc => ?_) <;> (try dsimp only at hc) <;> cbv)
    | (refine br_mk2 (fun hb => ?_) (fun hb => ?_) <;> (try subst hb) <;> cbv))))
      (refine callq (g1) rfl rfl ?_; cbv; (repeat' (first
    | (refine q1 (by first | exact trivial | omega | (dsimp only; omega) | exact pow62 _ (by omega) | exact mul9 (by omega) (by omega) | (simp only [oln, otk, odr, oap, ost, orp, ocp, osg, otn, oad, osb, osi, oby, pln, ptk, pdr, pap, pst, prp, pcp, psg, ptn, pad, psb, psi, pby, cst, ints_len, List.length_take, List.length_drop, List.length_append, List.length_set, List.length_replicate, List.length_cons, List.length_nil] at *; omega)) (fun z hz => ?_); (try simp only at hz); cbv)
    | (refine rq (by first | exact trivial | omega | (dsimp only; omega) | (simp only [oln, otk, odr, oap, ost, orp, ocp, osg, otn, oad, osb, osi, oby, pln, ptk, pdr, pap, pst, prp, pcp, psg, ptn, pad, psb, psi, pby, cst, ints_len, List.length_take, List.length_drop, List.length_append, List.length_set, List.length_replicate, List.length_cons, List.length_nil] at *; omega)) ?_; cbv)
    | (refine QC.tt (by first | omega | (dsimp only; omega) | exact rfl | (simp only [oln, otk, odr, oap, ost, orp, ocp, osg, otn, oad, osb, osi, oby, pln, ptk, pdr, pap, pst, prp, pcp, psg, ptn, pad, psb, psi, pby, cst, ints_len, List.length_take, List.length_drop, List.length_append, List.length_set, List.length_replicate, List.length_cons, List.length_nil] at *; omega)) ?_; cbv)
    | (refine QC.tt ?_ ?_; (focus (simp only [decide_true, Bool.and_true, Bool.and_self] <;> fail)); cbv)
    | (refine QC.ff ?_ ?_; (focus (simp only [decide_true, Bool.and_true, Bool.and_self, decide_false, Bool.false_and, reduceCtorEq, not_false_eq_true] <;> fail)); cbv)
    | (refine QC.ff (by first | omega | (dsimp only; omega) | (simp only [oln, otk, odr, oap, ost, orp, ocp, osg, otn, oad, osb, osi, oby, pln, ptk, pdr, pap, pst, prp, pcp, psg, ptn, pad, psb, psi, pby, cst, ints_len, List.length_take, List.length_drop, List.length_append, List.length_set, List.length_replicate, List.length_cons, List.length_nil] at *; omega)) ?_; cbv)
    | (refine QC.mk (fun hc => ?_) (fun hc => ?_) <;> (try dsimp only at hc) <;> cbv)
    | (refine br_mk2 (fun hb => ?_) (fun hb => ?_) <;> (try subst hb) <;> cbv))))
      · refine ⟨?_, rfl, rfl⟩
        rw [W.h.1 i _ hx' hk hb.symm, hj]
      · refine ⟨(i + 1, z), ⟨by show z = ((i + 1 : Nat) : Int); (first | omega | (simp only [cst] at *; omega) | (simp only [oln, otk, odr, oap, ost, orp, ocp, osg, otn, oad, osb, osi, oby, pln, ptk, pdr, pap, pst, prp, pcp, psg, ptn, pad, psb, psi, pby, cst, ints_len, List.length_take, List.length_drop, List.length_append, List.length_set, List.length_replicate, List.length_cons, List.length_nil] at *; omega)), by show i + 1 ≤ l.length; omega, fun k y hy hki => ?_⟩, by show l.length - (i + 1) < l.length - i; omega, ?_⟩
        · by_cases e1 : k = i
          · subst e1
            rw [hx'] at hy
            injection hy with hy
            rw [← hy]; exact hb.symm
          · have hki : k < i + 1 := hki
            exact hk k y hy (by omega)
        · cbv
    · refine ⟨?_, rfl, rfl⟩
      rw [W.h.2 fun k y hy => hk k y hy (by have := (List.getElem?_eq_some_iff.1 hy).1; (first | omega | (simp only [cst] at *; omega) | (simp only [oln, otk, odr, oap, ost, orp, ocp, osg, otn, oad, osb, osi, oby, pln, ptk, pdr, pap, pst, prp, pcp, psg, ptn, pad, psb, psi, pby, cst, ints_len, List.length_take, List.length_drop, List.length_append, List.length_set, List.length_replicate, List.length_cons, List.length_nil] at *; omega)))]
theorem contains_c (l : List Sn) (L : List SV) (hL : L = snL l) (hl : l.length ≤ 3600000000000) (m s e q : Int) (b : Bool) (hb : b = l.any (hitS m s e q)) :
    Good 27 (pu [.lst (some 5) L, .clo 36 [.eptr (some 3) (.agg [.int .i64 m, .int .u16 s, .int .u64 e]) 0, .eptr none (.int .u8 q) 0]] (.bool b)) := by
  have h : ∃ r : Int, (b = true → 0 ≤ r) ∧ (b = false → r < 0) ∧ Good 35 (pu [.lst (some 5) L, .clo 36 [.eptr (some 3) (.agg [.int .i64 m, .int .u16 s, .int .u64 e]) 0, .eptr none (.int .u8 q) 0]] (.int .i64 r)) := by
    cases hc : l.findIdx? (hitS m s e q) with
    | none =>
      have hn := List.findIdx?_eq_none_iff.1 hc
      refine ⟨-1, fun h => ?_, fun _ => by omega, index_c l L hL hl m s e q _ (.inl ⟨rfl, fun x hx => hn x hx⟩)⟩
      rw [hb] at h
      obtain ⟨x, hx, hh⟩ := List.any_eq_true.1 h
      rw [hn x hx] at hh; cases hh
    | some i =>
      obtain ⟨h1, h2, h3⟩ := List.findIdx?_eq_some_iff_getElem.1 hc
      refine ⟨i, fun _ => by omega, fun h => ?_, index_c l L hL hl m s e q _ (.inr ⟨i, rfl, h1, fun k x hx hk => ?_, fun x hx => ?_⟩)⟩
      · rw [hb] at h
        have := List.any_eq_false.1 h l[i] (List.getElem_mem h1)
        exact absurd h2 this
      · have := h3 k hk
        obtain ⟨hk', e⟩ := List.getElem?_eq_some_iff.1 hx
        rw [e] at this
        simpa using this
      · rw [List.getElem?_eq_getElem h1] at hx
        injection hx with hx
        rw [← hx]; exact h2
  obtain ⟨r, h1, h2, h3⟩ := h
  refine Good.of Tryd.func27 rfl (by rfl) (by kernel_rfl) ?_
  cbv
  (repeat' (first
    | (refine q1 (by first | exact trivial | omega | (dsimp only; omega) | exact pow62 _ (by omega) | exact mul9 (by omega) (by omega) | (simp only [oln, otk, odr, oap, ost, orp, ocp, osg, otn, oad, osb, osi, oby, pln, ptk, pdr, pap, pst, prp, pcp, psg, ptn, pad, psb, psi, pby, cst, ints_len, List.length_take, List.length_drop, List.length_append, List.length_set, List.length_replicate, List.length_cons, List.length_nil] at *; omega)) (fun z hz => ?_); (try simp only at hz); cbv)
    | (refine rq (by first | exact trivial | omega | (dsimp only; omega) | (simp only [oln, otk, odr, oap, ost, orp, ocp, osg, otn, oad, osb, osi, oby, pln, ptk, pdr, pap, pst, prp, pcp, psg, ptn, pad, psb, psi, pby, cst, ints_len, List.length_take, List.length_drop, List.length_append, List.length_set, List.length_replicate, List.length_cons, List.length_nil] at *; omega)) ?_; cbv)
    | (refine QC.tt (by first | omega | (dsimp only; omega) | exact rfl | (simp only [oln, otk, odr, oap, ost, orp, ocp, osg, otn, oad, osb, osi, oby, pln, ptk, pdr, pap, pst, prp, pcp, psg, ptn, pad, psb, psi, pby, cst, ints_len, List.length_take, List.length_drop, List.length_append, List.length_set, List.length_replicate, List.length_cons, List.length_nil] at *; omega)) ?_; cbv)
    | (refine QC.tt ?_ ?_; (focus (simp only [decide_true, Bool.and_true, Bool.and_self] <;> fail)); cbv)
    | (refine QC.ff ?_ ?_; (focus (simp only [decide_true, Bool.and_true, Bool.and_self, decide_false, Bool.false_and, reduceCtorEq, not_false_eq_true] <;> fail)); cbv)
    | (refine QC.ff (by first | omega | (dsimp only; omega) | (simp only [oln, otk, odr, oap, ost, orp, ocp, osg, otn, oad, osb, osi, oby, pln, ptk, pdr, pap, pst, prp, pcp, psg, ptn, pad, psb, psi, pby, cst, ints_len, List.length_take, List.length_drop, List.length_append, List.length_set, List.length_replicate, List.length_cons, List.length_nil] at *; omega)) ?_; cbv)
    | (refine QC.mk (fun hc => ?_) (fun hc => ?_) <;> (try dsimp only at hc) <;> cbv)
    | (refine br_mk2 (fun hb => ?_) (fun hb => ?_) <;> (try subst hb) <;> cbv)))
  (refine callq (h3) rfl rfl ?_; cbv; (repeat' (first
    | (refine q1 (by first | exact trivial | omega | (dsimp only; omega) | exact pow62 _ (by omega) | exact mul9 (by omega) (by omega) | (simp only [oln, otk, odr, oap, ost, orp, ocp, osg, otn, oad, osb, osi, oby, pln, ptk, pdr, pap, pst, prp, pcp, psg, ptn, pad, psb, psi, pby, cst, ints_len, List.length_take, List.length_drop, List.length_append, List.length_set, List.length_replicate, List.length_cons, List.length_nil] at *; omega)) (fun z hz => ?_); (try simp only at hz); cbv)
    | (refine rq (by first | exact trivial | omega | (dsimp only; omega) | (simp only [oln, otk, odr, oap, ost, orp, ocp, osg, otn, oad, osb, osi, oby, pln, ptk, pdr, pap, pst, prp, pcp, psg, ptn, pad, psb, psi, pby, cst, ints_len, List.length_take, List.length_drop, List.length_append, List.length_set, List.length_replicate, List.length_cons, List.length_nil] at *; omega)) ?_; cbv)
    | (refine QC.tt (by first | omega | (dsimp only; omega) | exact rfl | (simp only [oln, otk, odr, oap, ost, orp, ocp, osg, otn, oad, osb, osi, oby, pln, ptk, pdr, pap, pst, prp, pcp, psg, ptn, pad, psb, psi, pby, cst, ints_len, List.length_take, List.length_drop, List.length_append, List.length_set, List.length_replicate, List.length_cons, List.length_nil] at *; omega)) ?_; cbv)
    | (refine QC.tt ?_ ?_; (focus (simp only [decide_true, Bool.and_true, Bool.and_self] <;> fail)); cbv)
    | (refine QC.ff ?_ ?_; (focus (simp only [decide_true, Bool.and_true, Bool.and_self, decide_false, Bool.false_and, reduceCtorEq, not_false_eq_true] <;> fail)); cbv)
    | (refine QC.ff (by first | omega | (dsimp only; omega) | (simp only [oln, otk, odr, oap, ost, orp, ocp, osg, otn, oad, osb, osi, oby, pln, ptk, pdr, pap, pst, prp, pcp, psg, ptn, pad, psb, psi, pby, cst, ints_len, List.length_take, List.length_drop, List.length_append, List.length_set, List.length_replicate, List.length_cons, List.length_nil] at *; omega)) ?_; cbv)
    | (refine QC.mk (fun hc => ?_) (fun hc => ?_) <;> (try dsimp only at hc) <;> cbv)
    | (refine br_mk2 (fun hb => ?_) (fun hb => ?_) <;> (try subst hb) <;> cbv))))
  · refine ⟨?_, rfl, rfl⟩
    cases b
    · have := h2 rfl; exfalso; omega
    · rfl
  · refine ⟨?_, rfl, rfl⟩
    cases b
    · rfl
    · have := h1 rfl; exfalso; omega
end Go.Proofs.YticojcjoikhkmaaDoor
