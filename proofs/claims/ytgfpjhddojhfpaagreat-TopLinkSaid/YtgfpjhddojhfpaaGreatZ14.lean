/- Texts put together: LR LS. -/
import Derived.Test.YtgfpjhddojhfpaaGreatZ12
import Derived.Test.YtgfpjhddojhfpaaGreatZ13
namespace Go.Proofs.YtgfpjhddojhfpaaGreat
set_option linter.unusedVariables false
set_option linter.unusedSimpArgs false
open Go.RowKit
set_option maxHeartbeats 4000000
set_option linter.unusedSimpArgs false
set_option linter.unusedVariables false
theorem is_c (m s e q : Int) : Good 103 (pu [.agg [.int .i64 m, .int .u16 s, .int .u64 e], .int .u8 q] (.clo 161 [.eptr (some 3) (.agg [.int .i64 m, .int .u16 s, .int .u64 e]) 0, .eptr none (.int .u8 q) 0])) := by
  refine Good.of Tryz.func103 rfl (by rfl) (by kernel_rfl) ?_
  cbv
  (repeat' (first
| (refine q1w (fun z hz => ?_); (try simp only at hz); cbv)
| (refine rqw ?_; cbv)
| (refine rqk ?_; cbv)
| (refine chpA ?_; cbv)
| (refine QC.tw ?_; cbv)
| (refine QC.t3 ?_; cbv)
| (refine QC.f3 ?_; cbv)
| (refine QC.fw ?_; cbv)
| (refine QC.mk (fun hc => ?_) (fun hc => ?_) <;> (try dsimp only at hc) <;> cbv)
| (refine br_mk2 (fun hb => ?_) (fun hb => ?_) <;> (try subst hb) <;> cbv)))
  all_goals exact ⟨rfl, rfl, rfl⟩
theorem is1_c (m s e q m2 s2 e2 q2 u2 : Int) (r : Bool) (hr : r = decide (m2 = m ∧ s2 = s ∧ e2 = e ∧ q2 = q)) :
    Good 161 (pu [.agg [.int .i64 m2, .int .u16 s2, .int .u64 e2, .int .u8 q2, .int .i64 u2], .eptr (some 3) (.agg [.int .i64 m, .int .u16 s, .int .u64 e]) 0, .eptr none (.int .u8 q) 0] (.bool r)) := by
  refine Good.of Tryz.func161 rfl (by rfl) (by kernel_rfl) ?_
  cbv
  (repeat' (first
| (refine q1w (fun z hz => ?_); (try simp only at hz); cbv)
| (refine rqw ?_; cbv)
| (refine rqk ?_; cbv)
| (refine chpA ?_; cbv)
| (refine QC.tw ?_; cbv)
| (refine QC.t3 ?_; cbv)
| (refine QC.f3 ?_; cbv)
| (refine QC.fw ?_; cbv)
| (refine QC.mk (fun hc => ?_) (fun hc => ?_) <;> (try dsimp only at hc) <;> cbv)
| (refine br_mk2 (fun hb => ?_) (fun hb => ?_) <;> (try subst hb) <;> cbv)))
  all_goals (try simp only [Bool.and_eq_true, decide_eq_true_eq, and_true] at *)
  all_goals refine ⟨?_, rfl, rfl⟩
  all_goals rw [hr]
  all_goals first | (rw [decide_eq_true (by omega)]) | (rw [decide_eq_false (by omega)])
structure Sn where
  m : Int
  s : Int
  e : Int
  q : Int
  u : Int
def Sn.v (x : Sn) : SV := .agg [.int .i64 x.m, .int .u16 x.s, .int .u64 x.e, .int .u8 x.q, .int .i64 x.u]
def snL (l : List Sn) : List SV := l.map Sn.v
theorem snL_len (l : List Sn) : (snL l).length = l.length := by simp [snL]
def hitS (m s e q : Int) (x : Sn) : Bool := decide (x.m = m ∧ x.s = s ∧ x.e = e ∧ x.q = q)
theorem snL_at {l : List Sn} {L : List SV} (hL : L = snL l) (i : Nat) (hi : i < l.length) : ∃ m s e q u : Int, l[i] = ⟨m, s, e, q, u⟩ ∧ l[i]? = some ⟨m, s, e, q, u⟩ ∧ L[i]? = some (.agg [.int .i64 m, .int .u16 s, .int .u64 e, .int .u8 q, .int .i64 u]) :=
  ⟨l[i].m, l[i].s, l[i].e, l[i].q, l[i].u, rfl, List.getElem?_eq_getElem hi, by rw [hL]; simp [snL, hi, Sn.v]⟩
theorem index_c (l : List Sn) (L : List SV) (hL : L = snL l) (hl : l.length ≤ 3600000000000) (m s e q r : Int) (hr : (r = -1 ∧ ∀ x ∈ l, hitS m s e q x = false) ∨ ∃ i : Nat, r = i ∧ i < l.length ∧ (∀ (k : Nat) (x : Sn), l[k]? = some x → k < i → hitS m s e q x = false) ∧ ∀ x, l[i]? = some x → hitS m s e q x = true) :
    Good 160 (pu [.lst (some 5) L, .clo 161 [.eptr (some 3) (.agg [.int .i64 m, .int .u16 s, .int .u64 e]) 0, .eptr none (.int .u8 q) 0]] (.int .i64 r)) := by
  have hLl : L.length = l.length := by rw [hL, snL_len]
  have hE := fun i hi => snL_at hL i hi
  have hhit : ∀ (i : Nat) (x : Sn), l[i]? = some x → (∀ (k : Nat) (y : Sn), l[k]? = some y → k < i → hitS m s e q y = false) → hitS m s e q x = true → r = i := by
    intro i x hx hk ht
    rcases hr with ⟨_, h⟩ | ⟨i', h1, h2, h3, h4⟩
    · rw [h x (List.mem_of_getElem? hx)] at ht; cases ht
    · rcases Nat.lt_trichotomy i i' with g | g | g
      · rw [h3 i x hx g] at ht; cases ht
      · rw [h1, g]
      · have := h4 l[i'] (List.getElem?_eq_getElem h2)
        rw [hk i' _ (List.getElem?_eq_getElem h2) g] at this; cases this
  have hmiss : (∀ (k : Nat) (y : Sn), l[k]? = some y → hitS m s e q y = false) → r = -1 := by
    intro hk
    rcases hr with ⟨h, _⟩ | ⟨i', h1, h2, h3, h4⟩
    · exact h
    · have := h4 l[i'] (List.getElem?_eq_getElem h2)
      rw [hk i' _ (List.getElem?_eq_getElem h2)] at this; cases this
  clear hr
  have W : Wrap ((∀ (i : Nat) (x : Sn), l[i]? = some x → (∀ (k : Nat) (y : Sn), l[k]? = some y → k < i → hitS m s e q y = false) → hitS m s e q x = true → r = i) ∧ ((∀ (k : Nat) (y : Sn), l[k]? = some y → hitS m s e q y = false) → r = -1)) := ⟨hhit, hmiss⟩
  clear hhit hmiss
  refine Good.of Tryz.func160 rfl (by rfl) (by kernel_rfl) ?_
  cbv
  (repeat' (first
| (refine q1w (fun z hz => ?_); (try simp only at hz); cbv)
| (refine rqw ?_; cbv)
| (refine rqk ?_; cbv)
| (refine chpA ?_; cbv)
| (refine QC.tw ?_; cbv)
| (refine QC.t3 ?_; cbv)
| (refine QC.f3 ?_; cbv)
| (refine QC.fw ?_; cbv)
| (refine QC.mk (fun hc => ?_) (fun hc => ?_) <;> (try dsimp only at hc) <;> cbv)
| (refine br_mk2 (fun hb => ?_) (fun hb => ?_) <;> (try subst hb) <;> cbv)))
  refine loopQ (A := Nat × Int) (fun p => p.2 = p.1 ∧ p.1 ≤ l.length ∧ ∀ (k : Nat) (y : Sn), l[k]? = some y → k < p.1 → hitS m s e q y = false) (fun p => l.length - p.1) (fun p => [(8, .int .i64 p.2)]) (fun p => []) (0, 0) ⟨rfl, Nat.zero_le _, fun k y _ h => absurd h (Nat.not_lt_zero k)⟩ ?_ ?_
  · cbv
  · intro ⟨i, j⟩ hh
    have hj : j = (i : Int) := hh.1
    have hi : i ≤ l.length := hh.2.1
    have hk := hh.2.2
    dsimp only at hk
    clear hh
    have hmk : True := trivial
    cbv
    (repeat' (first
| (refine q1w (fun z hz => ?_); (try simp only at hz); cbv)
| (refine rqw ?_; cbv)
| (refine rqk ?_; cbv)
| (refine chpA ?_; cbv)
| (refine QC.tw ?_; cbv)
| (refine QC.t3 ?_; cbv)
| (refine QC.f3 ?_; cbv)
| (refine QC.fw ?_; cbv)
| (refine QC.mk (fun hc => ?_) (fun hc => ?_) <;> (try dsimp only at hc) <;> cbv)
| (refine br_mk2 (fun hb => ?_) (fun hb => ?_) <;> (try subst hb) <;> cbv)))
    · have hlt : i < l.length := by (first | omega | (simp only [cst] at *; omega) | (simp only [sm] at *; omega))
      obtain ⟨m2, s2, e2, q2, u2, hx, hx', hLi⟩ := hE i hlt
      obtain ⟨b, hb⟩ : ∃ b, b = hitS m s e q ⟨m2, s2, e2, q2, u2⟩ := ⟨_, rfl⟩
      have g1 := is1_c m s e q m2 s2 e2 q2 u2 b hb
      (refine qv (i, _) ⟨hj, hLi⟩ ?_; cbv; (repeat' (first
| (refine q1w (fun z hz => ?_); (try simp only at hz); cbv)
| (refine rqw ?_; cbv)
| (refine rqk ?_; cbv)
| (refine chpA ?_; cbv)
| (refine QC.tw ?_; cbv)
| (refine QC.t3 ?_; cbv)
| (refine QC.f3 ?_; cbv)
| (refine QC.fw ?_; cbv)
| (refine QC.mk (fun hc => ?_) (fun hc => ?_) <;> (try dsimp only at hc) <;> cbv)
| (refine br_mk2 (fun hb => ?_) (fun hb => ?_) <;> (try subst hb) <;> cbv))))
      (refine callq (g1) rfl rfl ?_; cbv; (repeat' (first
| (refine q1w (fun z hz => ?_); (try simp only at hz); cbv)
| (refine rqw ?_; cbv)
| (refine rqk ?_; cbv)
| (refine chpA ?_; cbv)
| (refine QC.tw ?_; cbv)
| (refine QC.t3 ?_; cbv)
| (refine QC.f3 ?_; cbv)
| (refine QC.fw ?_; cbv)
| (refine QC.mk (fun hc => ?_) (fun hc => ?_) <;> (try dsimp only at hc) <;> cbv)
| (refine br_mk2 (fun hb => ?_) (fun hb => ?_) <;> (try subst hb) <;> cbv))))
      · refine ⟨?_, rfl, rfl⟩
        rw [W.h.1 i _ hx' hk hb.symm, hj]
      · refine ⟨(i + 1, z), ⟨by show z = ((i + 1 : Nat) : Int); (first | omega | (simp only [cst] at *; omega) | (simp only [sm] at *; omega)), by show i + 1 ≤ l.length; omega, fun k y hy hki => ?_⟩, by show l.length - (i + 1) < l.length - i; omega, ?_⟩
        · by_cases e1 : k = i
          · subst e1
            rw [hx'] at hy
            injection hy with hy
            rw [← hy]; exact hb.symm
          · have hki : k < i + 1 := hki
            exact hk k y hy (by omega)
        · cbv
    · refine ⟨?_, rfl, rfl⟩
      rw [W.h.2 fun k y hy => hk k y hy (by have := (List.getElem?_eq_some_iff.1 hy).1; (first | omega | (simp only [cst] at *; omega) | (simp only [sm] at *; omega)))]
theorem contains_c (l : List Sn) (L : List SV) (hL : L = snL l) (hl : l.length ≤ 3600000000000) (m s e q : Int) (b : Bool) (hb : b = l.any (hitS m s e q)) :
    Good 102 (pu [.lst (some 5) L, .clo 161 [.eptr (some 3) (.agg [.int .i64 m, .int .u16 s, .int .u64 e]) 0, .eptr none (.int .u8 q) 0]] (.bool b)) := by
  have h : ∃ r : Int, (b = true → 0 ≤ r) ∧ (b = false → r < 0) ∧ Good 160 (pu [.lst (some 5) L, .clo 161 [.eptr (some 3) (.agg [.int .i64 m, .int .u16 s, .int .u64 e]) 0, .eptr none (.int .u8 q) 0]] (.int .i64 r)) := by
    cases hc : l.findIdx? (hitS m s e q) with
    | none =>
      have hn := List.findIdx?_eq_none_iff.1 hc
      refine ⟨-1, fun h => ?_, fun _ => by omega, index_c l L hL hl m s e q _ (.inl ⟨rfl, fun x hx => hn x hx⟩)⟩
      rw [hb] at h
      obtain ⟨x, hx, hh⟩ := List.any_eq_true.1 h
      rw [hn x hx] at hh; cases hh
    | some i =>
      obtain ⟨h1, h2, h3⟩ := List.findIdx?_eq_some_iff_getElem.1 hc
      refine ⟨i, fun _ => by omega, fun h => ?_, index_c l L hL hl m s e q _ (.inr ⟨i, rfl, h1, fun k x hx hk => ?_, fun x hx => ?_⟩)⟩
      · rw [hb] at h
        have := List.any_eq_false.1 h l[i] (List.getElem_mem h1)
        exact absurd h2 this
      · have := h3 k hk
        obtain ⟨hk', e⟩ := List.getElem?_eq_some_iff.1 hx
        rw [e] at this
        simpa using this
      · rw [List.getElem?_eq_getElem h1] at hx
        injection hx with hx
        rw [← hx]; exact h2
  obtain ⟨r, h1, h2, h3⟩ := h
  refine Good.of Tryz.func102 rfl (by rfl) (by kernel_rfl) ?_
  cbv
  (repeat' (first
| (refine q1w (fun z hz => ?_); (try simp only at hz); cbv)
| (refine rqw ?_; cbv)
| (refine rqk ?_; cbv)
| (refine chpA ?_; cbv)
| (refine QC.tw ?_; cbv)
| (refine QC.t3 ?_; cbv)
| (refine QC.f3 ?_; cbv)
| (refine QC.fw ?_; cbv)
| (refine QC.mk (fun hc => ?_) (fun hc => ?_) <;> (try dsimp only at hc) <;> cbv)
| (refine br_mk2 (fun hb => ?_) (fun hb => ?_) <;> (try subst hb) <;> cbv)))
  (refine callq (h3) rfl rfl ?_; cbv; (repeat' (first
| (refine q1w (fun z hz => ?_); (try simp only at hz); cbv)
| (refine rqw ?_; cbv)
| (refine rqk ?_; cbv)
| (refine chpA ?_; cbv)
| (refine QC.tw ?_; cbv)
| (refine QC.t3 ?_; cbv)
| (refine QC.f3 ?_; cbv)
| (refine QC.fw ?_; cbv)
| (refine QC.mk (fun hc => ?_) (fun hc => ?_) <;> (try dsimp only at hc) <;> cbv)
| (refine br_mk2 (fun hb => ?_) (fun hb => ?_) <;> (try subst hb) <;> cbv))))
  · refine ⟨?_, rfl, rfl⟩
    cases b
    · have := h2 rfl; exfalso; omega
    · rfl
  · refine ⟨?_, rfl, rfl⟩
    cases b
    · rfl
    · have := h1 rfl; exfalso; omega
theorem vsource_c (m s e : Int) (r : Bool) (hr : r = someA m s e) : Good 99 (pu [.agg [.int .i64 m, .int .u16 s, .int .u64 e]] (.bool r)) := by
  obtain ⟨b, hb⟩ : ∃ b, b = decide ((m = 0 ∧ s = 0 ∧ e = 0) ∨ (m = 2 ∧ e = 0) ∨ (m = 3 ∧ s = 0)) := ⟨_, rfl⟩
  have h1 := avalid_c m s e b hb
  unfold someA at hr
  refine Good.of Tryz.func99 rfl (by rfl) (by kernel_rfl) ?_
  cbv
  (repeat' (first
| (refine q1w (fun z hz => ?_); (try simp only at hz); cbv)
| (refine rqw ?_; cbv)
| (refine rqk ?_; cbv)
| (refine chpA ?_; cbv)
| (refine QC.tw ?_; cbv)
| (refine QC.t3 ?_; cbv)
| (refine QC.f3 ?_; cbv)
| (refine QC.fw ?_; cbv)
| (refine QC.mk (fun hc => ?_) (fun hc => ?_) <;> (try dsimp only at hc) <;> cbv)
| (refine br_mk2 (fun hb => ?_) (fun hb => ?_) <;> (try subst hb) <;> cbv)))
  (refine callq (h1) rfl rfl ?_; cbv; (repeat' (first
| (refine q1w (fun z hz => ?_); (try simp only at hz); cbv)
| (refine rqw ?_; cbv)
| (refine rqk ?_; cbv)
| (refine chpA ?_; cbv)
| (refine QC.tw ?_; cbv)
| (refine QC.t3 ?_; cbv)
| (refine QC.f3 ?_; cbv)
| (refine QC.fw ?_; cbv)
| (refine QC.mk (fun hc => ?_) (fun hc => ?_) <;> (try dsimp only at hc) <;> cbv)
| (refine br_mk2 (fun hb => ?_) (fun hb => ?_) <;> (try subst hb) <;> cbv))))
  all_goals (first | have hb := of_decide_eq_true hb.symm | have hb := of_decide_eq_false hb.symm)
  all_goals refine ⟨?_, rfl, rfl⟩
  all_goals rw [hr]
  all_goals first | (rw [decide_eq_true (by omega)]) | (rw [decide_eq_false (by omega)])
def timeT (t : Int) : Bool := decide (0 ≤ t ∧ t ≤ 1099511627776)
theorem vtime_c (t : Int) (r : Bool) (hr : r = timeT t) : Good 100 (pu [.int .i64 t] (.bool r)) := by
  unfold timeT at hr
  refine Good.of Tryz.func100 rfl (by rfl) (by kernel_rfl) ?_
  cbv
  (repeat' (first
| (refine q1w (fun z hz => ?_); (try simp only at hz); cbv)
| (refine rqw ?_; cbv)
| (refine rqk ?_; cbv)
| (refine chpA ?_; cbv)
| (refine QC.tw ?_; cbv)
| (refine QC.t3 ?_; cbv)
| (refine QC.f3 ?_; cbv)
| (refine QC.fw ?_; cbv)
| (refine QC.mk (fun hc => ?_) (fun hc => ?_) <;> (try dsimp only at hc) <;> cbv)
| (refine br_mk2 (fun hb => ?_) (fun hb => ?_) <;> (try subst hb) <;> cbv)))
  all_goals refine ⟨?_, rfl, rfl⟩
  all_goals rw [hr]
  all_goals first | (rw [decide_eq_true (by omega)]) | (rw [decide_eq_false (by omega)])
def ok1 (l : List Sn) (i : Nat) (x : Sn) : Bool := someA x.m x.s x.e && timeT x.u && !((l.take i).any (hitS x.m x.s x.e x.q))
def VS (l : List Sn) : Prop := l.length ≤ 32 ∧ ∀ (i : Nat) (x : Sn), l[i]? = some x → ok1 l i x = true
theorem svalid_c (l : List Sn) (L : List SV) (hL : L = snL l) (hl : l.length ≤ 3600000000000) (b : Bool) (hb : b = true ↔ VS l) : Good 98 (pu [.lst (some 5) L] (.bool b)) := by
  have hLl : L.length = l.length := by rw [hL, snL_len]
  have hE := fun i hi => snL_at hL i hi
  have hlong : 32 < l.length → b = false := fun h => by
    cases b with
    | false => rfl
    | true => have := (hb.1 rfl).1; omega
  have hbad : ∀ (i : Nat) (x : Sn), l[i]? = some x → ok1 l i x = false → b = false := fun i x hx h => by
    cases b with
    | false => rfl
    | true => have := (hb.1 rfl).2 i x hx; rw [h] at this; cases this
  have hgood : l.length ≤ 32 → (∀ (i : Nat) (x : Sn), l[i]? = some x → ok1 l i x = true) → b = true := fun h1 h2 => hb.2 ⟨h1, h2⟩
  have W : Wrap ((32 < l.length → b = false) ∧ (∀ (i : Nat) (x : Sn), l[i]? = some x → ok1 l i x = false → b = false) ∧ (l.length ≤ 32 → (∀ (i : Nat) (x : Sn), l[i]? = some x → ok1 l i x = true) → b = true)) := ⟨hlong, hbad, hgood⟩
  clear hlong hbad hgood hb
  refine Good.of Tryz.func98 rfl (by rfl) (by kernel_rfl) ?_
  cbv
  (repeat' (first
| (refine q1w (fun z hz => ?_); (try simp only at hz); cbv)
| (refine rqw ?_; cbv)
| (refine rqk ?_; cbv)
| (refine chpA ?_; cbv)
| (refine QC.tw ?_; cbv)
| (refine QC.t3 ?_; cbv)
| (refine QC.f3 ?_; cbv)
| (refine QC.fw ?_; cbv)
| (refine QC.mk (fun hc => ?_) (fun hc => ?_) <;> (try dsimp only at hc) <;> cbv)
| (refine br_mk2 (fun hb => ?_) (fun hb => ?_) <;> (try subst hb) <;> cbv)))
  · refine ⟨?_, rfl, rfl⟩
    rw [W.h.1 (by (first | omega | (simp only [cst] at *; omega) | (simp only [sm] at *; omega)))]
  refine loopQ (A := Nat × Int) (fun p => p.2 = p.1 ∧ p.1 ≤ l.length ∧ ∀ (k : Nat) (y : Sn), l[k]? = some y → k < p.1 → ok1 l k y = true) (fun p => l.length - p.1) (fun p => [(10, .int .i64 p.2)]) (fun p => [(4, .no)]) (0, 0) ⟨rfl, Nat.zero_le _, fun k y _ h => absurd h (Nat.not_lt_zero k)⟩ ?_ ?_
  · cbv
  · intro ⟨i, j⟩ hh
    have hj : j = (i : Int) := hh.1
    have hi : i ≤ l.length := hh.2.1
    have hk := hh.2.2
    dsimp only at hk
    clear hh
    have hmk : True := trivial
    cbv
    (repeat' (first
| (refine q1w (fun z hz => ?_); (try simp only at hz); cbv)
| (refine rqw ?_; cbv)
| (refine rqk ?_; cbv)
| (refine chpA ?_; cbv)
| (refine QC.tw ?_; cbv)
| (refine QC.t3 ?_; cbv)
| (refine QC.f3 ?_; cbv)
| (refine QC.fw ?_; cbv)
| (refine QC.mk (fun hc => ?_) (fun hc => ?_) <;> (try dsimp only at hc) <;> cbv)
| (refine br_mk2 (fun hb => ?_) (fun hb => ?_) <;> (try subst hb) <;> cbv)))
    · have hlt : i < l.length := by (first | omega | (simp only [cst] at *; omega) | (simp only [sm] at *; omega))
      obtain ⟨m2, s2, e2, q2, u2, hx, hx', hLi⟩ := hE i hlt
      obtain ⟨b1, hb1⟩ : ∃ b, b = someA m2 s2 e2 := ⟨_, rfl⟩
      obtain ⟨b2, hb2⟩ : ∃ b, b = timeT u2 := ⟨_, rfl⟩
      obtain ⟨b3, hb3⟩ : ∃ b, b = (l.take i).any (hitS m2 s2 e2 q2) := ⟨_, rfl⟩
      have g1 := vsource_c m2 s2 e2 b1 hb1
      have g2 := vtime_c u2 b2 hb2
      have g3 := is_c m2 s2 e2 q2
      have hok : ok1 l i ⟨m2, s2, e2, q2, u2⟩ = (b1 && b2 && !b3) := by rw [hb1, hb2, hb3]; rfl
      (refine qv (i, _) ⟨hj, hLi⟩ ?_; cbv; (repeat' (first
| (refine q1w (fun z hz => ?_); (try simp only at hz); cbv)
| (refine rqw ?_; cbv)
| (refine rqk ?_; cbv)
| (refine chpA ?_; cbv)
| (refine QC.tw ?_; cbv)
| (refine QC.t3 ?_; cbv)
| (refine QC.f3 ?_; cbv)
| (refine QC.fw ?_; cbv)
| (refine QC.mk (fun hc => ?_) (fun hc => ?_) <;> (try dsimp only at hc) <;> cbv)
| (refine br_mk2 (fun hb => ?_) (fun hb => ?_) <;> (try subst hb) <;> cbv))))
      (refine callq (g1) rfl rfl ?_; cbv; (repeat' (first
| (refine q1w (fun z hz => ?_); (try simp only at hz); cbv)
| (refine rqw ?_; cbv)
| (refine rqk ?_; cbv)
| (refine chpA ?_; cbv)
| (refine QC.tw ?_; cbv)
| (refine QC.t3 ?_; cbv)
| (refine QC.f3 ?_; cbv)
| (refine QC.fw ?_; cbv)
| (refine QC.mk (fun hc => ?_) (fun hc => ?_) <;> (try dsimp only at hc) <;> cbv)
| (refine br_mk2 (fun hb => ?_) (fun hb => ?_) <;> (try subst hb) <;> cbv))))
      · (refine callq (g2) rfl rfl ?_; cbv; (repeat' (first
| (refine q1w (fun z hz => ?_); (try simp only at hz); cbv)
| (refine rqw ?_; cbv)
| (refine rqk ?_; cbv)
| (refine chpA ?_; cbv)
| (refine QC.tw ?_; cbv)
| (refine QC.t3 ?_; cbv)
| (refine QC.f3 ?_; cbv)
| (refine QC.fw ?_; cbv)
| (refine QC.mk (fun hc => ?_) (fun hc => ?_) <;> (try dsimp only at hc) <;> cbv)
| (refine br_mk2 (fun hb => ?_) (fun hb => ?_) <;> (try subst hb) <;> cbv))))
        · (refine callq (g3) rfl rfl ?_; cbv; (repeat' (first
| (refine q1w (fun z hz => ?_); (try simp only at hz); cbv)
| (refine rqw ?_; cbv)
| (refine rqk ?_; cbv)
| (refine chpA ?_; cbv)
| (refine QC.tw ?_; cbv)
| (refine QC.t3 ?_; cbv)
| (refine QC.f3 ?_; cbv)
| (refine QC.fw ?_; cbv)
| (refine QC.mk (fun hc => ?_) (fun hc => ?_) <;> (try dsimp only at hc) <;> cbv)
| (refine br_mk2 (fun hb => ?_) (fun hb => ?_) <;> (try subst hb) <;> cbv))))
          have g4 := contains_c (l.take i) (O.tk j L) (by rw [otk, hL, snL, snL, ← List.map_take]; congr 2; (first | omega | (simp only [cst] at *; omega) | (simp only [sm] at *; omega))) (by rw [List.length_take]; (first | omega | (simp only [cst] at *; omega) | (simp only [sm] at *; omega))) m2 s2 e2 q2 b3 hb3
          (refine callq (g4) rfl rfl ?_; cbv; (repeat' (first
| (refine q1w (fun z hz => ?_); (try simp only at hz); cbv)
| (refine rqw ?_; cbv)
| (refine rqk ?_; cbv)
| (refine chpA ?_; cbv)
| (refine QC.tw ?_; cbv)
| (refine QC.t3 ?_; cbv)
| (refine QC.f3 ?_; cbv)
| (refine QC.fw ?_; cbv)
| (refine QC.mk (fun hc => ?_) (fun hc => ?_) <;> (try dsimp only at hc) <;> cbv)
| (refine br_mk2 (fun hb => ?_) (fun hb => ?_) <;> (try subst hb) <;> cbv))))
          · refine ⟨?_, rfl, rfl⟩
            rw [W.h.2.1 i _ hx' (by rw [hok]; rfl)]
          · refine ⟨(i + 1, z), ⟨by show z = ((i + 1 : Nat) : Int); (first | omega | (simp only [cst] at *; omega) | (simp only [sm] at *; omega)), by show i + 1 ≤ l.length; omega, fun k y hy hki => ?_⟩, by show l.length - (i + 1) < l.length - i; omega, ?_⟩
            · by_cases e1 : k = i
              · subst e1
                rw [hx'] at hy
                injection hy with hy
                rw [← hy, hok]; rfl
              · have hki : k < i + 1 := hki
                exact hk k y hy (by omega)
            · cbv
        · refine ⟨?_, rfl, rfl⟩
          rw [W.h.2.1 i _ hx' (by rw [hok]; rfl)]
      · refine ⟨?_, rfl, rfl⟩
        rw [W.h.2.1 i _ hx' (by rw [hok]; rfl)]
    · refine ⟨?_, rfl, rfl⟩
      rw [W.h.2.2 (by (first | omega | (simp only [cst] at *; omega) | (simp only [sm] at *; omega))) fun k y hy => hk k y hy (by have := (List.getElem?_eq_some_iff.1 hy).1; (first | omega | (simp only [cst] at *; omega) | (simp only [sm] at *; omega)))]
end Go.Proofs.YtgfpjhddojhfpaaGreat
namespace Go.Proofs.YtgfpjhddojhfpaaGreat
set_option linter.unusedVariables false
set_option linter.unusedSimpArgs false
open Go.RowKit
set_option maxHeartbeats 8000000
set_option linter.unusedSimpArgs false
set_option linter.unusedVariables false
def pruneF (l : List Sn) (now : Int) : List Sn := l.filter fun x => decide (now < x.u)
theorem pruneF_snoc (l : List Sn) (now : Int) (i : Nat) (x : Sn) (h : l[i]? = some x) : pruneF (l.take (i + 1)) now = if now < x.u then pruneF (l.take i) now ++ [x] else pruneF (l.take i) now := by
  unfold pruneF
  rw [List.take_add_one, h, List.filter_append]
  by_cases hx : now < x.u <;> simp [hx]
theorem pruneG (l : List Sn) (now : Int) : ∃ U : Nat → List SV, U 0 = [] ∧ U l.length = snL (pruneF l now) ∧ (∀ i, i ≤ l.length → (U i).length ≤ i) ∧
    (∀ (i : Nat) (m s e q u : Int), l[i]? = some ⟨m, s, e, q, u⟩ → now < u → apL (U i) [.agg [.int .i64 m, .int .u16 s, .int .u64 e, .int .u8 q, .int .i64 u]] = U (i + 1)) ∧
    (∀ (i : Nat) (m s e q u : Int), l[i]? = some ⟨m, s, e, q, u⟩ → ¬ now < u → U i = U (i + 1)) := by
  refine ⟨fun i => snL (pruneF (l.take i) now), rfl, by simp, fun i hi => ?_, fun i m s e q u h hu => ?_, fun i m s e q u h hu => ?_⟩
  · dsimp only
    rw [snL_len]
    have h1 : (pruneF (l.take i) now).length ≤ (l.take i).length := List.length_filter_le _ _
    rw [List.length_take] at h1
    omega
  · dsimp only
    rw [pruneF_snoc l now i _ h, if_pos hu, apL_eq]
    simp [snL, Sn.v]
  · dsimp only
    rw [pruneF_snoc l now i _ h, if_neg hu]
theorem prune_n (l : List Sn) (L : List SV) (hL : L = snL l) (hl : l.length ≤ 1000000) (now : Int) (R : List SV) (hR : R = snL (pruneF l now)) : Good 101 (nu [.lst (some 5) L, .int .i64 now] (.row 1) (.row (some 5) 188 R)) := by
  have hLl : L.length = l.length := by rw [hL, snL_len]
  have hE := fun i hi => snL_at hL i hi
  obtain ⟨U, U0, Un, Ul, Us, Un'⟩ := pruneG l now
  rw [← hR] at Un
  refine Good.of Tryz.func101 rfl (by rfl) (by kernel_rfl) ?_
  cbv
  (repeat' (first
| (refine q1w (fun z hz => ?_); (try simp only at hz); cbv)
| (refine rqw ?_; cbv)
| (refine rqk ?_; cbv)
| (refine chpA ?_; cbv)
| (refine QC.tw ?_; cbv)
| (refine QC.t3 ?_; cbv)
| (refine QC.f3 ?_; cbv)
| (refine QC.fw ?_; cbv)
| (refine QC.mk (fun hc => ?_) (fun hc => ?_) <;> (try dsimp only at hc) <;> cbv)
| (refine br_mk2 (fun hb => ?_) (fun hb => ?_) <;> (try subst hb) <;> cbv)))
  refine loopQ (A := Nat × Int) (fun p => p.2 = p.1 ∧ p.1 ≤ l.length) (fun p => l.length - p.1) (fun p => [(14, .int .i64 p.2), (5, .row 5), (11, .any)]) (fun p => [(5, .row (some 5) 188 (U p.1)), (7, .no)]) (0, 0) ⟨rfl, Nat.zero_le _⟩ ?_ ?_
  · cbv
    refine ⟨?_, trivial⟩
    show Blk.row (some 5) 188 (O.rp 0 _) = .row (some 5) 188 (U 0)
    rw [orp, U0]; rfl
  · intro ⟨i, j⟩ hh
    have hj : j = (i : Int) := hh.1
    have hi : i ≤ l.length := hh.2
    clear hh
    have hUl := Ul i hi
    have hmk : True := trivial
    cbv
    (repeat' (first
| (refine q1w (fun z hz => ?_); (try simp only at hz); cbv)
| (refine rqw ?_; cbv)
| (refine rqk ?_; cbv)
| (refine chpA ?_; cbv)
| (refine QC.tw ?_; cbv)
| (refine QC.t3 ?_; cbv)
| (refine QC.f3 ?_; cbv)
| (refine QC.fw ?_; cbv)
| (refine QC.mk (fun hc => ?_) (fun hc => ?_) <;> (try dsimp only at hc) <;> cbv)
| (refine br_mk2 (fun hb => ?_) (fun hb => ?_) <;> (try subst hb) <;> cbv)))
    · have hlt : i < l.length := by (first | omega | (simp only [cst] at *; omega) | (simp only [sm] at *; omega))
      obtain ⟨m2, s2, e2, q2, u2, hx, hx', hLi⟩ := hE i hlt
      (refine qv (i, _) ⟨hj, hLi⟩ ?_; cbv; (repeat' (first
| (refine q1w (fun z hz => ?_); (try simp only at hz); cbv)
| (refine rqw ?_; cbv)
| (refine rqk ?_; cbv)
| (refine chpA ?_; cbv)
| (refine QC.tw ?_; cbv)
| (refine QC.t3 ?_; cbv)
| (refine QC.f3 ?_; cbv)
| (refine QC.fw ?_; cbv)
| (refine QC.mk (fun hc => ?_) (fun hc => ?_) <;> (try dsimp only at hc) <;> cbv)
| (refine br_mk2 (fun hb => ?_) (fun hb => ?_) <;> (try subst hb) <;> cbv))))
      · refine ⟨(i + 1, z), ⟨by show z = ((i + 1 : Nat) : Int); (first | omega | (simp only [cst] at *; omega) | (simp only [sm] at *; omega)), by show i + 1 ≤ l.length; omega⟩, by show l.length - (i + 1) < l.length - i; omega, ?_⟩
        cbv
        refine ⟨?_, trivial⟩
        exact congrArg (Blk.row (some 5) 188) (Us i _ _ _ _ _ hx' hc)
      · refine ⟨(i + 1, z), ⟨by show z = ((i + 1 : Nat) : Int); (first | omega | (simp only [cst] at *; omega) | (simp only [sm] at *; omega)), by show i + 1 ≤ l.length; omega⟩, by show l.length - (i + 1) < l.length - i; omega, ?_⟩
        cbv
        refine ⟨?_, trivial⟩
        exact congrArg (Blk.row (some 5) 188) (Un' i _ _ _ _ _ hx' hc)
    · have e : i = l.length := by (first | omega | (simp only [cst] at *; omega) | (simp only [sm] at *; omega))
      refine ⟨rfl, ?_, rfl⟩
      show Blk.row (some 5) 188 (U i) = _
      rw [e, Un]
instance : Inhabited Sn := ⟨⟨0, 0, 0, 0, 0⟩⟩
def leastN (l : List Sn) : Nat → Nat
  | 0 => 0
  | k + 1 => if (l.getD k default).u < (l.getD (leastN l k) default).u then k else leastN l k
theorem leastN_lt (l : List Sn) : ∀ k, 1 ≤ k → leastN l k < k
  | 0, h => absurd h (by omega)
  | k + 1, _ => by
    simp only [leastN]
    split
    · omega
    · by_cases hk : k = 0
      · subst hk; simp [leastN]
      · have := leastN_lt l k (by omega); omega
def newS (m s e q now : Int) : Sn := ⟨m, s, e, q, min (now + 16) 1099511627776⟩
def addS (r : List Sn) (x : Sn) : List Sn := (if r.length = 32 then r.take (leastN r 32) ++ r.drop (leastN r 32 + 1) else r) ++ [x]
theorem pruneF_len (l : List Sn) (now : Int) : (pruneF l now).length ≤ l.length := List.length_filter_le _ _
theorem record_c (l : List Sn) (L : List SV) (hL : L = snL l) (m s e q now : Int) (hv : VS l) (hs : someA m s e = true) (ht : timeT now = true) (R R' : List SV) (b : Bool) (hb : b = (pruneF l now).any (hitS m s e q)) (hR : R = snL (pruneF l now)) (hR' : R' = snL (if b = true then pruneF l now else addS (pruneF l now) (newS m s e q now))) :
    Good 45 (pu [.lst (some 5) L, .agg [.int .i64 m, .int .u16 s, .int .u64 e], .int .u8 q, .int .i64 now] (.tup [.lst (some 5) R', .bool (!b), .int .i64 0])) := by
  have hlen := hv.1
  have g1 := svalid_c l L hL (by omega) true ⟨fun _ => hv, fun _ => rfl⟩
  have g2 := vsource_c m s e true hs.symm
  have g3 := vtime_c now true ht.symm
  have g4 := prune_n l L hL (by omega) now R hR
  have g5 := is_c m s e q
  have hpl := pruneF_len l now
  have g6 := contains_c (pruneF l now) R hR (by omega) m s e q b hb
  have ht' := of_decide_eq_true ht
  have hRl : R.length = (pruneF l now).length := by rw [hR, snL_len]
  clear hb
  cases b with
  | true =>
    simp only [if_true] at hR'
    rw [← hR] at hR'
    subst hR'
    refine Good.of Tryz.func45 rfl (by rfl) (by kernel_rfl) ?_
    cbv
    (repeat' (first
| (refine q1w (fun z hz => ?_); (try simp only at hz); cbv)
| (refine rqw ?_; cbv)
| (refine rqk ?_; cbv)
| (refine chpA ?_; cbv)
| (refine QC.tw ?_; cbv)
| (refine QC.t3 ?_; cbv)
| (refine QC.f3 ?_; cbv)
| (refine QC.fw ?_; cbv)
| (refine QC.mk (fun hc => ?_) (fun hc => ?_) <;> (try dsimp only at hc) <;> cbv)
| (refine br_mk2 (fun hb => ?_) (fun hb => ?_) <;> (try subst hb) <;> cbv)))
    (refine callq (g1) rfl rfl ?_; cbv; (repeat' (first
| (refine q1w (fun z hz => ?_); (try simp only at hz); cbv)
| (refine rqw ?_; cbv)
| (refine rqk ?_; cbv)
| (refine chpA ?_; cbv)
| (refine QC.tw ?_; cbv)
| (refine QC.t3 ?_; cbv)
| (refine QC.f3 ?_; cbv)
| (refine QC.fw ?_; cbv)
| (refine QC.mk (fun hc => ?_) (fun hc => ?_) <;> (try dsimp only at hc) <;> cbv)
| (refine br_mk2 (fun hb => ?_) (fun hb => ?_) <;> (try subst hb) <;> cbv))))
    (refine callq (g2) rfl rfl ?_; cbv; (repeat' (first
| (refine q1w (fun z hz => ?_); (try simp only at hz); cbv)
| (refine rqw ?_; cbv)
| (refine rqk ?_; cbv)
| (refine chpA ?_; cbv)
| (refine QC.tw ?_; cbv)
| (refine QC.t3 ?_; cbv)
| (refine QC.f3 ?_; cbv)
| (refine QC.fw ?_; cbv)
| (refine QC.mk (fun hc => ?_) (fun hc => ?_) <;> (try dsimp only at hc) <;> cbv)
| (refine br_mk2 (fun hb => ?_) (fun hb => ?_) <;> (try subst hb) <;> cbv))))
    (refine callq (g3) rfl rfl ?_; cbv; (repeat' (first
| (refine q1w (fun z hz => ?_); (try simp only at hz); cbv)
| (refine rqw ?_; cbv)
| (refine rqk ?_; cbv)
| (refine chpA ?_; cbv)
| (refine QC.tw ?_; cbv)
| (refine QC.t3 ?_; cbv)
| (refine QC.f3 ?_; cbv)
| (refine QC.fw ?_; cbv)
| (refine QC.mk (fun hc => ?_) (fun hc => ?_) <;> (try dsimp only at hc) <;> cbv)
| (refine br_mk2 (fun hb => ?_) (fun hb => ?_) <;> (try subst hb) <;> cbv))))
    (refine callq (g4) rfl rfl ?_; cbv; (repeat' (first
| (refine q1w (fun z hz => ?_); (try simp only at hz); cbv)
| (refine rqw ?_; cbv)
| (refine rqk ?_; cbv)
| (refine chpA ?_; cbv)
| (refine QC.tw ?_; cbv)
| (refine QC.t3 ?_; cbv)
| (refine QC.f3 ?_; cbv)
| (refine QC.fw ?_; cbv)
| (refine QC.mk (fun hc => ?_) (fun hc => ?_) <;> (try dsimp only at hc) <;> cbv)
| (refine br_mk2 (fun hb => ?_) (fun hb => ?_) <;> (try subst hb) <;> cbv))))
    (refine callq (g5) rfl rfl ?_; cbv; (repeat' (first
| (refine q1w (fun z hz => ?_); (try simp only at hz); cbv)
| (refine rqw ?_; cbv)
| (refine rqk ?_; cbv)
| (refine chpA ?_; cbv)
| (refine QC.tw ?_; cbv)
| (refine QC.t3 ?_; cbv)
| (refine QC.f3 ?_; cbv)
| (refine QC.fw ?_; cbv)
| (refine QC.mk (fun hc => ?_) (fun hc => ?_) <;> (try dsimp only at hc) <;> cbv)
| (refine br_mk2 (fun hb => ?_) (fun hb => ?_) <;> (try subst hb) <;> cbv))))
    (refine callq (g6) rfl rfl ?_; cbv; (repeat' (first
| (refine q1w (fun z hz => ?_); (try simp only at hz); cbv)
| (refine rqw ?_; cbv)
| (refine rqk ?_; cbv)
| (refine chpA ?_; cbv)
| (refine QC.tw ?_; cbv)
| (refine QC.t3 ?_; cbv)
| (refine QC.f3 ?_; cbv)
| (refine QC.fw ?_; cbv)
| (refine QC.mk (fun hc => ?_) (fun hc => ?_) <;> (try dsimp only at hc) <;> cbv)
| (refine br_mk2 (fun hb => ?_) (fun hb => ?_) <;> (try subst hb) <;> cbv))))
    exact ⟨rfl, rfl, rfl⟩
  | false =>
    simp only [Bool.false_eq_true, if_false] at hR'
    have hlen2 : (pruneF l now).length ≤ 32 := by omega
    have hE := fun i hi => snL_at hR i hi
    obtain ⟨n, hn⟩ : ∃ n : Int, n = min (now + 16) 1099511627776 := ⟨_, rfl⟩
    have hnew : newS m s e q now = ⟨m, s, e, q, n⟩ := by rw [hn]; rfl
    rw [hnew] at hR'
    generalize pruneF l now = r at *
    have hR1 : r.length ≠ 32 → R' = apL R [.agg [.int .i64 m, .int .u16 s, .int .u64 e, .int .u8 q, .int .i64 n]] := fun h => by
      rw [hR', addS, if_neg h, apL_eq, hR]; simp [snL, Sn.v]
    have hR2 : r.length = 32 → R' = apL (apL (O.sg R 0 (leastN r 32)) (O.sg R (leastN r 32 + 1) (32 - (leastN r 32 + 1)))) [.agg [.int .i64 m, .int .u16 s, .int .u64 e, .int .u8 q, .int .i64 n]] := fun h => by
      rw [hR', addS, if_pos h, apL_eq, apL_eq, osg, osg, hR]
      simp only [snL, List.map_append, List.map_take, List.map_drop, List.drop_zero]
      have e1 : ((List.map Sn.v r).drop (leastN r 32 + 1)).length ≤ 32 - (leastN r 32 + 1) := by simp; omega
      rw [List.take_of_length_le e1]
      rfl
    clear hR'
    refine Good.of Tryz.func45 rfl (by rfl) (by kernel_rfl) ?_
    cbv
    (repeat' (first
| (refine q1w (fun z hz => ?_); (try simp only at hz); cbv)
| (refine rqw ?_; cbv)
| (refine rqk ?_; cbv)
| (refine chpA ?_; cbv)
| (refine QC.tw ?_; cbv)
| (refine QC.t3 ?_; cbv)
| (refine QC.f3 ?_; cbv)
| (refine QC.fw ?_; cbv)
| (refine QC.mk (fun hc => ?_) (fun hc => ?_) <;> (try dsimp only at hc) <;> cbv)
| (refine br_mk2 (fun hb => ?_) (fun hb => ?_) <;> (try subst hb) <;> cbv)))
    (refine callq (g1) rfl rfl ?_; cbv; (repeat' (first
| (refine q1w (fun z hz => ?_); (try simp only at hz); cbv)
| (refine rqw ?_; cbv)
| (refine rqk ?_; cbv)
| (refine chpA ?_; cbv)
| (refine QC.tw ?_; cbv)
| (refine QC.t3 ?_; cbv)
| (refine QC.f3 ?_; cbv)
| (refine QC.fw ?_; cbv)
| (refine QC.mk (fun hc => ?_) (fun hc => ?_) <;> (try dsimp only at hc) <;> cbv)
| (refine br_mk2 (fun hb => ?_) (fun hb => ?_) <;> (try subst hb) <;> cbv))))
    (refine callq (g2) rfl rfl ?_; cbv; (repeat' (first
| (refine q1w (fun z hz => ?_); (try simp only at hz); cbv)
| (refine rqw ?_; cbv)
| (refine rqk ?_; cbv)
| (refine chpA ?_; cbv)
| (refine QC.tw ?_; cbv)
| (refine QC.t3 ?_; cbv)
| (refine QC.f3 ?_; cbv)
| (refine QC.fw ?_; cbv)
| (refine QC.mk (fun hc => ?_) (fun hc => ?_) <;> (try dsimp only at hc) <;> cbv)
| (refine br_mk2 (fun hb => ?_) (fun hb => ?_) <;> (try subst hb) <;> cbv))))
    (refine callq (g3) rfl rfl ?_; cbv; (repeat' (first
| (refine q1w (fun z hz => ?_); (try simp only at hz); cbv)
| (refine rqw ?_; cbv)
| (refine rqk ?_; cbv)
| (refine chpA ?_; cbv)
| (refine QC.tw ?_; cbv)
| (refine QC.t3 ?_; cbv)
| (refine QC.f3 ?_; cbv)
| (refine QC.fw ?_; cbv)
| (refine QC.mk (fun hc => ?_) (fun hc => ?_) <;> (try dsimp only at hc) <;> cbv)
| (refine br_mk2 (fun hb => ?_) (fun hb => ?_) <;> (try subst hb) <;> cbv))))
    (refine callq (g4) rfl rfl ?_; cbv; (repeat' (first
| (refine q1w (fun z hz => ?_); (try simp only at hz); cbv)
| (refine rqw ?_; cbv)
| (refine rqk ?_; cbv)
| (refine chpA ?_; cbv)
| (refine QC.tw ?_; cbv)
| (refine QC.t3 ?_; cbv)
| (refine QC.f3 ?_; cbv)
| (refine QC.fw ?_; cbv)
| (refine QC.mk (fun hc => ?_) (fun hc => ?_) <;> (try dsimp only at hc) <;> cbv)
| (refine br_mk2 (fun hb => ?_) (fun hb => ?_) <;> (try subst hb) <;> cbv))))
    (refine callq (g5) rfl rfl ?_; cbv; (repeat' (first
| (refine q1w (fun z hz => ?_); (try simp only at hz); cbv)
| (refine rqw ?_; cbv)
| (refine rqk ?_; cbv)
| (refine chpA ?_; cbv)
| (refine QC.tw ?_; cbv)
| (refine QC.t3 ?_; cbv)
| (refine QC.f3 ?_; cbv)
| (refine QC.fw ?_; cbv)
| (refine QC.mk (fun hc => ?_) (fun hc => ?_) <;> (try dsimp only at hc) <;> cbv)
| (refine br_mk2 (fun hb => ?_) (fun hb => ?_) <;> (try subst hb) <;> cbv))))
    (refine callq (g6) rfl rfl ?_; cbv; (repeat' (first
| (refine q1w (fun z hz => ?_); (try simp only at hz); cbv)
| (refine rqw ?_; cbv)
| (refine rqk ?_; cbv)
| (refine chpA ?_; cbv)
| (refine QC.tw ?_; cbv)
| (refine QC.t3 ?_; cbv)
| (refine QC.f3 ?_; cbv)
| (refine QC.fw ?_; cbv)
| (refine QC.mk (fun hc => ?_) (fun hc => ?_) <;> (try dsimp only at hc) <;> cbv)
| (refine br_mk2 (fun hb => ?_) (fun hb => ?_) <;> (try subst hb) <;> cbv))))
    · have hr32 : r.length = 32 := by (first | omega | (simp only [cst] at *; omega) | (simp only [sm] at *; omega))
      have hR2 := hR2 hr32
      refine loopQ (A := Nat × Int × Nat × Int) (fun p => p.2.1 = p.1 ∧ p.1 ≤ 32 ∧ p.2.2.1 = leastN r p.1 ∧ p.2.2.2 = p.2.2.1) (fun p => 32 - p.1) (fun p => [(40, .int .i64 p.2.1), (12, .int .i64 p.2.2.2)]) (fun p => [(14, .no)]) (0, 0, 0, 0) ⟨rfl, by omega, rfl, rfl⟩ ?_ ?_
      · cbv
      · intro ⟨i, j, k, kk⟩ hh
        have hj : j = (i : Int) := hh.1
        have hi : i ≤ 32 := hh.2.1
        have hk : k = leastN r i := hh.2.2.1
        have hkk : kk = (k : Int) := hh.2.2.2
        clear hh
        have hkl : k < 32 := by
          rw [hk]
          by_cases h0 : i = 0
          · subst h0; simp [leastN]
          · have := leastN_lt r i (by omega); omega
        have hmk : True := trivial
        cbv
        (repeat' (first
| (refine q1w (fun z hz => ?_); (try simp only at hz); cbv)
| (refine rqw ?_; cbv)
| (refine rqk ?_; cbv)
| (refine chpA ?_; cbv)
| (refine QC.tw ?_; cbv)
| (refine QC.t3 ?_; cbv)
| (refine QC.f3 ?_; cbv)
| (refine QC.fw ?_; cbv)
| (refine QC.mk (fun hc => ?_) (fun hc => ?_) <;> (try dsimp only at hc) <;> cbv)
| (refine br_mk2 (fun hb => ?_) (fun hb => ?_) <;> (try subst hb) <;> cbv)))
        · have hlt : i < 32 := by (first | omega | (simp only [cst] at *; omega) | (simp only [sm] at *; omega))
          obtain ⟨m3, s3, e3, q3, u3, hx3, hx3', hL3⟩ := hE i (by omega)
          obtain ⟨m4, s4, e4, q4, u4, hx4, hx4', hL4⟩ := hE k (by omega)
          have hstep : leastN r (i + 1) = if u3 < u4 then i else k := by
            simp only [leastN, ← hk, List.getD, hx3', hx4', Option.getD_some]
          (refine qv (i) (by (first | omega | (simp only [cst] at *; omega) | (simp only [sm] at *; omega))) ?_; cbv; (repeat' (first
| (refine q1w (fun z hz => ?_); (try simp only at hz); cbv)
| (refine rqw ?_; cbv)
| (refine rqk ?_; cbv)
| (refine chpA ?_; cbv)
| (refine QC.tw ?_; cbv)
| (refine QC.t3 ?_; cbv)
| (refine QC.f3 ?_; cbv)
| (refine QC.fw ?_; cbv)
| (refine QC.mk (fun hc => ?_) (fun hc => ?_) <;> (try dsimp only at hc) <;> cbv)
| (refine br_mk2 (fun hb => ?_) (fun hb => ?_) <;> (try subst hb) <;> cbv))))
          (refine qv _ (hL3) ?_; cbv; (repeat' (first
| (refine q1w (fun z hz => ?_); (try simp only at hz); cbv)
| (refine rqw ?_; cbv)
| (refine rqk ?_; cbv)
| (refine chpA ?_; cbv)
| (refine QC.tw ?_; cbv)
| (refine QC.t3 ?_; cbv)
| (refine QC.f3 ?_; cbv)
| (refine QC.fw ?_; cbv)
| (refine QC.mk (fun hc => ?_) (fun hc => ?_) <;> (try dsimp only at hc) <;> cbv)
| (refine br_mk2 (fun hb => ?_) (fun hb => ?_) <;> (try subst hb) <;> cbv))))
          (refine qv (k) (by (first | omega | (simp only [cst] at *; omega) | (simp only [sm] at *; omega))) ?_; cbv; (repeat' (first
| (refine q1w (fun z hz => ?_); (try simp only at hz); cbv)
| (refine rqw ?_; cbv)
| (refine rqk ?_; cbv)
| (refine chpA ?_; cbv)
| (refine QC.tw ?_; cbv)
| (refine QC.t3 ?_; cbv)
| (refine QC.f3 ?_; cbv)
| (refine QC.fw ?_; cbv)
| (refine QC.mk (fun hc => ?_) (fun hc => ?_) <;> (try dsimp only at hc) <;> cbv)
| (refine br_mk2 (fun hb => ?_) (fun hb => ?_) <;> (try subst hb) <;> cbv))))
          (refine qv _ (hL4) ?_; cbv; (repeat' (first
| (refine q1w (fun z hz => ?_); (try simp only at hz); cbv)
| (refine rqw ?_; cbv)
| (refine rqk ?_; cbv)
| (refine chpA ?_; cbv)
| (refine QC.tw ?_; cbv)
| (refine QC.t3 ?_; cbv)
| (refine QC.f3 ?_; cbv)
| (refine QC.fw ?_; cbv)
| (refine QC.mk (fun hc => ?_) (fun hc => ?_) <;> (try dsimp only at hc) <;> cbv)
| (refine br_mk2 (fun hb => ?_) (fun hb => ?_) <;> (try subst hb) <;> cbv))))
          · refine ⟨(i + 1, z, i, j), ⟨by show z = ((i + 1 : Nat) : Int); (first | omega | (simp only [cst] at *; omega) | (simp only [sm] at *; omega)), by show i + 1 ≤ 32; omega, by show i = leastN r (i + 1); rw [hstep, if_pos hc], hj⟩, by show 32 - (i + 1) < 32 - i; omega, ?_⟩
            cbv
          · refine ⟨(i + 1, z, k, kk), ⟨by show z = ((i + 1 : Nat) : Int); (first | omega | (simp only [cst] at *; omega) | (simp only [sm] at *; omega)), by show i + 1 ≤ 32; omega, by show k = leastN r (i + 1); rw [hstep, if_neg hc], hkk⟩, by show 32 - (i + 1) < 32 - i; omega, ?_⟩
            cbv
        · rename_i z1 h1 z2 h2
          have hi32 : i = 32 := by (first | omega | (simp only [cst] at *; omega) | (simp only [sm] at *; omega))
          subst hi32
          have e1 : O.tn kk = k := by rw [otn]; (first | omega | (simp only [cst] at *; omega) | (simp only [sm] at *; omega))
          have e2 : O.ad 0 z1 = k + 1 := by rw [oad]; (first | omega | (simp only [cst] at *; omega) | (simp only [sm] at *; omega))
          have e3 : O.sb (O.ln R) z1 = 32 - (k + 1) := by rw [osb, oln]; (first | omega | (simp only [cst] at *; omega) | (simp only [sm] at *; omega))
          have hln : (apL (O.sg R 0 (O.tn kk)) (O.sg R (O.ad 0 z1) (O.sb (O.ln R) z1))).length ≤ 32 := by
            rw [e1, e2, e3, apL_eq, osg, osg]; simp; omega
          refine rq (bndA (apL (O.sg R 0 (O.tn kk)) (O.sg R (O.ad 0 z1) (O.sb (O.ln R) z1))) [SV.agg [.int .i64 m, .int .u16 s, .int .u64 e, .int .u8 q, .int .i64 z]] 40 (by simp; omega)) ?_
          cbv
          (repeat' (first
| (refine q1w (fun z hz => ?_); (try simp only at hz); cbv)
| (refine rqw ?_; cbv)
| (refine rqk ?_; cbv)
| (refine chpA ?_; cbv)
| (refine QC.tw ?_; cbv)
| (refine QC.t3 ?_; cbv)
| (refine QC.f3 ?_; cbv)
| (refine QC.fw ?_; cbv)
| (refine QC.mk (fun hc => ?_) (fun hc => ?_) <;> (try dsimp only at hc) <;> cbv)
| (refine br_mk2 (fun hb => ?_) (fun hb => ?_) <;> (try subst hb) <;> cbv)))
          have e : n = z := by omega
          subst e
          refine ⟨?_, rfl, rfl⟩
          rw [hR2, ← hk, ← e1]
          show SV.tup [.lst (some 5) (apL (apL (O.sg R 0 (O.tn kk)) (O.sg R (O.ad 0 z1) (O.sb (O.ln R) z1))) [.agg [.int .i64 m, .int .u16 s, .int .u64 e, .int .u8 q, .int .i64 n]]), .bool true, .int .i64 0] = _
          rw [e2, e3, e1]
    · have e : n = z := by omega
      subst e
      refine ⟨?_, rfl, rfl⟩
      rw [hR1 (by (first | omega | (simp only [cst] at *; omega) | (simp only [sm] at *; omega)))]
      rfl
end Go.Proofs.YtgfpjhddojhfpaaGreat
