/- Laws of what a slot delivers. -/
import Derived.Test.YtbnphjniadiclaaDoorME
namespace Go.Proofs.YtbnphjniadiclaaDoor
set_option linter.unusedVariables false
set_option linter.unusedSimpArgs false
/-- A reception has its cause. -/
def EltOk (M : List (List Int)) (tx : List Txn) (x : Rcp) : Prop := ∃ (k : Nat) (t : Txn), x = ⟨t.f, k, t.b⟩ ∧ selfB tx k = false ∧ hd M tx k = [t]
theorem dF_cases (M : List (List Int)) (tx : List Txn) (ds : List Int) (n : Nat) : dF M tx ds (n + 1) = dF M tx ds n ∨ ∃ t, selfB tx n = false ∧ hd M tx n = [t] ∧ dF M tx ds (n + 1) = ((dF M tx ds n).1 + 1, if ds.getD (dF M tx ds n).1 0 < lk M t.f n then (dF M tx ds n).2 ++ [⟨t.f, n, t.b⟩] else (dF M tx ds n).2) := by
  by_cases h : selfB tx n = true ∨ (hd M tx n).length ≠ 1
  · exact .inl (dF_skip h)
  · have h1 : selfB tx n = false := by cases hs : selfB tx n <;> simp_all
    have h2 : (hd M tx n).length = 1 := by apply Classical.byContradiction; intro hc; exact h (.inr hc)
    obtain ⟨t, ht⟩ := List.length_eq_one_iff.1 h2
    exact .inr ⟨t, h1, ht, dF_one h1 ht⟩
theorem dF_spec (M : List (List Int)) (tx : List Txn) (ds : List Int) : ∀ n, (∀ x ∈ (dF M tx ds n).2, EltOk M tx x ∧ 0 ≤ x.t ∧ x.t < n) ∧ (dF M tx ds n).2.Pairwise (fun x y => x.t < y.t)
  | 0 => ⟨fun x hx => by simp [dF] at hx, by simp [dF]⟩
  | n + 1 => by
    obtain ⟨h1, h2⟩ := dF_spec M tx ds n
    rcases dF_cases M tx ds n with e | ⟨t, e1, e2, e⟩
    · rw [e]
      exact ⟨fun x hx => ⟨(h1 x hx).1, (h1 x hx).2.1, by have := (h1 x hx).2.2; omega⟩, h2⟩
    · rw [e]
      dsimp only
      split
      · refine ⟨fun x hx => ?_, ?_⟩
        · rcases List.mem_append.1 hx with hx | hx
          · exact ⟨(h1 x hx).1, (h1 x hx).2.1, by have := (h1 x hx).2.2; omega⟩
          · simp at hx
            subst hx
            exact ⟨⟨n, t, rfl, e1, e2⟩, by dsimp only; omega, by dsimp only; omega⟩
        · rw [List.pairwise_append]
          refine ⟨h2, by simp, fun x hx y hy => ?_⟩
          simp at hy
          subst hy
          exact (h1 x hx).2.2
      · exact ⟨fun x hx => ⟨(h1 x hx).1, (h1 x hx).2.1, by have := (h1 x hx).2.2; omega⟩, h2⟩
theorem dF_has {M : List (List Int)} {tx : List Txn} {ds : List Int} (hd8 : ∀ d ∈ ds, 0 ≤ d ∧ d ≤ 255) {k : Nat} {t : Txn} (h1 : selfB tx k = false) (h2 : hd M tx k = [t]) (h3 : lk M t.f k = 256) : ∀ n, k < n → (⟨t.f, k, t.b⟩ : Rcp) ∈ (dF M tx ds n).2
  | 0, h => absurd h (Nat.not_lt_zero k)
  | n + 1, h => by
    by_cases hk : k = n
    · subst hk
      rw [dF_one h1 h2]
      dsimp only
      rw [if_pos]
      · simp
      · rw [h3, List.getD_eq_getElem?_getD]
        cases hx : ds[(dF M tx ds k).1]? with
        | none => simp
        | some d => have := hd8 d (List.mem_of_getElem? hx); simp; omega
    · have ih := dF_has hd8 h1 h2 h3 n (by omega)
      rcases dF_cases M tx ds n with e | ⟨u, e1, e2, e⟩
      · rw [e]; exact ih
      · rw [e]
        dsimp only
        split
        · exact List.mem_append.2 (.inl ih)
        · exact ih
theorem dF_sub {M : List (List Int)} {tx : List Txn} {ds : List Int} (hv : VM M) (hv2 : ∀ t ∈ tx, 0 ≤ t.f ∧ t.f < M.length) (hd8 : ∀ d ∈ ds, 0 ≤ d ∧ d ≤ 255) : ∀ n, n ≤ M.length → (dF M tx ds n).2.Sublist (dF M tx [] n).2
  | 0, _ => by simp [dF]
  | n + 1, hn => by
    have ih := dF_sub hv hv2 hd8 n (by omega)
    by_cases h : selfB tx n = true ∨ (hd M tx n).length ≠ 1
    · rw [dF_skip h, dF_skip h]; exact ih
    · have h1 : selfB tx n = false := by cases hs : selfB tx n <;> simp_all
      have h2 : (hd M tx n).length = 1 := by apply Classical.byContradiction; intro hc; exact h (.inr hc)
      obtain ⟨t, ht⟩ := List.length_eq_one_iff.1 h2
      have hm : t ∈ hd M tx n := by rw [ht]; simp
      unfold hd at hm
      rw [List.mem_filter] at hm
      obtain ⟨b1, b2⟩ := hv2 t hm.1
      have hne : lk M t.f n ≠ 0 := by simpa using hm.2
      have hge : 0 ≤ lk M t.f n := by
        unfold lk
        have hlt : t.f.toNat < M.length := by omega
        rw [List.getElem?_eq_getElem hlt]
        exact (rowOk_v (hv.r _ _ (List.getElem?_eq_getElem hlt)) n).1
      rw [dF_one h1 ht, dF_one h1 ht]
      dsimp only
      have h0 : ([] : List Int).getD (dF M tx [] n).1 0 = 0 := by simp
      rw [h0, if_pos (show (0 : Int) < lk M t.f n by omega)]
      split
      · exact List.Sublist.append ih (List.Sublist.refl _)
      · exact ih.trans (List.sublist_append_left _ _)
theorem lk_zero {M : List (List Int)} (hv : VM M) {n : Nat} (hn : n < M.length) : lk M n n = 0 := by
  unfold lk
  rw [Int.toNat_natCast, List.getElem?_eq_getElem hn]
  exact (hv.r _ _ (List.getElem?_eq_getElem hn)).z
/-- How often a node receives. -/
def cnt (l : List Rcp) (k : Nat) : Int := ((l.filter fun x => decide (x.t = (k : Int))).length : Int)
theorem cnt_nil (k : Nat) : cnt [] k = 0 := rfl
theorem cnt_nn (l : List Rcp) (k : Nat) : 0 ≤ cnt l k := Int.natCast_nonneg _
theorem cnt_take {l : List Rcp} {i : Nat} {x : Rcp} (h : l[i]? = some x) (k : Nat) : cnt (l.take (i + 1)) k = if x.t = (k : Int) then cnt (l.take i) k + 1 else cnt (l.take i) k := by
  unfold cnt
  rw [List.take_add_one, h, List.filter_append]
  simp only [Option.toList_some, List.filter_cons, List.filter_nil]
  by_cases hx : x.t = (k : Int)
  · rw [if_pos (by simp [hx]), if_pos hx]; simp
  · rw [if_neg (by simp [hx]), if_neg hx]; simp
theorem cnt_le {l : List Rcp} (h : l.Pairwise fun x y => x.t < y.t) (k : Nat) : cnt l k ≤ 1 := by
  unfold cnt
  have hp : (l.filter fun x => decide (x.t = (k : Int))).Pairwise fun x y => x.t < y.t := h.sublist List.filter_sublist
  have hm : ∀ x ∈ l.filter fun x => decide (x.t = (k : Int)), x.t = (k : Int) := fun x hx => of_decide_eq_true (List.mem_filter.1 hx).2
  generalize (l.filter fun x => decide (x.t = (k : Int))) = g at hp hm
  match g, hp, hm with
  | [], _, _ => simp
  | [a], _, _ => simp
  | a :: b :: r, hp, hm =>
    have h1 := hm a (by simp)
    have h2 := hm b (by simp)
    have := (List.pairwise_cons.1 hp).1 b (by simp)
    omega
theorem cnt_pos {l : List Rcp} {x : Rcp} {k : Nat} (h : x ∈ l) (hk : x.t = (k : Int)) : 1 ≤ cnt l k := by
  unfold cnt
  have : x ∈ l.filter fun x => decide (x.t = (k : Int)) := List.mem_filter.2 ⟨h, by simp [hk]⟩
  have := List.length_pos_of_mem this
  omega
theorem cnt_zero {l : List Rcp} {k : Nat} (h : ∀ x ∈ l, x.t ≠ (k : Int)) : cnt l k = 0 := by
  unfold cnt
  have : l.filter (fun x => decide (x.t = (k : Int))) = [] := by
    rw [List.filter_eq_nil_iff]
    intro x hx
    simp [h x hx]
  rw [this]; rfl
/-- The law of a single transmission. -/
structure One (M : List (List Int)) (f : Int) (l : List Rcp) : Prop where
  u : ∀ k, k < M.length → lk M f k = 256 → cnt l k = 1
  z : ∀ k, k < M.length → lk M f k = 0 → cnt l k = 0
  m : ∀ k, cnt l k ≤ 1
theorem one_ok {M : List (List Int)} (hv : VM M) {f : Nat} (hf : f < M.length) (b : List UInt8) {ds : List Int} (hd8 : ∀ d ∈ ds, 0 ≤ d ∧ d ≤ 255) : One M f (dF M [⟨f, b⟩] ds M.length).2 := by
  obtain ⟨h1, h2⟩ := dF_spec M [⟨f, b⟩] ds M.length
  refine ⟨fun k hk h => ?_, fun k hk h => ?_, cnt_le h2⟩
  · have hne : f ≠ k := by rintro rfl; rw [lk_zero hv hk] at h; cases h
    have a1 : selfB [⟨f, b⟩] k = false := by simp [selfB]; omega
    have a2 : hd M [⟨f, b⟩] k = [⟨f, b⟩] := by simp [hd, h]
    have := cnt_pos (k := k) (dF_has hd8 a1 a2 h M.length hk) rfl
    have := cnt_le h2 k
    omega
  · refine cnt_zero fun x hx he => ?_
    obtain ⟨⟨k2, t, rfl, _, e2⟩, _, _⟩ := h1 x hx
    have hk2 : k2 = k := by dsimp only at he; omega
    subst hk2
    simp [hd, h] at e2
end Go.Proofs.YtbnphjniadiclaaDoor
