/- Texts put together: LO. -/
import Derived.Test.YtplcajgoigpneaaZ20
namespace Go.Proofs.Ytplcajgoigpneaa
set_option linter.unusedVariables false
set_option linter.unusedSimpArgs false
set_option maxHeartbeats 4000000
structure Ky where
  a : Int
  b : Int
  c : Int
  t : Int
  d : Int
  e : Int
  f : Int
  u : Int
def Sw.key (x : Sw) : Ky := ⟨x.a, x.b, x.c, x.t, x.d, x.e, x.f, x.u⟩
def sepK (x y : Ky) : Prop := ¬ (x.a = y.a ∧ x.b = y.b ∧ x.c = y.c ∧ x.t = y.t) ∧ ¬ (x.d = y.d ∧ x.e = y.e ∧ x.f = y.f ∧ x.u = y.u)
def one1 (x : Sw) : Prop := someA x.a x.b x.c = true ∧ someA x.d x.e x.f = true ∧ sizeT x.z x.l = true ∧ timeT x.w = true
theorem VS_iff (l : List Sw) : VS l ↔ l.length ≤ 8 ∧ (∀ x ∈ l, one1 x) ∧ (l.map Sw.key).Pairwise sepK := by
  have key : ∀ (i : Nat) (x : Sw), l[i]? = some x → (ok1 l i x = true ↔ one1 x ∧ ∀ (j : Nat) (y : Sw), j < i → l[j]? = some y → sepK y.key x.key) := by
    intro i x hx
    simp only [ok1, one1, Bool.and_eq_true, Bool.not_eq_true', List.any_eq_false, sepK]
    constructor
    · rintro ⟨⟨⟨⟨⟨h1, h2⟩, h3⟩, h4⟩, h5⟩, h6⟩
      refine ⟨⟨h1, h2, h3, h4⟩, fun j y hj hy => ?_⟩
      have hm : y ∈ l.take i := List.mem_of_getElem? (i := j) (by rw [List.getElem?_take, if_pos hj]; exact hy)
      have g1 := h5 y hm
      have g2 := h6 y hm
      simp only [hitI, hitO, decide_eq_true_eq] at g1 g2
      exact ⟨g1, g2⟩
    · rintro ⟨⟨h1, h2, h3, h4⟩, h5⟩
      refine ⟨⟨⟨⟨⟨h1, h2⟩, h3⟩, h4⟩, fun y hy => ?_⟩, fun y hy => ?_⟩
      all_goals
        obtain ⟨j, hj⟩ := List.mem_iff_getElem?.1 hy
        rw [List.getElem?_take] at hj
        split at hj
        · rename_i hji
          have := h5 j y hji hj
          simp only [hitI, hitO, decide_eq_true_eq]
          first | exact this.1 | exact this.2
        · cases hj
  constructor
  · rintro ⟨h1, h2⟩
    refine ⟨h1, fun x hx => ?_, ?_⟩
    · obtain ⟨i, hi⟩ := List.mem_iff_getElem?.1 hx
      exact ((key i x hi).1 (h2 i x hi)).1
    · rw [List.pairwise_iff_getElem]
      intro i j hi hj hij
      simp only [List.length_map] at hi hj
      simp only [List.getElem_map]
      exact ((key j _ (List.getElem?_eq_getElem hj)).1 (h2 j _ (List.getElem?_eq_getElem hj))).2 i _ hij (List.getElem?_eq_getElem hi)
  · rintro ⟨h1, h2, h3⟩
    refine ⟨h1, fun i x hx => (key i x hx).2 ⟨h2 x (List.mem_of_getElem? hx), fun j y hj hy => ?_⟩⟩
    rw [List.pairwise_iff_getElem] at h3
    obtain ⟨hi, rfl⟩ := List.getElem?_eq_some_iff.1 hx
    obtain ⟨hj', rfl⟩ := List.getElem?_eq_some_iff.1 hy
    have := h3 j i (by simpa using hj') (by simpa using hi) hj
    simpa using this
theorem VS_sub {l k : List Sw} (h : VS l) (hs : List.Sublist k l) : VS k := by
  rw [VS_iff] at h ⊢
  exact ⟨Nat.le_trans hs.length_le h.1, fun x hx => h.2.1 x (hs.subset hx), h.2.2.sublist (hs.map Sw.key)⟩
theorem expF_sub (l : List Sw) (now : Int) : List.Sublist (expF l now) l := List.filter_sublist
theorem delN_sub {A : Type} (l : List A) (i : Nat) : List.Sublist (delN l i) l := by
  rw [delN, ← List.eraseIdx_eq_take_drop_succ]
  exact List.eraseIdx_sublist l i
theorem VS_nil : VS [] := ⟨by simp, fun i x h => by simp at h⟩
theorem VS_del {k : List Sw} (h : VS k) {a b c t : Int} {i : Nat} (hi : k.findIdx? (hitI a b c t) = some i) : ∀ x ∈ delN k i, hitI a b c t x = false := by
  obtain ⟨h1, h2, h3⟩ := List.findIdx?_eq_some_iff_getElem.1 hi
  have hp := ((VS_iff k).1 h).2.2
  rw [List.pairwise_iff_getElem] at hp
  intro x hx
  rw [delN] at hx
  rcases List.mem_append.1 hx with g | g
  · obtain ⟨j, hj⟩ := List.mem_iff_getElem?.1 g
    rw [List.getElem?_take] at hj
    split at hj
    · rename_i hji
      obtain ⟨hj', rfl⟩ := List.getElem?_eq_some_iff.1 hj
      simpa using h3 j hji
    · cases hj
  · obtain ⟨j, hj⟩ := List.mem_iff_getElem?.1 g
    rw [List.getElem?_drop] at hj
    obtain ⟨hj', rfl⟩ := List.getElem?_eq_some_iff.1 hj
    have := hp i (i + 1 + j) (by simpa using h1) (by simpa using hj') (by omega)
    simp only [List.getElem_map, sepK, Sw.key] at this
    have hh := of_decide_eq_true (show decide _ = true from h2)
    refine decide_eq_false fun g => this.1 ⟨hh.1.trans g.1.symm, hh.2.1.trans g.2.1.symm, hh.2.2.1.trans g.2.2.1.symm, hh.2.2.2.trans g.2.2.2.symm⟩
theorem VS_snoc {k : List Sw} (h : VS k) (hl : k.length ≤ 7) {x : Sw} (h1 : one1 x) (hI : ∀ y ∈ k, hitI x.a x.b x.c x.t y = false) (hO : ∀ y ∈ k, hitO x.d x.e x.f x.u y = false) : VS (k ++ [x]) := by
  rw [VS_iff] at h ⊢
  refine ⟨by simp; omega, fun y hy => ?_, ?_⟩
  · rcases List.mem_append.1 hy with g | g
    · exact h.2.1 y g
    · simp at g; subst g; exact h1
  · rw [List.map_append, List.pairwise_append]
    refine ⟨h.2.2, by simp, fun y hy z hz => ?_⟩
    simp only [List.map_cons, List.map_nil, List.mem_singleton] at hz
    subst hz
    obtain ⟨w, hw, rfl⟩ := List.mem_map.1 hy
    exact ⟨of_decide_eq_false (hI w hw), of_decide_eq_false (hO w hw)⟩
theorem map_set_same {A B : Type} (f : A → B) (l : List A) (i : Nat) (y x : A) (hx : l[i]? = some x) (h : f y = f x) : (l.set i y).map f = l.map f := by
  apply List.ext_getElem?
  intro j
  rw [List.getElem?_map, List.getElem?_map, List.getElem?_set]
  split
  · rename_i e
    subst e
    split
    · rw [hx]; simp [h]
    · rename_i g; rw [List.getElem?_eq_none (by omega)] at hx; cases hx
  · rfl
theorem VS_set {k : List Sw} (h : VS k) {i : Nat} {x y : Sw} (hx : k[i]? = some x) (hk : y.key = x.key) (hy : one1 y) : VS (k.set i y) := by
  rw [VS_iff] at h ⊢
  refine ⟨by simpa using h.1, fun z hz => ?_, ?_⟩
  · rcases List.mem_or_eq_of_mem_set hz with g | g
    · exact h.2.1 z g
    · subst g; exact hy
  · rw [map_set_same Sw.key k i y x hx hk]
    exact h.2.2
theorem fwdF_ok (Q : Sw → Prop) (l : List Sw) (a b c n t o : Int) (len : Nat) (d e f u now : Int) (hv : VS l) (hq : ∀ x ∈ l, Q x) (hnew : someA a b c = true → someA d e f = true → 1 ≤ n ∧ n ≤ 2047 → timeT now = true → ∀ z w, 1 ≤ z ∧ z ≤ 2047 → 0 ≤ w ∧ w ≤ 1099511627776 → Q ⟨a, b, c, t, d, e, f, u, n, z, w⟩)
    (hset : ∀ x z, Q x → 1 ≤ z ∧ z ≤ 2047 → Q ⟨x.a, x.b, x.c, x.t, x.d, x.e, x.f, x.u, x.z, z, x.w⟩) : VS (fwdF l a b c n t o len d e f u now).R ∧ ∀ x ∈ (fwdF l a b c n t o len d e f u now).R, Q x := by
  have nil : ∀ er, VS (errR er).R ∧ ∀ x ∈ (errR er).R, Q x := fun er => ⟨VS_nil, fun x hx => by simp [errR] at hx⟩
  unfold fwdF
  split
  case isFalse => exact nil 1
  rename_i hV
  split
  case isFalse => exact nil 2
  rename_i ht
  obtain ⟨_, hs, hok, hd⟩ := hV
  have hvl := of_decide_eq_true (show decide (1 ≤ n ∧ n ≤ 2047 ∧ 0 ≤ o ∧ o < n ∧ o % 8 = 0 ∧ 1 ≤ len ∧ (len : Int) ≤ n - o ∧ ((len : Int) = n - o ∨ len % 8 = 0)) = true from hok)
  have htt := of_decide_eq_true ht
  have hk := VS_sub hv (expF_sub l now)
  have hkq : ∀ x ∈ expF l now, Q x := fun x hx => hq x (expF_mem hx)
  generalize expF l now = k at hk hkq
  unfold fwdG
  split
  · rename_i h0
    have hd := hd h0
    have key : ∀ k1 : List Sw, VS k1 → (∀ x ∈ k1, Q x) → (∀ x ∈ k1, hitI a b c t x = false) → VS (fwd1 k1 a b c n t len d e f u now).R ∧ ∀ x ∈ (fwd1 k1 a b c n t len d e f u now).R, Q x := by
      intro k1 hv1 hq1 hi1
      unfold fwd1
      split
      · exact nil 8
      rename_i hdup
      split
      · exact nil 10
      rename_i hlen
      dsimp only
      split
      · exact ⟨hv1, hq1⟩
      · rename_i hleft
        refine ⟨VS_snoc hv1 (by omega) ⟨hs, hd, decide_eq_true (by dsimp only; omega), decide_eq_true (by dsimp only; omega)⟩ hi1 (fun y hy => by
          have hdup : k1.any (hitO d e f u) = false := by simpa using hdup
          have := List.any_eq_false.1 hdup y hy
          simpa using this), fun x hx => ?_⟩
        rcases List.mem_append.1 hx with g | g
        · exact hq1 x g
        · simp only [List.mem_singleton] at g
          subst g
          exact hnew hs hd (by omega) ht _ _ (by omega) (by omega)
    split
    · rename_i hi
      exact key k hk hkq (fun x hx => List.findIdx?_eq_none_iff.1 hi x hx)
    · rename_i i hi
      exact key _ (VS_sub hk (delN_sub k i)) (fun x hx => hkq x ((delN_sub k i).subset hx)) (VS_del hk hi)
  · split
    · exact nil 9
    · rename_i i hi
      obtain ⟨h1, h2, h3⟩ := List.findIdx?_eq_some_iff_getElem.1 hi
      rw [List.getElem?_eq_getElem h1]
      have hm : k[i] ∈ k := List.getElem_mem h1
      have hx : k[i]? = some k[i] := List.getElem?_eq_getElem h1
      generalize k[i] = x at *
      simp only [fwd2]
      split
      · rename_i hz
        dsimp only
        split
        · exact ⟨VS_sub hk (delN_sub k i), fun x hx => hkq x ((delN_sub k i).subset hx)⟩
        · rename_i hleft
          have hm1 := hk.mem hm
          have hzl : 1 ≤ x.l - (len : Int) ∧ x.l - (len : Int) ≤ 2047 := by omega
          refine ⟨VS_set hk hx rfl ⟨hm1.1, hm1.2.1, decide_eq_true (by dsimp only; omega), hm1.2.2.2⟩, fun y hy => ?_⟩
          rcases List.mem_or_eq_of_mem_set hy with g | g
          · exact hkq y g
          · subst g
            rw [← hz]
            exact hset x _ (hkq x hm) hzl
      · exact nil 9
end Go.Proofs.Ytplcajgoigpneaa
