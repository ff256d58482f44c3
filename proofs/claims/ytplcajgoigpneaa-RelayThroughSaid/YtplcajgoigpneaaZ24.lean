/- Texts put together: GC. -/
import Derived.Test.YtplcajgoigpneaaZ23
namespace Go.Proofs.Ytplcajgoigpneaa
set_option linter.unusedVariables false
set_option linter.unusedSimpArgs false
open Go.RowKit
set_option maxHeartbeats 4000000
def cnt (h : List Bool) : Nat := h.countP id
theorem cnt_paint (h : List Bool) (a : Int) (k : Nat) (ha : a.toNat + k ≤ h.length) (hf : ∀ j, j < k → h[a.toNat + j]? = some false) : cnt (paint h a k) = cnt h + k := by
  induction k with
  | zero => rw [paint_zero]; rfl
  | succ k ih =>
    have h1 := ih (by omega) (fun j hj => hf j (by omega))
    have h2 := paint_set h a k (by omega)
    rw [← h2]
    have hlen := paint_len h a k (by omega)
    have hat : (paint h a k)[a.toNat + k]? = some false := by rw [paint_at h a k _ (Nat.le_refl _) (by omega)]; exact hf k (by omega)
    have hlt : a.toNat + k < (paint h a k).length := by omega
    have key : ∀ (l : List Bool) (i : Nat), l[i]? = some false → cnt (l.set i true) = cnt l + 1 := by
      intro l
      induction l with
      | nil => intro i h; simp at h
      | cons x l ihl =>
        intro i h
        cases i with
        | zero => simp at h; subst h; simp [cnt]
        | succ i =>
          simp at h
          have := ihl i h
          simp only [cnt, List.set_cons_succ, List.countP_cons] at *
          omega
    rw [key _ _ hat, h1]
    omega
structure Inv (bs : List UInt8) (s : Jo) : Prop where
  lo : s.o.length = bs.length
  lh : s.h.length = bs.length
  cn : s.c = cnt s.h
  eq : ∀ p, p < bs.length → s.h[p]? = some true → s.o[p]? = bs[p]?
structure PartF (bs : List UInt8) (t : Int) (f : Fr) : Prop where
  n : f.n = bs.length
  t : f.t = t
  a : 0 ≤ f.a ∧ f.a.toNat + f.b.length ≤ bs.length
  ok : f.ok = true
  eq : ∀ j, j < f.b.length → f.b[j]? = bs[f.a.toNat + j]?
def disj (f g : Fr) : Prop := f.a.toNat + f.b.length ≤ g.a.toNat ∨ g.a.toNat + g.b.length ≤ f.a.toNat
theorem goF_tiles (bs : List UInt8) (t : Int) : ∀ (fs : List Fr) (s : Jo), Inv bs s → (∀ f ∈ fs, PartF bs t f) → fs.Pairwise disj → (∀ f ∈ fs, ∀ j, j < f.b.length → s.h[f.a.toNat + j]? = some false) →
    ∃ s', goF bs.length t fs s = some s' ∧ Inv bs s' ∧ s'.c = s.c + ((fs.map fun f => f.b.length).sum : Nat)
  | [], s, hi, _, _, _ => ⟨s, rfl, hi, by simp⟩
  | f :: fs, s, hi, hp, hd, hfree => by
    have pf := hp f (by simp)
    have ff := hfree f (by simp)
    have hstep : stepF bs.length t s f = some ⟨splice s.o f.a f.b, paint s.h f.a f.b.length, s.c + f.b.length⟩ := by
      obtain ⟨n, t', a, b⟩ := f
      exact stepF_yes pf.ok pf.n pf.t ff
    have hlo := hi.lo
    have hlh := hi.lh
    have ha := pf.a
    have inv : Inv bs ⟨splice s.o f.a f.b, paint s.h f.a f.b.length, s.c + f.b.length⟩ := by
      refine ⟨?_, ?_, ?_, ?_⟩
      · show (splice s.o f.a f.b).length = _
        rw [spl_len _ _ _ (by omega)]; exact hlo
      · show (paint s.h f.a f.b.length).length = _
        rw [paint_len _ _ _ (by omega)]; exact hlh
      · show s.c + (f.b.length : Int) = cnt (paint s.h f.a f.b.length)
        rw [cnt_paint _ _ _ (by omega) ff, hi.cn]
        omega
      · intro p hp1 hp2
        dsimp only at hp2 ⊢
        rw [paint_get _ _ _ _ (by omega)] at hp2
        rw [spl_get _ _ _ _ (by omega)]
        split
        · rename_i h1
          rw [if_pos h1] at hp2
          exact hi.eq p hp1 hp2
        · rename_i h1
          rw [if_neg h1] at hp2
          split
          · rename_i h2
            rw [pf.eq _ (by omega)]
            congr 1
            omega
          · rename_i h2
            rw [if_neg h2] at hp2
            exact hi.eq p hp1 hp2
    obtain ⟨h1, h2⟩ := List.pairwise_cons.1 hd
    obtain ⟨s', g1, g2, g3⟩ := goF_tiles bs t fs _ inv (fun g hg => hp g (by simp [hg])) h2 (fun g hg j hj => by
      dsimp only
      have pg := (hp g (by simp [hg])).a
      have := h1 g hg
      rw [paint_get _ _ _ _ (by omega)]
      have hfree' := hfree g (by simp [hg]) j hj
      unfold disj at this
      split
      · exact hfree'
      · split
        · omega
        · exact hfree')
    refine ⟨s', ?_, g2, ?_⟩
    · simp only [goF, hstep, Option.bind_some]; exact g1
    · rw [g3]
      simp only [List.map_cons, List.sum_cons]
      omega
theorem cnt_le (h : List Bool) : cnt h ≤ h.length := List.countP_le_length
theorem cnt_full {h : List Bool} (hc : cnt h = h.length) : ∀ p, p < h.length → h[p]? = some true := by
  intro p hp
  have := (List.countP_eq_length (p := id) (l := h)).1 hc (h[p]) (List.getElem_mem hp)
  rw [List.getElem?_eq_getElem hp]
  exact congrArg some this
theorem inv0 (bs : List UInt8) : Inv bs (jo0 bs.length) := by
  refine ⟨by simp [jo0], by simp [jo0], ?_, ?_⟩
  · have : cnt (List.replicate ((bs.length : Int).toNat) false) = 0 := by simp [cnt]
    simp only [jo0, this]; rfl
  · intro p hp h; simp [jo0, hp] at h
theorem join_all (bs : List UInt8) (t : Int) (fs : List Fr) (hne : fs ≠ []) (hp : ∀ f ∈ fs, PartF bs t f) (hd : fs.Pairwise disj) (hs : (fs.map fun f => f.b.length).sum = bs.length) : joinF fs = (bs, true) := by
  obtain ⟨s', h1, h2, h3⟩ := goF_tiles bs t fs (jo0 bs.length) (inv0 bs) hp hd (fun f hf j hj => by
    have := (hp f hf).a
    show (List.replicate ((bs.length : Int).toNat) false)[f.a.toNat + j]? = some false
    rw [List.getElem?_replicate, if_pos (by omega)])
  cases fs with
  | nil => exact absurd rfl hne
  | cons f fs =>
    have pf := hp f (by simp)
    have e : goF f.n f.t (f :: fs) (jo0 f.n) = some s' := by rw [pf.n, pf.t]; exact h1
    simp only [joinF, pf.ok, e]
    have hc : s'.c = bs.length := by rw [h3, hs]; simp [jo0]
    rw [if_pos (by rw [hc, pf.n])]
    congr 1
    have hcf : cnt s'.h = s'.h.length := by have := h2.cn; have := h2.lh; omega
    apply List.ext_getElem?
    intro p
    by_cases hpl : p < bs.length
    · exact h2.eq p hpl (cnt_full hcf p (by rw [h2.lh]; exact hpl))
    · rw [List.getElem?_eq_none (by rw [h2.lo]; omega), List.getElem?_eq_none (by omega)]
theorem join_less (bs : List UInt8) (t : Int) (fs : List Fr) (hp : ∀ f ∈ fs, PartF bs t f) (hd : fs.Pairwise disj) (hs : (fs.map fun f => f.b.length).sum < bs.length) : ∃ rs, joinF fs = (rs, false) := by
  obtain ⟨s', h1, h2, h3⟩ := goF_tiles bs t fs (jo0 bs.length) (inv0 bs) hp hd (fun f hf j hj => by
    have := (hp f hf).a
    show (List.replicate ((bs.length : Int).toNat) false)[f.a.toNat + j]? = some false
    rw [List.getElem?_replicate, if_pos (by omega)])
  cases fs with
  | nil => exact ⟨[], rfl⟩
  | cons f fs =>
    have pf := hp f (by simp)
    have e : goF f.n f.t (f :: fs) (jo0 f.n) = some s' := by rw [pf.n, pf.t]; exact h1
    simp only [joinF, pf.ok, e]
    rw [if_neg (by rw [h3, pf.n]; simp [jo0]; simp at hs; omega)]
    exact ⟨[], rfl⟩
end Go.Proofs.Ytplcajgoigpneaa
