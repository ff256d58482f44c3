/- Texts put together: GD. -/
import Derived.Test.YtplcajgoigpneaaZ25
namespace Go.Proofs.Ytplcajgoigpneaa
set_option linter.unusedVariables false
set_option linter.unusedSimpArgs false
open Go.RowKit
set_option maxHeartbeats 4000000
theorem disj_symm {f g : Fr} (h : disj f g) : disj g f := by unfold disj at *; omega
theorem atS_mono (len room : Int) (h : 13 ≤ room) (hl : 0 ≤ len) {i : Nat} : ∀ {j : Nat}, i < j → atS len room i + lenS len room (atS len room i) i ≤ atS len room j
  | 0, hj => absurd hj (by omega)
  | j + 1, hj => by
    have h1 := atS_ok len room h hl j
    have h2 := lenS_ok len room (atS len room j) j h h1.2.1
    by_cases e : i = j
    · subst e; simp only [atS]; omega
    · have := atS_mono len room h hl (i := i) (j := j) (by omega)
      simp only [atS]; omega
section
variable (bs : List UInt8) (tag room : Int) (K : Nat) (hb : 1 ≤ bs.length ∧ bs.length ≤ 2047) (hr : 13 ≤ room) (ht : 0 ≤ tag ∧ tag ≤ 65535) (hK : atS bs.length room K = bs.length) (hK' : ∀ k, k < K → atS bs.length room k < bs.length)
include hb hr hK'
theorem split_len (k : Nat) (hk : k < K) : ((splitF bs tag room k).b.length : Int) = lenS bs.length room (atS bs.length room k) k ∧ 1 ≤ (splitF bs tag room k).b.length := by
  have h1 := atS_ok bs.length room hr (by omega) k
  have h2 := lenS_ok bs.length room (atS bs.length room k) k hr h1.2.1
  have h3 := hK' k hk
  have h4 := h2.2.2 h3
  simp only [splitF, List.length_take, List.length_drop]
  omega
theorem split_part (k : Nat) (hk : k < K) : PartF bs tag (splitF bs tag room k) := by
  have h1 := atS_ok bs.length room hr (by omega) k
  have h2 := lenS_ok bs.length room (atS bs.length room k) k hr h1.2.1
  have h3 := split_len bs tag room K hb hr hK' k hk
  refine ⟨rfl, rfl, ⟨h1.1, ?_⟩, splitF_ok bs tag room K k hb hr hk hK', fun j hj => ?_⟩
  · have : (splitF bs tag room k).a = atS bs.length room k := rfl
    omega
  · have e : (splitF bs tag room k).b = (bs.drop (atS bs.length room k).toNat).take (lenS bs.length room (atS bs.length room k) k).toNat := rfl
    rw [e, List.length_take] at hj
    rw [e, List.getElem?_take, if_pos (by omega), List.getElem?_drop]
    rfl
theorem split_disj : ((List.range K).map (splitF bs tag room)).Pairwise disj := by
  rw [List.pairwise_map]
  refine List.Pairwise.imp_of_mem ?_ (List.pairwise_lt_range (n := K))
  intro i j hi hj hij
  have hi := List.mem_range.1 hi
  have h3 := split_len bs tag room K hb hr hK' i hi
  have h4 := atS_mono bs.length room hr (by omega) hij
  have h1 := atS_ok bs.length room hr (by omega) i
  refine .inl ?_
  have e1 : (splitF bs tag room i).a = atS bs.length room i := rfl
  have e2 : (splitF bs tag room j).a = atS bs.length room j := rfl
  omega
include hK in
theorem split_sum : (((List.range K).map (splitF bs tag room)).map fun f => f.b.length).sum = bs.length := by
  have key : ∀ k, k ≤ K → (((((List.range k).map (splitF bs tag room)).map fun f => f.b.length).sum : Nat) : Int) = atS bs.length room k := by
    intro k
    induction k with
    | zero => intro _; rfl
    | succ k ih =>
      intro hk
      have h3 := split_len bs tag room K hb hr hK' k (by omega)
      have := ih (by omega)
      rw [List.range_succ, List.map_append, List.map_append, List.sum_append]
      simp only [List.map_cons, List.map_nil, List.sum_cons, List.sum_nil, atS]
      omega
  have := key K (Nat.le_refl _)
  omega
theorem split_room (k : Nat) (hk : k < K) : ((encF (splitF bs tag room k).n (splitF bs tag room k).t (splitF bs tag room k).a (splitF bs tag room k).b).length : Int) ≤ room := by
  have h1 := atS_ok bs.length room hr (by omega) k
  have h3 := split_len bs tag room K hb hr hK' k hk
  have h5 := hK' k hk
  have h6 := spS_ge room k hr
  have h7 : lenS bs.length room (atS bs.length room k) k ≤ spS room k := by unfold lenS; split <;> omega
  rw [encF_len]
  have e1 : (splitF bs tag room k).a = atS bs.length room k := rfl
  rw [e1]
  by_cases h0 : k = 0
  · subst h0
    have : atS bs.length room 0 = 0 := rfl
    rw [if_neg (by omega)]
    have : spS room 0 = room - 4 := rfl
    omega
  · have : spS room k = room - 5 := by unfold spS; rw [if_neg h0]
    split <;> omega
end
structure Ord (bs : List UInt8) (t room : Int) (fs : List Fr) : Prop where
  part : ∀ f ∈ fs, PartF bs t f
  fits : ∀ f ∈ fs, f.fits
  room : ∀ f ∈ fs, ((encF f.n f.t f.a f.b).length : Int) ≤ room
  dis : fs.Pairwise disj
  sum : (fs.map fun f => f.b.length).sum = bs.length
theorem Ord.perm {bs : List UInt8} {t room : Int} {fs gs : List Fr} (h : Ord bs t room fs) (p : gs.Perm fs) : Ord bs t room gs :=
  ⟨fun f hf => h.part f (p.mem_iff.1 hf), fun f hf => h.fits f (p.mem_iff.1 hf), fun f hf => h.room f (p.mem_iff.1 hf), (p.symm.pairwise_iff (fun h => disj_symm h)).1 h.dis, by rw [(p.map _).sum_nat]; exact h.sum⟩
theorem swap_perm (fs : List Fr) (x y : Nat) (hx : x < fs.length) (hy : y < fs.length) : ((fs.set x fs[y]).set y fs[x]).Perm fs := List.set_set_perm hx hy
theorem Ord.join {bs : List UInt8} {t room : Int} {fs : List Fr} (h : Ord bs t room fs) (hne : 1 ≤ bs.length) : joinF fs = (bs, true) := by
  refine join_all bs t fs ?_ h.part h.dis h.sum
  rintro rfl
  have := h.sum
  simp at this
  omega
theorem Ord.less {bs : List UInt8} {t room : Int} {fs : List Fr} (h : Ord bs t room fs) (hne : 1 ≤ bs.length) : ∃ rs, joinF (fs.drop 1) = (rs, false) := by
  cases fs with
  | nil => exact ⟨[], rfl⟩
  | cons f fs =>
    have hf := of_decide_eq_true (show validF f.n f.a f.b.length = true from (h.part f (by simp)).ok)
    have hs := h.sum
    simp only [List.map_cons, List.sum_cons] at hs
    exact join_less bs t fs (fun g hg => h.part g (by simp [hg])) (List.pairwise_cons.1 h.dis).2 (by omega)
end Go.Proofs.Ytplcajgoigpneaa
