/- The parts of a medium: which nodes are joined; what a search from a node knows. No program in sight. -/
import Derived.Test.YtbnphjniadiclaaDoorMD
namespace Go.Proofs.YtbnphjniadiclaaDoor
set_option linter.unusedVariables false
set_option linter.unusedSimpArgs false
def adj (M : List (List Int)) (a b : Nat) : Prop := 0 < lk M a b ∧ 0 < lk M b a
theorem adj_symm {M : List (List Int)} {a b : Nat} (h : adj M a b) : adj M b a := ⟨h.2, h.1⟩
inductive Conn (M : List (List Int)) (a : Nat) : Nat → Prop
  | refl : Conn M a a
  | step {b c : Nat} (h : Conn M a b) (g : adj M b c) (hc : c < M.length) : Conn M a c
theorem Conn.lt {M : List (List Int)} {a b : Nat} (ha : a < M.length) (h : Conn M a b) : b < M.length := by
  cases h with
  | refl => exact ha
  | step _ _ hc => exact hc
theorem Conn.trans {M : List (List Int)} {a b c : Nat} (h : Conn M a b) (g : Conn M b c) : Conn M a c := by
  induction g with
  | refl => exact h
  | step _ g hc ih => exact .step ih g hc
theorem Conn.symm {M : List (List Int)} {a b : Nat} (ha : a < M.length) (h : Conn M a b) : Conn M b a := by
  induction h with
  | refl => exact .refl
  | step h g hc ih => exact Conn.trans (.step .refl (adj_symm g) (h.lt ha)) ih
noncomputable def connB (M : List (List Int)) (a k : Nat) : Bool := @decide (Conn M a k) (Classical.propDecidable _)
theorem connB_iff {M : List (List Int)} {a k : Nat} : connB M a k = true ↔ Conn M a k := by unfold connB; exact @decide_eq_true_iff _ (Classical.propDecidable _)
noncomputable def partP (M : List (List Int)) (a : Nat) : List Nat := (List.range M.length).filter (connB M a)
theorem mem_partP {M : List (List Int)} {a k : Nat} : k ∈ partP M a ↔ k < M.length ∧ Conn M a k := by
  unfold partP
  rw [List.mem_filter, List.mem_range, connB_iff]
theorem partP_eq {M : List (List Int)} {a b : Nat} (ha : a < M.length) (h : Conn M a b) : partP M a = partP M b := by
  have hb := h.lt ha
  unfold partP
  congr 1
  funext k
  rw [Bool.eq_iff_iff, connB_iff, connB_iff]
  exact ⟨fun g => Conn.trans (h.symm ha) g, fun g => Conn.trans h g⟩
theorem partP_len (M : List (List Int)) (a : Nat) : (partP M a).length ≤ M.length := by
  unfold partP
  exact Nat.le_trans (List.length_filter_le _ _) (by simp)
theorem partP_self {M : List (List Int)} {a : Nat} (ha : a < M.length) : a ∈ partP M a := mem_partP.2 ⟨ha, .refl⟩
theorem partP_share {M : List (List Int)} {a b k : Nat} (ha : a < M.length) (hb : b < M.length) (h1 : k ∈ partP M a) (h2 : k ∈ partP M b) : partP M a = partP M b := by
  have g1 := (mem_partP.1 h1).2
  have g2 := (mem_partP.1 h2).2
  exact partP_eq ha (g1.trans (g2.symm hb))
/-- What the search knows: rs the nodes reached, q those still to be looked at, p the one being looked at, up to its neighbour b. -/
structure Bfs (M : List (List Int)) (a : Nat) (rs : List Bool) (q : List Nat) (p : Option Nat) (b : Nat) : Prop where
  fn : rs.length = M.length
  fq : ∀ x ∈ q, rs[x]? = some true
  fc : ∀ k, rs[k]? = some true → Conn M a k
  fd : ∀ k, rs[k]? = some true → k ∈ q ∨ p = some k ∨ ∀ j, j < M.length → adj M k j → rs[j]? = some true
  fe : ∀ k, p = some k → rs[k]? = some true ∧ ∀ j, j < b → j < M.length → adj M k j → rs[j]? = some true
  fa : rs[a]? = some true
theorem bfs0 {M : List (List Int)} {a : Nat} (ha : a < M.length) : Bfs M a ((List.replicate M.length false).set a true) [a] none 0 := by
  have hg : ∀ k, ((List.replicate M.length false).set a true)[k]? = some true → k = a := fun k h => by
    rw [List.getElem?_set] at h
    split at h
    · rename_i e; exact e.symm
    · rw [List.getElem?_replicate] at h
      split at h <;> simp at h
  have h1 : ((List.replicate M.length false).set a true)[a]? = some true := by rw [List.getElem?_set]; simp [ha]
  exact ⟨by simp, fun x hx => by simp at hx; rw [hx]; exact h1, fun k h => by rw [hg k h]; exact .refl, fun k h => .inl (by rw [hg k h]; simp), fun k h => (by cases h), h1⟩
theorem bfs_pop {M : List (List Int)} {a x : Nat} {rs : List Bool} {q : List Nat} (h : Bfs M a rs (x :: q) none 0) : Bfs M a rs q (some x) 0 := by
  refine ⟨h.fn, fun y hy => h.fq y (List.mem_cons_of_mem _ hy), h.fc, fun k hk => ?_, fun k hk => ?_, h.fa⟩
  · rcases h.fd k hk with g | g | g
    · rcases List.mem_cons.1 g with e | e
      · exact .inr (.inl (by rw [e]))
      · exact .inl e
    · cases g
    · exact .inr (.inr g)
  · injection hk with hk
    subst hk
    exact ⟨h.fq _ (by simp), fun j hj => absurd hj (Nat.not_lt_zero j)⟩
theorem bfs_mark {M : List (List Int)} {a p b : Nat} {rs : List Bool} {q : List Nat} (h : Bfs M a rs q (some p) b) (hb : b < M.length) (hadj : adj M p b) : Bfs M a (rs.set b true) (q ++ [b]) (some p) (b + 1) := by
  have hbl : b < rs.length := by rw [h.fn]; exact hb
  have up : ∀ k, rs[k]? = some true → (rs.set b true)[k]? = some true := fun k hk => by
    rw [List.getElem?_set]
    split
    · rename_i e; simp [hbl]
    · exact hk
  have dn : ∀ k, (rs.set b true)[k]? = some true → k = b ∨ rs[k]? = some true := fun k hk => by
    rw [List.getElem?_set] at hk
    split at hk
    · rename_i e; exact .inl e.symm
    · exact .inr hk
  have hbb : (rs.set b true)[b]? = some true := by rw [List.getElem?_set]; simp [hbl]
  have hp := h.fe p rfl
  refine ⟨by rw [List.length_set]; exact h.fn, fun x hx => ?_, fun k hk => ?_, fun k hk => ?_, fun k hk => ?_, up _ h.fa⟩
  · rcases List.mem_append.1 hx with hx | hx
    · exact up _ (h.fq x hx)
    · simp at hx; rw [hx]; exact hbb
  · rcases dn k hk with e | e
    · rw [e]; exact .step (h.fc p hp.1) hadj hb
    · exact h.fc k e
  · rcases dn k hk with e | e
    · exact .inl (by rw [e]; simp)
    · rcases h.fd k e with g | g | g
      · exact .inl (by simp [g])
      · exact .inr (.inl g)
      · exact .inr (.inr fun j hj ha => up j (g j hj ha))
  · injection hk with hk
    subst hk
    refine ⟨up _ hp.1, fun j hj hjn ha => ?_⟩
    by_cases hjb : j = b
    · rw [hjb]; exact hbb
    · exact up j (hp.2 j (by omega) hjn ha)
theorem bfs_skip {M : List (List Int)} {a p b : Nat} {rs : List Bool} {q : List Nat} (h : Bfs M a rs q (some p) b) (hs : rs[b]? = some true ∨ ¬ adj M p b) : Bfs M a rs q (some p) (b + 1) := by
  refine ⟨h.fn, h.fq, h.fc, h.fd, fun k hk => ?_, h.fa⟩
  injection hk with hk
  subst hk
  refine ⟨(h.fe p rfl).1, fun j hj hjn ha => ?_⟩
  by_cases hjb : j = b
  · subst hjb
    rcases hs with g | g
    · exact g
    · exact absurd ha g
  · exact (h.fe p rfl).2 j (by omega) hjn ha
theorem bfs_done {M : List (List Int)} {a p : Nat} {rs : List Bool} {q : List Nat} (h : Bfs M a rs q (some p) M.length) : Bfs M a rs q none 0 := by
  refine ⟨h.fn, h.fq, h.fc, fun k hk => ?_, fun k hk => (by cases hk), h.fa⟩
  rcases h.fd k hk with g | g | g
  · exact .inl g
  · injection g with g
    subst g
    exact .inr (.inr fun j hj ha => (h.fe p rfl).2 j hj hj ha)
  · exact .inr (.inr g)
theorem bfs_end {M : List (List Int)} {a : Nat} {rs : List Bool} (h : Bfs M a rs [] none 0) (k : Nat) : rs[k]? = some true ↔ k < M.length ∧ Conn M a k := by
  constructor
  · intro g
    exact ⟨by have := (List.getElem?_eq_some_iff.1 g).1; rw [h.fn] at this; exact this, h.fc k g⟩
  · rintro ⟨_, g⟩
    induction g with
    | refl => exact h.fa
    | step hh gg hc ih =>
      have := ih (by
        cases hh with
        | refl => have := (List.getElem?_eq_some_iff.1 h.fa).1; rw [h.fn] at this; exact this
        | step _ _ hc => exact hc)
      rcases h.fd _ this with e | e | e
      · cases e
      · cases e
      · exact e _ hc gg
/-- How many nodes are not reached. -/
def cf (rs : List Bool) : Nat := rs.count false
theorem cf_set {rs : List Bool} {b : Nat} (h : rs[b]? = some false) : cf (rs.set b true) + 1 = cf rs := by
  unfold cf
  obtain ⟨hb, hv⟩ := List.getElem?_eq_some_iff.1 h
  rw [List.count_set hb, hv]
  have : 0 < rs.count false := List.count_pos_iff.2 (by rw [← hv]; exact List.getElem_mem hb)
  simp
  omega
def partB (rs : List Bool) (i : Nat) : List Nat := (List.range i).filter fun k => rs.getD k false
theorem partB_succ (rs : List Bool) (i : Nat) : partB rs (i + 1) = if rs.getD i false = true then partB rs i ++ [i] else partB rs i := by
  unfold partB
  rw [List.range_succ, List.filter_append]
  simp only [List.filter_cons, List.filter_nil]
  split
  · rfl
  · simp
theorem partB_len (rs : List Bool) (i : Nat) : (partB rs i).length ≤ i := by
  unfold partB
  exact Nat.le_trans (List.length_filter_le _ _) (by simp)
theorem partB_end {M : List (List Int)} {a : Nat} {rs : List Bool} (h : Bfs M a rs [] none 0) : partB rs M.length = partP M a := by
  unfold partB partP
  apply List.filter_congr
  intro k hk
  have hk := List.mem_range.1 hk
  have := bfs_end h k
  rw [Bool.eq_iff_iff, connB_iff, List.getD_eq_getElem?_getD]
  constructor
  · intro g
    have hkl : k < rs.length := by rw [h.fn]; exact hk
    rw [List.getElem?_eq_getElem hkl] at g this
    simp at g
    exact (this.1 (by rw [g])).2
  · intro g
    rw [this.2 ⟨hk, g⟩]
    rfl
end Go.Proofs.YtbnphjniadiclaaDoor
