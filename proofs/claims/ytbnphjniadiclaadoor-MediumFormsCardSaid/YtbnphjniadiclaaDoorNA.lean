/- Plain law of multihopref11.Part: the rounds over the links. No program in sight. -/
import Derived.Test.YtbnphjniadiclaaDoorMR
namespace Go.Proofs.YtbnphjniadiclaaDoor
set_option linter.unusedVariables false
set_option linter.unusedSimpArgs false
def Full (M : List (List Int)) (a : Nat) (rs : List Bool) : Prop := ∀ k, k < M.length → Conn M a k → rs[k]? = some true
theorem cf_lt : ∀ (r0 r1 : List Bool), r0.length = r1.length → (∀ k : Nat, r0[k]? = some true → r1[k]? = some true) → r0 = r1 ∨ cf r1 < cf r0
  | [], [], _, _ => .inl rfl
  | x :: r0, y :: r1, hl, h => by
    have h0 := h 0
    have hs := cf_lt r0 r1 (by simpa using hl) (fun k hk => by have := h (k + 1); simpa using this (by simpa using hk))
    cases x <;> cases y
    · rcases hs with e | e
      · left; rw [e]
      · right; simp [cf] at e ⊢; omega
    · right
      rcases hs with e | e
      · subst e; simp [cf]
      · simp [cf] at e ⊢; omega
    · simp at h0
    · rcases hs with e | e
      · left; rw [e]
      · right; simp [cf] at e ⊢; omega
  | [], _ :: _, hl, _ => by simp at hl
  | _ :: _, [], hl, _ => by simp at hl
/-- What is known at the start of round r. -/
structure Rnd (M : List (List Int)) (a r : Nat) (rs : List Bool) : Prop where
  fn : rs.length = M.length
  fa : rs[a]? = some true
  fc : ∀ k, rs[k]? = some true → Conn M a k
  fd : Full M a rs ∨ r + 1 + cf rs ≤ M.length
/-- What is known in a round that began with r0, after i links. -/
structure RndI (M : List (List Int)) (a : Nat) (r0 : List Bool) (L : List (Nat × Nat)) (i : Nat) (rs : List Bool) : Prop where
  fn : rs.length = M.length
  fa : rs[a]? = some true
  fc : ∀ k, rs[k]? = some true → Conn M a k
  up : ∀ k : Nat, r0[k]? = some true → rs[k]? = some true
  ln : ∀ (k : Nat) (p : Nat × Nat), k < i → L[k]? = some p → r0[p.1]? = some true ∨ r0[p.2]? = some true → rs[p.1]? = some true ∧ rs[p.2]? = some true
theorem rnd_end {M : List (List Int)} {a r : Nat} {r0 rs : List Bool} {L : List (Nat × Nat)} (h0 : Rnd M a r r0) (h : RndI M a r0 L L.length rs) (hL : ∀ x y : Nat, x < M.length → y < M.length → adj M x y → (x, y) ∈ L ∨ (y, x) ∈ L) : Rnd M a (r + 1) rs := by
  refine ⟨h.fn, h.fa, h.fc, ?_⟩
  rcases h0.fd with hf | hf
  · exact .inl fun k hk g => h.up k (hf k hk g)
  · rcases cf_lt r0 rs (by rw [h0.fn, h.fn]) h.up with e | e
    · subst e
      refine .inl fun k hk g => ?_
      induction g with
      | refl => exact h.fa
      | step hh gg hc ih =>
        rename_i b c
        have hb : b < M.length := by
          cases hh with
          | refl => have := (List.getElem?_eq_some_iff.1 h.fa).1; rw [h.fn] at this; exact this
          | step _ _ hc => exact hc
        have hbt := ih hb
        rcases hL b c hb hc gg with hm | hm
        · obtain ⟨q, hq, hqe⟩ := List.mem_iff_getElem.1 hm
          exact (h.ln q (b, c) hq (by rw [← hqe]; exact List.getElem?_eq_getElem hq) (.inl hbt)).2
        · obtain ⟨q, hq, hqe⟩ := List.mem_iff_getElem.1 hm
          exact (h.ln q (c, b) hq (by rw [← hqe]; exact List.getElem?_eq_getElem hq) (.inr hbt)).1
    · exact .inr (by omega)
theorem rnd_full {M : List (List Int)} {a : Nat} {rs : List Bool} (h : Rnd M a M.length rs) (k : Nat) : rs[k]? = some true ↔ k < M.length ∧ Conn M a k := by
  constructor
  · intro g
    exact ⟨by have := (List.getElem?_eq_some_iff.1 g).1; rw [h.fn] at this; exact this, h.fc k g⟩
  · rintro ⟨h1, h2⟩
    rcases h.fd with f | f
    · exact f k h1 h2
    · omega
theorem rnd0 {M : List (List Int)} {a : Nat} (ha : a < M.length) : Rnd M a 0 ((List.replicate M.length false).set a true) := by
  have h := bfs0 (M := M) ha
  have h1 := cf_set (rs := List.replicate M.length false) (b := a) (by rw [List.getElem?_replicate, if_pos ha])
  have h2 : cf (List.replicate M.length false) = M.length := by unfold cf; simp
  exact ⟨h.fn, h.fa, h.fc, .inr (by omega)⟩
theorem rndI0 {M : List (List Int)} {a r : Nat} {r0 : List Bool} {L : List (Nat × Nat)} (h : Rnd M a r r0) : RndI M a r0 L 0 r0 := ⟨h.fn, h.fa, h.fc, fun _ h => h, fun k p hk => absurd hk (Nat.not_lt_zero k)⟩
theorem rndI_no {M : List (List Int)} {a i : Nat} {r0 rs : List Bool} {L : List (Nat × Nat)} {p : Nat × Nat} (h : RndI M a r0 L i rs) (hp : L[i]? = some p) (h1 : rs[p.1]? ≠ some true) (h2 : rs[p.2]? ≠ some true) : RndI M a r0 L (i + 1) rs := by
  refine ⟨h.fn, h.fa, h.fc, h.up, fun k q hk hq hr => ?_⟩
  by_cases hki : k = i
  · rw [hki, hp] at hq
    injection hq with hq
    subst hq
    rcases hr with g | g
    · exact absurd (h.up _ g) h1
    · exact absurd (h.up _ g) h2
  · exact h.ln k q (by omega) hq hr
theorem set_up {rs : List Bool} {x k : Nat} (h : rs[k]? = some true) : (rs.set x true)[k]? = some true := by
  have hk := (List.getElem?_eq_some_iff.1 h).1
  rw [List.getElem?_set]
  split
  · rename_i e; rw [if_pos (by omega)]
  · exact h
theorem set_dn {rs : List Bool} {x k : Nat} (h : (rs.set x true)[k]? = some true) : k = x ∨ rs[k]? = some true := by
  rw [List.getElem?_set] at h
  split at h
  · rename_i e; exact .inl e.symm
  · exact .inr h
theorem set_at {rs : List Bool} {x : Nat} (h : x < rs.length) : (rs.set x true)[x]? = some true := by
  rw [List.getElem?_set]
  simp [h]
theorem rndI_yes {M : List (List Int)} {a i : Nat} {r0 rs : List Bool} {L : List (Nat × Nat)} {p : Nat × Nat} (h : RndI M a r0 L i rs) (hp : L[i]? = some p) (hx : p.1 < M.length) (hy : p.2 < M.length) (had : adj M p.1 p.2) (h1 : rs[p.1]? = some true ∨ rs[p.2]? = some true) : RndI M a r0 L (i + 1) ((rs.set p.1 true).set p.2 true) := by
  have up : ∀ k : Nat, rs[k]? = some true → ((rs.set p.1 true).set p.2 true)[k]? = some true := fun k hk => set_up (set_up hk)
  have c1 : Conn M a p.1 := by
    rcases h1 with g | g
    · exact h.fc _ g
    · exact .step (h.fc _ g) (adj_symm had) hx
  have c2 : Conn M a p.2 := .step c1 had hy
  refine ⟨by rw [List.length_set, List.length_set]; exact h.fn, up _ h.fa, fun k hk => ?_, fun k hk => up k (h.up k hk), fun k q hk hq hr => ?_⟩
  · rcases set_dn hk with e | e
    · rw [e]; exact c2
    · rcases set_dn e with e | e
      · rw [e]; exact c1
      · exact h.fc k e
  · by_cases hki : k = i
    · rw [hki, hp] at hq
      injection hq with hq
      subst hq
      exact ⟨set_up (set_at (by rw [h.fn]; exact hx)), set_at (by rw [List.length_set, h.fn]; exact hy)⟩
    · obtain ⟨g1, g2⟩ := h.ln k q (by omega) hq hr
      exact ⟨up _ g1, up _ g2⟩
theorem LP_mem {M : List (List Int)} {x y : Nat} (hx : x < M.length) (hy : y < M.length) (h : adj M x y) (hxy : x < y) : (x, y) ∈ LP M M.length (M.length + 1) := by
  unfold LP
  rw [List.mem_append, List.mem_flatMap]
  refine .inl ⟨x, List.mem_range.2 hx, ?_⟩
  unfold rowP
  rw [List.mem_map]
  exact ⟨y, List.mem_filter.2 ⟨List.mem_range.2 hy, decide_eq_true ⟨hxy, h.1, h.2⟩⟩, rfl⟩
end Go.Proofs.YtbnphjniadiclaaDoor
