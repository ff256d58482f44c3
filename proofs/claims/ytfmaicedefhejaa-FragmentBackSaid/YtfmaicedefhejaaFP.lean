/- The plain law of Join: the fragments one after the other. -/
import Derived.Test.YtfmaicedefhejaaFI
namespace Go.Proofs.Ytfmaicedefhejaa
set_option linter.unusedVariables false
set_option linter.unusedSimpArgs false
open Go.RowKit
/-- A fragment. -/
structure Fr where
  n : Int
  t : Int
  a : Int
  b : List UInt8
def Fr.v (f : Fr) : SV := .agg [.int .i64 f.n, .int .u16 f.t, .int .i64 f.a, .lst none (u8l f.b)]
def Fr.ok (f : Fr) : Bool := validF f.n f.a f.b.length
def frL (fs : List Fr) : List SV := fs.map Fr.v
/-- What fits into the numbers. -/
structure Fr.fits (f : Fr) : Prop where
  n : -9223372036854775808 ≤ f.n ∧ f.n ≤ 9223372036854775807
  t : 0 ≤ f.t ∧ f.t ≤ 65535
  a : -9223372036854775808 ≤ f.a ∧ f.a ≤ 9223372036854775807
  b : f.b.length ≤ 140737488351232
/-- A fact that omega does not look into. -/
structure Wrap (p : Prop) : Prop where
  h : p
def bl (l : List Bool) : List SV := l.map SV.bool
theorem bl_len (l : List Bool) : (bl l).length = l.length := by simp [bl]
theorem bl_at {l : List Bool} (i : Nat) (h : i < l.length) : (bl l)[i]? = some (SV.bool (l.getD i false)) := by simp [bl, h]
theorem bl_set (l : List Bool) (i : Nat) (b : Bool) : (bl l).set i (.bool b) = bl (l.set i b) := by simp [bl, List.map_set]
theorem bl_rep (n : Nat) (b : Bool) : List.replicate n (SV.bool b) = bl (List.replicate n b) := by simp [bl]
/-- The places a to a + k, set. -/
def paint (h : List Bool) (a : Int) (k : Nat) : List Bool := h.take a.toNat ++ List.replicate k true ++ h.drop (a.toNat + k)
theorem paint_zero (h : List Bool) (a : Int) : paint h a 0 = h := by simp [paint]
theorem paint_len (h : List Bool) (a : Int) (k : Nat) (hk : a.toNat + k ≤ h.length) : (paint h a k).length = h.length := by simp [paint]; omega
theorem paint_at (h : List Bool) (a : Int) (k i : Nat) (hk : a.toNat + k ≤ i) (hi : i < h.length) : (paint h a k)[i]? = h[i]? := by
  unfold paint
  rw [List.getElem?_append_right (by simp; omega)]
  simp only [List.length_append, List.length_take, List.length_replicate, List.getElem?_drop]
  congr 1
  omega
theorem paint_get (h : List Bool) (a : Int) (k i : Nat) (hk : a.toNat + k ≤ h.length) : (paint h a k)[i]? = if i < a.toNat then h[i]? else if i < a.toNat + k then some true else h[i]? := by
  unfold paint
  by_cases h1 : i < a.toNat
  · rw [if_pos h1, List.getElem?_append_left (by simp; omega), List.getElem?_append_left (by simp; omega), List.getElem?_take, if_pos h1]
  · rw [if_neg h1]
    by_cases h2 : i < a.toNat + k
    · rw [if_pos h2, List.getElem?_append_left (by simp; omega), List.getElem?_append_right (by simp; omega), List.getElem?_replicate, if_pos (by simp; omega)]
    · rw [if_neg h2, List.getElem?_append_right (by simp; omega), List.getElem?_drop]
      congr 1
      simp
      omega
theorem paint_set (h : List Bool) (a : Int) (k : Nat) (hk : a.toNat + k < h.length) : (paint h a k).set (a.toNat + k) true = paint h a (k + 1) := by
  apply List.ext_getElem?
  intro i
  rw [List.getElem?_set, paint_get _ _ _ _ (by omega), paint_get _ _ _ _ (by omega), paint_len _ _ _ (by omega)]
  split
  · rename_i e
    rw [if_neg (by omega), if_pos (by omega)]
  · split
    · rfl
    · split
      · rw [if_pos (by omega)]
      · rw [if_neg (by omega)]
def splice (o : List UInt8) (a : Int) (bs : List UInt8) : List UInt8 := o.take a.toNat ++ bs ++ o.drop (a.toNat + bs.length)
theorem spl_len (o : List UInt8) (a : Int) (bs : List UInt8) (h : a.toNat + bs.length ≤ o.length) : (splice o a bs).length = o.length := by simp [splice]; omega
theorem spl_nil (o : List UInt8) (a : Int) : splice o a [] = o := by simp [splice]
theorem spl_get (o : List UInt8) (a : Int) (bs : List UInt8) (i : Nat) (hk : a.toNat + bs.length ≤ o.length) : (splice o a bs)[i]? = if i < a.toNat then o[i]? else if i < a.toNat + bs.length then bs[i - a.toNat]? else o[i]? := by
  unfold splice
  by_cases h1 : i < a.toNat
  · rw [if_pos h1, List.getElem?_append_left (by simp; omega), List.getElem?_append_left (by simp; omega), List.getElem?_take, if_pos h1]
  · rw [if_neg h1]
    by_cases h2 : i < a.toNat + bs.length
    · rw [if_pos h2, List.getElem?_append_left (by simp; omega), List.getElem?_append_right (by simp; omega)]
      congr 1
      simp
      omega
    · rw [if_neg h2, List.getElem?_append_right (by simp; omega), List.getElem?_drop]
      congr 1
      simp
      omega
theorem spl_set (o : List UInt8) (a : Int) (bs : List UInt8) (k : Nat) (hk : k < bs.length) (h : a.toNat + bs.length ≤ o.length) : (splice o a (bs.take k)).set (a.toNat + k) (bs.getD k 0) = splice o a (bs.take (k + 1)) := by
  have l1 : (bs.take k).length = k := by simp; omega
  have l2 : (bs.take (k + 1)).length = k + 1 := by simp; omega
  apply List.ext_getElem?
  intro i
  rw [List.getElem?_set, spl_get _ _ _ _ (by omega), spl_get _ _ _ _ (by omega), spl_len _ _ _ (by omega), l1, l2]
  split
  · rename_i e
    subst e
    rw [if_pos (by omega), if_neg (by omega), if_pos (by omega), Nat.add_sub_cancel_left, List.getElem?_take, if_pos (by omega), List.getElem?_eq_getElem hk]
    simp [hk]
  · split
    · rfl
    · split
      · rw [if_pos (by omega), List.getElem?_take, List.getElem?_take, if_pos (by omega), if_pos (by omega)]
      · rw [if_neg (by omega)]
/-- What is joined: the bytes, which are there, how many. -/
structure Jo where
  o : List UInt8
  h : List Bool
  c : Int
def freeB (h : List Bool) (a : Int) (k : Nat) : Bool := decide (∀ j, j < k → h[a.toNat + j]? = some false)
def stepF (n t : Int) (s : Jo) (f : Fr) : Option Jo :=
  if f.ok = true ∧ f.n = n ∧ f.t = t ∧ freeB s.h f.a f.b.length = true then some ⟨splice s.o f.a f.b, paint s.h f.a f.b.length, s.c + f.b.length⟩ else none
def goF (n t : Int) : List Fr → Jo → Option Jo
  | [], s => some s
  | f :: fs, s => (stepF n t s f).bind (goF n t fs)
theorem goF_app (n t : Int) : ∀ (fs gs : List Fr) (s : Jo), goF n t (fs ++ gs) s = (goF n t fs s).bind (goF n t gs)
  | [], gs, s => rfl
  | f :: fs, gs, s => by
    simp only [List.cons_append, goF]
    cases stepF n t s f with
    | none => rfl
    | some s' => simp [goF_app n t fs gs s']
theorem goF_snoc (n t : Int) (fs : List Fr) (i : Nat) (hi : i < fs.length) (s s1 : Jo) (h : goF n t (fs.take i) s = some s1) : goF n t (fs.take (i + 1)) s = stepF n t s1 fs[i] := by
  rw [List.take_succ_eq_append_getElem hi, goF_app, h]
  simp [goF]
theorem goF_none (n t : Int) (fs : List Fr) (i : Nat) (s : Jo) (h : goF n t (fs.take i) s = none) : goF n t fs s = none := by
  rw [← List.take_append_drop i fs, goF_app, h]; rfl
def jo0 (n : Int) : Jo := ⟨List.replicate n.toNat 0, List.replicate n.toNat false, 0⟩
def joinF (fs : List Fr) : List UInt8 × Bool :=
  match fs with
  | [] => ([], false)
  | f :: _ => (match f.ok, goF f.n f.t fs (jo0 f.n) with
    | true, some s => if s.c = f.n then (s.o, true) else ([], false)
    | _, _ => ([], false))
theorem stepF_len {n t : Int} {s s1 : Jo} {f : Fr} (h : stepF n t s f = some s1) (h1 : s.o.length = n.toNat ∧ s.h.length = n.toNat) : s1.o.length = n.toNat ∧ s1.h.length = n.toNat := by
  unfold stepF at h
  split at h
  · rename_i hc
    injection h with h; subst h
    have := of_decide_eq_true (show validF f.n f.a f.b.length = true from hc.1)
    have hn := hc.2.1
    exact ⟨by rw [spl_len _ _ _ (by omega)]; exact h1.1, by show (paint s.h f.a f.b.length).length = _; rw [paint_len _ _ _ (by omega)]; exact h1.2⟩
  · cases h
theorem stepF_cnt {n t : Int} {s s1 : Jo} {f : Fr} (h : stepF n t s f = some s1) : s.c ≤ s1.c ∧ s1.c ≤ s.c + 2047 := by
  unfold stepF at h
  split at h
  · rename_i hc
    injection h with h; subst h
    have := of_decide_eq_true (show validF f.n f.a f.b.length = true from hc.1)
    dsimp only
    omega
  · cases h
theorem joinF_none {fs : List Fr} {n t a : Int} {b : List UInt8} (h0 : fs[0]? = some ⟨n, t, a, b⟩) {i : Nat} (h : goF n t (fs.take i) (jo0 n) = none) : joinF fs = ([], false) := by
  cases fs with
  | nil => simp at h0
  | cons f fs =>
    simp at h0
    subst h0
    simp only [joinF, goF_none _ _ _ _ _ h]
    cases (⟨n, t, a, b⟩ : Fr).ok <;> rfl
theorem joinF_some {fs : List Fr} {n t a : Int} {b : List UInt8} (h0 : fs[0]? = some ⟨n, t, a, b⟩) (hok : validF n a b.length = true) {s : Jo} (h : goF n t fs (jo0 n) = some s) : joinF fs = if s.c = n then (s.o, true) else ([], false) := by
  cases fs with
  | nil => simp at h0
  | cons f fs =>
    simp at h0
    subst h0
    have hok : (⟨n, t, a, b⟩ : Fr).ok = true := hok
    simp only [joinF, h, hok]
theorem stepF_no {n0 t0 n t a : Int} {b : List UInt8} {s : Jo} (h : validF n a b.length = false ∨ ¬ n = n0 ∨ ¬ t = t0 ∨ ∃ k, k < b.length ∧ s.h[a.toNat + k]? ≠ some false) : stepF n0 t0 s ⟨n, t, a, b⟩ = none := by
  unfold stepF
  rw [if_neg]
  rintro ⟨h1, h2, h3, h4⟩
  rcases h with h | h | h | ⟨k, hk, h⟩
  · have h1 : validF n a b.length = true := h1
    rw [h1] at h; cases h
  · exact h h2
  · exact h h3
  · exact h (of_decide_eq_true h4 k hk)
theorem stepF_yes {n0 t0 n t a : Int} {b : List UInt8} {s : Jo} (h1 : validF n a b.length = true) (h2 : n = n0) (h3 : t = t0) (h4 : ∀ k, k < b.length → s.h[a.toNat + k]? = some false) : stepF n0 t0 s ⟨n, t, a, b⟩ = some ⟨splice s.o a b, paint s.h a b.length, s.c + b.length⟩ := by
  unfold stepF
  rw [if_pos ⟨h1, h2, h3, decide_eq_true h4⟩]
theorem joinF_step_no {fs : List Fr} {n0 t0 a0 n t a : Int} {b0 b : List UInt8} (h0 : fs[0]? = some ⟨n0, t0, a0, b0⟩) {i : Nat} {s : Jo} (hg : goF n0 t0 (fs.take i) (jo0 n0) = some s) (hi : fs[i]? = some ⟨n, t, a, b⟩)
    (h : validF n a b.length = false ∨ ¬ n = n0 ∨ ¬ t = t0 ∨ ∃ k, k < b.length ∧ s.h[a.toNat + k]? ≠ some false) : joinF fs = ([], false) := by
  obtain ⟨hl, he⟩ := List.getElem?_eq_some_iff.1 hi
  refine joinF_none h0 (i := i + 1) ?_
  rw [goF_snoc _ _ _ _ hl _ _ hg, he]
  exact stepF_no h
theorem joinF_step_yes {fs : List Fr} {n0 t0 n t a : Int} {b : List UInt8} {i : Nat} {s : Jo} (hg : goF n0 t0 (fs.take i) (jo0 n0) = some s) (hi : fs[i]? = some ⟨n, t, a, b⟩)
    (h1 : validF n a b.length = true) (h2 : n = n0) (h3 : t = t0) (h4 : ∀ k, k < b.length → s.h[a.toNat + k]? = some false) : goF n0 t0 (fs.take (i + 1)) (jo0 n0) = some ⟨splice s.o a b, paint s.h a b.length, s.c + b.length⟩ := by
  obtain ⟨hl, he⟩ := List.getElem?_eq_some_iff.1 hi
  rw [goF_snoc _ _ _ _ hl _ _ hg, he]
  exact stepF_yes h1 h2 h3 h4
end Go.Proofs.Ytfmaicedefhejaa
