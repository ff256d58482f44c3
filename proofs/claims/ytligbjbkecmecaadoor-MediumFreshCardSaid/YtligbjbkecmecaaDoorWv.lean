/- Steps of the call's own memory. -/
import Derived.Test.YtligbjbkecmecaaDoorRw
namespace Go.Proofs.YtligbjbkecmecaaDoor
set_option linter.unusedVariables false
set_option linter.unusedSimpArgs false
open Go.RowKit
variable {P : Program} {T : Nat → Option TI}

def bNoref (d : Nat) : Blk → Bool
  | .chunk _ x => noref d x
  | .rowx _ _ _ x => noref d x
  | .rown _ _ l => noref.norefs d l
  | _ => true
def memNoref (d : Nat) : Mem → Bool
  | [] => true
  | (_, b) :: l => bNoref d b && memNoref d l
theorem memNoref_get {d : Nat} : ∀ {l : Mem}, memNoref d l = true → ∀ r, bNoref d (getM l r) = true
  | [], _, r => by simp [getM, bNoref]
  | (k, b) :: l, h, r => by
    simp only [memNoref, Bool.and_eq_true] at h
    simp only [getM]
    split
    · exact h.1
    · exact memNoref_get h.2 r
theorem memNoref_set {d : Nat} {b : Blk} (hb : bNoref d b = true) : ∀ {l : Mem} {r : Nat}, memNoref d l = true → memNoref d (setM b l r) = true
  | [], r, _ => by simp [setM, memNoref, hb]
  | (k, c) :: l, r, h => by
    simp only [memNoref, Bool.and_eq_true] at h
    simp only [setM]
    split
    · simp [memNoref, h.1, memNoref_set hb h.2]
    · split
      · simp [memNoref, hb, h.2]
      · simp [memNoref, hb, h.1, h.2]

theorem getN_setN {A : Type} (d v : A) : ∀ (l : List A) (i j : Nat), i < l.length → getN d (setN v l i) j = if j = i then v else getN d l j
  | [], i, j, h => by simp at h
  | a :: l, 0, 0, _ => by simp [setN, getN]
  | a :: l, 0, j + 1, _ => by simp [setN, getN]
  | a :: l, i + 1, 0, _ => by simp [setN, getN]
  | a :: l, i + 1, j + 1, h => by simp [setN, getN, getN_setN d v l i j (by simpa using h)]
theorem setN_length {A : Type} (v : A) (l : List A) (i : Nat) : (setN v l i).length = l.length := by rw [setN_eq]; simp

theorem BlkRep.lift {N : Nat → Prop} {w w' : World} {Y Y' : Nat → Prop} {ρ ρ' : Env} {d : Option Nat} (t : Turn w Y ρ w' Y' ρ' d) {B : Blk} {o : Option Value} (hn : ∀ r, d = some r → bNoref r B = true)
    (hb : ∀ v b, o = some v → vblock v = some b → B.own = true → w'.heap[b]? = w.heap[b]?) (h : BlkRep T N w Y ρ B o) : BlkRep T N w' Y' ρ' B o := by
  cases B with
  | no => exact h
  | frz sh l =>
    obtain ⟨v, h1, h2⟩ := h
    exact ⟨v, h1, h2.mono t.size t.keep⟩
  | rowx e l i x =>
    obtain ⟨b, off, cap, cur, h2, h3, h4, h5, h6, h7, h0, h9, hi, h8, hx⟩ := h
    exact ⟨b, off, cap, cur, h2, h3, by rw [hb _ b h2 (by simp only [vblock]; rw [if_neg (by omega)]) rfl]; exact h4, h5, h6, h7, h0, h9, hi, fun j h hj => (h8 j h hj).mono t.size t.keep, t.den (fun r hr => hn r hr) hx⟩
  | rown sh e l =>
    obtain ⟨b, off, cap, cur, h2, h3, h4, h5, h6, h7, h0, h9, h8⟩ := h
    exact ⟨b, off, cap, cur, h2, h3, by rw [hb _ b h2 (by simp only [vblock]; rw [if_neg (by omega)]) rfl]; exact h4, h5, h6, h7, h0, h9, fun i h => t.den (fun r hr => norefs_get (hn r hr) i h) (h8 i h)⟩
  | iter s p =>
    obtain ⟨b, h1, h2, h3⟩ := h
    exact ⟨b, h1, h2, by rw [hb _ b h1 rfl rfl]; exact h3⟩
  | gen tag k l =>
    obtain ⟨v, b, ob, h1, h2, h3, h4, h5⟩ := h
    exact ⟨v, b, ob, h1, h2, h3, by rw [hb _ b h1 h2 rfl]; exact h4, h5⟩
  | chunk ty x =>
    obtain ⟨i, b, us, tt, h1, h2, h3, h4, h5, h6, h7⟩ := h
    exact ⟨i, b, us, tt, h1, h2, h3, by rw [hb _ b h2 rfl rfl]; exact h4, h5, h6, t.den (fun r hr => hn r hr) h7⟩
  | row sh e l =>
    obtain ⟨v, h1, h2⟩ := h
    refine ⟨v, h1, ?_⟩
    rcases h2 with h2 | ⟨b, off, cap, cur, h2, h3, h4, h5, h6, h7, h0, h9, h8⟩
    · exact .inl h2
    · exact .inr ⟨b, off, cap, cur, h2, h3, by rw [hb _ b h1 (by rw [h2]; simp only [vblock]; rw [if_neg (by omega)]) rfl]; exact h4, h5, h6, h7, h0, h9, fun i h => (h8 i h).mono t.size t.keep⟩

def upd (ρ : Env) (d : Nat) (v : Value) : Env := fun r => if r = d then some v else ρ r


/-- The ids of S turn; the rest stays. -/
theorem MRep.step {N : Nat → Prop} {w0 w w' : World} {X : Nat → Prop} {mem mem' : Mem} {ρ ρ' : Env} (m : MRep T N w0 w X mem ρ) (S : Nat → Prop) (d : Option Nat)
    (hbel : BelowW N w w') (hold : ∀ r, ¬ S r → getM mem' r = getM mem r ∧ ρ' r = ρ r) (henv : ∀ r, S r → ρ' r = none ∨ ρ' r = ρ r ∨ d = some r)
    (hd : ∀ r, d = some r → memNoref r mem = true)
    (hkeep : ∀ b, b < w.heap.size → w'.heap[b]? = w.heap[b]? ∨ ∃ r v, S r ∧ (getM mem r).own = true ∧ ρ r = some v ∧ vblock v = some b)
    (hown : ∀ r v b, S r → (getM mem' r).own = true → ρ' r = some v → vblock v = some b → (w.heap.size ≤ b ∧ b < w'.heap.size) ∨ ∃ r0 v0, S r0 ∧ (getM mem r0).own = true ∧ ρ r0 = some v0 ∧ vblock v0 = some b)
    (hinj : ∀ r r' v v' b, S r → S r' → (getM mem' r).own = true → (getM mem' r').own = true → ρ' r = some v → ρ' r' = some v' → vblock v = some b → vblock v' = some b → r = r')
    (hB : Turn w (Forb X mem ρ) ρ w' (Forb X mem' ρ') ρ' d → ∀ r, S r → BlkRep T N w' (Forb X mem' ρ') ρ' (getM mem' r) (ρ' r)) :
    MRep T N w0 w' X mem' ρ' ∧ Turn w (Forb X mem ρ) ρ w' (Forb X mem' ρ') ρ' d := by
  have hO : ∀ b, owned mem' ρ' b → w.heap.size ≤ b ∨ owned mem ρ b := by
    rintro b ⟨r, v, h1, h2, h3⟩
    by_cases hS : S r
    · rcases hown r v b hS h1 h2 h3 with h | ⟨r0, v0, _, g1, g2, g3⟩
      · exact .inl h.1
      · exact .inr ⟨r0, v0, g1, g2, g3⟩
    · obtain ⟨e1, e2⟩ := hold r hS
      exact .inr ⟨r, v, by rw [← e1]; exact h1, by rw [← e2]; exact h2, h3⟩
  have ht : Turn w (Forb X mem ρ) ρ w' (Forb X mem' ρ') ρ' d := by
    refine ⟨fun r => ?_, hbel.size, fun b h1 h2 => ⟨fun hf => ?_, ?_⟩⟩
    · by_cases hS : S r
      · exact henv r hS
      · exact .inr (.inl (hold r hS).2)
    · rcases hf with hf | hf
      · exact h2 (.inl hf)
      · rcases hO b hf with h | h
        · omega
        · exact h2 (.inr h)
    · rcases hkeep b h1 with h | ⟨r, v, _, g1, g2, g3⟩
      · exact h
      · exact absurd (.inr ⟨r, v, g1, g2, g3⟩) h2
  refine ⟨⟨fun b h => ⟨Nat.lt_of_lt_of_le (m.low b h).1 hbel.size, (m.low b h).2⟩, m.below.trans hbel, fun b h => m.szN b (Nat.le_trans hbel.size h), fun r => ?_, fun r r' u u' b h1 h2 h3 h4 h5 h6 => ?_, gl_mono m.gl ht.size ht.keep⟩, ht⟩
  · by_cases hS : S r
    · exact hB ht r hS
    · obtain ⟨e1, e2⟩ := hold r hS
      rw [e1, e2]
      refine (m.blk r).lift ht (fun q hq => memNoref_get (hd q hq) r) (fun v b h1 h2 h3 => ?_)
      have hlt := (m.owned_lt ⟨r, v, h3, h1, h2⟩).2
      rcases hkeep b hlt with h | ⟨r0, v0, hS0, g1, g2, g3⟩
      · exact h
      · exact absurd ((m.inj r r0 v v0 b h3 g1 h1 g2 h2 g3) ▸ hS0) hS
  · have side : ∀ r r' u u', ¬ S r → S r' → (getM mem' r).own = true → (getM mem' r').own = true → ρ' r = some u → ρ' r' = some u' → vblock u = some b → vblock u' = some b → False := by
      intro r r' u u' hS hS' h1 h2 h3 h4 h5 h6
      obtain ⟨e1, e2⟩ := hold r hS
      rw [e1] at h1
      rw [e2] at h3
      rcases hown r' u' b hS' h2 h4 h6 with h | ⟨r0, v0, hS0, g1, g2, g3⟩
      · have := (m.owned_lt ⟨r, u, h1, h3, h5⟩).2; omega
      · exact hS ((m.inj r r0 u v0 b h1 g1 h3 g2 h5 g3) ▸ hS0)
    by_cases hS : S r <;> by_cases hS' : S r'
    · exact hinj r r' u u' b hS hS' h1 h2 h3 h4 h5 h6
    · exact (side r' r u' u hS' hS h2 h1 h4 h3 h6 h5).elim
    · exact (side r r' u u' hS hS' h1 h2 h3 h4 h5 h6).elim
    · obtain ⟨e1, e2⟩ := hold r hS
      obtain ⟨e3, e4⟩ := hold r' hS'
      exact m.inj r r' u u' b (by rw [← e1]; exact h1) (by rw [← e3]; exact h2) (by rw [← e2]; exact h3) (by rw [← e4]; exact h4) h5 h6

/-- A new resource. -/
theorem MRep.create {N : Nat → Prop} {w0 w w' : World} {X : Nat → Prop} {mem : Mem} {ρ : Env} (m : MRep T N w0 w X mem ρ) {d : Nat} (hno : getM mem d = .no) (hnr : memNoref d mem = true)
    {B : Blk} {v : Value} (hv : ∀ b, vblock v = some b → w.heap.size ≤ b ∧ b < w'.heap.size) (hbel : Below w.heap.size w w')
    (hB : Turn w (Forb X mem ρ) ρ w' (Forb X (setM B mem d) (upd ρ d v)) (upd ρ d v) (some d) → BlkRep T N w' (Forb X (setM B mem d) (upd ρ d v)) (upd ρ d v) B (some v)) :
    MRep T N w0 w' X (setM B mem d) (upd ρ d v) ∧ Turn w (Forb X mem ρ) ρ w' (Forb X (setM B mem d) (upd ρ d v)) (upd ρ d v) (some d) := by
  refine m.step (fun r => r = d) (some d) (.of hbel) (fun r hr => ⟨by rw [getM_setM, if_neg hr], by simp [upd, hr]⟩) (fun r hr => .inr (.inr (by rw [hr]))) (fun r hr => by injection hr with hr; subst hr; exact hnr)
    (fun b hb => .inl (hbel.block b hb)) (fun r u b hr h1 h2 h3 => ?_) (fun r r' _ _ _ h1 h2 _ _ _ _ _ _ => by rw [h1, h2]) (fun ht r hr => ?_)
  · subst hr
    simp only [upd, if_true] at h2
    injection h2 with h2
    subst h2
    exact .inl (hv b h3)
  · subst hr
    rw [getM_setM, if_pos rfl]
    simp only [upd, if_true]
    exact hB ht

/-- A resource's content turned, in its block. -/
theorem MRep.update {N : Nat → Prop} {w0 w w' : World} {X : Nat → Prop} {mem : Mem} {ρ : Env} (m : MRep T N w0 w X mem ρ) {r : Nat} {v : Value} (hv : ρ r = some v) (ho : (getM mem r).own = true)
    {b : Nat} (hb : vblock v = some b) (hbel : Below b w w') (hoth : ∀ k, k ≠ b → w'.heap[k]? = w.heap[k]?) {B : Blk}
    (hB : Turn w (Forb X mem ρ) ρ w' (Forb X (setM B mem r) ρ) ρ none → BlkRep T N w' (Forb X (setM B mem r) ρ) ρ B (some v)) :
    MRep T N w0 w' X (setM B mem r) ρ ∧ Turn w (Forb X mem ρ) ρ w' (Forb X (setM B mem r) ρ) ρ none := by
  have hN := (m.owned_lt ⟨r, v, ho, hv, hb⟩).1
  refine m.step (fun q => q = r) none ⟨hbel.os, hbel.tape, hbel.output, hbel.size, fun k _ hk => hoth k (fun e => hk (by rw [e]; exact hN))⟩ (fun q hq => ⟨by rw [getM_setM, if_neg hq], rfl⟩) (fun q _ => .inr (.inl rfl)) (fun q hq => by cases hq)
    (fun k _ => ?_) (fun q u c hq h1 h2 h3 => ?_) (fun r r' _ _ _ h1 h2 _ _ _ _ _ _ => by rw [h1, h2]) (fun ht q hq => ?_)
  · by_cases hk : k = b
    · subst hk; exact .inr ⟨r, v, rfl, ho, hv, hb⟩
    · exact .inl (hoth k hk)
  · subst hq
    rw [hv] at h2
    injection h2 with h2
    subst h2
    exact .inr ⟨q, v, rfl, ho, hv, h3⟩
  · subst hq
    rw [getM_setM, if_pos rfl, hv]
    exact hB ht

/-- A row that nobody will write any more. -/
theorem MRep.freeze {N : Nat → Prop} {w0 w : World} {X : Nat → Prop} {mem : Mem} {ρ : Env} (m : MRep T N w0 w X mem ρ) {r : Nat} {sh : Option Nat} {e : Nat} {l : List SV} (hr : getM mem r = .row sh e l) :
    MRep T N w0 w X (setM (.frz sh l) mem r) ρ ∧ Turn w (Forb X mem ρ) ρ w (Forb X (setM (.frz sh l) mem r) ρ) ρ none := by
  have hb := m.blk r
  rw [hr] at hb
  obtain ⟨v, h1, h2⟩ := hb
  refine m.step (fun q => q = r) none (.refl _ _) (fun q hq => ⟨by rw [getM_setM, if_neg hq], rfl⟩) (fun q _ => .inr (.inl rfl)) (fun q hq => by cases hq) (fun k _ => .inl rfl)
    (fun q u c hq h1 h2 h3 => ?_) (fun r r' _ _ _ h1 h2 _ _ _ _ _ _ => by rw [h1, h2]) (fun ht q hq => ?_)
  · subst hq
    rw [getM_setM, if_pos rfl] at h1
    simp [Blk.own] at h1
  · subst hq
    rw [getM_setM, if_pos rfl]
    refine ⟨v, h1, ?_⟩
    rcases h2 with ⟨a, rfl, rfl⟩ | ⟨b, off, cap, cur, rfl, h3, h4, h5, h6, h7, h0, h9, h8⟩
    · exact .lst0 _ _ _ _
    · have hf : ¬ Forb X (setM (.frz sh l) mem q) ρ b := by
        rintro (hf | ⟨q', u, g1, g2, g3⟩)
        · exact (m.low b hf).2 h3
        · rw [getM_setM] at g1
          by_cases hq : q' = q
          · rw [if_pos hq] at g1; simp [Blk.own] at g1
          · rw [if_neg hq] at g1
            refine hq (m.inj q' q u _ b g1 (by rw [hr]; rfl) g2 h1 g3 ?_)
            simp only [vblock]; rw [if_neg (by omega)]
      have hle : l.length * wid sh ≤ cap * wid sh := Nat.mul_le_mul_right _ h5
      refine .lst _ sh l b off cap ((cur.toList.drop off).take (l.length * wid sh)) (heap_lt h4) hf h5 (fun j u hj => ?_) (by rw [List.length_take, List.length_drop, Array.length_toList (xs := cur)]; omega) (fun u hu => h9 u (List.mem_of_mem_drop (List.mem_of_mem_take hu))) (fun i hi => ?_)
      · rw [List.getElem?_take] at hj
        split at hj
        · rw [cell_of_row w b (off + j) cur e (0, 0) h4]
          simpa using hj
        · cases hj
      · rw [valAt_take sh _ l.length i hi (by rw [List.length_drop, Array.length_toList (xs := cur)]; omega)]
        exact (h8 i hi).mono ht.size ht.keep

/-- A row given up, another one in its place. -/
theorem MRep.move {N : Nat → Prop} {w0 w w' : World} {X : Nat → Prop} {mem : Mem} {ρ : Env} (m : MRep T N w0 w X mem ρ) {q d : Nat} (hq : (getM mem q).own = true) {v0 : Value} (hv0 : ρ q = some v0) (hqd : q ≠ d) (hno : getM mem d = .no) (hnr : memNoref d mem = true)
    {B : Blk} {v : Value} (hbel : BelowW N w w') (hkeep : ∀ b, b < w.heap.size → vblock v0 ≠ some b → w'.heap[b]? = w.heap[b]?) (hv : ∀ b, vblock v = some b → (w.heap.size ≤ b ∧ b < w'.heap.size) ∨ vblock v0 = some b)
    (hB : let mem' := setM B (setM .no mem q) d; let ρ' : Env := fun r => if r = d then some v else if r = q then none else ρ r
      Turn w (Forb X mem ρ) ρ w' (Forb X mem' ρ') ρ' (some d) → BlkRep T N w' (Forb X mem' ρ') ρ' B (some v)) :
    let mem' := setM B (setM .no mem q) d
    let ρ' : Env := fun r => if r = d then some v else if r = q then none else ρ r
    MRep T N w0 w' X mem' ρ' ∧ Turn w (Forb X mem ρ) ρ w' (Forb X mem' ρ') ρ' (some d) := by
  intro mem' ρ'
  have e : ∀ r, getM mem' r = if r = d then B else if r = q then .no else getM mem r := fun r => by simp only [mem', getM_setM]
  refine m.step (fun r => r = q ∨ r = d) (some d) hbel (fun r hr => ?_) (fun r hr => ?_) (fun r hr => by injection hr with hr; subst hr; exact hnr) (fun b hb => ?_) (fun r u b hr h1 h2 h3 => ?_)
    (fun r r' _ _ _ h1 h2 g1 g2 _ _ _ _ => ?_) (fun ht r hr => ?_)
  · have h1 : r ≠ d := fun e => hr (.inr e)
    have h2 : r ≠ q := fun e => hr (.inl e)
    exact ⟨by rw [e, if_neg h1, if_neg h2], by simp only [ρ', if_neg h1, if_neg h2]⟩
  · rcases hr with rfl | rfl
    · exact .inl (by simp only [ρ', if_neg hqd, if_true])
    · exact .inr (.inr rfl)
  · by_cases hb0 : vblock v0 = some b
    · exact .inr ⟨q, v0, .inl rfl, hq, hv0, hb0⟩
    · exact .inl (hkeep b hb hb0)
  · rcases hr with rfl | rfl
    · rw [e, if_neg hqd, if_pos rfl] at h1; simp [Blk.own] at h1
    · simp only [ρ', if_true] at h2
      injection h2 with h2
      subst h2
      exact (hv b h3).imp id fun h => ⟨q, v0, .inl rfl, hq, hv0, h⟩
  · have key : ∀ r, r = q ∨ r = d → (getM mem' r).own = true → r = d := by
      rintro r (rfl | rfl) h
      · rw [e, if_neg hqd, if_pos rfl] at h; simp [Blk.own] at h
      · rfl
    rw [key r h1 g1, key r' h2 g2]
  · rcases hr with rfl | rfl
    · rw [e, if_neg hqd, if_pos rfl]
      show ρ' r = none
      simp only [ρ', if_neg hqd, if_true]
    · rw [e, if_pos rfl]
      have : ρ' r = some v := by simp only [ρ', if_true]
      rw [this]
      exact hB ht
end Go.Proofs.YtligbjbkecmecaaDoor
