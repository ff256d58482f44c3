/- The operations that read the call's own memory, literals of slices, and calls: the evaluator and its law. -/
import Derived.Test.YtligbjbkecmecaaDoorMem
import Derived.Conc.EntryLaws
namespace Go.Proofs.YtligbjbkecmecaaDoor
set_option linter.unusedVariables false
set_option linter.unusedSimpArgs false
open Go.RowKit
variable {P : Program} {T : Nat → Option TI}

def shEq : Option Nat → Option Nat → Bool
  | none, none => true
  | some a, some b => Nat.beq a b
  | _, _ => false
theorem shEq_eq {a b : Option Nat} (h : shEq a b = true) : a = b := by
  cases a <;> cases b <;> simp_all [shEq]

/-- Data: no reference to a resource. -/
def allPlain : List SV → Bool
  | [] => true
  | x :: l => plainB x && allPlain l
def dataB : SV → Bool
  | .agg l => allPlain l
  | x => plainB x

theorem plain_noref {x : SV} (h : plainB x = true) (r : Nat) : noref r x = true := by
  cases x <;> simp_all [plainB, noref]
theorem allPlain_get : ∀ {l : List SV}, allPlain l = true → ∀ (i : Nat) (h : i < l.length), plainB l[i] = true
  | x :: l, hl, 0, _ => by simp [allPlain] at hl; exact hl.1
  | x :: l, hl, i + 1, h => by simp [allPlain] at hl; exact allPlain_get hl.2 i (by simpa using h)
theorem allPlain_noref : ∀ {l : List SV}, allPlain l = true → ∀ r, noref.norefs r l = true
  | [], _, r => rfl
  | x :: l, h, r => by
    simp [allPlain] at h
    simp [noref.norefs, plain_noref h.1 r, allPlain_noref h.2 r]
theorem data_noref {x : SV} (h : dataB x = true) (r : Nat) : noref r x = true := by
  cases x with
  | agg l => exact allPlain_noref (by simpa [dataB] using h) r
  | _ => exact plain_noref (by simpa [dataB] using h) r
theorem allPlain_atom : ∀ {l : List SV}, allPlain l = true → allAtom l = true
  | [], _ => rfl
  | y :: l, h => by simp [allPlain] at h; simp [allAtom, plain_atom h.1, allPlain_atom h.2]
theorem data_cells {x : SV} (h : dataB x = true) : ∃ xs, cellsA x = some xs := by
  cases x <;> simp only [dataB, plainB] at h <;> first
    | (cases h; done)
    | exact ⟨_, rfl⟩
    | exact ⟨_, if_pos (allPlain_atom h)⟩
    | exact ⟨_, if_pos h⟩
theorem Den.data {w : World} {X : Nat → Prop} {ρ ρ' : Env} {x : SV} {v : Value} (h : Den w X ρ x v) (hd : dataB x = true) : Den w X ρ' x v :=
  h.env fun r => .inr (.inr (data_noref hd r))

/-- The nil of a slice type, as a list. -/
def normNil (T : Nat → Option TI) (t : Nat) (x : SV) : SV :=
  match x with
  | .nil => (match T t with
    | some i => (match i.kind with
      | .slice el => (match T el with | some j => .lst j.shape [] | none => .nil)
      | _ => .nil)
    | none => .nil)
  | x => x
theorem normNil_den {w : World} {X : Nat → Prop} {ρ : Env} {t : Nat} {x : SV} {v : Value} (h : Den w X ρ x v) : Den w X ρ (normNil T t x) v := by
  unfold normNil
  split
  · cases h
    repeat' split
    all_goals first | exact .lst0 _ _ _ _ | exact .nil _
  · exact h

theorem valAt_some_full {n : Nat} {us : List Value} (h : us.length ≤ n) : valAt (some n) us 0 = .agg ⟨us⟩ := by
  simp only [valAt, Nat.zero_mul, List.drop_zero]
  rw [List.take_of_length_le h]

theorem valAt_seg (sh : Option Nat) (us : List Value) (q : Nat) (h : q * wid sh + wid sh ≤ us.length) : valAt sh us q = valAt sh ((us.drop (q * wid sh)).take (wid sh)) 0 := by
  cases sh with
  | none => simp only [wid, Nat.mul_one] at *; simp [valAt]
  | some n => simp only [wid] at *; simp [valAt, List.take_take]

/-- A slice value that reads as l, in a block of which ok is so. -/
def SliceAt (w : World) (Y ok : Nat → Prop) (sh : Option Nat) (l : List SV) (v : Value) : Prop :=
  ∃ ad c, v = .slice ad l.length c ∧ l.length ≤ c ∧ (l = [] ∨ ∃ b off us, ad = some ⟨b, off, none⟩ ∧ b < w.heap.size ∧ ok b ∧ us.length = l.length * wid sh ∧ (∀ u ∈ us, u.oneCell' = true) ∧
    (∀ (j : Nat) (u : Value), us[j]? = some u → w.cell? ⟨b, off + j, none⟩ = some u) ∧ ∀ (i : Nat) (h : i < l.length), Den w Y noEnv l[i] (valAt sh us i))

def listB (sh : Option Nat) : Blk → Option (List SV)
  | .row s _ l => if shEq s sh then some l else none
  | .frz s l => if shEq s sh then some l else none
  | _ => none
/-- A part of a memory, seen. -/
def Sees (μ : Nat → Blk) (mem : Mem) : Prop := ∀ q, μ q = .no ∨ μ q = getM mem q
theorem Sees.blk {N : Nat → Prop} {w0 w : World} {X : Nat → Prop} {mem : Mem} {ρ : Env} {μ : Nat → Blk} (hμ : Sees μ mem) (m : MRep T N w0 w X mem ρ) (r : Nat) : μ r = .no ∨ BlkRep T N w (Forb X mem ρ) ρ (μ r) (ρ r) := by
  rcases hμ r with h | h
  · exact .inl h
  · rw [h]; exact .inr (m.blk r)
/-- The list that a slice reads as. -/
noncomputable def listOf (μ : Nat → Blk) (sh : Option Nat) : SV → Option (List SV)
  | .lst s l => if shEq s sh then some l else none
  | .nil => some []
  | .row r => listB sh (μ r)
  | .rsl r s a n _ => if shEq s sh then (match listB sh (μ r) with | some l => some (O.sg l a n) | none => none) else none
  | _ => none
def liveB : Blk → Bool
  | .row _ _ _ => true
  | _ => false
/-- Does a live row go in? -/
def live (μ : Nat → Blk) : SV → Bool
  | .row r => liveB (μ r)
  | .rsl r _ _ _ _ => liveB (μ r)
  | .agg l => lives μ l
  | .tup l => lives μ l
  | _ => false
where lives (μ : Nat → Blk) : List SV → Bool
  | [] => false
  | x :: l => live μ x || lives μ l

theorem valAt_take (sh : Option Nat) (us : List Value) (n i : Nat) (hi : i < n) (h : n * wid sh ≤ us.length) : valAt sh (us.take (n * wid sh)) i = valAt sh us i := by
  have hq : i * wid sh + wid sh ≤ n * wid sh := by rw [← Nat.succ_mul]; exact Nat.mul_le_mul_right _ hi
  rw [valAt_seg sh us i (by omega), valAt_seg sh _ i (by rw [List.length_take]; omega)]
  congr 1
  apply List.ext_getElem?
  intro j
  simp only [List.getElem?_take, List.getElem?_drop]
  by_cases hj : j < wid sh
  · rw [if_pos hj, if_pos hj, if_pos (by omega)]
  · rw [if_neg hj, if_neg hj]
theorem valAt_dropN (sh : Option Nat) (us : List Value) (a i : Nat) : valAt sh (us.drop (a * wid sh)) i = valAt sh us (a + i) := by
  cases sh with
  | none => simp [valAt, wid]
  | some m => simp only [valAt, wid, List.drop_drop, Nat.add_mul]

/-- A part of a slice. -/
theorem SliceAt.part {w : World} {Y ok : Nat → Prop} {sh : Option Nat} {l : List SV} {b off a n c : Nat} {us : List Value} (hb : b < w.heap.size) (hok : ok b) (hlen : us.length = l.length * wid sh) (ho : ∀ u ∈ us, u.oneCell' = true)
    (hu : ∀ (j : Nat) (u : Value), us[j]? = some u → w.cell? ⟨b, off + j, none⟩ = some u) (h : ∀ (i : Nat) (h : i < l.length), Den w Y noEnv l[i] (valAt sh us i)) (han : a + n ≤ l.length) (hc : n ≤ c) :
    SliceAt w Y ok sh ((l.drop a).take n) (.slice (some ⟨b, off + a * wid sh, none⟩) n c) := by
  have hl : ((l.drop a).take n).length = n := by simp; omega
  have hm : (a + n) * wid sh ≤ us.length := by rw [hlen]; exact Nat.mul_le_mul_right _ han
  rw [Nat.add_mul] at hm
  refine ⟨some ⟨b, off + a * wid sh, none⟩, c, by rw [hl], by omega, .inr ⟨b, off + a * wid sh, (us.drop (a * wid sh)).take (n * wid sh), rfl, hb, hok, by rw [hl, List.length_take, List.length_drop]; omega, fun u hu => ho u (List.mem_of_mem_drop (List.mem_of_mem_take hu)), fun j u hj => ?_, fun i hi => ?_⟩⟩
  · rw [List.getElem?_take] at hj
    split at hj
    · rw [Nat.add_assoc]; exact hu _ u (by simpa using hj)
    · cases hj
  · rw [hl] at hi
    rw [valAt_take sh _ n i hi (by rw [List.length_drop]; omega), valAt_dropN]
    simpa using h (a + i) (by omega)

theorem SliceAt.nil {w : World} {Y ok : Nat → Prop} {sh : Option Nat} (ad : Option Addr) (c : Nat) : SliceAt w Y ok sh [] (.slice ad 0 c) := ⟨ad, c, rfl, Nat.zero_le _, .inl rfl⟩
theorem SliceAt.of_lst {w : World} {Y : Nat → Prop} {ok : Nat → Prop} {ρ : Env} {sh : Option Nat} {l : List SV} {v : Value} (h : Den w Y ρ (.lst sh l) v) (hok : ∀ b, ¬ Y b → ok b) : SliceAt w Y ok sh l v := by
  cases h with
  | lst0 _ _ a cap => exact .nil a cap
  | lst _ _ _ b off cap us hb hx hc hu hl ho h => exact ⟨_, cap, rfl, hc, .inr ⟨b, off, us, rfl, hb, hok b hx, hl, ho, hu, h⟩⟩
theorem SliceAt.lst {w : World} {Y Z ok : Nat → Prop} {ρ : Env} {sh : Option Nat} {l : List SV} {v : Value} (h : SliceAt w Y ok sh l v) (hZ : ∀ b, b < w.heap.size → ¬ Y b → ¬ Z b) (hok : ∀ b, ok b → ¬ Z b) : Den w Z ρ (.lst sh l) v := by
  obtain ⟨ad, c, rfl, hc, h⟩ := h
  rcases h with rfl | ⟨b, off, us, rfl, hb, hob, hl, ho, hu, h⟩
  · exact .lst0 _ _ _ _
  · exact .lst _ sh l b off c us hb (hok b hob) hc hu hl ho fun i h1 => (h i h1).mono (Nat.le_refl _) fun b hb hy => ⟨hZ b hb hy, rfl⟩

theorem listB_den {N : Nat → Prop} {w0 w : World} {X : Nat → Prop} {mem : Mem} {ρ : Env} {μ : Nat → Blk} (hμ : Sees μ mem) (m : MRep T N w0 w X mem ρ) {r : Nat} {sh : Option Nat} {l : List SV} (h : listB sh (μ r) = some l) :
    ∃ v, ρ r = some v ∧ SliceAt w (Forb X mem ρ) (fun b => ¬ Forb X mem ρ b ∨ (N b ∧ liveB (μ r) = true)) sh l v := by
  have hb := hμ.blk m r
  cases hm : μ r with
  | no => rw [hm] at h; simp [listB] at h
  | chunk t x => rw [hm] at h; simp [listB] at h
  | rowx e l i x => rw [hm] at h; simp [listB] at h
  | rown _ _ _ => rw [hm] at h; simp [listB] at h
  | iter s p => rw [hm] at h; simp [listB] at h
  | gen _ _ _ => rw [hm] at h; simp [listB] at h
  | frz s l' =>
    rw [hm] at h hb
    simp only [listB] at h
    split at h
    case isFalse => cases h
    rename_i hs
    injection h with h; subst h
    have hs := shEq_eq hs
    subst hs
    obtain ⟨v, h1, h2⟩ := hb.resolve_left (by simp)
    exact ⟨v, h1, .of_lst h2 fun b hb => .inl hb⟩
  | row s e l' =>
    rw [hm] at h hb
    simp only [listB] at h
    split at h
    case isFalse => cases h
    rename_i hs
    injection h with h; subst h
    have hs := shEq_eq hs
    subst hs
    obtain ⟨v, h1, h2⟩ := hb.resolve_left (by simp)
    refine ⟨v, h1, ?_⟩
    rcases h2 with ⟨a, rfl, rfl⟩ | ⟨b, off, cap, cur, rfl, h3, h4, h5, h6, h7, h0, h9, h8⟩
    · exact .nil a 0
    · have hle : l'.length * wid s ≤ cap * wid s := Nat.mul_le_mul_right _ h5
      refine ⟨_, cap, rfl, h5, .inr ⟨b, off, (cur.toList.drop off).take (l'.length * wid s), rfl, heap_lt h4, .inr ⟨h3, rfl⟩, ?_, fun u hu => h9 u (List.mem_of_mem_drop (List.mem_of_mem_take hu)), fun j u hj => ?_, fun i hi => ?_⟩⟩
      · rw [List.length_take, List.length_drop, Array.length_toList (xs := cur)]; omega
      · rw [List.getElem?_take] at hj
        split at hj
        · rw [cell_of_row w b (off + j) cur e (0, 0) h4]
          simpa using hj
        · cases hj
      · rw [valAt_take s _ l'.length i hi (by rw [List.length_drop, Array.length_toList (xs := cur)]; omega)]
        exact h8 i hi

theorem listOf_den {N : Nat → Prop} {w0 w : World} {X : Nat → Prop} {mem : Mem} {ρ : Env} {μ : Nat → Blk} (hμ : Sees μ mem) (m : MRep T N w0 w X mem ρ) {x : SV} {sh : Option Nat} {l : List SV} {v : Value} (h : listOf μ sh x = some l) (hd : Den w (Forb X mem ρ) ρ x v) :
    SliceAt w (Forb X mem ρ) (fun b => ¬ Forb X mem ρ b ∨ (N b ∧ live μ x = true)) sh l v := by
  cases x with
  | lst s l' =>
    simp only [listOf] at h
    split at h
    case isFalse => cases h
    rename_i hs
    injection h with h; subst h
    have hs := shEq_eq hs
    subst hs
    exact .of_lst hd fun b hb => .inl hb
  | nil => simp only [listOf] at h; injection h with h; subst h; cases hd; exact .nil _ _
  | row r =>
    simp only [listOf] at h
    obtain ⟨q, h1, h2⟩ := listB_den hμ m h
    cases hd with
    | row _ _ a n c hrow => rw [← hrow _ h1]; exact h2
  | rsl r s a n c =>
    simp only [listOf] at h
    split at h
    case isFalse => cases h
    rename_i hs
    have hs := shEq_eq hs
    subst hs
    cases hl : listB s (μ r) with
    | none => rw [hl] at h; cases h
    | some l' =>
      rw [hl] at h
      injection h with h; subst h
      rw [O.hsg]
      obtain ⟨q, h1, ad, cp, rfl, h3, h4⟩ := listB_den hμ m hl
      cases hd with
      | rsl _ _ _ _ _ _ x cc hc hr =>
        obtain ⟨x0, len, cap, e1, e2, e3, _, _, e6⟩ := ((hr _ h1).resolve_right (by rintro ⟨_, h, _⟩; cases h))
        injection e1 with e1 e4 e5
        subst e1; subst e4; subst e5
        by_cases hn : n = 0
        · subst hn
          rw [List.take_zero]
          exact .nil _ _
        · have hne : l' ≠ [] := by rintro rfl; simp at e2; omega
          rcases e6 with e6 | ⟨b, off, rfl, rfl⟩
          · omega
          · rcases h4 with rfl | ⟨b', off', us, e7, g1, g2, g3, g6, g4, g5⟩
            · exact absurd rfl hne
            · simp only [Option.some.injEq, Addr.mk.injEq, and_true] at e7
              obtain ⟨rfl, rfl⟩ := e7
              exact .part g1 g2 g3 g6 g4 g5 e2 hc
  | _ => simp [listOf] at h

/-- What a callee sees of an argument; what is put into memory, or given back. -/
noncomputable def viewC (μ : Nat → Blk) : SV → Option SV
  | .row r => (match μ r with
    | .row sh _ l => some (.lst sh l)
    | .frz sh l => some (.lst sh l)
    | _ => none)
  | .rsl r sh a n c => (match listOf μ sh (.rsl r sh a n c) with | some l => some (.lst sh l) | none => none)
  | x => if plainB x then some x else none
noncomputable def viewCs (μ : Nat → Blk) : List SV → Option (List SV)
  | [] => some []
  | x :: xs => (match viewC μ x, viewCs μ xs with
    | some y, some ys => some (y :: ys)
    | _, _ => none)
noncomputable def view (T : Nat → Option TI) (μ : Nat → Blk) (t : Nat) (x : SV) : Option SV :=
  match x with
  | .agg l => (match viewCs μ l with | some l => some (.agg l) | none => none)
  | x => (match viewC μ x with | some y => some (normNil T t y) | none => none)
noncomputable def views (T : Nat → Option TI) (μ : Nat → Blk) : List Nat → List SV → Option (List SV)
  | [], [] => some []
  | t :: ts, x :: xs => (match view T μ t x, views T μ ts xs with
    | some y, some ys => some (y :: ys)
    | _, _ => none)
  | _, _ => none

theorem viewC_den {N : Nat → Prop} {w0 w : World} {X : Nat → Prop} {mem : Mem} {ρ : Env} {μ : Nat → Blk} (hμ : Sees μ mem) (m : MRep T N w0 w X mem ρ) {Z : Nat → Prop} {x y : SV} {v : Value} (hZ : ∀ b, b < w.heap.size → ¬ Forb X mem ρ b → ¬ Z b)
    (hok : live μ x = true → ∀ b, N b → ¬ Z b) (hv : viewC μ x = some y) (hd : Den w (Forb X mem ρ) ρ x v) : Den w Z noEnv y v := by
  have go : ∀ {sh l}, listOf μ sh x = some l → Den w Z noEnv (.lst sh l) v := by
    intro sh l hl
    obtain ⟨ad, c, h1, h2, h3⟩ := listOf_den hμ m hl hd
    refine SliceAt.lst (Y := Forb X mem ρ) (ok := fun b => ¬ Z b) ⟨ad, c, h1, h2, ?_⟩ hZ (fun b h => h)
    rcases h3 with h3 | ⟨b, off, us, e1, e2, e3, e4⟩
    · exact .inl h3
    · exact .inr ⟨b, off, us, e1, e2, (e3.elim (hZ b e2) fun h => hok h.2 b h.1), e4⟩
  have shr : ∀ s : Option Nat, shEq s s = true := by intro s; cases s <;> simp [shEq]
  cases x with
  | row r =>
    simp only [viewC] at hv
    cases hm : μ r with
    | row sh e l => rw [hm] at hv; injection hv with hv; subst hv; exact go (by simp [listOf, hm, listB, shr])
    | frz sh l => rw [hm] at hv; injection hv with hv; subst hv; exact go (by simp [listOf, hm, listB, shr])
    | _ => rw [hm] at hv; cases hv
  | rsl r sh a n c =>
    simp only [viewC] at hv
    cases hl : listOf μ sh (.rsl r sh a n c) with
    | some l => rw [hl] at hv; injection hv with hv; subst hv; exact go hl
    | none => rw [hl] at hv; cases hv
  | _ =>
    simp only [viewC] at hv
    split at hv
    · rename_i hp
      injection hv with hv; subst hv
      exact (hd.mono (Nat.le_refl _) fun b h1 h2 => ⟨hZ b h1 h2, rfl⟩).env fun q => .inr (.inr (plain_noref hp q))
    · cases hv

theorem lives_get {μ : Nat → Blk} : ∀ {l : List SV} {i : Nat} {x : SV}, l[i]? = some x → live μ x = true → live.lives μ l = true
  | [], i, x, h, _ => by simp at h
  | y :: l, 0, x, h, hx => by simp at h; subst h; simp [live.lives, hx]
  | y :: l, i + 1, x, h, hx => by simp [live.lives, lives_get (by simpa using h) hx]

theorem viewCs_den {N : Nat → Prop} {w0 w : World} {X : Nat → Prop} {mem : Mem} {ρ : Env} {μ : Nat → Blk} (hμ : Sees μ mem) (m : MRep T N w0 w X mem ρ) {Z : Nat → Prop} (hZ : ∀ b, b < w.heap.size → ¬ Forb X mem ρ b → ¬ Z b) :
    ∀ {l l' : List SV} {us : List Value}, (live.lives μ l = true → ∀ b, N b → ¬ Z b) → viewCs μ l = some l' → DenL w (Forb X mem ρ) ρ l us → DenL w Z noEnv l' us
  | [], l', us, _, hv, hd => by
    simp only [viewCs] at hv
    injection hv with hv; subst hv
    exact ⟨hd.1, fun i x u h => by simp at h⟩
  | x :: l, l', us, hok, hv, hd => by
    simp only [viewCs] at hv
    cases h1 : viewC μ x with
    | none => rw [h1] at hv; cases hv
    | some y =>
      cases h2 : viewCs μ l with
      | none => rw [h1, h2] at hv; cases hv
      | some ys =>
        rw [h1, h2] at hv
        injection hv with hv; subst hv
        cases us with
        | nil => have := hd.1; simp at this
        | cons u us =>
          have ih := viewCs_den hμ m hZ (l := l) (l' := ys) (us := us) (fun h => hok (by simp [live.lives, h])) h2 ⟨by have := hd.1; simpa using this, fun i x u hx hu => hd.2 (i + 1) x u hx hu⟩
          refine ⟨by simp [ih.1], fun i a b ha hb => ?_⟩
          cases i with
          | zero =>
            simp at ha hb
            subst ha; subst hb
            exact viewC_den hμ m hZ (fun h => hok (by simp [live.lives, h])) h1 (hd.2 0 _ _ rfl rfl)
          | succ i => exact ih.2 i a b (by simpa using ha) (by simpa using hb)

theorem view_den {N : Nat → Prop} {w0 w : World} {X : Nat → Prop} {mem : Mem} {ρ : Env} {μ : Nat → Blk} (hμ : Sees μ mem) (m : MRep T N w0 w X mem ρ) {Z : Nat → Prop} {t : Nat} {x y : SV} {v : Value} (hZ : ∀ b, b < w.heap.size → ¬ Forb X mem ρ b → ¬ Z b)
    (hok : live μ x = true → ∀ b, N b → ¬ Z b) (hv : view T μ t x = some y) (hd : Den w (Forb X mem ρ) ρ x v) : Den w Z noEnv y v := by
  cases x with
  | agg l =>
    simp only [view] at hv
    cases h1 : viewCs μ l with
    | none => rw [h1] at hv; cases hv
    | some l' =>
      rw [h1] at hv
      injection hv with hv; subst hv
      obtain ⟨cs, rfl, hd2⟩ := Den.agg_iff.1 hd
      exact Den.agg_iff.2 ⟨cs, rfl, viewCs_den hμ m hZ hok h1 hd2⟩
  | _ =>
    simp only [view] at hv
    split at hv
    · rename_i y' h1
      injection hv with hv; subst hv
      exact normNil_den (viewC_den hμ m hZ hok h1 hd)
    · cases hv

theorem views_den {N : Nat → Prop} {w0 w : World} {X : Nat → Prop} {mem : Mem} {ρ : Env} {μ : Nat → Blk} (hμ : Sees μ mem) (m : MRep T N w0 w X mem ρ) {Z : Nat → Prop} (hZ : ∀ b, b < w.heap.size → ¬ Forb X mem ρ b → ¬ Z b) :
    ∀ {ts : List Nat} {l l' : List SV} {us : List Value}, (live.lives μ l = true → ∀ b, N b → ¬ Z b) → views T μ ts l = some l' → DenL w (Forb X mem ρ) ρ l us → DenL w Z noEnv l' us
  | [], [], l', us, _, hv, hd => by
    simp only [views] at hv
    injection hv with hv; subst hv
    exact ⟨hd.1, fun i x u h => by simp at h⟩
  | [], _ :: _, _, _, _, hv, _ => by simp [views] at hv
  | _ :: _, [], _, _, _, hv, _ => by simp [views] at hv
  | t :: ts, x :: l, l', us, hok, hv, hd => by
    simp only [views] at hv
    cases h1 : view T μ t x with
    | none => rw [h1] at hv; cases hv
    | some y =>
      cases h2 : views T μ ts l with
      | none => rw [h1, h2] at hv; cases hv
      | some ys =>
        rw [h1, h2] at hv
        injection hv with hv; subst hv
        cases us with
        | nil => have := hd.1; simp at this
        | cons u us =>
          have ih := views_den hμ m hZ (ts := ts) (l := l) (l' := ys) (us := us) (fun h => hok (by simp [live.lives, h])) h2 ⟨by have := hd.1; simpa using this, fun i x u hx hu => hd.2 (i + 1) x u hx hu⟩
          refine ⟨by simp [ih.1], fun i a b ha hb => ?_⟩
          cases i with
          | zero =>
            simp at ha hb
            subst ha; subst hb
            exact view_den hμ m hZ (fun h => hok (by simp [live.lives, h])) h1 (hd.2 0 _ _ rfl rfl)
          | succ i => exact ih.2 i a b (by simpa using ha) (by simpa using hb)

/-- An element of a slice of data, or a part of it, loaded. -/
def loadE (i : TI) (sh : Option Nat) (y : SV) (o : Nat) (κ : SV → Prop) : Prop :=
  if dataB y then (if Nat.beq o 0 && shEq sh i.shape then κ y else (match y, sh with
    | .agg l, some _ => if o + i.size ≤ l.length then κ (partS i l o) else False
    | _, _ => False)) else False

/-- The operations that read. -/
def rval (T : Nat → Option TI) (op : Op) (e : Operand → SV) (μ : Nat → Blk) (κ : SV → Prop) : Prop :=
  match op with
  | .load t x => (match T t with
    | some i => (match e x with
      | .ptr r o => (match μ r with
        | .chunk t' y => if Nat.beq o 0 && Nat.beq t' t then κ y else (match y with
          | .agg l => if o + i.size ≤ l.length then κ (partS i l o) else False
          | _ => False)
        | _ => False)
      | .eptr sh y o => loadE i sh y o κ
      | .rptr r sh j o => (match listB sh (μ r) with
        | some l => QV (fun y => l[j]? = some y) (fun y => loadE i sh y o κ)
        | none => False)
      | .cel y => (match i.shape with | none => κ y | some _ => False)
      | _ => False)
    | none => False)
  | .indexAddr t x ix => (match T t with
    | some i => (match i.kind with
      | .slice el => (match T el, e ix with
        | some j, .int _ n => (match listOf μ j.shape (e x) with
          | some l => (match e x with
            | .row r => (match μ r with
              | .row _ _ _ => QV (fun (q : Nat) => n = (q : Int) ∧ q < O.ln l) (fun q => κ (.rptr r j.shape q 0))
              | _ => QV (fun (q : Nat × SV) => n = (q.1 : Int) ∧ l[q.1]? = some q.2) (fun q => κ (.eptr j.shape q.2 0)))
            | .rsl r _ a _ _ => QV (fun (q : Nat) => n = (q : Int) ∧ q < O.ln l) (fun q => κ (.rptr r j.shape (a + q) 0))
            | _ => QV (fun (q : Nat × SV) => n = (q.1 : Int) ∧ l[q.1]? = some q.2) (fun q => κ (.eptr j.shape q.2 0)))
          | none => False)
        | _, _ => False)
      | .array n el => (match T el, e ix with
        | some j, .int _ k => (match e x with
          | .ptr r o => QV (fun (q : Nat) => k = (q : Int) ∧ q < n) (fun q => κ (.ptr r (o + q * j.size)))
          | .eptr s y o => QV (fun (q : Nat) => k = (q : Int) ∧ q < n) (fun q => κ (.eptr s y (o + q * j.size)))
          | .rptr r s i o => QV (fun (q : Nat) => k = (q : Int) ∧ q < n) (fun q => κ (.rptr r s i (o + q * j.size)))
          | _ => False)
        | _, _ => False)
      | _ => False)
    | none => False)
  | .call c => (match c.callee with
    | .builtin .len => (match c.argTypes.toList, c.args.toList with
      | [t], [x] => (match T t with
        | some i => (match i.kind, e x with
          | .slice el, y => (match T el with
            | some j => (match y with
              | .nil => κ (.int .i64 0)
              | .rsl r s a n c => (match listOf μ j.shape (.rsl r s a n c) with | some _ => Q1 (fun _ => True) (fun z => z = n) (fun z => κ (.int .i64 z)) | none => False)
              | y => (match listOf μ j.shape y with | some l => Q1 (fun _ => True) (fun z => z = O.ln l) (fun z => κ (.int .i64 z)) | none => False))
            | none => False)
          | .string, .str s => Q1 (fun _ => True) (fun z => z = s.size) (fun z => κ (.int .i64 z))
          | _, _ => False)
        | none => False)
      | _, _ => False)
    | _ => False)
  | _ => False
end Go.Proofs.YtligbjbkecmecaaDoor
