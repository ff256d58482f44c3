/- What an operation does to the call's own memory; freezing. -/
import Derived.Test.YtligbjbkecmecaaDoorWe
import Derived.TacticsIn
import Derived.OrdersIn
import Derived.RangeFuncIn
import Derived.RangeFuncLeaves
import Derived.RangeFuncRecord
import Derived.RangeFuncSeq
import Derived.RangeFuncOwn
namespace Go.Proofs.YtligbjbkecmecaaDoor
set_option linter.unusedVariables false
set_option linter.unusedSimpArgs false
open Go.RowKit
variable {P : Program} {T : Nat → Option TI}

def appU : List (Nat × Blk) → Mem → Mem
  | [], m => m
  | (q, b) :: U, m => appU U (setM b m q)
theorem appU_append : ∀ (U V : List (Nat × Blk)) (m : Mem), appU (U ++ V) m = appU V (appU U m)
  | [], _, _ => rfl
  | (q, b) :: U, V, m => by simp only [List.cons_append, appU]; exact appU_append U V _
theorem appU_ne {d : Nat} : ∀ {U : List (Nat × Blk)} {m : Mem}, (∀ q b, (q, b) ∈ U → d ≠ q) → getM (appU U m) d = getM m d
  | [], _, _ => rfl
  | (q, b) :: U, m, h => by
    simp only [appU]
    rw [appU_ne (fun q' b' h' => h q' b' (by simp [h'])), getM_setM, if_neg (h q b (by simp))]
theorem appU_noref {d : Nat} : ∀ {U : List (Nat × Blk)} {m : Mem}, memNoref d m = true → (∀ q b, (q, b) ∈ U → bNoref d b = true) → memNoref d (appU U m) = true
  | [], _, h, _ => h
  | (q, b) :: U, m, h, g => by
    simp only [appU]
    exact appU_noref (memNoref_set (g q b (by simp)) h) (fun q' b' h' => g q' b' (by simp [h']))

theorem Turn.trans {w w1 w2 : World} {Y Y1 Y2 : Nat → Prop} {ρ ρ1 ρ2 : Env} {d : Option Nat} (h : Turn w Y ρ w1 Y1 ρ1 none) (g : Turn w1 Y1 ρ1 w2 Y2 ρ2 d) : Turn w Y ρ w2 Y2 ρ2 d := by
  refine ⟨fun r => ?_, Nat.le_trans h.size g.size, fun b h1 h2 => ?_⟩
  · rcases g.env r with e | e | e
    · exact .inl e
    · rcases h.env r with e' | e' | e'
      · exact .inl (e.trans e')
      · exact .inr (.inl (e.trans e'))
      · cases e'
    · exact .inr (.inr e)
  · obtain ⟨k1, k2⟩ := h.keep b h1 h2
    obtain ⟨k3, k4⟩ := g.keep b (Nat.lt_of_lt_of_le h1 h.size) k1
    exact ⟨k3, k4.trans k2⟩

theorem forb_congr {X : Nat → Prop} {mem mem' : Mem} {ρ : Env} (h : ∀ q, getM mem' q = getM mem q) : Forb X mem' ρ = Forb X mem ρ := by
  funext b
  simp only [Forb, owned, h]
theorem MRep.congr {N : Nat → Prop} {w0 w : World} {X : Nat → Prop} {mem mem' : Mem} {ρ : Env} (m : MRep T N w0 w X mem ρ) (h : ∀ q, getM mem' q = getM mem q) : MRep T N w0 w X mem' ρ := by
  refine ⟨m.low, m.below, m.szN, fun r => ?_, fun r r' v v' b h1 h2 => ?_, by rw [forb_congr h]; exact m.gl⟩
  · rw [h, forb_congr h]; exact m.blk r
  · rw [h] at h1 h2; exact m.inj r r' v v' b h1 h2

/-! ### Freezing -/
def frzB (r : Nat) : Blk → List (Nat × Blk)
  | .row sh _ l => [(r, .frz sh l)]
  | _ => []
/-- The rows in a value. -/
def rids : SV → List Nat
  | .row r => [r]
  | .rsl r _ _ _ _ => [r]
  | .agg l => ridsL l
  | .tup l => ridsL l
  | .lsx _ l => ridsL l
  | _ => []
where ridsL : List SV → List Nat
  | [] => []
  | x :: l => rids x ++ ridsL l
theorem rids_noref {r : Nat} : ∀ {x : SV}, r ∈ rids x → noref r x = false
  | .row q, h => by simp [rids] at h; subst h; simp [noref]
  | .rsl q _ _ _ _, h => by simp [rids] at h; subst h; simp [noref]
  | .agg l, h => go (l := l) h
  | .tup l, h => go (l := l) h
  | .lsx _ l, h => go (l := l) h
  | .any, h | .bool _, h | .int _ _, h | .str _, h | .lst _ _, h | .nil, h | .ptr _ _, h | .rptr _ _ _ _, h | .eptr _ _ _, h | .val _, h | .clo _ _, h | .fcl _ _, h | .cel _, h | .epx _ _ _, h => by simp [rids] at h
where go {r : Nat} : ∀ {l : List SV}, r ∈ rids.ridsL l → noref.norefs r l = false
  | [], h => by simp [rids.ridsL] at h
  | x :: l, h => by
    simp only [rids.ridsL, List.mem_append] at h
    simp only [noref.norefs, Bool.and_eq_false_iff]
    rcases h with h | h
    · exact .inl (rids_noref h)
    · exact .inr (go h)
def frzU (μ : Nat → Blk) : List Nat → List (Nat × Blk)
  | [] => []
  | r :: l => frzB r (μ r) ++ frzU μ l
theorem frzU_mem {μ : Nat → Blk} : ∀ {l : List Nat} {q : Nat} {b : Blk}, (q, b) ∈ frzU μ l → q ∈ l ∧ ∃ sh e k, μ q = .row sh e k ∧ b = .frz sh k
  | [], q, b, h => by simp [frzU] at h
  | r :: l, q, b, h => by
    simp only [frzU, List.mem_append] at h
    rcases h with h | h
    · cases hm : μ r with
      | row sh e k => rw [hm] at h; simp [frzB] at h; obtain ⟨rfl, rfl⟩ := h; exact ⟨by simp, sh, e, k, hm, rfl⟩
      | _ => rw [hm] at h; simp [frzB] at h
    · obtain ⟨h1, h2⟩ := frzU_mem h
      exact ⟨by simp [h1], h2⟩
theorem mem_frzU {μ : Nat → Blk} {sh : Option Nat} {e : Nat} {k : List SV} : ∀ {l : List Nat} {q : Nat}, q ∈ l → μ q = .row sh e k → (q, Blk.frz sh k) ∈ frzU μ l
  | [], q, h, _ => by simp at h
  | r :: l, q, h, hq => by
    simp only [frzU, List.mem_append]
    rcases List.mem_cons.1 h with rfl | h
    · left; rw [hq]; simp [frzB]
    · right; exact mem_frzU h hq

theorem freezeU {μ : Nat → Blk} {N : Nat → Prop} {w0 w : World} {X : Nat → Prop} {ρ : Env} : ∀ (U : List (Nat × Blk)) (mem : Mem), (∀ q b, (q, b) ∈ U → ∃ sh e k, μ q = .row sh e k ∧ b = .frz sh k) → (∀ q b, (q, b) ∈ U → getM mem q = μ q ∨ getM mem q = b) →
    MRep T N w0 w X mem ρ → MRep T N w0 w X (appU U mem) ρ ∧ Turn w (Forb X mem ρ) ρ w (Forb X (appU U mem) ρ) ρ none
  | [], mem, _, _, m => ⟨m, Turn.refl _ _ _ _⟩
  | (r, c) :: U, mem, hU, hg, m => by
    obtain ⟨sh, e, k, h1, rfl⟩ := hU r c (by simp)
    have st : MRep T N w0 w X (setM (.frz sh k) mem r) ρ ∧ Turn w (Forb X mem ρ) ρ w (Forb X (setM (.frz sh k) mem r) ρ) ρ none := by
      rcases hg r (.frz sh k) (by simp) with h | h
      · exact m.freeze (h.trans h1)
      · have hs : ∀ q, getM (setM (.frz sh k) mem r) q = getM mem q := by
          intro q
          rw [getM_setM]
          split
          · rename_i hq; rw [hq, h]
          · rfl
        refine ⟨m.congr hs, ?_⟩
        rw [forb_congr hs]
        exact Turn.refl _ _ _ _
    obtain ⟨m', t'⟩ := freezeU U (setM (.frz sh k) mem r) (fun q b h => hU q b (by simp [h])) (fun q b h => by
      rw [getM_setM]
      split
      · rename_i hq
        subst hq
        obtain ⟨sh', e', k', g1, rfl⟩ := hU q b (by simp [h])
        rw [h1] at g1
        injection g1 with g1 g2 g3
        subst g1; subst g3
        exact .inr rfl
      · exact hg q b (by simp [h])) st.1
    exact ⟨m', st.2.trans t'⟩

theorem appU_frz {μ : Nat → Blk} : ∀ (U : List (Nat × Blk)) (mem : Mem) (q : Nat), (∀ q b, (q, b) ∈ U → ∃ sh e k, μ q = .row sh e k ∧ b = .frz sh k) → (∀ b, (q, b) ∉ U) ∧ getM (appU U mem) q = getM mem q ∨ ∃ sh e k, μ q = .row sh e k ∧ getM (appU U mem) q = .frz sh k ∧ (q, Blk.frz sh k) ∈ U
  | [], mem, q, _ => .inl ⟨by simp, rfl⟩
  | (r, c) :: U, mem, q, hU => by
    rcases appU_frz U (setM c mem r) q (fun q b h => hU q b (by simp [h])) with ⟨h1, h2⟩ | ⟨sh, e, k, h1, h2, h3⟩
    · simp only [appU]
      rw [h2, getM_setM]
      by_cases hq : q = r
      · subst hq
        rw [if_pos rfl]
        obtain ⟨sh, e, k, g1, g2⟩ := hU q c (by simp)
        exact .inr ⟨sh, e, k, g1, g2, by simp [g2]⟩
      · rw [if_neg hq]
        refine .inl ⟨fun b hb => ?_, rfl⟩
        rcases List.mem_cons.1 hb with hb | hb
        · injection hb with hb; exact hq hb
        · exact h1 b hb
    · exact .inr ⟨sh, e, k, h1, h2, by simp [h3]⟩

/-- Rows frozen. -/
structure Frozen (T : Nat → Option TI) (N : Nat → Prop) (w0 w : World) (X : Nat → Prop) (mem mem' : Mem) (ρ : Env) (μ : Nat → Blk) (ids : List Nat) : Prop where
  m : MRep T N w0 w X mem' ρ
  t : Turn w (Forb X mem ρ) ρ w (Forb X mem' ρ) ρ none
  at' : ∀ r ∈ ids, ∀ sh k, ((∃ e, μ r = .row sh e k) → getM mem' r = .frz sh k) ∧ (μ r = .frz sh k → getM mem' r = .frz sh k)
  old : ∀ q, getM mem' q = getM mem q ∨ (q ∈ ids ∧ ∃ sh e k, μ q = .row sh e k ∧ getM mem' q = .frz sh k)

theorem freeze_ids {μ : Nat → Blk} {N : Nat → Prop} {w0 w : World} {X : Nat → Prop} {mem : Mem} {ρ : Env} (hμ : Sees μ mem) (m : MRep T N w0 w X mem ρ) (ids : List Nat) : Frozen T N w0 w X mem (appU (frzU μ ids) mem) ρ μ ids := by
  have hU : ∀ q b, (q, b) ∈ frzU μ ids → ∃ sh e k, μ q = .row sh e k ∧ b = .frz sh k := fun q b h => (frzU_mem h).2
  obtain ⟨m', t'⟩ := freezeU (T := T) (frzU μ ids) mem hU (fun q b h => by
    obtain ⟨sh, e, k, h1, _⟩ := hU q b h
    rcases hμ q with g | g
    · rw [g] at h1; cases h1
    · exact .inl g.symm) m
  refine ⟨m', t', fun r hr sh k => ⟨fun ⟨e, h⟩ => ?_, fun h => ?_⟩, fun q => ?_⟩
  · rcases appU_frz (frzU μ ids) mem r hU with ⟨h1, _⟩ | ⟨sh', e', k', h1, h2, _⟩
    · exact absurd (mem_frzU hr h) (h1 _)
    · rw [h] at h1
      injection h1 with g1 g2 g3
      subst g1; subst g3
      exact h2
  · rcases appU_frz (frzU μ ids) mem r hU with ⟨_, h2⟩ | ⟨sh', e', k', h1, _⟩
    · rw [h2]
      rcases hμ r with g | g
      · rw [g] at h; cases h
      · rw [← g]; exact h
    · rw [h] at h1; cases h1
  · rcases appU_frz (frzU μ ids) mem q hU with ⟨_, h2⟩ | ⟨sh', e', k', h1, h2, h3⟩
    · exact .inl h2
    · exact .inr ⟨(frzU_mem h3).1, _, _, _, h1, h2⟩

theorem Frozen.no {N : Nat → Prop} {w0 w : World} {X : Nat → Prop} {mem mem' : Mem} {ρ : Env} {μ : Nat → Blk} {ids : List Nat} (f : Frozen T N w0 w X mem mem' ρ μ ids) (hμ : Sees μ mem) {k : Nat} (h : getM mem k = .no) : getM mem' k = .no := by
  rcases f.old k with g | ⟨_, sh, e, l, g1, _⟩
  · rw [g]; exact h
  · rcases hμ k with g2 | g2
    · rw [g2] at g1; cases g1
    · rw [g2, h] at g1; cases g1

theorem viewC_same {μ μ' : Nat → Blk} {x y : SV} (h : ∀ r ∈ rids x, ∀ sh k, ((∃ e, μ r = .row sh e k) → μ' r = .frz sh k) ∧ (μ r = .frz sh k → μ' r = .frz sh k)) (hv : viewC μ x = some y) : viewC μ' x = some y ∧ live μ' x = false := by
  cases x with
  | row r =>
    simp only [viewC] at hv ⊢
    cases hm : μ r with
    | row sh e k => rw [hm] at hv; have := (h r (by simp [rids]) sh k).1 ⟨e, hm⟩; rw [this]; exact ⟨hv, by simp [live, this, liveB]⟩
    | frz sh k => rw [hm] at hv; have := (h r (by simp [rids]) sh k).2 hm; rw [this]; exact ⟨hv, by simp [live, this, liveB]⟩
    | _ => rw [hm] at hv; cases hv
  | rsl r sh a n c =>
    simp only [viewC, listOf] at hv ⊢
    cases hm : μ r with
    | row sh' e k => rw [hm] at hv; have := (h r (by simp [rids]) sh' k).1 ⟨e, hm⟩; rw [this]; exact ⟨hv, by simp [live, this, liveB]⟩
    | frz sh' k => rw [hm] at hv; have := (h r (by simp [rids]) sh' k).2 hm; rw [this]; exact ⟨hv, by simp [live, this, liveB]⟩
    | _ => rw [hm] at hv; simp [listB] at hv
  | agg l => simp [viewC, plainB] at hv
  | tup l => simp [viewC, plainB] at hv
  | _ => exact ⟨hv, rfl⟩
theorem viewCs_same {μ μ' : Nat → Blk} : ∀ {l l' : List SV}, (∀ r ∈ rids.ridsL l, ∀ sh k, ((∃ e, μ r = .row sh e k) → μ' r = .frz sh k) ∧ (μ r = .frz sh k → μ' r = .frz sh k)) → viewCs μ l = some l' → viewCs μ' l = some l' ∧ live.lives μ' l = false
  | [], l', _, hv => ⟨hv, rfl⟩
  | x :: l, l', h, hv => by
    simp only [viewCs] at hv
    cases h1 : viewC μ x with
    | none => rw [h1] at hv; cases hv
    | some y =>
      cases h2 : viewCs μ l with
      | none => rw [h1, h2] at hv; cases hv
      | some ys =>
        obtain ⟨a1, a2⟩ := viewC_same (fun r hr => h r (by simp [rids.ridsL, hr])) h1
        obtain ⟨b1, b2⟩ := viewCs_same (fun r hr => h r (by simp [rids.ridsL, hr])) h2
        rw [h1, h2] at hv
        simp only [viewCs, a1, b1, live.lives, a2, b2, Bool.or_self]
        exact ⟨hv, trivial⟩
theorem view_same {μ μ' : Nat → Blk} {t : Nat} {x y : SV} (h : ∀ r ∈ rids x, ∀ sh k, ((∃ e, μ r = .row sh e k) → μ' r = .frz sh k) ∧ (μ r = .frz sh k → μ' r = .frz sh k)) (hv : view T μ t x = some y) : view T μ' t x = some y ∧ live μ' x = false := by
  cases x with
  | agg l =>
    simp only [view] at hv ⊢
    cases h1 : viewCs μ l with
    | none => rw [h1] at hv; cases hv
    | some l' =>
      obtain ⟨b1, b2⟩ := viewCs_same h h1
      rw [h1] at hv
      rw [b1]
      exact ⟨hv, b2⟩
  | _ =>
    simp only [view] at hv ⊢
    split at hv
    · rename_i y' h1
      obtain ⟨b1, b2⟩ := viewC_same h h1
      rw [b1]
      exact ⟨hv, b2⟩
    · cases hv

theorem sees_all (mem : Mem) : Sees (getM mem) mem := fun _ => .inr rfl

/-- A value's view where its rows are frozen. -/
theorem Frozen.view {N : Nat → Prop} {w0 w : World} {X : Nat → Prop} {mem mem' : Mem} {ρ : Env} {μ : Nat → Blk} {ids : List Nat} (f : Frozen T N w0 w X mem mem' ρ μ ids) {t : Nat} {x y : SV} {v : Value} (hi : ∀ r ∈ rids x, r ∈ ids) (hv : view T μ t x = some y)
    (hd : Den w (Forb X mem ρ) ρ x v) : Den w (Forb X mem' ρ) noEnv y v := by
  obtain ⟨h1, h2⟩ := view_same (T := T) (μ' := getM mem') (fun r hr => f.at' r (hi r hr)) hv
  exact view_den (sees_all mem') f.m (fun b _ h => h) (fun h => by rw [h2] at h; cases h) h1 (f.t.den (fun _ h => by cases h) hd)

/-- A value without references, viewed. -/
theorem view_data {μ : Nat → Blk} {t : Nat} {x y : SV} (hv : view T μ t x = some y) : dataB y = true := by
  have c : ∀ x y, viewC μ x = some y → plainB y = true := by
    intro x y h
    cases x <;> simp only [viewC] at h
    case row r => cases hm : μ r <;> rw [hm] at h <;> first | (injection h with h; subst h; rfl) | cases h
    case rsl r sh a n c => split at h <;> first | (injection h with h; subst h; rfl) | cases h
    all_goals (split at h <;> first | (rename_i hp; injection h with h; subst h; exact hp) | cases h)
  have cs : ∀ l l', viewCs μ l = some l' → allPlain l' = true := by
    intro l
    induction l with
    | nil => intro l' h; simp only [viewCs] at h; injection h with h; subst h; rfl
    | cons x l ih =>
      intro l' h
      simp only [viewCs] at h
      split at h
      · rename_i y ys h1 h2
        injection h with h; subst h
        simp [allPlain, c _ _ h1, ih _ h2]
      · cases h
  have nn : ∀ y, plainB y = true → dataB (normNil T t y) = true := by
    intro y h
    unfold normNil
    split
    · repeat' split
      all_goals rfl
    · cases y <;> simp_all [dataB, plainB]
  cases x with
  | agg l =>
    simp only [view] at hv
    split at hv
    · rename_i l' h1; injection hv with hv; subst hv; exact cs _ _ h1
    · cases hv
  | _ =>
    simp only [view] at hv
    split at hv
    · rename_i y' h1; injection hv with hv; subst hv; exact nn _ (c _ _ h1)
    · cases hv

/-- The fence that lets all in, in a round or not. -/
def FR (r : Option Nat) : Fence := { Fence.wide with round := r }
theorem FR_none : FR none = Fence.wide := rfl
theorem FR_round (r : Option Nat) (l : Nat) : (FR r).inRound l = FR (some l) := rfl
theorem calls_FR {r : Option Nat} {n : Nat} {f : FuncId} {args : Array Value} {w : World} {R : Ending → World → Prop} (h : Calls P f args w R) : CallsIn (FR r) n P f args w R :=
  (callsIn_wide (n := n)).2 h
/-- An operation that gives a value, or a call: it is no defer statement. -/
theorem semAt_exec {o : Oper} {r : Option Nat} {ρ : Operand → Value} {w w' : World} {x : Next} (h : (execOp ρ o).run P w = .ok x w') (hx : ∀ d, x ≠ .defer d) : Oper.semAt r ρ o = execOp ρ o := by
  cases r with
  | none => rfl
  | some l =>
    refine Oper.semAt_some l ρ o fun c hc => ?_
    simp only [execOp, hc, Sem.run_bind] at h
    generalize hres : (resolve ρ c o.type).run P w = q at h
    cases q with
    | ok d w1 =>
      simp only [Result.andThen_ok, Sem.run_pure, Result.ok.injEq] at h
      exact hx d h.1.symm
    | halt e w1 => simp [Result.andThen] at h

/-- What an operation does: it gives x and turns the blocks U, cr being new. -/
structure Eff (P : Program) (T : Nat → Option TI) (o : Oper) (e : Operand → SV) (μ : Nat → Blk) (x : SV) (U : List (Nat × Blk)) (cr : Option Nat) : Prop where
  h : ∀ (mem : Mem), Sees μ mem → (∀ d, cr = some d → getM mem d = .no ∧ memNoref d mem = true ∧ ∀ y ∈ o.op.operands, noref d (e y) = true) →
    ∀ (a : Act) (N : Nat → Prop) (w0 w : World) (X : Nat → Prop) (ρ : Env), MRep T N w0 w X mem ρ → (∀ y ∈ o.op.operands, Den w (Forb X mem ρ) ρ (e y) (a.eval y)) → ∀ (K : Act → World → Prop) (Q : Exit → Act → World → Prop),
    (∀ u w' ρ', MRep T N w0 w' X (appU U mem) ρ' → Den w' (Forb X (appU U mem) ρ') ρ' x u → Turn w (Forb X mem ρ) ρ w' (Forb X (appU U mem) ρ') ρ' cr → K (a.put o.dst u) w') → ∀ (r : Option Nat) (n : Nat), o.wpIn (FR r) n P a w K Q

theorem Eff.of_run {o : Oper} {e : Operand → SV} {μ : Nat → Blk} {x : SV} {U : List (Nat × Blk)} {cr : Option Nat}
    (h : ∀ (mem : Mem), Sees μ mem → (∀ d, cr = some d → getM mem d = .no ∧ memNoref d mem = true ∧ ∀ y ∈ o.op.operands, noref d (e y) = true) →
      ∀ (a : Act) (N : Nat → Prop) (w0 w : World) (X : Nat → Prop) (ρ : Env), MRep T N w0 w X mem ρ → (∀ y ∈ o.op.operands, Den w (Forb X mem ρ) ρ (e y) (a.eval y)) →
      ∃ r u w' ρ', (execOp a.eval o).run P w = .ok r w' ∧ (r = .value u ∨ (r = .skip ∧ x = .any)) ∧ MRep T N w0 w' X (appU U mem) ρ' ∧ Den w' (Forb X (appU U mem) ρ') ρ' x u ∧ Turn w (Forb X mem ρ) ρ w' (Forb X (appU U mem) ρ') ρ' cr) : Eff P T o e μ x U cr := by
  refine ⟨fun mem hμ hc a N w0 w X ρ m hd K Q hK ro nn => ⟨fun _ _ => trivial, ?_⟩⟩
  obtain ⟨r, u, w', ρ', hr, hru, m', hx, t⟩ := h mem hμ hc a N w0 w X ρ m hd
  rw [semAt_exec hr (fun d hd => by rcases hru with rfl | ⟨rfl, _⟩ <;> cases hd), hr]
  rcases hru with rfl | ⟨rfl, rfl⟩
  · exact hK u w' ρ' m' hx t
  · exact hK undef w' ρ' m' (.any _ _) t

theorem POk.eff {o : Oper} {e : Operand → SV} {x : SV} (h : POk P o.op e x) (μ : Nat → Blk) : Eff P T o e μ x [] none :=
  .of_run fun mem hμ hc a N w0 w X ρ m hd => by
    obtain ⟨u, hr, hx⟩ := h.h o a w (Forb X mem ρ) ρ rfl hd
    exact ⟨_, u, w, ρ, hr, .inl rfl, m, hx, Turn.refl _ _ _ _⟩
theorem RdOk.eff {o : Oper} {e : Operand → SV} {μ : Nat → Blk} {x : SV} (h : RdOk P T o e μ x) : Eff P T o e μ x [] none :=
  .of_run fun mem hμ hc a N w0 w X ρ m hd => by
    obtain ⟨u, hr, hx⟩ := h.h mem hμ a N w0 w X ρ m hd
    exact ⟨_, u, w, ρ, hr, .inl rfl, m, hx, Turn.refl _ _ _ _⟩
end Go.Proofs.YtligbjbkecmecaaDoor
