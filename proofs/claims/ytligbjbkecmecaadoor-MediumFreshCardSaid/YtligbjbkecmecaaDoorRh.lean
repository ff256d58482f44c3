/- Calls of closures that are lent variables: what such a call does to the caller's memory. -/
import Derived.Test.YtligbjbkecmecaaDoorRc
namespace Go.Proofs.YtligbjbkecmecaaDoor
set_option linter.unusedVariables false
set_option linter.unusedSimpArgs false
open Go.RowKit
variable {P : Program} {T : Nat → Option TI}

/-- The lent variables, as the caller names them. -/
abbrev En := List (Nat × Ln)
def lnE (E : En) : List Ln := E.map fun p => p.2
def envG (ρ : Env) : En → Env
  | [] => fun _ => none
  | p :: l => fun r => if p.2.1 = r then ρ p.1 else envG ρ l r
def lblkG (ρ : Env) (E : En) (b : Nat) : Prop := ∃ p ∈ E, ρ p.1 = some (.pointer (some ⟨b, 0, none⟩))
def nG (w : World) (ρ : Env) (E : En) : Nat → Prop := fun b => w.heap.size ≤ b ∨ lblkG ρ E b
def xG (Z : Nat → Prop) (ρ : Env) (E : En) : Nat → Prop := fun b => Z b ∧ ¬ lblkG ρ E b
structure LentG (mem : Mem) (E : En) : Prop where
  h : ∀ p ∈ E, getM mem p.1 = .chunk p.2.2.1 p.2.2.2.1 ∧ dataB p.2.2.2.1 = true
  q : (E.map fun p => p.1).Nodup
  c : (E.map fun p => p.2.1).Nodup

theorem getM_newM (b : Blk) (r : Nat) : getM (newM b) r = if r = 1 then b else .no := by
  cases b <;> simp only [newM, getM, nbeq]
  · split <;> rfl
  all_goals
    by_cases h : r = 1
    · subst h; simp
    · rw [if_neg (Ne.symm h), if_neg h]
theorem getM_outL0 (b : Blk) : ∀ (L : List Ln) (r : Nat), (∃ p ∈ L, p.1 = r ∧ getM (outL b L) r = .chunk p.2.1 p.2.2.2) ∨ ((∀ p ∈ L, p.1 ≠ r) ∧ getM (outL b L) r = if r = 1 then b else .no)
  | [], r => .inr ⟨fun p h => by simp at h, getM_newM b r⟩
  | p :: L, r => by
    simp only [outL, List.map_cons, List.cons_append, getM, nbeq]
    by_cases h : p.1 = r
    · left; exact ⟨p, by simp, h, by rw [if_pos h]⟩
    · rcases getM_outL0 b L r with ⟨q, hq, h1, h2⟩ | ⟨h1, h2⟩
      · left; exact ⟨q, by simp [hq], h1, by rw [if_neg h]; exact h2⟩
      · right
        refine ⟨fun q hq => ?_, by rw [if_neg h]; exact h2⟩
        rcases List.mem_cons.1 hq with rfl | hq
        · exact h
        · exact h1 q hq
theorem findG (ρ : Env) (b : Blk) : ∀ (E : En) (r : Nat), (∃ p ∈ E, p.2.1 = r ∧ getM (inL (lnE E)) r = .chunk p.2.2.1 p.2.2.2.1 ∧ getM (outL b (lnE E)) r = .chunk p.2.2.1 p.2.2.2.2 ∧ envG ρ E r = ρ p.1) ∨
    ((∀ p ∈ E, p.2.1 ≠ r) ∧ getM (inL (lnE E)) r = .no ∧ getM (outL b (lnE E)) r = (if r = 1 then b else .no) ∧ envG ρ E r = none)
  | [], r => .inr ⟨fun p h => by simp at h, rfl, getM_newM b r, rfl⟩
  | p :: E, r => by
    simp only [lnE, inL, outL, List.map_cons, List.cons_append, getM, nbeq, envG]
    by_cases h : p.2.1 = r
    · left
      exact ⟨p, by simp, h, by rw [if_pos h], by rw [if_pos h], by rw [if_pos h]⟩
    · rcases findG ρ b E r with ⟨q, hq, h1, h2, h3, h4⟩ | ⟨h1, h2, h3, h4⟩
      · left
        refine ⟨q, by simp [hq], h1, ?_, ?_, ?_⟩
        · rw [if_neg h]; exact h2
        · rw [if_neg h]; exact h3
        · rw [if_neg h]; exact h4
      · right
        refine ⟨fun q hq => ?_, ?_, ?_, ?_⟩
        · rcases List.mem_cons.1 hq with rfl | hq
          · exact h
          · exact h1 q hq
        · rw [if_neg h]; exact h2
        · rw [if_neg h]; exact h3
        · rw [if_neg h]; exact h4
theorem nodup_inj {A : Type} {f : A → Nat} : ∀ {l : List A}, (l.map f).Nodup → ∀ {p q : A}, p ∈ l → q ∈ l → f p = f q → p = q
  | [], _, p, q, hp, _, _ => by simp at hp
  | a :: l, h, p, q, hp, hq, he => by
    simp only [List.map_cons, List.nodup_cons] at h
    rcases List.mem_cons.1 hp with rfl | hp' <;> rcases List.mem_cons.1 hq with rfl | hq'
    · rfl
    · exact absurd (List.mem_map.2 ⟨q, hq', he.symm⟩) h.1
    · exact absurd (List.mem_map.2 ⟨p, hp', he⟩) h.1
    · exact nodup_inj h.2 hp' hq' he
/-- Found by its id. -/
theorem atG {mem : Mem} {E : En} (l : LentG mem E) (ρ : Env) (b : Blk) {p : Nat × Ln} (hp : p ∈ E) : getM (inL (lnE E)) p.2.1 = .chunk p.2.2.1 p.2.2.2.1 ∧ getM (outL b (lnE E)) p.2.1 = .chunk p.2.2.1 p.2.2.2.2 ∧ envG ρ E p.2.1 = ρ p.1 := by
  rcases findG ρ b E p.2.1 with ⟨q, hq, h1, h2, h3, h4⟩ | ⟨h1, _⟩
  · have := nodup_inj l.c hq hp h1
    subst this
    exact ⟨h2, h3, h4⟩
  · exact absurd rfl (h1 p hp)

theorem forbG {mem : Mem} {E : En} (lq : LentG mem E) {X : Nat → Prop} {ρ : Env} {Z : Nat → Prop} (hZ : ∀ b, Z b → Forb X mem ρ b) {b : Nat} (h : Forb (xG Z ρ E) (inL (lnE E)) (envG ρ E) b) : Forb X mem ρ b := by
  rcases h with h | ⟨r, v, h1, h2, h3⟩
  · exact hZ b h.1
  · rcases findG ρ .no E r with ⟨p, hp, _, _, _, g4⟩ | ⟨_, g2, _⟩
    · rw [g4] at h2
      exact .inr ⟨p.1, v, by rw [(lq.h p hp).1]; rfl, h2, h3⟩
    · rw [g2] at h1; simp [Blk.own] at h1

theorem callG_in {N : Nat → Prop} {w0 w : World} {X : Nat → Prop} {mem : Mem} {ρ : Env} (m : MRep T N w0 w X mem ρ) {E : En} (lq : LentG mem E) {Z : Nat → Prop} (hZ : ∀ b, Z b → Forb X mem ρ b) :
    MRep T (nG w ρ E) w w (xG Z ρ E) (inL (lnE E)) (envG ρ E) := by
  refine ⟨fun b h => ⟨m.forb_lt (hZ b h.1), fun hn => ?_⟩, .refl _ _, fun b h => .inl h, fun r => ?_, fun r r' v v' b h1 h2 e1 e2 e3 e4 => ?_, gl_mono m.gl (Nat.le_refl _) fun b _ hf => ⟨fun hf' => hf (forbG lq hZ hf'), rfl⟩⟩
  · rcases hn with hn | hn
    · have := m.forb_lt (hZ b h.1); omega
    · exact h.2 hn
  · rcases findG ρ .no E r with ⟨p, hp, g1, g2, g3, g4⟩ | ⟨g1, g2, g3, g4⟩
    · rw [g2, g4]
      obtain ⟨k1, k2⟩ := lq.h p hp
      have hb := m.blk p.1
      rw [k1] at hb
      obtain ⟨i, b, us, ty, h1, h2, h3, h4, h5, h6, h7⟩ := hb
      refine ⟨i, b, us, ty, h1, h2, .inr ⟨p, hp, h2⟩, h4, h5, h6, ?_⟩
      exact (h7.mono (w' := w) (X' := Forb (xG Z ρ E) (inL (lnE E)) (envG ρ E)) (Nat.le_refl _) (fun b _ hf => ⟨fun hf' => hf (forbG lq hZ hf'), rfl⟩)).data (ρ' := envG ρ E) k2
    · rw [g2]; exact g4
  · have at' : ∀ r v, (getM (inL (lnE E)) r).own = true → envG ρ E r = some v → ∃ p ∈ E, p.2.1 = r ∧ ρ p.1 = some v ∧ (getM mem p.1).own = true := by
      intro r v h1 h2
      rcases findG ρ .no E r with ⟨p, hp, g1, g2, g3, g4⟩ | ⟨g1, g2, g3, g4⟩
      · exact ⟨p, hp, g1, by rw [← g4]; exact h2, by rw [(lq.h p hp).1]; rfl⟩
      · rw [g2] at h1; simp [Blk.own] at h1
    obtain ⟨p, hp, rfl, k1, k2⟩ := at' r v h1 e1
    obtain ⟨p', hp', rfl, k1', k2'⟩ := at' r' v' h2 e2
    have := m.inj _ _ v v' b k2 k2' k1 k1' e3 e4
    rw [nodup_inj lq.q hp hp' this]

def updE (E : En) : List (Nat × Blk) := E.map fun p => (p.1, .chunk p.2.2.1 p.2.2.2.2)
theorem getM_updE : ∀ {E : En} {mem : Mem}, (E.map fun p => p.1).Nodup → (∀ p ∈ E, getM (appU (updE E) mem) p.1 = .chunk p.2.2.1 p.2.2.2.2) ∧ ∀ r, (∀ p ∈ E, p.1 ≠ r) → getM (appU (updE E) mem) r = getM mem r
  | [], mem, _ => ⟨fun p h => by simp at h, fun r _ => rfl⟩
  | p :: E, mem, h => by
    simp only [List.map_cons, List.nodup_cons] at h
    obtain ⟨h1, h2⟩ := getM_updE (E := E) (mem := setM (.chunk p.2.2.1 p.2.2.2.2) mem p.1) h.2
    simp only [updE, List.map_cons, appU]
    refine ⟨fun q hq => ?_, fun r hr => ?_⟩
    · rcases List.mem_cons.1 hq with rfl | hq
      · have := h2 q.1 fun p' hp' e => h.1 (List.mem_map.2 ⟨p', hp', e⟩)
        simp only [updE] at this
        rw [this, getM_setM, if_pos rfl]
      · exact h1 q hq
    · have := h2 r fun q hq => hr q (by simp [hq])
      simp only [updE] at this
      rw [this, getM_setM, if_neg (Ne.symm (hr p (by simp)))]

theorem only1s_mem : ∀ {l : List SV}, only1.only1s l = true → ∀ y ∈ l, only1 y = true
  | x :: l, h, y, hy => by
    simp only [only1.only1s, Bool.and_eq_true] at h
    rcases List.mem_cons.1 hy with rfl | hy
    · exact h.1
    · exact only1s_mem h.2 y hy
/-- The lent variables with their contents as the caller names them. -/
def renE (d : Option Nat) (b : Blk) (E : En) : En := E.map fun p => (p.1, p.2.1, p.2.2.1, p.2.2.2.1, renG d b p.2.2.2.2)
/-- What such a call leaves, in the caller's memory. -/
theorem callG_out {N : Nat → Prop} {w0 w w' : World} {X : Nat → Prop} {mem : Mem} {ρ ρc : Env} (m : MRep T N w0 w X mem ρ) {E : En} (lq : LentG mem E) {c : Blk} {d : Option Nat} {r : SV} (hok : okG d r ((lnE E).map fun p => p.2.2.2) c = true) (h1E : ∀ p ∈ E, p.2.1 ≠ 1)
    (mc : MRep T (nG w ρ E) w w' (xG (Forb X mem ρ) ρ E) (outL c (lnE E)) ρc) (h0 : ∀ p ∈ lnE E, ρc p.1 = envG ρ E p.1) {cr : Option Nat} (hcr : cr = if isNew c then d else none)
    (hfr : ∀ k, cr = some k → getM mem k = .no ∧ memNoref k mem = true) {v : Value} (hv : Den w' (Forb (xG (Forb X mem ρ) ρ E) (outL c (lnE E)) ρc) ρc r v) :
    let U := updE (renE d c E) ++ newU c d
    let ρ' : Env := fun r => if cr = some r then ρc 1 else ρ r
    MRep T N w0 w' X (appU U mem) ρ' ∧ Turn w (Forb X mem ρ) ρ w' (Forb X (appU U mem) ρ') ρ' cr ∧ Den w' (Forb X (appU U mem) ρ') ρ' (renG d c r) v := by
  intro U ρ'
  have hq' : ((renE d c E).map fun p => p.1).Nodup := by
    simp only [renE, List.map_map, Function.comp_def]
    exact lq.q
  obtain ⟨u1, u2⟩ := getM_updE (mem := mem) hq'
  have hnew1 : ∀ k, cr = some k → isNew c = true ∧ d = some k := by
    intro k hk
    rw [hcr] at hk
    split at hk
    · rename_i h; exact ⟨h, hk⟩
    · cases hk
  have hqne : ∀ p ∈ E, cr ≠ some p.1 := by
    intro p hp hk
    have := (hfr _ hk).1
    rw [(lq.h p hp).1] at this
    cases this
  -- the memory behind the call
  have hg : ∀ r, getM (appU U mem) r = if cr = some r then c else getM (appU (updE (renE d c E)) mem) r := by
    intro r
    simp only [U, appU_append]
    cases hn : c with
    | no => rw [hcr, hn]; simp only [isNew, Bool.false_eq_true, if_false, newU]; cases d <;> simp [appU]
    | frz sh l => rw [hn] at hok; cases hok
    | rowx _ _ _ _ => rw [hn] at hok; cases hok
    | rown _ _ _ => rw [hn] at hok; cases hok
    | iter _ _ => rw [hn] at hok; cases hok
    | gen _ _ _ => rw [hn] at hok; cases hok
    | _ =>
      rw [hn] at hok
      simp only [okG, Bool.and_eq_true] at hok
      cases hd : d with
      | none => rw [hd] at hok; simp at hok
      | some k => rw [hcr, hn]; simp only [isNew, if_true, hd, newU, appU, getM_setM, Option.some.injEq, eq_comm]
  have hgE : ∀ p ∈ E, getM (appU U mem) p.1 = .chunk p.2.2.1 (renG d c p.2.2.2.2) := by
    intro p hp
    rw [hg, if_neg (hqne p hp)]
    exact u1 (p.1, p.2.1, p.2.2.1, p.2.2.2.1, renG d c p.2.2.2.2) (List.mem_map.2 ⟨p, hp, rfl⟩)
  have hgo : ∀ r, cr ≠ some r → (∀ p ∈ E, p.1 ≠ r) → getM (appU U mem) r = getM mem r := by
    intro r h1 h2
    rw [hg, if_neg h1]
    refine u2 r fun p hp => ?_
    obtain ⟨p', hp', rfl⟩ := List.mem_map.1 hp
    exact h2 p' hp'
  have hc0 : ∀ p ∈ E, ρc p.2.1 = ρ p.1 := fun p hp => by rw [h0 p.2 (List.mem_map.2 ⟨p, hp, rfl⟩)]; exact (atG lq ρ c hp).2.2
  have out1 : getM (outL c (lnE E)) 1 = c := by
    rcases getM_outL0 c (lnE E) 1 with ⟨p, hp, h1, _⟩ | ⟨_, h2⟩
    · obtain ⟨p', hp', rfl⟩ := List.mem_map.1 hp
      exact absurd h1 (h1E p' hp')
    · rw [h2, if_pos rfl]
  have hown : ∀ r, cr ≠ some r → ((getM (appU U mem) r).own = true ↔ (getM mem r).own = true) := by
    intro r hr
    by_cases h : ∃ p ∈ E, p.1 = r
    · obtain ⟨p, hp, rfl⟩ := h
      rw [hgE p hp, (lq.h p hp).1]
      exact ⟨fun _ => rfl, fun _ => rfl⟩
    · rw [hgo r hr fun p hp e => h ⟨p, hp, e⟩]
  have hN0 : ∀ b, lblkG ρ E b → ∃ p ∈ E, ρ p.1 = some (.pointer (some ⟨b, 0, none⟩)) ∧ (getM mem p.1).own = true ∧ N b := by
    rintro b ⟨p, hp, hr⟩
    exact ⟨p, hp, hr, by rw [(lq.h p hp).1]; rfl, (m.owned_lt ⟨p.1, _, by rw [(lq.h p hp).1]; rfl, hr, rfl⟩).1⟩
  -- what is new lies in new blocks
  have hnb : ∀ u b, ρc 1 = some u → vblock u = some b → c.own = true → w.heap.size ≤ b ∧ b < w'.heap.size := by
    intro u b hu hb ho
    obtain ⟨g1, g2⟩ := mc.owned_lt ⟨1, u, by rw [out1]; exact ho, hu, hb⟩
    refine ⟨g1.resolve_right fun hl => ?_, g2⟩
    obtain ⟨p, hp, hr, _, _⟩ := hN0 b hl
    have e0 : ρc p.2.1 = some (.pointer (some ⟨b, 0, none⟩)) := by rw [hc0 p hp]; exact hr
    exact h1E p hp (mc.inj _ _ _ _ b (by rw [(atG lq ρ c hp).2.1]; rfl) (by rw [out1]; exact ho) e0 hu rfl hb)
  have hback : ∀ b, Forb X (appU U mem) ρ' b → Forb (xG (Forb X mem ρ) ρ E) (outL c (lnE E)) ρc b := by
    intro b hb
    have old : Forb X mem ρ b → Forb (xG (Forb X mem ρ) ρ E) (outL c (lnE E)) ρc b := by
      intro h
      by_cases hl : lblkG ρ E b
      · obtain ⟨p, hp, hr, _, _⟩ := hN0 b hl
        exact .inr ⟨p.2.1, _, by rw [(atG lq ρ c hp).2.1]; rfl, by rw [hc0 p hp]; exact hr, rfl⟩
      · exact .inl ⟨h, hl⟩
    rcases hb with h | ⟨r, u, g1, g2, g3⟩
    · exact old (.inl h)
    · by_cases hr : cr = some r
      · rw [hg, if_pos hr] at g1
        simp only [ρ', if_pos hr] at g2
        exact .inr ⟨1, u, by rw [out1]; exact g1, g2, g3⟩
      · simp only [ρ', if_neg hr] at g2
        exact old (.inr ⟨r, u, (hown r hr).1 g1, g2, g3⟩)
  have hlift : ∀ {ρ0 : Env} {x : SV} {u : Value}, Den w' (Forb (xG (Forb X mem ρ) ρ E) (outL c (lnE E)) ρc) ρ0 x u → Den w' (Forb X (appU U mem) ρ') ρ0 x u := fun h =>
    h.mono (Nat.le_refl _) fun b _ hf => ⟨fun hf' => hf (hback b hf'), rfl⟩
  -- a value of the callee's, as the caller names it
  have hren : ∀ {x : SV} {u : Value}, (c = .no → dataR x = true) → (c ≠ .no → only1 x = true) → Den w' (Forb (xG (Forb X mem ρ) ρ E) (outL c (lnE E)) ρc) ρc x u → Den w' (Forb X (appU U mem) ρ') ρ' (renG d c x) u := by
    intro x u hx1 hx2 hd
    cases hn : c with
    | no =>
      have : renG d Blk.no x = x := by cases d <;> rfl
      rw [this]
      exact (hlift hd).env fun q => .inr (.inr (dataR_noref (hx1 hn) q))
    | frz sh l => rw [hn] at hok; cases hok
    | rowx _ _ _ _ => rw [hn] at hok; cases hok
    | rown _ _ _ => rw [hn] at hok; cases hok
    | iter _ _ => rw [hn] at hok; cases hok
    | gen _ _ _ => rw [hn] at hok; cases hok
    | _ =>
      have hok' := hok
      rw [hn] at hok'
      simp only [okG, Bool.and_eq_true] at hok'
      cases hd' : d with
      | none => rw [hd'] at hok'; simp at hok'
      | some k =>
        have hcrk : cr = some k := by rw [hcr, hn]; simp [isNew, hd']
        exact (hlift hd).ren (hx2 (by rw [hn]; simp)) (by simp only [ρ', if_pos hcrk])
  have hys : ∀ p ∈ E, (c = .no → dataR p.2.2.2.2 = true) ∧ (c ≠ .no → only1 p.2.2.2.2 = true) := by
    intro p hp
    have hm : p.2.2.2.2 ∈ (lnE E).map fun p => p.2.2.2 := List.mem_map.2 ⟨p.2, List.mem_map.2 ⟨p, hp, rfl⟩, rfl⟩
    refine ⟨fun hn => ?_, fun hn => ?_⟩
    · rw [hn] at hok
      simp only [okG, Bool.and_eq_true] at hok
      have : ∀ {l : List SV}, datasB l = true → ∀ y ∈ l, dataB y = true := by
        intro l
        induction l with
        | nil => intro _ y hy; simp at hy
        | cons x l ih =>
          intro h y hy
          simp only [datasB, Bool.and_eq_true] at h
          rcases List.mem_cons.1 hy with rfl | hy
          · exact h.1
          · exact ih h.2 y hy
      have := this hok.2 _ hm
      cases hx : p.2.2.2.2 with
      | tup l => rw [hx] at this; simp [dataB, plainB] at this
      | _ => rw [hx] at this; exact this
    · cases hc : c with
      | no => exact absurd hc hn
      | frz sh l => rw [hc] at hok; cases hok
      | rowx _ _ _ _ => rw [hc] at hok; cases hok
      | rown _ _ _ => rw [hc] at hok; cases hok
      | iter _ _ => rw [hc] at hok; cases hok
      | gen _ _ _ => rw [hc] at hok; cases hok
      | _ =>
        rw [hc] at hok
        simp only [okG, Bool.and_eq_true] at hok
        first | exact only1s_mem hok.1.2.2 _ hm | exact only1s_mem hok.1.2 _ hm
  have hrr : (c = .no → dataR r = true) ∧ (c ≠ .no → only1 r = true) := by
    refine ⟨fun hn => ?_, fun hn => ?_⟩
    · rw [hn] at hok
      simp only [okG, Bool.and_eq_true] at hok
      exact hok.1
    · cases hc : c with
      | no => exact absurd hc hn
      | frz sh l => rw [hc] at hok; cases hok
      | rowx _ _ _ _ => rw [hc] at hok; cases hok
      | rown _ _ _ => rw [hc] at hok; cases hok
      | iter _ _ => rw [hc] at hok; cases hok
      | gen _ _ _ => rw [hc] at hok; cases hok
      | _ =>
        rw [hc] at hok
        simp only [okG, Bool.and_eq_true] at hok
        first | exact hok.1.2.1 | exact hok.1.1
  have hbel : BelowW N w w' := ⟨mc.below.os, mc.below.tape, mc.below.output, mc.below.size, fun k hk hnk => mc.below.block k hk fun hn => by
    rcases hn with hn | hn
    · omega
    · obtain ⟨_, _, _, _, hNb⟩ := hN0 k hn; exact hnk hNb⟩
  obtain ⟨m', t'⟩ := m.step (w' := w') (mem' := appU U mem) (ρ' := ρ') (fun r => (∃ p ∈ E, p.1 = r) ∨ cr = some r) cr hbel
    (fun r hr => by
      have h1 : cr ≠ some r := fun h => hr (.inr h)
      exact ⟨hgo r h1 fun p hp e => hr (.inl ⟨p, hp, e⟩), by simp only [ρ', if_neg h1]⟩)
    (fun r _ => by
      by_cases h1 : cr = some r
      · exact .inr (.inr h1)
      · exact .inr (.inl (by simp only [ρ', if_neg h1])))
    (fun r hr => (hfr r hr).2)
    (fun b hb => by
      by_cases hl : lblkG ρ E b
      · obtain ⟨p, hp, hr, k1, _⟩ := hN0 b hl
        exact .inr ⟨p.1, _, .inl ⟨p, hp, rfl⟩, k1, hr, rfl⟩
      · exact .inl (mc.below.block b hb fun hn => hn.elim (by omega) hl))
    (fun r v b hr h1 h2 h3 => by
      by_cases hk : cr = some r
      · rw [hg, if_pos hk] at h1
        simp only [ρ', if_pos hk] at h2
        exact .inl (hnb v b h2 h3 h1)
      · simp only [ρ', if_neg hk] at h2
        exact .inr ⟨r, v, hr, (hown r hk).1 h1, h2, h3⟩)
    (fun r r' u u' b hr hr' g1 g2 g3 g4 g5 g6 => by
      have side : ∀ r r' u u', cr = some r → cr ≠ some r' → (getM (appU U mem) r).own = true → (getM (appU U mem) r').own = true → ρ' r = some u → ρ' r' = some u' → vblock u = some b → vblock u' = some b → False := by
        intro r r' u u' h1 h2 k1 k2 k3 k4 k5 k6
        rw [hg, if_pos h1] at k1
        simp only [ρ', if_pos h1] at k3
        simp only [ρ', if_neg h2] at k4
        have a1 := (hnb u b k3 k5 k1).1
        have a2 := (m.owned_lt ⟨r', u', (hown r' h2).1 k2, k4, k6⟩).2
        omega
      by_cases h1 : cr = some r <;> by_cases h2 : cr = some r'
      · rw [h1] at h2; injection h2
      · exact (side r r' u u' h1 h2 g1 g2 g3 g4 g5 g6).elim
      · exact (side r' r u' u h2 h1 g2 g1 g4 g3 g6 g5).elim
      · simp only [ρ', if_neg h1] at g3
        simp only [ρ', if_neg h2] at g4
        exact m.inj r r' u u' b ((hown r h1).1 g1) ((hown r' h2).1 g2) g3 g4 g5 g6)
    (fun _ r hr => by
      by_cases hrc : cr = some r
      · rw [hg, if_pos hrc]
        simp only [ρ', if_pos hrc]
        obtain ⟨hn, hd⟩ := hnew1 r hrc
        have hb := mc.blk 1
        rw [out1] at hb
        cases hnw : c with
        | no => rw [hnw] at hn; cases hn
        | frz sh l => rw [hnw] at hn; cases hn
        | rowx _ _ _ _ => rw [hnw] at hok; cases hok
        | rown _ _ _ => rw [hnw] at hok; cases hok
        | iter _ _ => rw [hnw] at hok; cases hok
        | gen _ _ _ => rw [hnw] at hok; cases hok
        | chunk t x =>
          have hok' := hok
          rw [hnw] at hok'
          simp only [okG, Bool.and_eq_true] at hok'
          rw [hnw] at hb
          obtain ⟨i, b, us, ty, h1, h2, h3, h4, h5, h6, h7⟩ := hb
          rw [← hnw] at h7
          have h8 := (hlift h7).data (ρ' := ρ') hok'.1.1
          exact ⟨i, b, us, ty, h1, h2, m.szN b (hnb _ b h2 rfl (by rw [hnw]; rfl)).1, h4, h5, h6, h8⟩
        | row sh e l =>
          rw [hnw] at hb
          obtain ⟨u, h1, h2⟩ := hb
          refine ⟨u, h1, ?_⟩
          rcases h2 with h2 | ⟨b, off, cap, cur, rfl, k1, k2, k3, k4, k5, k6, k7, k8⟩
          · exact .inl h2
          · exact .inr ⟨b, off, cap, cur, rfl, m.szN b (hnb _ b h1 (by simp only [vblock]; rw [if_neg (by omega)]) (by rw [hnw]; rfl)).1, k2, k3, k4, k5, k6, k7, fun i hi => by
              have := k8 i hi
              rw [← hnw] at this
              exact hlift this⟩
      · obtain ⟨p, hp, rfl⟩ := hr.resolve_right hrc
        rw [hgE p hp]
        simp only [ρ', if_neg hrc]
        have hb := mc.blk p.2.1
        rw [(atG lq ρ c hp).2.1, hc0 p hp] at hb
        obtain ⟨i, b, us, ty, h1, h2, h3, h4, h5, h6, h7⟩ := hb
        obtain ⟨_, _, _, _, hNb⟩ := hN0 b ⟨p, hp, h2⟩
        exact ⟨i, b, us, ty, h1, h2, hNb, h4, h5, h6, hren (hys p hp).1 (hys p hp).2 h7⟩)
  exact ⟨m', t', hren hrr.1 hrr.2 hv⟩

theorem zipE : ∀ {QS : List (Nat × Nat × Nat × SV)} {L : List Ln}, L.map (fun p => (p.1, p.2.1, p.2.2.1)) = QS.map (fun p => p.2) → ∃ E : En, lnE E = L ∧ qsOf QS = E.map (fun p => p.1) ∧ csOf QS = E.map (fun p => p.2.1) ∧ (∀ d b, updG QS (renGs d b (L.map fun p => p.2.2.2)) = updE (renE d b E)) ∧ (∀ p ∈ E, (p.1, p.2.1, p.2.2.1, p.2.2.2.1) ∈ QS) ∧ ∀ p ∈ QS, ∃ p' ∈ E, p = (p'.1, p'.2.1, p'.2.2.1, p'.2.2.2.1)
  | [], [], _ => ⟨[], rfl, rfl, rfl, fun _ _ => rfl, fun p h => by simp at h, fun p h => by simp at h⟩
  | [], _ :: _, h => by simp at h
  | _ :: _, [], h => by simp at h
  | (q, c, t, x) :: QS, (c', t', x', y) :: L, h => by
    simp only [List.map_cons, List.cons.injEq, Prod.mk.injEq] at h
    obtain ⟨⟨rfl, rfl, rfl⟩, h⟩ := h
    obtain ⟨E, h1, h2, h3, h4, h5, h6⟩ := zipE h
    refine ⟨(q, c', t', x', y) :: E, by simp [lnE, ← h1], by simp [qsOf, h2], by simp [csOf, h3], (fun d b => by have := h4 d b; simp only [List.map_cons, renGs, updG, updE, renE] at this ⊢; rw [this]), fun p hp => ?_, fun p hp => ?_⟩
    · rcases List.mem_cons.1 hp with rfl | hp
      · simp
      · exact List.mem_cons_of_mem _ (h5 p hp)
    · rcases List.mem_cons.1 hp with rfl | hp
      · exact ⟨_, List.mem_cons_self .., rfl⟩
      · obtain ⟨p', k1, k2⟩ := h6 p hp
        exact ⟨p', List.mem_cons_of_mem _ k1, k2⟩

theorem capsG_mem {μ : Nat → Blk} : ∀ {pos : Nat} {caps cs : List SV} {QS : List (Nat × Nat × Nat × SV)}, capsG μ pos caps = some (cs, QS) → ∀ p ∈ QS, μ p.1 = .chunk p.2.2.1 p.2.2.2 ∧ dataB p.2.2.2 = true
  | pos, [], cs, QS, h, p, hp => by simp only [capsG] at h; injection h with h; injection h with _ h; subst h; simp at hp
  | pos, x :: l, cs, QS, h, p, hp => by
    simp only [capsG] at h
    split at h
    · rename_i y Q ys QS' h1 h2
      injection h with h; injection h with _ h; subst h
      rcases List.mem_append.1 hp with hp | hp
      · unfold cap1 at h1
        split at h1
        · split at h1
          · split at h1
            · rename_i t z hm
              split at h1
              · rename_i hd
                injection h1 with h1; injection h1 with _ h1; subst h1
                simp at hp; subst hp
                exact ⟨hm, hd⟩
              · cases h1
            · cases h1
          · cases h1
        · split at h1
          · split at h1
            · rename_i t z hm
              split at h1
              · rename_i hd
                injection h1 with h1; injection h1 with _ h1; subst h1
                simp at hp; subst hp
                exact ⟨hm, hd⟩
              · cases h1
            · cases h1
          · cases h1
        · split at h1
          · injection h1 with h1; injection h1 with _ h1; subst h1; simp at hp
          · cases h1
      · exact capsG_mem h2 p hp
    · cases h

theorem capsG_ids {μ : Nat → Blk} : ∀ {pos : Nat} {caps cs : List SV} {QS : List (Nat × Nat × Nat × SV)}, capsG μ pos caps = some (cs, QS) → ∀ p ∈ QS, p.2.1 ≠ 1
  | pos, [], cs, QS, h, p, hp => by simp only [capsG] at h; injection h with h; injection h with _ h; subst h; simp at hp
  | pos, x :: l, cs, QS, h, p, hp => by
    simp only [capsG] at h
    split at h
    · rename_i y Q ys QS' h1 h2
      injection h with h; injection h with _ h; subst h
      rcases List.mem_append.1 hp with hp | hp
      · unfold cap1 at h1
        split at h1
        · split at h1
          · split at h1
            · split at h1
              · injection h1 with h1; injection h1 with _ h1; subst h1
                simp at hp; subst hp
                simp only; omega
              · cases h1
            · cases h1
          · cases h1
        · split at h1
          · split at h1
            · split at h1
              · injection h1 with h1; injection h1 with _ h1; subst h1
                simp at hp; subst hp
                simp
              · cases h1
            · cases h1
          · cases h1
        · split at h1
          · injection h1 with h1; injection h1 with _ h1; subst h1; simp at hp
          · cases h1
      · exact capsG_ids h2 p hp
    · cases h

/-- What is captured, as the callee sees it. -/
theorem capsG_den {μ : Nat → Blk} {w : World} {Y Y' : Nat → Prop} {ρ ρ' : Env} (hY : ∀ b, b < w.heap.size → ¬ Y b → ¬ Y' b) : ∀ {pos : Nat} {caps cs : List SV} {QS : List (Nat × Nat × Nat × SV)} {us : List Value}, capsG μ pos caps = some (cs, QS) → (∀ p ∈ QS, ρ' p.2.1 = ρ p.1) → DenL w Y ρ caps us → DenL w Y' ρ' cs us
  | pos, [], cs, QS, us, h, _, hd => by
    simp only [capsG] at h; injection h with h; injection h with h _; subst h
    exact ⟨hd.1, fun i x u hx => by simp at hx⟩
  | pos, x :: l, cs, QS, us, h, hq, hd => by
    simp only [capsG] at h
    split at h
    · rename_i y Q ys QS' h1 h2
      injection h with h; injection h with h3 h; subst h; subst h3
      cases us with
      | nil => have := hd.1; simp at this
      | cons u us =>
        have ih := capsG_den hY (us := us) h2 (fun p hp => hq p (List.mem_append_right _ hp)) ⟨by have := hd.1; simpa using this, fun i x u hx hu => hd.2 (i + 1) x u hx hu⟩
        have h0 := (hd.2 0 x u rfl rfl).mono (w' := w) (X' := Y') (Nat.le_refl _) fun b hb hn => ⟨hY b hb hn, rfl⟩
        have hy : Den w Y' ρ' y u := by
          unfold cap1 at h1
          split at h1
          · rename_i q o
            split at h1
            · rename_i ho
              have ho := nbeq.1 ho
              subst ho
              split at h1
              · rename_i t z hm
                split at h1
                · injection h1 with h1; injection h1 with h3 h1; subst h1; subst h3
                  have e := hq (q, 900 + pos, t, z) (by simp)
                  simp only at e
                  cases h0 with
                  | ptr _ _ _ b hb => exact .ptr _ _ _ b fun k hk => hb k (by rw [← e]; exact hk)
                · cases h1
              · cases h1
            · cases h1
          · rename_i q o
            split at h1
            · rename_i ho
              have ho := nbeq.1 ho
              subst ho
              split at h1
              · rename_i t z hm
                split at h1
                · injection h1 with h1; injection h1 with h3 h1; subst h1; subst h3
                  have e := hq (q, 0, t, z) (by simp)
                  simp only at e
                  cases h0 with
                  | cel _ _ b o u' hb hx hu hy =>
                    refine .cel _ _ b o u' hb hx hu ?_
                    cases hy with
                    | ptr _ _ _ b hb => exact .ptr _ _ _ b fun k hk => hb k (by rw [← e]; exact hk)
                · cases h1
              · cases h1
            · cases h1
          · split at h1
            · rename_i hp
              injection h1 with h1; injection h1 with h3 h1; subst h3
              exact h0.env fun r => .inr (.inr (plain_noref hp r))
            · cases h1
        refine ⟨by simp [ih.1], fun i x' u' hx' hu' => ?_⟩
        cases i with
        | zero => simp at hx' hu'; subst hx'; subst hu'; exact hy
        | succ i => exact ih.2 i x' u' (by simpa using hx') (by simpa using hu')
    · cases h

theorem datasB_mem : ∀ {l : List SV}, datasB l = true → ∀ y ∈ l, dataB y = true
  | x :: l, h, y, hy => by
    simp only [datasB, Bool.and_eq_true] at h
    rcases List.mem_cons.1 hy with rfl | hy
    · exact h.1
    · exact datasB_mem h.2 y hy

theorem fcl_ok {o : Oper} {cal : Callee} {f : FuncId} {caps : List SV} {az : Array Operand} {ats : Array TypeId} {a : Act} {e : Operand → SV} {w : World} {Y : Nat → Prop} {ρ : Env} (hop : o.op = .call { callee := cal, args := az, argTypes := ats }) (hc : fclOf e cal = some (f, caps)) (hd : ∀ y ∈ o.op.operands, Den w Y ρ (e y) (a.eval y)) :
    ∃ us : List Value, execOp a.eval o = callFunc f (az.map a.eval ++ ⟨us⟩) ∧ DenL w Y ρ caps us := by
  unfold fclOf at hc
  split at hc
  · rename_i cal
    split at hc
    · rename_i f' caps' he
      injection hc with hc
      injection hc with h1 h2
      subst h1; subst h2
      have hv := hd cal (by rw [hop]; simp [Op.operands, Call.operands])
      rw [he] at hv
      generalize hq : a.eval cal = v at hv
      cases hv with
      | fcl _ _ _ us hl h => exact ⟨us, exec_clo hop hq, ⟨hl, fun i x u hx hu => by
          obtain ⟨h1, rfl⟩ := List.getElem?_eq_some_iff.1 hx
          obtain ⟨h2, rfl⟩ := List.getElem?_eq_some_iff.1 hu
          exact h i h1 h2⟩⟩
    · cases hc
  · cases hc

theorem DenL.appG {w : World} {X : Nat → Prop} {ρ : Env} {xs ys : List SV} {us vs : List Value} (h : DenL w X ρ xs us) (g : DenL w X ρ ys vs) : DenL w X ρ (xs ++ ys) (us ++ vs) := by
  refine ⟨by simp [h.1, g.1], fun i x u hx hu => ?_⟩
  by_cases hi : i < xs.length
  · rw [List.getElem?_append_left hi] at hx
    rw [List.getElem?_append_left (by rw [← h.1]; exact hi)] at hu
    exact h.2 i x u hx hu
  · rw [List.getElem?_append_right (by omega)] at hx
    rw [List.getElem?_append_right (by rw [← h.1]; omega), ← h.1] at hu
    exact g.2 _ x u hx hu
theorem viewsG_data {μ : Nat → Blk} : ∀ {ts : List Nat} {l l' : List SV}, views T μ ts l = some l' → ∀ (i : Nat) (y : SV), l'[i]? = some y → dataB y = true
  | [], [], l', hv, i, y, hy => by simp only [views] at hv; injection hv with hv; subst hv; simp at hy
  | [], _ :: _, l', hv, _, _, _ => by simp [views] at hv
  | _ :: _, [], l', hv, _, _, _ => by simp [views] at hv
  | t :: ts, x :: l, l', hv, i, y, hy => by
    simp only [views] at hv
    cases h1 : view T μ t x with
    | none => rw [h1] at hv; cases hv
    | some y' =>
      cases h2 : views T μ ts l with
      | none => rw [h1, h2] at hv; cases hv
      | some ys =>
        rw [h1, h2] at hv
        injection hv with hv; subst hv
        cases i with
        | zero => simp at hy; subst hy; exact view_data h1
        | succ i => exact viewsG_data h2 i y (by simpa using hy)
theorem viewsG_same {μ μ' : Nat → Blk} : ∀ {ts : List Nat} {l l' : List SV}, (∀ r ∈ rids.ridsL l, ∀ sh k, ((∃ e, μ r = .row sh e k) → μ' r = .frz sh k) ∧ (μ r = .frz sh k → μ' r = .frz sh k)) → views T μ ts l = some l' → views T μ' ts l = some l' ∧ live.lives μ' l = false
  | [], [], l', _, hv => ⟨hv, rfl⟩
  | [], _ :: _, l', _, hv => by simp [views] at hv
  | _ :: _, [], l', _, hv => by simp [views] at hv
  | t :: ts, x :: l, l', h, hv => by
    simp only [views] at hv
    cases h1 : view T μ t x with
    | none => rw [h1] at hv; cases hv
    | some y =>
      cases h2 : views T μ ts l with
      | none => rw [h1, h2] at hv; cases hv
      | some ys =>
        obtain ⟨a1, a2⟩ := view_same (T := T) (fun r hr => h r (by simp [rids.ridsL, hr])) h1
        obtain ⟨b1, b2⟩ := viewsG_same (ts := ts) (fun r hr => h r (by simp [rids.ridsL, hr])) h2
        rw [h1, h2] at hv
        simp only [views, a1, b1, live.lives, a2, b2, Bool.or_self]
        exact ⟨hv, trivial⟩

theorem genV_ok {G : Nat → CT → Prop} (hG : ∀ f c, G f c → ACall P T f c) {o : Oper} {cal : Callee} {args : Array Operand} {ats : Array TypeId} (ho : o.op = .call ⟨cal, args, ats⟩) {d : Option Nat} {e : Operand → SV} {μ : Nat → Blk} {κ : SV → List (Nat × Blk) → Option Nat → Prop} {f : Nat} {caps : List SV} (hcal : fclOf e cal = some (f, caps))
    (h : genV T G d f ats.toList (args.toList.map e) caps μ κ) : ∃ x U cr, κ x U cr ∧ (∀ q b, (q, b) ∈ U → cr = some q ∨ (μ q).own = true) ∧ (∀ k, cr = some k → d = some k) ∧ Eff P T o e μ x U cr := by
  unfold genV at h
  split at h <;> try exact h.elim
  rename_i az hviews
  split at h <;> try exact h.elim
  rename_i cs QS hcaps
  split at h <;> try exact h.elim
  rename_i hnd
  simp only [Bool.and_eq_true] at hnd
  obtain ⟨L, r, nb, hg, hL, h⟩ := h.h
  split at h <;> try exact h.elim
  rename_i hdat
  obtain ⟨E, e1, e2, e3, e4, e5, e6⟩ := zipE hL
  have hmemQ := capsG_mem hcaps
  have h1E : ∀ p ∈ E, p.2.1 ≠ 1 := fun p hp => capsG_ids hcaps _ (e5 p hp)
  refine ⟨_, _, if isNew nb then d else none, h, fun k b hk => ?_, (fun k hk => ?_), ?_⟩
  · rw [e4] at hk
    rcases List.mem_append.1 hk with hk | hk
    · obtain ⟨_, sh, e', l, hm, _⟩ := frzU_mem hk
      exact .inr (by rw [hm]; rfl)
    rcases List.mem_append.1 hk with hk | hk
    · obtain ⟨p', hp', hpe⟩ := List.mem_map.1 hk
      obtain ⟨p, hp, rfl⟩ := List.mem_map.1 hp'
      injection hpe with h1 h2
      subst h1
      exact .inr (by rw [(hmemQ _ (e5 p hp)).1]; rfl)
    · cases hn : nb <;> rw [hn] at hk <;> cases hd : d <;> rw [hd] at hk <;> simp [newU] at hk
      all_goals first | (left; simp [isNew, hk.1]; done) | (rw [hn] at hdat; simp [okG] at hdat; done)
  · split at hk
    · exact hk
    · cases hk
  refine ⟨fun mem hμ hcr a N w0 w X ρ m hd K Q hK ro nn => ⟨fun _ _ => trivial, ?_⟩⟩
  have ac := hG _ _ hg
  obtain ⟨fn, hf, hb, hn⟩ := ac.fn
  obtain ⟨us, hex, hcd⟩ := fcl_ok ho hcal hd
  have hrun : (execOp a.eval o).run P w = .ok (.enter f (args.map a.eval ++ ⟨us⟩)) w := by rw [hex, run_callFunc hf hb hn]
  rw [semAt_exec hrun (fun d hd => by cases hd), hrun, Oper.uponIn_enter]
  refine ⟨fun h => by simp [FR, Fence.wide] at h, calls_FR ?_⟩
  have hden : DenL w (Forb X mem ρ) ρ (args.toList.map e) (args.toList.map a.eval) := by
    refine ⟨by simp, fun i x v hx hv => ?_⟩
    simp only [List.getElem?_map, Option.map_eq_some_iff] at hx hv
    obtain ⟨y, hy, rfl⟩ := hx
    obtain ⟨y', hy', rfl⟩ := hv
    rw [hy] at hy'
    injection hy' with hy'
    subst hy'
    refine hd y ?_
    rw [ho]
    simp only [Op.operands, Call.operands]
    have : y ∈ args := by simpa using List.mem_of_getElem? hy
    simp [this]
  have fz := freeze_ids (T := T) hμ m (rids.ridsL (args.toList.map e))
  generalize hM : appU (frzU μ (rids.ridsL (args.toList.map e))) mem = mem1 at fz
  have lq0 : ∀ p ∈ E, getM mem1 p.1 = .chunk p.2.2.1 p.2.2.2.1 ∧ dataB p.2.2.2.1 = true := fun p hp => by
    obtain ⟨k1, k2⟩ := hmemQ _ (e5 p hp)
    simp only at k1 k2
    refine ⟨?_, k2⟩
    rcases fz.old p.1 with g | ⟨_, sh, e', l, g, _⟩
    · rw [g]; exact hμ.row k1 (by simp)
    · rw [k1] at g; cases g
  have lq : LentG mem1 E := ⟨lq0, by rw [← e2]; exact nodupN_ok hnd.1, by rw [← e3]; exact nodupN_ok hnd.2⟩
  have hfb : ∀ b, Forb (xG (Forb X mem1 ρ) ρ E) (inL (lnE E)) (envG ρ E) b → Forb X mem1 ρ b := fun b hf' => forbG lq (fun b h => h) hf'
  have min := callG_in fz.m lq (Z := Forb X mem1 ρ) (fun b h => h)
  have hargs : DenL w (Forb (xG (Forb X mem1 ρ) ρ E) (inL (lnE E)) (envG ρ E)) (envG ρ E) az (args.toList.map a.eval) := by
    obtain ⟨v1, v2⟩ := viewsG_same (T := T) (μ' := getM mem1) (fun r hr' => fz.at' r hr') hviews
    have := views_den (sees_all _) fz.m (Z := Forb (xG (Forb X mem1 ρ) ρ E) (inL (lnE E)) (envG ρ E)) (fun b _ hf hf' => hf (hfb b hf')) (fun hlive => by rw [v2] at hlive; cases hlive) v1 ⟨hden.1, fun i x u hx hu => fz.t.den (fun _ h => by cases h) (hden.2 i x u hx hu)⟩
    exact ⟨this.1, fun i x u hx hu => (this.2 i x u hx hu).data (viewsG_data hviews i x hx)⟩
  have hcs : DenL w (Forb (xG (Forb X mem1 ρ) ρ E) (inL (lnE E)) (envG ρ E)) (envG ρ E) cs us :=
    capsG_den (Y := Forb X mem1 ρ) (ρ := ρ) (fun b _ hn hf' => hn (hfb b hf')) hcaps (fun p hp => by
      obtain ⟨p', hp', rfl⟩ := e6 p hp
      exact (atG lq ρ .no hp').2.2) ⟨hcd.1, fun i x u hx hu => fz.t.den (fun _ h => by cases h) (hcd.2 i x u hx hu)⟩
  have hsq : isSeq (gC (az ++ cs) L r nb) = false := by
    cases hnw : nb <;> first | rfl | (rw [hnw] at hdat; simp [okG] at hdat; done)
  have hlr : isLR (gC (az ++ cs) L r nb) = false := by
    cases hnw : nb <;> first | rfl | (rw [hnw] at hdat; simp [okG] at hdat; done)
  have hcall := ac.g _ _ _ _ rfl hsq hlr (by rw [← e1]; simpa [lnE, Function.comp_def] using lq.c) (nG w ρ E) w (xG (Forb X mem1 ρ) ρ E) (envG ρ E) _ (by rw [← e1]; exact min) (by rw [← e1]; exact hargs.appG hcs)
  have e7 : (⟨args.toList.map a.eval ++ us⟩ : Array Value) = args.map a.eval ++ ⟨us⟩ := by apply Array.ext'; simp
  rw [e7] at hcall
  refine hcall.mono fun en w' hh => ?_
  obtain ⟨v, ρc, rfl, mc, h0, hv⟩ := hh
  rw [← e1] at mc h0 hv
  obtain ⟨m', t', hden'⟩ := callG_out fz.m lq (d := d) (by rw [e1]; exact hdat) h1E mc h0 (cr := if isNew nb then d else none) rfl (fun k hk => by
    obtain ⟨k1, k2, _⟩ := hcr k hk
    exact ⟨by rw [← hM] at fz ⊢; exact fz.no hμ k1, by rw [← hM]; exact appU_noref k2 fun q' b hb => by obtain ⟨_, sh, e', l, _, rfl⟩ := frzU_mem hb; rfl⟩) hv
  have e8 : appU (frzU μ (rids.ridsL (args.toList.map e)) ++ (updG QS (renGs d nb (L.map fun p => p.2.2.2)) ++ newU nb d)) mem = appU (updE (renE d nb E) ++ newU nb d) mem1 := by
    rw [appU_append, hM, e4]
  refine hK v w' _ (by rw [e8]; exact m') (by rw [e8]; exact hden') (by rw [e8]; exact fz.t.trans t')
end Go.Proofs.YtligbjbkecmecaaDoor
