/- The law of calls. -/
import Derived.Test.YtligbjbkecmecaaDoorRh
namespace Go.Proofs.YtligbjbkecmecaaDoor
set_option linter.unusedVariables false
set_option linter.unusedSimpArgs false
open Go.RowKit
variable {P : Program} {T : Nat → Option TI}

/-- The block of what is lent. -/
def lblk (ρ : Env) (q : Option (Nat × Nat × SV)) (b : Nat) : Prop := ∃ r t x, q = some (r, t, x) ∧ ρ r = some (.pointer (some ⟨b, 0, none⟩))
def envC (ρ : Env) (q : Option (Nat × Nat × SV)) : Env := fun r => if r = 0 then (match q with | some (k, _, _) => ρ k | none => none) else none
def nC (w : World) (ρ : Env) (q : Option (Nat × Nat × SV)) : Nat → Prop := fun b => w.heap.size ≤ b ∨ lblk ρ q b
def xC (Z : Nat → Prop) (ρ : Env) (q : Option (Nat × Nat × SV)) : Nat → Prop := fun b => Z b ∧ ¬ lblk ρ q b

/-- What is lent lies in the caller's memory. -/
structure Lent (mem : Mem) (q : Option (Nat × Nat × SV)) : Prop where
  h : ∀ r t x, q = some (r, t, x) → getM mem r = .chunk t x ∧ dataB x = true

theorem forbC {mem : Mem} {q : Option (Nat × Nat × SV)} (lq : Lent mem q) {X : Nat → Prop} {ρ : Env} {c : CT} (hc : c.lent = q.map fun p => p.2) {Z : Nat → Prop} (hZ : ∀ b, Z b → Forb X mem ρ b) {b : Nat} (h : Forb (xC Z ρ q) (inM c) (envC ρ q) b) : Forb X mem ρ b := by
  rcases h with h | ⟨r, v, h1, h2, h3⟩
  · exact hZ b h.1
  · rw [getM_in] at h1
    split at h1
    case isFalse => simp [Blk.own] at h1
    rename_i hr
    subst hr
    cases hq : q with
    | none => rw [hq] at hc; rw [hc] at h1; simp [lentB, Blk.own] at h1
    | some p =>
      obtain ⟨k, t, x⟩ := p
      obtain ⟨g1, g2⟩ := lq.h k t x hq
      simp only [envC, if_true, hq] at h2
      exact .inr ⟨k, v, by rw [g1]; rfl, h2, h3⟩

theorem call_in {N : Nat → Prop} {w0 w : World} {X : Nat → Prop} {mem : Mem} {ρ : Env} (m : MRep T N w0 w X mem ρ) {q : Option (Nat × Nat × SV)} (lq : Lent mem q) {c : CT} (hc : c.lent = q.map fun p => p.2) {Z : Nat → Prop} (hZ : ∀ b, Z b → Forb X mem ρ b) :
    MRep T (nC w ρ q) w w (xC Z ρ q) (inM c) (envC ρ q) := by
  refine ⟨fun b h => ⟨m.forb_lt (hZ b h.1), fun hn => ?_⟩, .refl _ _, fun b h => .inl h, fun r => ?_, fun r r' v v' b h1 h2 _ _ _ _ => ?_, gl_mono m.gl (Nat.le_refl _) fun b _ hf => ⟨fun hf' => hf (forbC lq hc hZ hf'), rfl⟩⟩
  · rcases hn with hn | hn
    · have := m.forb_lt (hZ b h.1); omega
    · exact h.2 hn
  · rw [getM_in]
    by_cases hr : r = 0
    · subst hr
      rw [if_pos rfl]
      cases hq : q with
      | none => rw [hq] at hc; rw [hc]; simp only [Option.map_none, lentB, envC, if_true]; rfl
      | some p =>
        obtain ⟨k, t, x⟩ := p
        obtain ⟨g1, g2⟩ := lq.h k t x hq
        have hb := m.blk k
        rw [g1] at hb
        obtain ⟨i, b, us, ty, h1, h2, h3, h4, h5, h6, h7⟩ := hb
        rw [hc, hq]
        simp only [Option.map_some, lentB, envC, if_true]
        refine ⟨i, b, us, ty, h1, h2, .inr ⟨k, t, x, rfl, h2⟩, h4, h5, h6, ?_⟩
        have := (h7.mono (w' := w) (X' := Forb (xC Z ρ q) (inM c) (envC ρ q)) (Nat.le_refl _) (fun b _ hf => ⟨fun hf' => hf (forbC lq hc hZ hf'), rfl⟩)).data (ρ' := envC ρ q) g2
        rw [hq] at this
        exact this
    · rw [if_neg hr]
      show envC ρ q r = none
      simp only [envC, if_neg hr]
  · rw [getM_in] at h1 h2
    have k : ∀ r, (if r = 0 then lentB c.lent else Blk.no).own = true → r = 0 := by
      intro r h
      by_cases hr : r = 0
      · exact hr
      · rw [if_neg hr] at h; simp [Blk.own] at h
    rw [k r h1, k r' h2]

def memL (q : Option (Nat × Nat × SV)) (y : SV) (mem : Mem) (r : Nat) : Blk := match q with | some (k, t, _) => if r = k then .chunk t y else getM mem r | none => getM mem r
theorem isNew_own {b : Blk} (h : b.own = true) : isNew b = true := by cases b <;> simp_all [Blk.own, isNew]

/-- What a call leaves, in the caller's memory. -/
theorem call_out {N : Nat → Prop} {w0 w w' : World} {X : Nat → Prop} {mem : Mem} {ρ ρc : Env} (m : MRep T N w0 w X mem ρ) {q : Option (Nat × Nat × SV)} (lq : Lent mem q) {c : CT} (hc : c.lent = q.map fun p => p.2) {Z : Nat → Prop} (_hZ : ∀ b, Z b → Forb X mem ρ b)
    (mc : MRep T (nC w ρ q) w w' (xC Z ρ q) (outM c) ρc) (h0 : ρc 0 = envC ρ q 0) {d : Option Nat} (hok : okC d c = true) {cr : Option Nat} (hcr : cr = if isNew c.new then d else none)
    (hfr : ∀ k, cr = some k → getM mem k = .no ∧ memNoref k mem = true) (hqd : ∀ r t x, q = some (r, t, x) → cr ≠ some r) (hfull : (∀ b, Forb X mem ρ b → Z b) ∨ flatC c = true ∨ PeekC c) {v : Value} (hv : Den w' (Forb (xC Z ρ q) (outM c) ρc) ρc c.r v) :
    let U := lentU q c.lent' ++ newU c.new d
    let ρ' : Env := fun r => if cr = some r then ρc 1 else ρ r
    MRep T N w0 w' X (appU U mem) ρ' ∧ Turn w (Forb X mem ρ) ρ w' (Forb X (appU U mem) ρ') ρ' cr ∧ Den w' (Forb X (appU U mem) ρ') ρ' (callR d c) v := by
  intro U ρ'
  simp only [okC, Bool.and_eq_true] at hok
  obtain ⟨ok1, ok2⟩ := hok
  -- the memory behind the call
  have hg : ∀ r, getM (appU U mem) r = if cr = some r then c.new else memL q c.lent' mem r := by
    intro r
    cases q with
    | none =>
      cases hn : c.new with
      | no => simp only [U, hn, hcr, isNew, Bool.false_eq_true, if_false, lentU, newU, memL]; simp [appU]
      | frz sh l => rw [hn] at ok2; cases ok2
      | rowx _ _ _ _ => rw [hn] at ok2; cases ok2
      | rown _ _ _ => rw [hn] at ok2; cases ok2
      | iter _ _ => rw [hn] at ok2; cases ok2
      | gen _ _ _ => rw [hn] at ok2; cases ok2
      | _ =>
        rw [hn] at ok2
        simp only [Bool.and_eq_true] at ok2
        cases hd : d with
        | none => rw [hd] at ok2; simp at ok2
        | some k =>
          simp only [U, hn, hd, hcr, isNew, if_true, lentU, newU, memL, List.nil_append, appU, getM_setM, Option.some.injEq, eq_comm]
    | some p =>
      obtain ⟨k0, t, x⟩ := p
      have hne := hqd k0 t x rfl
      cases hn : c.new with
      | no =>
        have e1 : newU Blk.no d = [] := by cases d <;> rfl
        simp only [U, e1, hcr, hn, isNew, Bool.false_eq_true, if_false, lentU, memL, List.append_nil, appU, getM_setM]
        simp
      | frz sh l => rw [hn] at ok2; cases ok2
      | rowx _ _ _ _ => rw [hn] at ok2; cases ok2
      | rown _ _ _ => rw [hn] at ok2; cases ok2
      | iter _ _ => rw [hn] at ok2; cases ok2
      | gen _ _ _ => rw [hn] at ok2; cases ok2
      | _ =>
        rw [hn] at ok2
        simp only [Bool.and_eq_true] at ok2
        cases hd : d with
        | none => rw [hd] at ok2; simp at ok2
        | some k =>
          simp only [U, hn, hd, hcr, isNew, if_true, lentU, newU, memL, List.singleton_append, appU, getM_setM, Option.some.injEq]
          by_cases hr : r = k
          · subst hr; simp
          · rw [if_neg hr, if_neg (Ne.symm hr)]
  have hN0 : ∀ b, lblk ρ q b → ∃ r t x, q = some (r, t, x) ∧ (getM mem r).own = true ∧ ρ r = some (.pointer (some ⟨b, 0, none⟩)) ∧ N b := by
    rintro b ⟨r, t, x, hq, hr⟩
    have g := (lq.h r t x hq).1
    refine ⟨r, t, x, hq, by rw [g]; rfl, hr, (m.owned_lt ⟨r, _, by rw [g]; rfl, hr, rfl⟩).1⟩
  have hnew1 : ∀ k, cr = some k → isNew c.new = true ∧ d = some k := by
    intro k hk
    rw [hcr] at hk
    split at hk
    · rename_i h; exact ⟨h, hk⟩
    · cases hk
  have out1 : getM (outM c) 1 = c.new := by rw [getM_out]; simp
  have out0 : getM (outM c) 0 = lentB' c.lent c.lent' := by rw [getM_out]; simp
  -- what is new lies in new blocks
  have hnb : ∀ u b, ρc 1 = some u → vblock u = some b → c.new.own = true → w.heap.size ≤ b ∧ b < w'.heap.size := by
    intro u b hu hb ho
    obtain ⟨g1, g2⟩ := mc.owned_lt ⟨1, u, by rw [out1]; exact ho, hu, hb⟩
    refine ⟨g1.resolve_right fun hl => ?_, g2⟩
    obtain ⟨r, t, x, hq, _, hr, _⟩ := hN0 b hl
    have e0 : ρc 0 = some (.pointer (some ⟨b, 0, none⟩)) := by rw [h0]; simp only [envC, if_true, hq]; exact hr
    have := mc.inj 0 1 _ _ b (by rw [out0, hc, hq]; rfl) (by rw [out1]; exact ho) e0 hu rfl hb
    omega
  have hfo : ∀ b, Forb X (appU U mem) ρ' b → b < w'.heap.size → w.heap.size ≤ b ∨ Forb X mem ρ b := by
    rintro b (h | ⟨r, u, g1, g2, g3⟩) hlt
    · exact .inr (.inl h)
    · rw [hg] at g1
      by_cases hr : cr = some r
      · rw [if_pos hr] at g1
        simp only [ρ', if_pos hr] at g2
        exact .inl (hnb u b g2 g3 g1).1
      · rw [if_neg hr] at g1
        simp only [ρ', if_neg hr] at g2
        refine .inr (.inr ⟨r, u, ?_, g2, g3⟩)
        cases hq : q with
        | none => rw [hq] at g1; exact g1
        | some p =>
          obtain ⟨k, t, x⟩ := p
          rw [hq] at g1
          simp only [memL] at g1
          split at g1
          · rename_i hk; rw [hk, (lq.h k t x hq).1]; rfl
          · exact g1
  -- the caller's forbidden blocks are the callee's
  have hback : (∀ b, Forb X mem ρ b → Z b) → ∀ b, Forb X (appU U mem) ρ' b → Forb (xC Z ρ q) (outM c) ρc b := by
    intro hZ' b hb
    have old : Forb X mem ρ b → Forb (xC Z ρ q) (outM c) ρc b := by
      intro h
      by_cases hl : lblk ρ q b
      · obtain ⟨r, t, x, hq, _, hr, _⟩ := hN0 b hl
        refine .inr ⟨0, .pointer (some ⟨b, 0, none⟩), by rw [out0, hc, hq]; rfl, ?_, rfl⟩
        rw [h0]; simp only [envC, if_true, hq]; exact hr
      · exact .inl ⟨hZ' b h, hl⟩
    rcases hb with h | ⟨r, u, g1, g2, g3⟩
    · exact old (.inl h)
    · rw [hg] at g1
      by_cases hr : cr = some r
      · rw [if_pos hr] at g1
        simp only [ρ', if_pos hr] at g2
        exact .inr ⟨1, u, by rw [out1]; exact g1, g2, g3⟩
      · rw [if_neg hr] at g1
        simp only [ρ', if_neg hr] at g2
        refine old (.inr ⟨r, u, ?_, g2, g3⟩)
        cases hq : q with
        | none => rw [hq] at g1; exact g1
        | some p =>
          obtain ⟨k, t, x⟩ := p
          rw [hq] at g1
          simp only [memL] at g1
          split at g1
          · rename_i hk; rw [hk, (lq.h k t x hq).1]; rfl
          · exact g1
  have hlift : (∀ b, Forb X mem ρ b → Z b) → ∀ {ρ0 : Env} {x : SV} {u : Value}, Den w' (Forb (xC Z ρ q) (outM c) ρc) ρ0 x u → Den w' (Forb X (appU U mem) ρ') ρ0 x u := fun hZ' ρ0 x u h =>
    h.mono (Nat.le_refl _) fun b _ hf => ⟨fun hf' => hf (hback hZ' b hf'), rfl⟩
  have hflat : flatC c = true → flatR c.r = true ∧ c.new = .no ∧ q = none := by
    intro h
    simp only [flatC, Bool.and_eq_true] at h
    refine ⟨h.1.1, ?_, ?_⟩
    · have := h.1.2; cases hn : c.new <;> rw [hn] at this <;> first | rfl | cases this
    · have := h.2
      rw [hc] at this
      cases hq : q with
      | none => rfl
      | some p => rw [hq] at this; cases this
  have hB : Turn w (Forb X mem ρ) ρ w' (Forb X (appU U mem) ρ') ρ' cr → ∀ r, ((∃ t x, q = some (r, t, x)) ∨ cr = some r) → BlkRep T N w' (Forb X (appU U mem) ρ') ρ' (getM (appU U mem) r) (ρ' r) := by
    intro tn r hr
    have hZ' : (∀ b, Forb X mem ρ b → Z b) ∨ PeekC c := by
      rcases hfull with h | h | h
      · exact .inl h
      · exfalso
        obtain ⟨_, f2, f3⟩ := hflat h
        rcases hr with ⟨t, x, hr⟩ | hr
        · rw [f3] at hr; cases hr
        · have := (hnew1 r hr).1; rw [f2] at this; cases this
      · exact .inr h
    by_cases hrc : cr = some r
    · rw [hg, if_pos hrc]
      simp only [ρ', if_pos hrc]
      obtain ⟨hn, hd⟩ := hnew1 r hrc
      have hb := mc.blk 1
      rw [out1] at hb
      cases hnw : c.new with
      | no => rw [hnw] at hn; cases hn
      | frz sh l => rw [hnw] at hn; cases hn
      | rowx _ _ _ _ => rw [hnw] at ok2; cases ok2
      | rown _ _ _ => rw [hnw] at ok2; cases ok2
      | iter _ _ => rw [hnw] at ok2; cases ok2
      | gen _ _ _ => rw [hnw] at ok2; cases ok2
      | chunk t x =>
        rw [hnw] at hb ok2
        simp only [Bool.and_eq_true] at ok2
        obtain ⟨i, b, us, ty, h1, h2, h3, h4, h5, h6, h7⟩ := hb
        have hZ' := hZ'.resolve_right fun hp => by obtain ⟨_, _, _, e, _⟩ := hp.n; rw [hnw] at e; cases e
        exact ⟨i, b, us, ty, h1, h2, m.szN b (hnb _ b h2 rfl (by rw [hnw]; rfl)).1, h4, h5, h6, (hlift hZ' h7).data ok2.1.1⟩
      | row sh e l =>
        rw [hnw] at hb
        obtain ⟨u, h1, h2⟩ := hb
        refine ⟨u, h1, ?_⟩
        rcases h2 with h2 | ⟨b, off, cap, cur, rfl, k1, k2, k3, k4, k5, k6, k7, k8⟩
        · exact .inl h2
        · exact .inr ⟨b, off, cap, cur, rfl, m.szN b (hnb _ b h1 (by simp only [vblock]; rw [if_neg (by omega)]) (by rw [hnw]; rfl)).1, k2, k3, k4, k5, k6, k7, fun i hi => by
            rcases hZ' with hZ' | hp
            · exact hlift hZ' (k8 i hi)
            · obtain ⟨_, _, _, e, hl⟩ := hp.n
              rw [hnw] at e
              injection e with _ _ e
              exact (k8 i hi).flat1 (hl _ (by rw [← e]; exact List.getElem_mem hi))⟩
    · obtain ⟨t, x, hq⟩ := hr.resolve_right hrc
      have hZ' := hZ'.resolve_right fun hp => by have := hp.l; rw [hc, hq] at this; cases this
      rw [hg, if_neg hrc, hq]
      simp only [memL, if_true, ρ', if_neg hrc]
      have hb := mc.blk 0
      rw [out0, hc, hq] at hb
      simp only [Option.map_some, lentB'] at hb
      have e0 : ρc 0 = ρ r := by rw [h0]; simp only [envC, if_true, hq]
      rw [e0] at hb
      obtain ⟨i, b, us, ty, h1, h2, h3, h4, h5, h6, h7⟩ := hb
      rw [hc, hq] at ok1
      obtain ⟨_, _, _, hq', _, _, hNb⟩ := hN0 b ⟨r, t, x, hq, h2⟩
      have h7' := (hlift hZ' (show Den w' (Forb (xC Z ρ q) (outM c) ρc) ρc c.lent' (valAt i.shape us.toList 0) by rw [hq]; exact h7)).data (ρ' := ρ') ok1
      exact ⟨i, b, us, ty, h1, h2, hNb, h4, h5, h6, h7'⟩
  have hbel : BelowW N w w' := ⟨mc.below.os, mc.below.tape, mc.below.output, mc.below.size, fun k hk hnk => mc.below.block k hk fun hn => by
    rcases hn with hn | hn
    · omega
    · obtain ⟨_, _, _, _, _, _, hNb⟩ := hN0 k hn; exact hnk hNb⟩
  obtain ⟨m', t'⟩ := m.step (w' := w') (mem' := appU U mem) (ρ' := ρ') (fun r => (∃ t x, q = some (r, t, x)) ∨ cr = some r) cr hbel (fun r hr => by
      have h1 : cr ≠ some r := fun h => hr (.inr h)
      refine ⟨?_, by simp only [ρ', if_neg h1]⟩
      rw [hg, if_neg h1]
      cases hq : q with
      | none => rfl
      | some p =>
        obtain ⟨k, t, x⟩ := p
        simp only [memL]
        rw [if_neg]
        rintro rfl
        exact hr (.inl ⟨t, x, hq⟩))
    (fun r hr => by
      by_cases h1 : cr = some r
      · exact .inr (.inr h1)
      · exact .inr (.inl (by simp only [ρ', if_neg h1])))
    (fun r hr => (hfr r hr).2)
    (fun b hb => by
      by_cases hl : lblk ρ q b
      · obtain ⟨r, t, x, hq, k1, k2, _⟩ := hN0 b hl
        exact .inr ⟨r, _, .inl ⟨t, x, hq⟩, k1, k2, rfl⟩
      · exact .inl (mc.below.block b hb fun hn => hn.elim (by omega) hl))
    (fun r u b hr g1 g2 g3 => by
      rw [hg] at g1
      by_cases h1 : cr = some r
      · rw [if_pos h1] at g1
        simp only [ρ', if_pos h1] at g2
        exact .inl (hnb u b g2 g3 g1)
      · simp only [ρ', if_neg h1] at g2
        obtain ⟨t, x, hq⟩ := hr.resolve_right h1
        exact .inr ⟨r, u, .inl ⟨t, x, hq⟩, by rw [(lq.h r t x hq).1]; rfl, g2, g3⟩)
    (fun r r' u u' b hr hr' g1 g2 g3 g4 g5 g6 => by
      have side : ∀ r r' u u', cr = some r → cr ≠ some r' → (getM (appU U mem) r).own = true → (∃ t x, q = some (r', t, x)) → ρ' r = some u → ρ' r' = some u' → vblock u = some b → vblock u' = some b → False := by
        intro r r' u u' h1 h2 k1 ⟨t, x, hq⟩ k3 k4 k5 k6
        rw [hg, if_pos h1] at k1
        simp only [ρ', if_pos h1] at k3
        simp only [ρ', if_neg h2] at k4
        have a1 := (hnb u b k3 k5 k1).1
        have a2 := (m.owned_lt ⟨r', u', by rw [(lq.h r' t x hq).1]; rfl, k4, k6⟩).2
        omega
      by_cases h1 : cr = some r <;> by_cases h2 : cr = some r'
      · rw [h1] at h2; injection h2
      · exact (side r r' u u' h1 h2 g1 (hr'.resolve_right h2) g3 g4 g5 g6).elim
      · exact (side r' r u' u h2 h1 g2 (hr.resolve_right h1) g4 g3 g6 g5).elim
      · obtain ⟨t, x, hq⟩ := hr.resolve_right h1
        obtain ⟨t', x', hq'⟩ := hr'.resolve_right h2
        rw [hq] at hq'
        injection hq' with hq'
        injection hq')
    hB
  refine ⟨m', t', ?_⟩
  cases hnw : c.new with
  | no =>
    rw [hnw] at ok2
    have hr : callR d c = c.r := by simp only [callR, hnw]
    rw [hr]
    rcases hfull with h | h | h
    · exact (hlift h hv).plain_env ok2
    · exact hv.flat (hflat h).1
    · obtain ⟨_, _, _, e, _⟩ := h.n
      rw [hnw] at e; cases e
  | frz sh l => rw [hnw] at ok2; cases ok2
  | rowx _ _ _ _ => rw [hnw] at ok2; cases ok2
  | rown _ _ _ => rw [hnw] at ok2; cases ok2
  | iter _ _ => rw [hnw] at ok2; cases ok2
  | gen _ _ _ => rw [hnw] at ok2; cases ok2
  | _ =>
    rw [hnw] at ok2
    simp only [Bool.and_eq_true] at ok2
    have hZ' : (∀ b, Forb X mem ρ b → Z b) ∨ PeekC c := by
      rcases hfull with h | h | h
      · exact .inl h
      · have := (hflat h).2.1; rw [hnw] at this; cases this
      · exact .inr h
    cases hd : d with
    | none => rw [hd] at ok2; simp at ok2
    | some k =>
      have hr : callR (some k) c = ren k c.r := by simp only [callR, hnw]
      rw [hr]
      have hcrk : cr = some k := by rw [hcr, hnw]; simp [isNew, hd]
      have hv' : Den w' (Forb X (appU U mem) ρ') ρc c.r v := by
        rcases hZ' with hZ' | hp
        · exact hlift hZ' hv
        · exact hv.peek hp.r
      refine hv'.ren ?_ (by simp only [ρ', if_pos hcrk])
      first | exact ok2.1.2 | exact ok2.1

theorem views_same {μ μ' : Nat → Blk} : ∀ {ts : List Nat} {l l' : List SV}, (∀ r ∈ rids.ridsL l, ∀ sh k, ((∃ e, μ r = .row sh e k) → μ' r = .frz sh k) ∧ (μ r = .frz sh k → μ' r = .frz sh k)) → views T μ ts l = some l' → views T μ' ts l = some l' ∧ live.lives μ' l = false
  | [], [], l', _, hv => ⟨hv, rfl⟩
  | [], _ :: _, l', _, hv => by simp [views] at hv
  | _ :: _, [], l', _, hv => by simp [views] at hv
  | t :: ts, x :: l, l', h, hv => by
    simp only [views] at hv
    cases h1 : view T μ t x with
    | none => rw [h1] at hv; cases hv
    | some y =>
      cases h2 : views T μ ts l with
      | none => rw [h1, h2] at hv; cases hv
      | some ys =>
        obtain ⟨a1, a2⟩ := view_same (T := T) (fun r hr => h r (by simp [rids.ridsL, hr])) h1
        obtain ⟨b1, b2⟩ := views_same (ts := ts) (fun r hr => h r (by simp [rids.ridsL, hr])) h2
        rw [h1, h2] at hv
        simp only [views, a1, b1, live.lives, a2, b2, Bool.or_self]
        exact ⟨hv, trivial⟩
theorem views_data {μ : Nat → Blk} : ∀ {ts : List Nat} {l l' : List SV}, views T μ ts l = some l' → ∀ (i : Nat) (y : SV), l'[i]? = some y → dataB y = true
  | [], [], l', hv, i, y, hy => by simp only [views] at hv; injection hv with hv; subst hv; simp at hy
  | [], _ :: _, l', hv, _, _, _ => by simp [views] at hv
  | _ :: _, [], l', hv, _, _, _ => by simp [views] at hv
  | t :: ts, x :: l, l', hv, i, y, hy => by
    simp only [views] at hv
    cases h1 : view T μ t x with
    | none => rw [h1] at hv; cases hv
    | some y' =>
      cases h2 : views T μ ts l with
      | none => rw [h1, h2] at hv; cases hv
      | some ys =>
        rw [h1, h2] at hv
        injection hv with hv; subst hv
        cases i with
        | zero => simp at hy; subst hy; exact view_data h1
        | succ i => exact views_data h2 i y (by simpa using hy)

theorem callArgs_some {μ : Nat → Blk} {ts : List Nat} {xs az : List SV} {q : Option (Nat × Nat × SV)} (h : callArgs T μ ts xs = some (az, q)) :
    (q = none ∧ views T μ ts xs = some az) ∨ ∃ t0 ts' k xs' t x az', ts = t0 :: ts' ∧ xs = .ptr k 0 :: xs' ∧ μ k = .chunk t x ∧ dataB x = true ∧ views T μ ts' xs' = some az' ∧ az = .ptr 0 0 :: az' ∧ q = some (k, t, x) := by
  unfold callArgs at h
  split at h
  · rename_i t0 ts' k xs'
    split at h
    · rename_i t x hm
      split at h
      · rename_i hd
        split at h
        · rename_i az' hv
          injection h with h
          injection h with h1 h2
          exact .inr ⟨t0, ts', k, xs', t, x, az', rfl, rfl, hm, hd, hv, h1.symm, h2.symm⟩
        · cases h
      · cases h
    · cases h
  · split at h
    · rename_i az' hv
      injection h with h
      injection h with h1 h2
      subst h1
      exact .inl ⟨h2.symm, hv⟩
    · cases h

theorem DenL.app' {w : World} {X : Nat → Prop} {ρ : Env} {xs ys : List SV} {us vs : List Value} (h : DenL w X ρ xs us) (g : DenL w X ρ ys vs) : DenL w X ρ (xs ++ ys) (us ++ vs) := by
  refine ⟨by simp [h.1, g.1], fun i x u hx hu => ?_⟩
  by_cases hi : i < xs.length
  · rw [List.getElem?_append_left hi] at hx
    rw [List.getElem?_append_left (by rw [← h.1]; exact hi)] at hu
    exact h.2 i x u hx hu
  · rw [List.getElem?_append_right (by omega)] at hx
    rw [List.getElem?_append_right (by rw [← h.1]; omega), ← h.1] at hu
    exact g.2 _ x u hx hu
/-- What a part of a row is, as a value. -/
theorem rsl_at {w : World} {X : Nat → Prop} {ρ : Env} {q a n : Nat} {sh : Option Nat} {c : Option Nat} {v v0 : Value} (h : Den w X ρ (.rsl q sh a n c) v) (hv : ρ q = some v0) (hs : ∀ b, v0 ≠ .pointer (some ⟨b, 0, none⟩)) :
    ∃ x cc x0 len cap, v = .slice x n cc ∧ n ≤ cc ∧ v0 = .slice x0 len cap ∧ a + n ≤ len ∧ a + cc ≤ cap ∧ (c = none → cc = cap - a) ∧ (∀ m, c = some m → cc = m) ∧ (cc = 0 ∨ ∃ b off, x0 = some ⟨b, off, none⟩ ∧ x = some ⟨b, off + a * wid sh, none⟩) := by
  cases h with
  | rsl _ _ _ _ _ _ x cc hc hr =>
    obtain ⟨x0, len, cap, h1, h2, h3, h4, h5, h6⟩ := (hr _ hv).resolve_right (by rintro ⟨b, h, _⟩; exact hs b h)
    exact ⟨x, cc, x0, len, cap, rfl, hc, h1, h2, h3, h4, h5, h6⟩
/-- A row is lent to a call, and given back. -/
theorem altV_ok {G : Nat → CT → Prop} (hG : ∀ f c, G f c → ACall P T f c) {o : Oper} {cal : Callee} {args : Array Operand} {ats : Array TypeId} (ho : o.op = .call ⟨cal, args, ats⟩) {d : Option Nat} {e : Operand → SV} {μ : Nat → Blk} {κ : SV → List (Nat × Blk) → Option Nat → Prop} {f : Nat} {caps : List SV} (hcal : calleeOf e cal = some (f, caps))
    (h : altV G d f (args.toList.map e) caps μ κ) : ∃ x U cr, κ x U cr ∧ (∀ q b, (q, b) ∈ U → cr = some q ∨ (μ q).own = true) ∧ (∀ k, cr = some k → d = some k) ∧ Eff P T o e μ x U cr := by
  unfold altV at h
  split at h <;> try exact h.elim
  rename_i xs caps' d' q az d hxs
  split at h <;> try exact h.elim
  rename_i sh el l hm
  split at h <;> try exact h.elim
  rename_i hpl
  obtain ⟨k, hg, h⟩ := h.h
  refine ⟨_, _, _, h, (fun q' b hq => by
    simp only [List.mem_cons, Prod.mk.injEq, List.not_mem_nil, or_false] at hq
    rcases hq with ⟨rfl, _⟩ | ⟨rfl, _⟩
    · rw [hm]; exact .inr rfl
    · exact .inl rfl), (fun k hk => hk), ⟨fun mem hμ hcr a N w0 w X ρ m hd K Q hK ro nn => ⟨fun _ _ => trivial, ?_⟩⟩⟩
  obtain ⟨hno, hnr, hnn⟩ := hcr d rfl
  have ac := hG _ _ hg
  obtain ⟨fn, hf, hb, hn⟩ := ac.fn
  obtain ⟨us, hex, hcaps, hcp⟩ := callee_ok ho hcal hd
  obtain rfl : us = [] := List.eq_nil_of_length_eq_zero (by rw [← hcaps.1]; rfl)
  have hrun : (execOp a.eval o).run P w = .ok (.enter f (args.map a.eval ++ ⟨[]⟩)) w := by rw [hex, run_callFunc hf hb hn]
  rw [semAt_exec hrun (fun d hd => by cases hd), hrun, Oper.uponIn_enter]
  refine ⟨fun h => by simp [FR, Fence.wide] at h, calls_FR ?_⟩
  have hden : DenL w (Forb X mem ρ) ρ (args.toList.map e) (args.toList.map a.eval) := by
    refine ⟨by simp, fun i x v hx hv => ?_⟩
    simp only [List.getElem?_map, Option.map_eq_some_iff] at hx hv
    obtain ⟨y, hy, rfl⟩ := hx
    obtain ⟨y', hy', rfl⟩ := hv
    rw [hy] at hy'
    injection hy' with hy'
    subst hy'
    refine hd y ?_
    rw [ho]
    simp only [Op.operands, Call.operands]
    have : y ∈ args := by simpa using List.mem_of_getElem? hy
    simp [this]
  rw [hxs] at hden
  have hgm : getM mem q = .row sh el l := hμ.row hm (by simp)
  obtain ⟨v0, hv0, hg', hcase⟩ := hμ.rowAt m hm
  have hqd : q ≠ d := fun h => by rw [h, hno] at hgm; cases hgm
  have hown : ∀ b, vblock v0 = some b → owned mem ρ b := fun b hb => ⟨q, v0, by rw [hgm]; rfl, hv0, hb⟩
  generalize hN' : (fun b => w.heap.size ≤ b ∨ vblock v0 = some b : Nat → Prop) = N'
  generalize hX' : (fun b => Forb X mem ρ b ∧ vblock v0 ≠ some b : Nat → Prop) = X'
  generalize hρ' : (fun r => if r = 0 then some v0 else none : Env) = ρ'
  have fb : ∀ (l' : List SV) (ρ1 : Env), ρ1 0 = some v0 → ∀ b, Forb X' [(0, .row sh el l')] ρ1 b ↔ Forb X mem ρ b := by
    intro l' ρ1 h1 b
    constructor
    · rintro (h | ⟨r, v, g1, g2, g3⟩)
      · rw [← hX'] at h; exact h.1
      · simp only [getM] at g1
        split at g1
        · rename_i hr
          have hr := Nat.eq_of_beq_eq_true hr
          subst hr
          rw [h1] at g2
          injection g2 with g2
          subst g2
          exact .inr (hown b g3)
        · simp [Blk.own] at g1
    · intro h
      by_cases hb : vblock v0 = some b
      · exact .inr ⟨0, v0, rfl, h1, hb⟩
      · left; rw [← hX']; exact ⟨h, hb⟩
  have fbe : ∀ (l' : List SV) (ρ1 : Env), ρ1 0 = some v0 → Forb X' [(0, .row sh el l')] ρ1 = Forb X mem ρ := fun l' ρ1 h1 => funext fun b => propext (fb l' ρ1 h1 b)
  have hr0 : ρ' 0 = some v0 := by rw [← hρ']; rfl
  have min : MRep T N' w w X' [(0, .row sh el l)] ρ' := by
    refine ⟨fun b hb => ?_, .refl _ _, fun b hb => by rw [← hN']; exact .inl hb, fun r => ?_, fun r r' v v' b g1 g2 _ _ _ _ => ?_, ?_⟩
    · rw [← hX'] at hb
      refine ⟨m.forb_lt hb.1, fun hn => ?_⟩
      rw [← hN'] at hn
      rcases hn with hn | hn
      · have := m.forb_lt hb.1; omega
      · exact hb.2 hn
    · by_cases hr : r = 0
      · subst hr
        rw [fbe _ _ hr0, hr0]
        show BlkRep T N' w _ ρ' (.row sh el l) (some v0)
        refine ⟨v0, rfl, ?_⟩
        rcases hcase with h1 | ⟨b, off, cap, cur, rfl, k1, k2, k3, k4, k5, k6, k7, k8⟩
        · exact .inl h1
        · exact .inr ⟨b, off, cap, cur, rfl, by rw [← hN']; right; simp only [vblock]; rw [if_neg (by omega)], k2, k3, k4, k5, k6, k7, k8⟩
      · have e1 : getM [(0, Blk.row sh el l)] r = .no := by
          simp only [getM]
          rw [if_neg]
          intro h; exact hr (Nat.eq_of_beq_eq_true h).symm
        rw [e1, ← hρ']
        show (if r = 0 then some v0 else none) = none
        rw [if_neg hr]
    · have key : ∀ r, (getM [(0, Blk.row sh el l)] r).own = true → r = 0 := fun r h => by
        simp only [getM] at h
        split at h
        · rename_i hr; exact (Nat.eq_of_beq_eq_true hr).symm
        · simp [Blk.own] at h
      rw [key r g1, key r' g2]
    · rw [fbe _ _ hr0]; exact m.gl
  have hargs : DenL w (Forb X' [(0, .row sh el l)] ρ') ρ' (.row 0 :: az) (args.toList.map a.eval) := by
    rw [fbe _ _ hr0]
    refine ⟨by rw [← hden.1]; rfl, fun i x u hx hu => ?_⟩
    cases i with
    | zero =>
      simp only [List.getElem?_cons_zero, Option.some.injEq] at hx
      subst hx
      have h0 := hden.2 0 _ u rfl hu
      generalize u = u' at h0
      cases h0 with
      | row _ _ a1 n1 c1 hr =>
        refine .row _ 0 _ _ _ fun q' hq' => ?_
        rw [hr0] at hq'
        injection hq' with hq'
        subst hq'
        exact hr _ hv0
    | succ i =>
      have hx' : az[i]? = some x := by simpa using hx
      have := hden.2 (i + 1) x u (by simpa using hx') hu
      refine this.env fun r => .inr (.inr ?_)
      obtain ⟨h1, rfl⟩ := List.getElem?_eq_some_iff.1 hx'
      exact plain_noref (allPlain_get hpl i h1) r
  have hcall := ac.lr sh el l az k rfl N' w X' ρ' _ min hargs
  have e1 : (⟨args.toList.map a.eval⟩ : Array Value) = args.map a.eval ++ ⟨[]⟩ := by apply Array.ext'; simp
  rw [e1] at hcall
  refine hcall.mono fun en w' hh => ?_
  obtain ⟨v, l', ρc, rfl, mc, h0, htk, hv⟩ := hh
  rw [hr0] at h0
  have hfc := fbe l' ρc h0
  have hblk := mc.blk 0
  rw [h0, hfc] at hblk
  rw [hfc] at hv
  obtain ⟨v0', e2, hcase'⟩ := (show BlkRep T N' w' (Forb X mem ρ) ρc (.row sh el l') (some v0) from hblk)
  injection e2 with e2
  subst e2
  have hN : ∀ b, N' b → N b := fun b hb => by
    rw [← hN'] at hb
    rcases hb with hb | hb
    · exact m.szN b hb
    · exact (m.owned_lt (hown b hb)).1
  obtain ⟨x, cc, x0, len, cap, f1, f2, f3, f4, f5, f6, _, f8⟩ := rsl_at hv h0 (by rintro b rfl; rcases hcase' with ⟨_, h, _⟩ | ⟨_, _, _, _, h, _⟩ <;> cases h)
  have hkl : k.length ≤ l'.length := by rw [← htk, List.length_take]; omega
  obtain ⟨m', t'⟩ := m.move (w' := w') (by rw [hgm]; rfl) hv0 hqd hno hnr (B := .row sh el k) (v := v) ⟨mc.below.os, mc.below.tape, mc.below.output, mc.below.size, fun b h1 h2 => mc.below.block b h1 fun h => h2 (hN b h)⟩
    (fun b h1 h2 => mc.below.block b h1 fun h => by rw [← hN'] at h; exact h.elim (fun h => absurd h (by omega)) h2)
    (fun b hb => .inr (by
      rw [f1] at hb
      cases x with
      | none => simp [vblock] at hb
      | some x =>
        simp only [vblock] at hb
        split at hb
        · cases hb
        · rename_i hc
          rcases f8 with f8 | ⟨b1, off, f8, f9⟩
          · exact absurd f8 hc
          · injection f9 with f9
            subst f9
            injection hb with hb
            subst hb
            rw [f3, f8]
            simp only [vblock]
            rw [if_neg (by omega)]))
    (fun tn => by
      have lift : ∀ {x : SV} {u : Value}, Den w' (Forb X mem ρ) noEnv x u → Den w' (Forb X (setM (.row sh el k) (setM .no mem q) d) (fun r => if r = d then some v else if r = q then none else ρ r)) noEnv x u := fun hd => hd.mono (Nat.le_refl _) fun b _ hb => ⟨fun hf' => by
        rcases hf' with hf' | ⟨r, u, g1, g2, g3⟩
        · exact hb (.inl hf')
        · simp only [getM_setM] at g1
          by_cases hr : r = d
          · subst hr
            simp only [if_true] at g2
            injection g2 with g2
            subst g2
            rw [f1] at g3
            cases x with
            | none => simp [vblock] at g3
            | some x =>
              simp only [vblock] at g3
              split at g3
              · cases g3
              · rename_i hc
                rcases f8 with f8 | ⟨b1, off, f8, f9⟩
                · exact absurd f8 hc
                · injection f9 with f9
                  subst f9
                  injection g3 with g3
                  subst g3
                  refine hb (.inr (hown _ ?_))
                  rw [f3, f8]
                  simp only [vblock]
                  rw [if_neg (by omega)]
          · have g2 : (if r = d then some v else if r = q then none else ρ r) = some u := g2
            rw [if_neg hr] at g1 g2
            by_cases hrq : r = q
            · rw [if_pos hrq] at g1; simp [Blk.own] at g1
            · rw [if_neg hrq] at g1 g2
              exact hb (.inr ⟨r, u, g1, g2, g3⟩), rfl⟩
      refine ⟨v, rfl, ?_⟩
      rcases hcase' with ⟨a0, g1, g2⟩ | ⟨b, off, cap', cur, g1, k1, k2, k3, k4, k5, k6, k7, k8⟩
      · rw [g1] at f3
        injection f3 with f3 f3' f3''
        have hk0 : k.length = 0 := by omega
        have hc0 : cc = 0 := by omega
        exact .inl ⟨x, by rw [f1, hk0, hc0], List.eq_nil_of_length_eq_zero hk0⟩
      · rw [g1] at f3
        injection f3 with f3 f3' f3''
        subst f3; subst f3'; subst f3''
        have hcc : cc = cap' := by rw [f6 rfl]; omega
        subst hcc
        rcases f8 with f8 | ⟨b1, off1, f8, f9⟩
        · omega
        · injection f8 with f8
          injection f8 with f8 f8' _
          subst f8; subst f8'
          refine .inr ⟨b, off, cc, cur, by rw [f1, f9, Nat.zero_mul, Nat.add_zero], hN _ k1, k2, by omega, k4, k5, k6, k7, fun i hi => ?_⟩
          have hi' : i < l'.length := by omega
          have : k[i] = l'[i] := by
            have h1 : k[i]? = l'[i]? := by rw [← htk, List.getElem?_take, if_pos hi]
            rw [List.getElem?_eq_getElem hi, List.getElem?_eq_getElem hi'] at h1
            exact Option.some.inj h1
          rw [this]
          exact lift (k8 i hi'))
  refine hK v w' _ m' ?_ t'
  suffices hs : Den w' (Forb X (setM (.row sh el k) (setM .no mem q) d) (fun r => if r = d then some v else if r = q then none else ρ r)) (fun r => if r = d then some v else if r = q then none else ρ r) (.row d) (.slice x k.length cc) by rw [← f1] at hs; exact hs
  refine .row _ d _ _ _ fun q' hq' => ?_
  simp only [if_true] at hq'
  injection hq' with hq'
  exact hq'.symm.trans f1
/-! ### A matrix of the call's own, looked at by a call -/
theorem matV_some {μ : Nat → Blk} : ∀ {l : List SV} {ms : List (Nat × List SV)}, matV T μ l = some ms →
    l.length = ms.length ∧ ∀ (i : Nat) (q : Nat) (k : List SV), ms[i]? = some (q, k) → ∃ t ti c, l[i]? = some (.rsl q none 0 k.length c) ∧ μ q = .chunk t (.agg k) ∧ T t = some ti ∧ ti.size = k.length ∧ ti.shape = some k.length ∧ flatsB k = true
  | [], ms, h => by simp only [matV] at h; injection h with h; subst h; exact ⟨rfl, fun i q k h => by simp at h⟩
  | x :: l, ms, h => by
    cases x with
    | rsl q sh a n c =>
      cases sh with
      | some _ => simp [matV] at h
      | none =>
        cases a with
        | succ a => simp [matV] at h
        | zero =>
          simp only [matV] at h
          split at h <;> try (cases h; done)
          rename_i t k ms' hm hms
          split at h <;> try (cases h; done)
          rename_i ti ht
          split at h <;> try (cases h; done)
          rename_i hc
          simp only [Bool.and_eq_true] at hc
          injection h with h
          subst h
          obtain ⟨h1, h2⟩ := matV_some hms
          have e1 : k.length = n := Nat.eq_of_beq_eq_true hc.1.1
          have e2 : ti.size = n := Nat.eq_of_beq_eq_true hc.1.2
          have e3 := shEq_eq hc.2.1
          refine ⟨by simp [h1], fun i q' k' hi => ?_⟩
          cases i with
          | zero =>
            simp at hi
            obtain ⟨rfl, rfl⟩ := hi
            exact ⟨t, ti, c, by simp [e1], hm, ht, by omega, by rw [e3, e1], hc.2.2⟩
          | succ i => exact h2 i q' k' (by simpa using hi)
    | _ => simp [matV] at h
theorem matL_get : ∀ (ms : List (Nat × List SV)) (i : Nat), (matL ms)[i]? = (ms[i]?).map fun p => .lst none p.2
  | [], i => by simp [matL]
  | (q, k) :: ms, 0 => rfl
  | (q, k) :: ms, i + 1 => by simp [matL, matL_get ms i]
theorem matL_len : ∀ ms : List (Nat × List SV), (matL ms).length = ms.length
  | [] => rfl
  | (q, k) :: ms => by simp [matL, matL_len ms]
theorem matC_mem : ∀ {ms : List (Nat × List SV)} {q : Nat} {k : List SV}, (q, k) ∈ ms → k ∈ matC ms
  | (q, k) :: ms, q', k', h => by
    rcases List.mem_cons.1 h with h | h
    · injection h with _ h; subst h; simp [matC]
    · simp [matC, matC_mem h]
/-- A variable that holds cells alone, as it lies. -/
theorem chunkCells {N : Nat → Prop} {w0 w : World} {X : Nat → Prop} {mem : Mem} {ρ : Env} (m : MRep T N w0 w X mem ρ) {q t : Nat} {k : List SV} {ti : TI} (hm : getM mem q = .chunk t (.agg k)) (ht : T t = some ti) (h1 : ti.size = k.length) (h2 : ti.shape = some k.length) :
    ∃ b us ty, ρ q = some (.pointer (some ⟨b, 0, none⟩)) ∧ w.heap[b]? = some (.cells us ty (0, 0)) ∧ us.toList.length = k.length ∧ (∀ u ∈ us.toList, u.oneCell' = true) ∧ DenL w (Forb X mem ρ) ρ k us.toList := by
  have hb := m.blk q
  rw [hm] at hb
  obtain ⟨i, b, us, ty, g1, g2, g3, g4, g5, g6, g7⟩ := hb
  rw [ht] at g1
  injection g1 with g1
  subst g1
  have hl : us.toList.length = k.length := by rw [Array.length_toList, g5, h1]
  rw [h2, valAt_some_full (by omega)] at g7
  obtain ⟨cs, e, hc⟩ := Den.agg_iff.1 g7
  injection e with e
  have e : us.toList = cs := congrArg Array.toList e
  exact ⟨b, us, ty, g2, g4, hl, g6, by rw [e]; exact hc⟩
theorem chunk_cls {w : World} {F : Nat → Prop} {ρ : Env} {b ty : Nat} {us : Array Value} {k : List SV} (hh : w.heap[b]? = some (.cells us ty (0, 0))) (hd : DenL w F ρ k us.toList) : ChunkAt w b k := by
  refine ⟨us, ty, (0, 0), hh, fun u hu => ?_⟩
  obtain ⟨i, hi⟩ := List.mem_iff_getElem?.1 hu
  obtain ⟨h1, h2⟩ := List.getElem?_eq_some_iff.1 hi
  have h3 : i < k.length := by rw [hd.1]; exact h1
  exact ⟨k[i], List.getElem_mem h3, fun c hc => den_cls (hd.2 i _ _ (List.getElem?_eq_getElem h3) hi) hc⟩
/-- A part of a variable that holds cells alone reads as a list. -/
theorem rsl_lst {w : World} {F Z : Nat → Prop} {ρ ρ' : Env} {q n : Nat} {c : Option Nat} {v : Value} (hd : Den w F ρ (.rsl q none 0 n c) v) {b ty : Nat} {us : Array Value} (hq : ρ q = some (.pointer (some ⟨b, 0, none⟩))) (hh : w.heap[b]? = some (.cells us ty (0, 0))) (hl : us.toList.length = n)
    (ho : ∀ u ∈ us.toList, u.oneCell' = true) (hz : ¬ Z b) {L : List SV} (hL : L.length = n) (he : ∀ (i : Nat) (h : i < L.length) (u : Value), us.toList[i]? = some u → Den w Z noEnv L[i] u) : Den w Z ρ' (.lst none L) v := by
  cases hd with
  | rsl _ _ _ _ _ _ x cc hc h =>
    by_cases hn : n = 0
    · have : L = [] := List.eq_nil_of_length_eq_zero (by omega)
      subst this
      have e : n = 0 := hn
      subst e
      exact .lst0 _ _ _ _
    · obtain ⟨b', e1, _, e2, _⟩ := (h _ hq).resolve_left (by rintro ⟨_, _, _, e, _⟩; cases e)
      simp only [Value.pointer.injEq, Option.some.injEq, Addr.mk.injEq, and_true] at e1
      subst e1
      have e2 := e2.resolve_left (by omega)
      subst e2
      have := Den.lst (w := w) (X := Z) ρ' none L b 0 cc us.toList (heap_lt hh) hz (by omega) (fun j u hj => by rw [cell_of_row w b (0 + j) us ty (0, 0) hh, Nat.zero_add]; rw [Array.getElem?_toList] at hj; exact hj) (by rw [hl, hL]; simp [wid]) ho (fun i hi => by
        have hi' : i < us.toList.length := by omega
        simp only [valAt, List.getElem?_eq_getElem hi', Option.getD_some]
        exact he i hi _ (List.getElem?_eq_getElem hi'))
      rw [hL] at this
      exact this
set_option maxHeartbeats 1000000 in
theorem altK_ok {G : Nat → CT → Prop} (hG : ∀ f c, G f c → ACall P T f c) {o : Oper} {cal : Callee} {args : Array Operand} {ats : Array TypeId} (ho : o.op = .call ⟨cal, args, ats⟩) {d : Option Nat} {e : Operand → SV} {μ : Nat → Blk} {κ : SV → List (Nat × Blk) → Option Nat → Prop} {f : Nat} {caps : List SV} (hcal : calleeOf e cal = some (f, caps))
    (h : altK T G f ats.toList (args.toList.map e) caps μ κ) : ∃ x U cr, κ x U cr ∧ (∀ q b, (q, b) ∈ U → cr = some q ∨ (μ q).own = true) ∧ (∀ k, cr = some k → d = some k) ∧ Eff P T o e μ x U cr := by
  unfold altK at h
  split at h <;> try exact h.elim
  rename_i t0 ts q n c az hts hxs
  split at h <;> try exact h.elim
  rename_i t l hm
  split at h <;> try exact h.elim
  rename_i ti ht
  split at h <;> try exact h.elim
  rename_i hc
  simp only [Bool.and_eq_true] at hc
  have l1 : l.length = n := Nat.eq_of_beq_eq_true hc.1.1
  have l2 : ti.size = n := Nat.eq_of_beq_eq_true hc.1.2
  have l3 := shEq_eq hc.2
  split at h <;> try exact h.elim
  rename_i ms az' hms hvw
  obtain ⟨r, hg, hdr, haw, hk⟩ := h.h
  obtain ⟨k1, k2⟩ := matV_some hms
  refine ⟨r, _, none, hk, fun q' b hq => ?_, (fun k hk => by cases hk), ⟨fun mem hμ hcr a N w0 w X ρ m hd K Q hK ro nn => ⟨fun _ _ => trivial, ?_⟩⟩⟩
  · obtain ⟨_, sh, e', l', hm', _⟩ := frzU_mem hq
    exact .inr (by rw [hm']; rfl)
  have ac := hG _ _ hg
  obtain ⟨fn, hf, hb, hn⟩ := ac.fn
  obtain ⟨us0, hex, hcaps, hcp⟩ := callee_ok ho hcal hd
  obtain rfl : us0 = [] := List.eq_nil_of_length_eq_zero (by rw [← hcaps.1]; rfl)
  have hrun : (execOp a.eval o).run P w = .ok (.enter f (args.map a.eval ++ ⟨[]⟩)) w := by rw [hex, run_callFunc hf hb hn]
  rw [semAt_exec hrun (fun d hd => by cases hd), hrun, Oper.uponIn_enter]
  refine ⟨fun h => by simp [FR, Fence.wide] at h, calls_FR ?_⟩
  have hden : DenL w (Forb X mem ρ) ρ (args.toList.map e) (args.toList.map a.eval) := by
    refine ⟨by simp, fun i x v hx hv => ?_⟩
    simp only [List.getElem?_map, Option.map_eq_some_iff] at hx hv
    obtain ⟨y, hy, rfl⟩ := hx
    obtain ⟨y', hy', rfl⟩ := hv
    rw [hy] at hy'
    injection hy' with hy'
    subst hy'
    refine hd y ?_
    rw [ho]
    simp only [Op.operands, Call.operands]
    have : y ∈ args := by simpa using List.mem_of_getElem? hy
    simp [this]
  rw [hxs] at hden
  have fz := freeze_ids (T := T) hμ m (rids.ridsL az)
  generalize hmem1 : appU (frzU μ (rids.ridsL az)) mem = mem1 at fz
  have hch : ∀ {q' t' : Nat} {k : List SV}, μ q' = .chunk t' (.agg k) → getM mem1 q' = .chunk t' (.agg k) := by
    intro q' t' k hq'
    rcases fz.old q' with g | ⟨_, sh, e', l', g, _⟩
    · rw [g]; exact hμ.row hq' (by simp)
    · rw [hq'] at g; cases g
  -- the blocks of the matrix
  let B : Nat → Prop := fun b => ∃ q' t' ti' k, getM mem1 q' = .chunk t' (.agg k) ∧ T t' = some ti' ∧ ti'.size = k.length ∧ ti'.shape = some k.length ∧ k ∈ l :: matC ms ∧ ρ q' = some (.pointer (some ⟨b, 0, none⟩))
  let Z : Nat → Prop := fun b => Forb X mem1 ρ b ∧ ¬ B b
  have lq : Lent mem1 none := ⟨fun r t x h => by cases h⟩
  let ct : CT := ⟨.lst none (matL ms) :: az', none, r, .any, .no⟩
  have min := call_in fz.m lq (c := ct) rfl (Z := Z) (fun b h => h.1)
  have hfb : ∀ b, Forb (xC Z ρ none) (inM ct) (envC ρ none) b → Z b := by
    rintro b (h | ⟨r', v, h1, _, _⟩)
    · exact h.1
    · rw [getM_in] at h1
      split at h1 <;> simp [ct, lentB, Blk.own] at h1
  obtain ⟨b0, us, ty, hq0, hh0, hl0, ho0, hd0⟩ := chunkCells fz.m (hch hm) ht (by omega) (by rw [l3, l1])
  have hB0 : B b0 := ⟨q, t, ti, l, hch hm, ht, by omega, by rw [l3, l1], by simp, hq0⟩
  have hargs : DenL w (Forb (xC Z ρ none) (inM ct) (envC ρ none)) (envC ρ none) (.lst none (matL ms) :: az') (args.toList.map a.eval) := by
    cases hvs : args.toList.map a.eval with
    | nil => rw [hvs] at hden; have := hden.1; simp at this
    | cons v0 vs =>
      rw [hvs] at hden
      obtain ⟨v1, v2⟩ := views_same (T := T) (μ' := getM mem1) (fun r' hr' => fz.at' r' hr') hvw
      have hrest := views_den (sees_all _) fz.m (Z := Forb (xC Z ρ none) (inM ct) (envC ρ none)) (fun b _ hf hf' => hf (hfb b hf').1) (fun hlive => by rw [v2] at hlive; cases hlive) v1 (us := vs) ⟨by have := hden.1; simpa using this, fun i x u hx hu => fz.t.den (fun _ h => by cases h) (hden.2 (i + 1) x u hx hu)⟩
      refine ⟨by simp [hrest.1], fun i x u hx hu => ?_⟩
      cases i with
      | succ i => exact (hrest.2 i x u (by simpa using hx) (by simpa using hu)).data (views_data hvw i x (by simpa using hx))
      | zero =>
        simp at hx hu
        subst hx; subst hu
        have h0 := fz.t.den (fun _ h => by cases h) (hden.2 0 _ _ rfl rfl)
        refine rsl_lst h0 hq0 hh0 (by omega) ho0 (fun hz => (hfb _ hz).2 hB0) (by rw [matL_len, ← k1, l1]) (fun i hi u hu => ?_)
        have hi' : i < ms.length := by rw [matL_len] at hi; exact hi
        obtain ⟨⟨qi, ki⟩, hmi⟩ : ∃ p, ms[i]? = some p := ⟨_, List.getElem?_eq_getElem hi'⟩
        obtain ⟨t', ti', c', g1, g2, g3, g4, g5, g6⟩ := k2 i qi ki hmi
        have e1 : (matL ms)[i] = .lst none ki := by
          have := matL_get ms i
          rw [List.getElem?_eq_getElem hi, hmi] at this
          simpa using this
        rw [e1]
        obtain ⟨bi, usi, tyi, hqi, hhi, hli, hoi, hdi⟩ := chunkCells fz.m (hch g2) g3 g4 g5
        refine rsl_lst (hd0.2 i _ u g1 hu) hqi hhi hli hoi (fun hz => (hfb _ hz).2 ⟨qi, t', ti', ki, hch g2, g3, g4, g5, List.mem_cons_of_mem _ (matC_mem (List.mem_of_getElem? hmi)), hqi⟩) rfl (fun j hj u' hu' => ?_)
        exact (hdi.2 j _ u' (List.getElem?_eq_getElem hj) hu').flat1 (flatsB_get g6 j hj)
  have hcall := ac.h rfl rfl rfl _ w _ _ _ min hargs
  have e1 : (⟨args.toList.map a.eval⟩ : Array Value) = args.map a.eval ++ ⟨[]⟩ := by apply Array.ext'; simp
  rw [e1] at hcall
  refine hcall.mono fun en w' hh => ?_
  obtain ⟨v, ρc, rfl, mc, h0, hv⟩ := hh
  have hbl : Below w.heap.size w w' := ⟨mc.below.os, mc.below.tape, mc.below.output, mc.below.size, fun k hk => mc.below.block k hk fun hn => by
    rcases hn with hn | ⟨_, _, _, hn, _⟩
    · omega
    · cases hn⟩
  have m' := fz.m.grow hbl
  have hv' : Den w' (Forb X mem1 ρ) ρc r v := by
    refine Den.away (F := Forb (xC Z ρ none) (outM ct) ρc) (fun b hb => ?_) haw hv
    by_cases hB : B b
    · obtain ⟨q', t', ti', k, g1, g2, g3, g4, g5, g6⟩ := hB
      obtain ⟨b', us', ty', e2, e3, e4, _, e5⟩ := chunkCells m' g1 g2 g3 g4
      rw [g6] at e2
      simp only [Option.some.injEq, Value.pointer.injEq, Addr.mk.injEq, and_true] at e2
      subst e2
      exact .inr ⟨k, g5, chunk_cls e3 e5⟩
    · exact .inl (.inl ⟨⟨hb, hB⟩, fun hn => by obtain ⟨_, _, _, hn, _⟩ := hn; cases hn⟩)
  rw [hmem1] at hK
  exact hK v w' ρ m' (hv'.plain_env hdr) (fz.t.trans ⟨fun _ => .inr (.inl rfl), hbl.size, fun b h1 h2 => ⟨h2, hbl.block b h1⟩⟩)
theorem call_ok {G : Nat → CT → Prop} (hG : ∀ f c, G f c → ACall P T f c) {o : Oper} {cl : Call} (ho : o.op = .call cl) {d : Option Nat} {e : Operand → SV} {μ : Nat → Blk} {κ : SV → List (Nat × Blk) → Option Nat → Prop} (h : callV T G d cl e μ κ) :
    ∃ x U cr, κ x U cr ∧ (∀ q b, (q, b) ∈ U → cr = some q ∨ (μ q).own = true) ∧ (∀ k, cr = some k → d = some k) ∧ Eff P T o e μ x U cr := by
  obtain ⟨cal, args, ats⟩ := cl
  unfold callV at h
  split at h
  · rename_i f caps hcal
    exact genV_ok hG ho hcal h
  split at h <;> try exact h.elim
  rename_i _ f caps hcal
  simp only at hcal
  split at h
  case h_2 => exact altK_ok hG ho hcal h
  rename_i az q has
  simp only at has h
  rcases h.h with hmain | halt
  rotate_left
  · exact altV_ok hG ho hcal halt
  obtain ⟨pk, c, hg, hca, hcl, hpk, h⟩ := hmain
  split at h <;> try exact h.elim
  rename_i hok
  refine ⟨_, _, if isNew c.new then d else none, h, ?_, fun k hk => ?_, ?_⟩
  · intro k b hk
    simp only [callU, List.mem_append] at hk
    rcases hk with hk | hk | hk
    · split at hk
      · simp at hk
      · obtain ⟨_, sh, e', l, hm, _⟩ := frzU_mem hk
        exact .inr (by rw [hm]; rfl)
    · rcases callArgs_some has with ⟨rfl, _⟩ | ⟨t0, ts', k0, xs', t, x, az', _, _, hm, _, _, _, rfl⟩
      · simp [lentU] at hk
      · simp [lentU] at hk; rw [hk.1, hm]; exact .inr rfl
    · cases hn : c.new <;> rw [hn] at hk <;> cases hd : d <;> rw [hd] at hk <;> simp [newU] at hk
      all_goals first | (left; simp [isNew, hk.1]; done) | (rw [okC, hn] at hok; simp at hok; done)
  · split at hk
    · exact hk
    · cases hk
  refine ⟨fun mem hμ hcr a N w0 w X ρ m hd K Q hK ro nn => ⟨fun _ _ => trivial, ?_⟩⟩
  have ac := hG _ _ hg
  obtain ⟨fn, hf, hb, hn⟩ := ac.fn
  obtain ⟨us, hex, hcaps, hcp⟩ := callee_ok ho hcal hd
  have hrun : (execOp a.eval o).run P w = .ok (.enter f (args.map a.eval ++ ⟨us⟩)) w := by rw [hex, run_callFunc hf hb hn]
  rw [semAt_exec hrun (fun d hd => by cases hd), hrun, Oper.uponIn_enter]
  refine ⟨fun h => by simp [FR, Fence.wide] at h, calls_FR ?_⟩
  have hden : DenL w (Forb X mem ρ) ρ (args.toList.map e) (args.toList.map a.eval) := by
    refine ⟨by simp, fun i x v hx hv => ?_⟩
    simp only [List.getElem?_map, Option.map_eq_some_iff] at hx hv
    obtain ⟨y, hy, rfl⟩ := hx
    obtain ⟨y', hy', rfl⟩ := hv
    rw [hy] at hy'
    injection hy' with hy'
    subst hy'
    refine hd y ?_
    rw [ho]
    simp only [Op.operands, Call.operands]
    have : y ∈ args := by simpa using List.mem_of_getElem? hy
    simp [this]
  -- the memory at the call
  have main : ∀ (mem1 : Mem), mem1 = appU (if pk || flatC c then [] else frzU μ (rids.ridsL (args.toList.map e))) mem → MRep T N w0 w X mem1 ρ → Turn w (Forb X mem ρ) ρ w (Forb X mem1 ρ) ρ none → (∀ k, getM mem k = .no → getM mem1 k = .no) → (∀ k, memNoref k mem = true → memNoref k mem1 = true) →
      (∀ k t x, q = some (k, t, x) → getM mem1 k = .chunk t x) → ∀ (Z : Nat → Prop), (∀ b, Z b → Forb X mem1 ρ b) → ((∀ b, Forb X mem1 ρ b → Z b) ∨ flatC c = true ∨ PeekC c) →
      (∀ (ts : List Nat) (xs az' : List SV) (vs : List Value), (∀ r ∈ rids.ridsL xs, r ∈ rids.ridsL (args.toList.map e)) → views T μ ts xs = some az' → DenL w (Forb X mem ρ) ρ xs vs → DenL w (Forb (xC Z ρ q) (inM c) (envC ρ q)) noEnv az' vs) →
      (∀ (i : Nat) (x : SV) (u : Value), caps[i]? = some x → us[i]? = some u → Den w (Forb (xC Z ρ q) (inM c) (envC ρ q)) noEnv x u) →
      Calls P f (args.map a.eval ++ ⟨us⟩) w fun
        | .returned v, w'' => K (a.put o.dst v) w''
        | .panicked chain, w'' => Q (.panic chain) a w''
        | .outgrown, _ => LetsOut Q := by
    intro mem1 hmem1 m1 t1 hno hnr hlent Z hZ hfull hviews hcd
    have lq : Lent mem1 q := ⟨fun k t x hq => ⟨hlent k t x hq, by
      rcases callArgs_some has with ⟨rfl, _⟩ | ⟨t0, ts', k0, xs', t', x', az', _, _, hm, hdat, _, _, rfl⟩
      · cases hq
      · injection hq with hq; injection hq with _ hq; injection hq with _ hq; rw [← hq]; exact hdat⟩⟩
    have min := call_in m1 lq hcl hZ
    have hcd' : DenL w (Forb (xC Z ρ q) (inM c) (envC ρ q)) (envC ρ q) caps us := ⟨hcaps.1, fun i x u hx hu => (hcd i x u hx hu).env fun r => .inr (.inr (by
      obtain ⟨h1, rfl⟩ := List.getElem?_eq_some_iff.1 hx
      exact plain_noref (allPlain_get hcp i h1) r))⟩
    have hargs : DenL w (Forb (xC Z ρ q) (inM c) (envC ρ q)) (envC ρ q) az (args.toList.map a.eval) := by
      rcases callArgs_some has with ⟨hq, hv⟩ | ⟨t0, ts', k0, xs', t', x', az', hts, hxs, hm, hdat, hv, rfl, hq⟩
      · have := hviews _ _ _ _ (fun r hr => hr) hv hden
        exact ⟨this.1, fun i x u hx hu => (this.2 i x u hx hu).data (views_data hv i x hx)⟩
      · rw [hxs] at hden
        cases hvs : args.toList.map a.eval with
        | nil => rw [hvs] at hden; have := hden.1; simp at this
        | cons v0 vs =>
          rw [hvs] at hden
          have := hviews ts' xs' az' vs (fun r hr => by rw [hxs]; simp [rids.ridsL, hr]) hv ⟨by have := hden.1; simpa using this, fun i x u hx hu => hden.2 (i + 1) x u hx hu⟩
          refine ⟨by simp [this.1], fun i x u hx hu => ?_⟩
          cases i with
          | succ i => exact (this.2 i x u (by simpa using hx) (by simpa using hu)).data (views_data hv i x (by simpa using hx))
          | zero =>
            simp at hx hu
            subst hx; subst hu
            have h0 := hden.2 0 _ _ rfl rfl
            cases h0 with
            | ptr _ _ _ b hb => exact .ptr _ 0 0 b fun q' hq' => hb q' (by simp only [envC, if_true, hq] at hq'; exact hq')
    have hsq : isSeq c = false := by
      cases hnw : c.new <;> simp [isSeq, hnw]
      simp [okC, hnw] at hok
    have hlr : isLR c = false := by
      cases hnw : c.new <;> simp [isLR, hnw]
      simp [okC, hnw] at hok
    have hcall := ac.h hsq hlr (by rw [isG, hcl]; rcases callArgs_some has with ⟨rfl, _⟩ | ⟨t0, ts', k0, xs', t', x', az', _, _, _, hdat, _, _, rfl⟩ <;> first | rfl | (cases x' <;> first | rfl | (simp [dataB, plainB] at hdat; done))) _ w _ _ _ min (hca ▸ hargs.app' hcd')
    have e1 : (⟨args.toList.map a.eval ++ us⟩ : Array Value) = args.map a.eval ++ ⟨us⟩ := by apply Array.ext'; simp
    rw [e1] at hcall
    refine hcall.mono fun en w' hh => ?_
    obtain ⟨v, ρc, rfl, mc, h0, hv⟩ := hh
    obtain ⟨m', t', hden'⟩ := call_out m1 lq hcl hZ mc h0 hok (cr := if isNew c.new then d else none) rfl (fun k hk => ⟨hno k (hcr k hk).1, hnr k (hcr k hk).2.1⟩) (fun k t x hq hk => by
      have g1 := hlent k t x hq
      rw [hno k (hcr k hk).1] at g1
      cases g1) hfull hv
    have e2 : appU (callU pk μ d (rids.ridsL (args.toList.map e)) q c) mem = appU (lentU q c.lent' ++ newU c.new d) mem1 := by
      rw [callU, appU_append, hmem1]
    refine hK v w' _ (by rw [e2]; exact m') (by rw [e2]; exact hden') (by rw [e2]; exact t1.trans t')
  have hlm : ∀ k t x, q = some (k, t, x) → getM mem k = .chunk t x ∧ μ k = .chunk t x := by
    intro k t x hq
    rcases callArgs_some has with ⟨rfl, _⟩ | ⟨t0, ts', k0, xs', t', x', az', _, _, hm, hdat, _, _, rfl⟩
    · cases hq
    · injection hq with hq; injection hq with hq1 hq; injection hq with hq2 hq3
      subst hq1; subst hq2; subst hq3
      exact ⟨hμ.row hm (by simp), hm⟩
  cases hfl : (pk || flatC c) with
  | true =>
    have hfl' : flatC c = true ∨ PeekC c := by
      simp only [Bool.or_eq_true] at hfl
      exact hfl.symm.imp id hpk
    have hq0 : q = none := by
      have : c.lent = none := by
        rcases hfl' with h | h
        · simp only [flatC, Bool.and_eq_true] at h
          have := h.2
          cases hq : c.lent with
          | none => rfl
          | some p => rw [hq] at this; cases this
        · exact h.l
      rw [hcl] at this
      cases hq : q with
      | none => rfl
      | some p => rw [hq] at this; cases this
    have hfb : ∀ b, Forb (xC (fun _ => False) ρ q) (inM c) (envC ρ q) b → Forb X mem ρ b := fun b hf' => forbC (X := X) (Z := fun _ => False) ⟨fun r t x hq => by rw [hq0] at hq; cases hq⟩ hcl (fun b h => h.elim) hf'
    refine main mem (by rw [hfl]; rfl) m (Turn.refl _ _ _ _) (fun k h => h) (fun k h => h) (fun k t x hq => (hlm k t x hq).1) (fun _ => False) (fun b h => h.elim) (.inr hfl') (fun ts xs az' vs _ hv hdv => ?_)
      (fun i x u hx hu => (hcaps.2 i x u hx hu).mono (Nat.le_refl _) fun b _ h2 => ⟨fun hf' => h2 (hfb b hf'), rfl⟩)
    refine views_den hμ m (fun b _ hf hf' => hf (hfb b hf')) (fun _ b _ hf' => ?_) hv hdv
    rcases hf' with hf' | ⟨r, u, g1, g2, _⟩
    · exact hf'.1
    · simp only [envC, hq0] at g2
      split at g2 <;> cases g2
  | false =>
    have fz := freeze_ids (T := T) hμ m (rids.ridsL (args.toList.map e))
    have hl1 : ∀ k t x, q = some (k, t, x) → getM (appU (frzU μ (rids.ridsL (args.toList.map e))) mem) k = .chunk t x := by
      intro k t x hq
      rcases fz.old k with g | ⟨_, sh, e', l, g, _⟩
      · rw [g]; exact (hlm k t x hq).1
      · rw [(hlm k t x hq).2] at g; cases g
    have hld : ∀ k t x, q = some (k, t, x) → dataB x = true := by
      intro k t x hq
      rcases callArgs_some has with ⟨rfl, _⟩ | ⟨t0, ts', k0, xs', t', x', az', _, _, hm, hdat, _, _, rfl⟩
      · cases hq
      · injection hq with hq; injection hq with _ hq; injection hq with _ hq; rw [← hq]; exact hdat
    have hfb : ∀ b, Forb (xC (Forb X (appU (frzU μ (rids.ridsL (args.toList.map e))) mem) ρ) ρ q) (inM c) (envC ρ q) b → Forb X (appU (frzU μ (rids.ridsL (args.toList.map e))) mem) ρ b := fun b hf' => forbC (X := X) ⟨fun r t x hq => ⟨hl1 r t x hq, hld r t x hq⟩⟩ hcl (fun b h => h) hf'
    refine main _ (by rw [hfl]; rfl) fz.m fz.t (fun k h => fz.no hμ h) (fun k h => appU_noref h fun q' b hb => by obtain ⟨_, sh, e', l, _, rfl⟩ := frzU_mem hb; rfl) hl1 (Forb X _ ρ) (fun b h => h) (.inl fun b h => h) (fun ts xs az' vs hr hv hdv => ?_)
      (fun i x u hx hu => ((fz.t.den (fun _ h => by cases h) ((hcaps.2 i x u hx hu).env (ρ' := ρ) fun r => .inr (.inr (by
        obtain ⟨h1, rfl⟩ := List.getElem?_eq_some_iff.1 hx
        exact plain_noref (allPlain_get hcp i h1) r)))).mono (Nat.le_refl _) fun b _ h2 => ⟨fun hf' => h2 (hfb b hf'), rfl⟩).to_no)
    obtain ⟨v1, v2⟩ := views_same (T := T) (μ' := getM (appU (frzU μ (rids.ridsL (args.toList.map e))) mem)) (fun r hr' => fz.at' r (hr r hr')) hv
    exact views_den (sees_all _) fz.m (fun b _ hf hf' => hf (hfb b hf')) (fun hlive => by rw [v2] at hlive; cases hlive) v1 ⟨hdv.1, fun i x u hx hu => fz.t.den (fun _ h => by cases h) (hdv.2 i x u hx hu)⟩
end Go.Proofs.YtligbjbkecmecaaDoor
