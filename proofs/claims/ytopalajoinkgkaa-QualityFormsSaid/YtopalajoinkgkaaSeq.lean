/- A region in the text's order, or in any order that its edges allow. -/
import Derived.Test.YtopalajoinkgkaaReg
namespace Go.Proofs.Ytopalajoinkgkaa
open Go.RowKit
variable {P : Program} {T : Nat → Option TI} {G : Nat → List SV → SV → Prop}

theorem wanted_gd {N : Nat} {w0 : World} {X : Nat → Prop} {s : St} {a : Act} {w : World} {ρ : Env} (h : Rep T N w0 X s a w ρ) {all : Array Oper} {o : Oper} {b : Bool} (hg : gd all o s = some b) : Region.wanted o (yielded all a.tmps) = b := by
  unfold gd at hg
  unfold Region.wanted
  cases ho : o.guard with
  | none => simp only [ho] at hg ⊢; injection hg
  | some jw =>
    obtain ⟨j, want⟩ := jw
    simp only [ho] at hg ⊢
    cases ht : (all[j]?).bind (·.dst) with
    | none => simp only [ht] at hg; cases hg
    | some t =>
      simp only [ht] at hg
      cases hx : getN SV.any s.slots t with
      | bool c =>
        simp only [hx] at hg
        injection hg with hg
        have hd := h.slot t
        rw [hx, Den.bool_iff] at hd
        have ht' : a.tmps[t]? = some (.bool c) := by
          cases hq : a.tmps[t]? with
          | none => simp [hq, undef] at hd
          | some v => simp [hq] at hd; rw [hd]
        simp only [yielded, ht, Option.bind_some, ht', ← hg]
        cases c <;> cases want <;> rfl
      | _ => simp only [hx] at hg; cases hg

theorem norefs_getN {r : Nat} : ∀ {l : List SV}, noref.norefs r l = true → ∀ t, noref r (getN .any l t) = true
  | [], _, t => by simp [getN, noref]
  | x :: l, h, 0 => by simp [noref.norefs] at h; simpa [getN] using h.1
  | x :: l, h, t + 1 => by simp [noref.norefs] at h; simpa [getN] using norefs_getN h.2 t

theorem Rep.put {N : Nat} {w0 : World} {X : Nat → Prop} {s : St} {a : Act} {w w' : World} {ρ ρ' : Env} (h : Rep T N w0 X s a w ρ) {dst d : Option Nat} {x : SV} {u : Value} {mem' : List Blk}
    (m' : MRep T N w0 w' X mem' ρ') (hx : Den w' (Forb X mem' ρ') ρ' x u) (t : Turn w (Forb X s.mem ρ) ρ w' (Forb X mem' ρ') ρ' d) (hn : ∀ q, d = some q → ∀ t : Nat, noref q (getN .any s.slots t) = true) :
    Rep T N w0 X ⟨(s.put dst x).slots, mem'⟩ (a.put dst u) w' ρ' := by
  refine ⟨m', ?_, ?_, fun k => ?_⟩
  · cases dst <;> exact h.defers
  · cases dst with
    | none => exact h.size
    | some q => simp only [Act.put, St.put, Array.size_setIfInBounds, setN_length]; exact h.size
  · have old := t.den (fun q hq => hn q hq k) (h.slot k)
    cases dst with
    | none => exact old
    | some q =>
      simp only [St.put, Act.put]
      by_cases hq : q < s.slots.length
      · rw [getN_setN _ _ _ _ _ hq]
        by_cases hk : k = q
        · subst hk
          rw [if_pos rfl]
          have hk' : k < a.tmps.size := by rw [h.size]; exact hq
          simpa [hk'] using hx
        · rw [if_neg hk]
          have : (a.tmps.setIfInBounds q u).getD k undef = a.tmps.getD k undef := by simp [Array.getElem?_setIfInBounds_ne (Ne.symm hk)]
          rw [this]
          exact old
      · have e1 : setN x s.slots q = s.slots := by rw [setN_eq, List.set_eq_of_length_le (by omega)]
        rw [e1]
        have : (a.tmps.setIfInBounds q u).getD k undef = a.tmps.getD k undef := by
          rw [Array.setIfInBounds_eq_of_size_le (by rw [h.size]; omega)]
        rw [this]
        exact old

def Step1 (P : Program) (all : Array Oper) (o : Oper) (K : Act → World → Prop) (Q : Exit → Act → World → Prop) (a : Act) (w : World) : Prop :=
  if Region.wanted o (yielded all a.tmps) then o.wp P a w K Q ∨ (o.asks P a w ∧ LetsOut Q) else K (a.put o.dst undef) w

theorem Res.sound (tab : Tab P T) (hG : ∀ f as r, G f as r → ACall P f as r) {D : Dr} {all : Array Oper} {o : Oper} {s s' : St} (hr : Res P T G D all o s s') {N : Nat} {w0 : World} {X : Nat → Prop} {a : Act} {w : World} {ρ : Env} (h : Rep T N w0 X s a w ρ)
    {K : Act → World → Prop} {Q : Exit → Act → World → Prop} (hK : ∀ a' w' ρ', Rep T N w0 X s' a' w' ρ' → K a' w') : Step1 P all o K Q a w := by
  unfold Step1
  have run : ∀ {e : Operand → SV} {x : SV} {m : List Blk}, gd all o s = some true → (∀ y ∈ o.op.operands, s.ev y = e y) → Ok P T o e s.mem x m → (∀ a' w' ρ', Rep T N w0 X ⟨(s.put o.dst x).slots, m⟩ a' w' ρ' → K a' w') →
      if Region.wanted o (yielded all a.tmps) then o.wp P a w K Q ∨ (o.asks P a w ∧ LetsOut Q) else K (a.put o.dst undef) w := by
    intro e x m hg he hok hK
    rw [wanted_gd h hg, if_pos rfl]
    refine .inl (hok.h a N w0 w X ρ h.m (fun y hy => by rw [← he y hy]; exact h.ev y) K Q fun u w' ρ' m' hx t => ?_)
    exact hK _ _ ρ' (h.put m' hx t (fun q hq => by cases hq))
  have same : ∀ x : SV, (⟨(s.put o.dst x).slots, s.mem⟩ : St) = s.put o.dst x := by
    intro x
    cases o.dst <;> rfl
  cases hr with
  | skip hg =>
    rw [wanted_gd h hg]
    simp only [Bool.false_eq_true, if_false]
    have := h.put (dst := o.dst) (x := .any) (u := undef) h.m (.any _ _) (Turn.refl _ _ _ none) (fun q hq => by cases hq)
    rw [same] at this
    exact hK _ _ ρ this
  | p x e hg hc he hp hn => exact run hg he (hp.ok s.mem) (by rw [same]; exact hK)
  | r x e m hg hc he hm hv hn hf =>
    obtain ⟨z, hz, hok⟩ := rval_ok tab.tys tab.sz hG (rval_mem (m' := s.mem) (fun q hq => (hm q hq).symm) hv)
    subst hz
    exact run hg he hok (by rw [same]; exact hK)
  | w r b e m hg hc hd he hm hw hr hb hf =>
    have hw' := wblk_mem (m' := s.mem) (fun q hq => (hm q hq).symm) hw
    generalize ho : o.op = op at hw'
    cases op
    case store t x vo =>
      obtain ⟨y, mem', hk, hok⟩ := store_ok tab.tys tab.sz ho (κ := fun _ m => m = setN b s.mem r) (wblk_mono hw' (by rintro _ _ ⟨rfl, rfl⟩; rfl))
      subst hk
      refine run hg he hok ?_
      rw [hd]
      exact hK
    all_goals exact hw'.elim
  | c d x b e hg hc hd hf he hok hn hb =>
    rw [wanted_gd h hg, if_pos rfl]
    refine .inl ?_
    unfold St.fresh at hf
    simp only [Bool.and_eq_true] at hf
    obtain ⟨⟨⟨⟨f1, f2⟩, f3⟩, f4⟩, f5⟩ := hf
    have f2 : d < s.mem.length := by simpa [Nat.blt_eq] using f2
    have f3 : getN Blk.no s.mem d = .no := by
      cases hm : getN Blk.no s.mem d <;> simp_all
    have hop : ∀ y ∈ o.op.operands, noref d (e y) = true := by
      intro y hy
      rw [← he y hy]
      cases y with
      | tmp t => exact norefs_getN f4 t
      | const v =>
        simp only [St.ev, ofValue]
        split
        · rename_i cs
          show noref.norefs d (cs.toList.map ofAtom) = true
          generalize cs.toList = l
          induction l with
          | nil => rfl
          | cons v l ih =>
            simp only [List.map_cons, noref.norefs, ih, Bool.and_true]
            unfold ofAtom
            split <;> rfl
        · unfold ofAtom
          split <;> rfl
      | func f => rfl
      | global g => rfl
    obtain ⟨u, w', ρ', hrun, m', hx, t⟩ := hok.h a N w0 w X s.mem ρ h.m f2 f3 f5 hop (fun y hy => by rw [← he y hy]; exact h.ev y)
    unfold Oper.wp
    rw [hrun]
    have := h.put (dst := o.dst) m' hx t (fun q hq t => by injection hq with hq; subst hq; exact norefs_getN f4 t)
    rw [hd] at this
    simp only [St.put] at this
    refine hK _ _ ρ' ?_
    rw [hd]
    exact this

/-- A region that keeps the text's order. -/
theorem chain_list (tab : Tab P T) (hG : ∀ f as r, G f as r → ACall P f as r) {D : Dr} {all : Array Oper} {N : Nat} {w0 : World} {X : Nat → Prop} {k : St → Prop} {Q : Exit → Act → World → Prop}
    (hQ : ∀ s a w ρ, k s → Rep T N w0 X s a w ρ → Q .normal a w) : ∀ (l : List Oper) (s : St) (a : Act) (w : World) (ρ : Env), Chain P T G D all l s k → Rep T N w0 X s a w ρ → wpList P all Q l a w
  | [], s, a, w, ρ, h, hr => hQ s a w ρ h hr
  | o :: l, s, a, w, ρ, h, hr => by
    obtain ⟨s', h1, h2⟩ := h
    have := h1.sound tab hG hr (K := wpList P all Q l) (Q := Q) (fun a' w' ρ' hr' => chain_list tab hG hQ l s' a' w' ρ' h2 hr')
    unfold Step1 at this
    unfold wpList
    exact this

theorem reg_seq (tab : Tab P T) (hG : ∀ f as r, G f as r → ACall P f as r) {id : Nat} {ops : Array Oper} {N : Nat} {w0 : World} {X : Nat → Prop} {s : St} {k : St → Prop} {Q : Exit → Act → World → Prop} {a : Act} {w : World} {ρ : Env}
    (h : opsG T G ⟨[], false⟩ ops ops.toList s k) (hr : Rep T N w0 X s a w ρ) (hQ : ∀ s a w ρ, k s → Rep T N w0 X s a w ρ → Q .normal a w) : (Code.region id ops false).wp P Q a w :=
  wp_region_list (chain_list tab hG hQ _ s a w ρ (opsG_chain tab _ _ _ h) hr)
end Go.Proofs.Ytopalajoinkgkaa
