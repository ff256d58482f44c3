/- Code: the evaluator of a whole body, its law, and how a contract is proved by it. -/
import Derived.Test.YtapcbkcnokoljaaRg
import Derived.Scope
namespace Go.Proofs.Ytapcbkcnokoljaa
set_option linter.unusedVariables false
set_option linter.unusedSimpArgs false
open Go.RowKit
variable {P : Program} {T : Nat → Option TI} {G : Nat → CT → Prop}

structure LoopQ (T : Nat → Option TI) (F : St → Ks → Prop) (s : St) (K : Ks) : Prop where
  h : ∃ (A : Type) (I : A → Prop) (μ : A → Nat) (f : A → St) (R : A → St → St → Prop), (∀ i s s', R i s s' → Sub T s s') ∧ (∃ i, I i ∧ R i s (f i)) ∧ ∀ i, I i → F (f i) ⟨fun s' => ∃ j, I j ∧ μ j < μ i ∧ R j s' (f j), K.r, K.e⟩

def swp (T : Nat → Option TI) (G : Nat → CT → Prop) : Code → St → Ks → Prop
  | .skip, s, K => K.n s
  | .ret, s, K => K.r s
  | .region _ ops false, s, K => opsG T G [] ops ops.toList [] (prepO ops.toList s) (fun _ s => K.n s)
  | .region _ ops true, s, K => drawG T G ops (prepO ops.toList s) K.n
  | .seq a b, s, K => swp T G a s ⟨fun s => swp T G b s K, K.r, K.e⟩
  | .cond c a b, s, K => (match s.ev c with
    | .bool t => br t (fun _ => swp T G a s K) (fun _ => swp T G b s K)
    | _ => False)
  | .block id c, s, K => swp T G c s ⟨K.n, K.r, fun i s => if Nat.beq i id then K.n s else K.e i s⟩
  | .exit id, s, K => K.e id s
  | .label _, s, K => K.n s
  | .scope c, s, K => swp T G c s K
  | .loop c, s, K => LoopQ T (fun s K => swp T G c s K) s K
  | .rangeFunc f ps a b, s, K => (match s.ev f with
    | .clo f caps => RangeQ T G (fun s K => swp T G a s K) (fun s K => swp T G b s K) (ps.toList ++ (assignedC a ++ assignedC b)) ps.toList f caps s K
    | _ => False)
  | _, _, _ => False

/-- No loop over a function stands in it. -/
def noRange : Code → Bool
  | .seq a b => noRange a && noRange b
  | .cond _ a b => noRange a && noRange b
  | .block _ c => noRange c
  | .scope c => noRange c
  | .loop c => noRange c
  | .rangeFunc _ _ _ _ => false
  | _ => true
def codeOk : Code → Bool
  | .region _ ops true => regOk ops
  | .seq a b => codeOk a && codeOk b
  | .cond _ a b => codeOk a && codeOk b
  | .block _ c => codeOk c
  | .scope c => codeOk c
  | .loop c => codeOk c
  | .rangeFunc _ _ a b => codeOk a && codeOk b && noRange a && noRange b
  | _ => true

theorem wp_loop_ix {F : Fence} {n : Nat} {c : Code} {A : Type} {Q : Exit → Act → World → Prop} (I : A → Act → World → Prop) (μ : A → Nat)
    (round : ∀ i a w, I i a w → c.wpIn F n P (Exit.then (fun a' w' => ∃ j, I j a' w' ∧ μ j < μ i) Q) a w) : ∀ i a w, I i a w → (Code.loop c).wpIn F n P Q a w := by
  intro i a w hI b k cs hro hb hr
  have key : ∀ n i a w, μ i = n → I i a w → ∃ e a' w', Q e a' w' ∧ ArrivesIn (Machine.fenced P F) P (lone (b.atR a (.code c :: .inLoop c :: k)) cs w) b k cs e a' w' := by
    intro m
    induction m using Nat.strongRecOn with
    | _ m ih =>
      intro i a w hn hI
      obtain ⟨e, a₁, w₁, hq, harr⟩ := round i a w hI b (.inLoop c :: k) cs hro hb hr
      cases e with
      | normal =>
        obtain ⟨j, hI₁, hlt⟩ := hq
        obtain ⟨e₂, a₂, w₂, hq₂, harr₂⟩ := ih (μ j) (hn ▸ hlt) j a₁ w₁ rfl hI₁
        exact ⟨e₂, a₂, w₂, hq₂, .of_steps (StepsIn.trans harr (.one (fenced_calm hb hr rfl) stepR_inLoop)) harr₂⟩
      | exit id => exact ⟨_, a₁, w₁, hq, .pass (x := .inLoop c) rfl (fun _ _ => .inl (by simp)) harr⟩
      | goto l => exact ⟨_, a₁, w₁, hq, .pass (x := .inLoop c) rfl (fun _ _ => .inl (by simp)) harr⟩
      | ret => exact ⟨_, a₁, w₁, hq, .pass (x := .inLoop c) rfl (fun _ _ => .inl (by simp)) harr⟩
      | panic ch => exact ⟨_, a₁, w₁, hq, .pass (x := .inLoop c) rfl (fun _ _ => .inl (by simp)) harr⟩
      | outgrown => exact ⟨_, a₁, w₁, hq, .pass (x := .inLoop c) rfl (fun _ _ => .inl (by simp)) harr⟩
  obtain ⟨e, a', w', hq, harr⟩ := key _ i a w rfl hI
  exact ⟨e, a', w', hq, .of_steps (.one (fenced_calm hb hr rfl) stepR_loop) harr⟩

theorem stepR_scope {b : Frame} {a : Act} {k : List Item} {cs : List Frame} {w : World} {c : Code} : step P (lone (b.atR a (.code (.scope c) :: k)) cs w) = .next (lone (b.atR a (.code c :: .inScope c :: k)) cs w) :=
  step_lone_go (by simp [stepG, stepG.exec, Frame.atR])
theorem stepR_inScope {b : Frame} {a : Act} {k : List Item} {cs : List Frame} {w : World} {c : Code} : step P (lone (b.atR a (.inScope c :: k)) cs w) = .next (lone (b.atR a k) cs w) :=
  step_lone_go (by simp [stepG, stepG.exec, Frame.atR])
theorem wpIn_scope_straight {F : Fence} {n : Nat} {Q : Exit → Act → World → Prop} {a : Act} {w : World} {c : Code} (h : c.wpIn F n P (Exit.noGoto Q) a w) : (Code.scope c).wpIn F n P Q a w := by
  intro b k cs hro hb hr
  have h0 : (lone (b.atR a (.code (.scope c) :: k)) cs w).fenced P F := fenced_calm hb hr rfl
  obtain ⟨e, a₁, w₁, hq, harr⟩ := h b (.inScope c :: k) cs hro hb hr
  cases e with
  | normal => exact ⟨.normal, a₁, w₁, hq, .head h0 stepR_scope (StepsIn.trans harr (.one (fenced_calm hb hr rfl) stepR_inScope))⟩
  | exit id =>
    have hx : exitTo id (.inScope c :: k) = exitTo id k := by simp [exitTo]
    exact ⟨.exit id, a₁, w₁, hq, fun k' hk => .head h0 stepR_scope (harr.1 k' (by rw [hx]; exact hk)),
      fun hr' hk => let ⟨k₁, h1, h2⟩ := harr.2 hr' (by rw [hx]; exact hk); ⟨k₁, h1, .head h0 stepR_scope h2⟩⟩
  | goto l => exact hq.elim
  | ret => exact ⟨_, a₁, w₁, hq, .of_steps (.one h0 stepR_scope) harr⟩
  | panic ch => exact ⟨_, a₁, w₁, hq, .of_steps (.one h0 stepR_scope) harr⟩
  | outgrown => exact ⟨_, a₁, w₁, hq, .of_steps (.one h0 stepR_scope) harr⟩

theorem swp_sound (tab : Tab P T) (hG : ∀ f c, G f c → ACall P T f c) (hmix : P.follows .mixedOrders = true) : ∀ (c : Code) (N : Nat → Prop) (w0 : World) (X : Nat → Prop) (z : Anc) (s : St) (K : Ks) (Q : Exit → Act → World → Prop) (a : Act) (w : World) (ρ : Env),
    codeOk c = true → swp T G c s K → Rep T N w0 X z s a w ρ → (∀ s a w ρ, K.n s → Rep T N w0 X z s a w ρ → Q .normal a w) → (∀ s a w ρ, K.r s → Rep T N w0 X z s a w ρ → Q .ret a w) →
    (∀ i s a w ρ, K.e i s → Rep T N w0 X z s a w ρ → Q (.exit i) a w) → (∀ q ∈ assignedC c, z.fx q = none) → ∀ (ro : Option Nat) (nn : Nat), ((ro = none ∧ z.nd = false) ∨ noRange c = true) → c.wpIn (FR ro) nn P Q a w := by
  intro c
  induction c with
  | skip => intro N w0 X z s K Q a w ρ _ h hr hn _ _ _ ro nn _; exact wpIn_skip (hn s a w ρ h hr)
  | ret => intro N w0 X z s K Q a w ρ _ h hr _ hret _ _ ro nn _; exact wpIn_ret (hret s a w ρ h hr)
  | region id ops draw =>
    intro N w0 X z s K Q a w ρ hok h hr hn _ _ hfx ro nn _
    obtain ⟨ρ1, hr1⟩ := (prepO_sub (T := T) ops.toList s).h _ _ _ _ _ _ _ hr
    have hfx' : ∀ o ∈ ops.toList, ∀ q, o.dst = some q → z.fx q = none := fun o ho q hq => hfx q (dstsL_mem ho hq)
    cases draw
    · exact reg_seq tab hG h hr1 hn hfx' ro nn
    · exact reg_draw tab hG hmix hok h hr1 hn hfx' ro nn
  | seq x y ihx ihy =>
    intro N w0 X z s K Q a w ρ hok h hr hn hret he hfx ro nn hro
    simp only [codeOk, Bool.and_eq_true] at hok
    have h1 : (ro = none ∧ z.nd = false) ∨ noRange x = true := hro.imp id fun h => by simp only [noRange, Bool.and_eq_true] at h; exact h.1
    have h2 : (ro = none ∧ z.nd = false) ∨ noRange y = true := hro.imp id fun h => by simp only [noRange, Bool.and_eq_true] at h; exact h.2
    exact wpIn_seq (ihx N w0 X z s _ (Exit.then (y.wpIn (FR ro) nn P Q) Q) a w ρ hok.1 h hr (fun s a w ρ h hr => ihy N w0 X z s K Q a w ρ hok.2 h hr hn hret he (fun q hq => hfx q (by simp [assignedC, hq])) ro nn h2) hret he (fun q hq => hfx q (by simp [assignedC, hq])) ro nn h1)
  | cond c x y ihx ihy =>
    intro N w0 X z s K Q a w ρ hok h hr hn hret he hfx ro nn hro
    simp only [codeOk, Bool.and_eq_true] at hok
    have h1 : (ro = none ∧ z.nd = false) ∨ noRange x = true := hro.imp id fun h => by simp only [noRange, Bool.and_eq_true] at h; exact h.1
    have h2 : (ro = none ∧ z.nd = false) ∨ noRange y = true := hro.imp id fun h => by simp only [noRange, Bool.and_eq_true] at h; exact h.2
    simp only [swp] at h
    have hev := hr.ev c
    split at h
    · rename_i t ht
      rw [ht, Den.bool_iff] at hev
      cases t
      · exact wpIn_cond hev (ihy N w0 X z s K Q a w ρ hok.2 h hr hn hret he (fun q hq => hfx q (by simp [assignedC, hq])) ro nn h2)
      · exact wpIn_cond hev (ihx N w0 X z s K Q a w ρ hok.1 h hr hn hret he (fun q hq => hfx q (by simp [assignedC, hq])) ro nn h1)
    · exact h.elim
  | block id c ih =>
    intro N w0 X z s K Q a w ρ hok h hr hn hret he hfx ro nn hro
    refine wpIn_block (ih N w0 X z s _ (Exit.inBlock id Q) a w ρ hok h hr hn hret (fun i s a w ρ h hr => ?_) hfx ro nn hro)
    simp only [Exit.inBlock]
    by_cases hi : i = id
    · subst hi
      rw [if_pos rfl]
      simp at h
      exact hn s a w ρ h hr
    · rw [if_neg hi]
      have hb : Nat.beq i id = false := by
        cases hb : Nat.beq i id
        · rfl
        · exact absurd (Nat.eq_of_beq_eq_true hb) hi
      have h' : (if Nat.beq i id = true then K.n s else K.e i s) := h
      rw [hb] at h'
      exact he i s a w ρ h' hr
  | exit id => intro N w0 X z s K Q a w ρ _ h hr _ _ he _ ro nn _; exact wpIn_exit (he id s a w ρ h hr)
  | loop c ih =>
    intro N w0 X z s K Q a w ρ hok h hr hn hret he hfx ro nn hro
    obtain ⟨A, I, μ, f, R, hR, ⟨i, hI, hs⟩, hround⟩ := h.h
    obtain ⟨ρ', hr'⟩ := (hR _ _ _ hs).h _ _ _ _ _ _ _ hr
    refine wp_loop_ix (fun i a w => I i ∧ ∃ ρ, Rep T N w0 X z (f i) a w ρ) μ (fun i a w ⟨hI, ρ, hr⟩ => ?_) i a w ⟨hI, ρ', hr'⟩
    refine ih N w0 X z (f i) _ (Exit.then (fun a' w' => ∃ j, (I j ∧ ∃ ρ, Rep T N w0 X z (f j) a' w' ρ) ∧ μ j < μ i) Q) a w ρ hok (hround i hI) hr (fun s a w ρ h hr => ?_) hret he hfx ro nn hro
    obtain ⟨j, hj, hlt, hsub⟩ := h
    obtain ⟨ρ'', hr''⟩ := (hR _ _ _ hsub).h _ _ _ _ _ _ _ hr
    exact ⟨j, ⟨hj, ρ'', hr''⟩, hlt⟩
  | rangeFunc f ps x y ihx ihy =>
    intro N w0 X z s K Q a w ρ hok h hr hn hret he hfx ro nn hro
    obtain ⟨rfl, hznd⟩ := hro.resolve_right (by simp [noRange])
    simp only [codeOk, Bool.and_eq_true] at hok
    simp only [swp] at h
    split at h
    · rename_i gf caps hev
      exact range_sound hG hr hev h (fun N w0 z s K Q a w ρ h hr hn hret he hfx l nn => ihx N w0 X z s K Q a w ρ hok.1.1.1 h hr hn hret he hfx (some l) nn (.inr hok.1.2))
        (fun N w0 z s K Q a w ρ h hr hn hret he hfx l nn => ihy N w0 X z s K Q a w ρ hok.1.1.2 h hr hn hret he hfx (some l) nn (.inr hok.2)) hn hret he nn hznd
    · exact h.elim
  | scope c ih =>
    intro N w0 X z s K Q a w ρ hok h hr hn hret he hfx ro nn hro
    exact wpIn_scope_straight (ih N w0 X z s K (Exit.noGoto Q) a w ρ hok h hr hn hret he hfx ro nn hro)
  | label l => intro N w0 X z s K Q a w ρ _ h hr hn _ _ _ ro nn _; exact wpIn_label (hn s a w ρ h hr)
  | goto l => intro N w0 X z s K Q a w ρ _ h; exact h.elim
  | refuse y => intro N w0 X z s K Q a w ρ _ h; exact h.elim

/-! ### Results -/
def resOne (T : Nat → Option TI) (s : St) : ResultVar → Option SV
  | .tmp k => some (getN .any s.slots k)
  | .cell k ty => (match getN .any s.slots k with
    | .ptr r o => (match getM s.mem r with
      | .chunk t' y => if Nat.beq o 0 && Nat.beq t' ty then some y else none
      | _ => none)
    | _ => none)
def resL (T : Nat → Option TI) (s : St) : List ResultVar → Option (List SV)
  | v :: vs => (match resOne T s v, resL T s vs with
    | some x, some xs => some (x :: xs)
    | _, _ => none)
  | [] => some []
/-- The first live thing in the results. -/
def firstId (m : Mem) : List Nat → Option Nat
  | [] => none
  | q :: l => (match getM m q with | .no => firstId m l | .frz _ _ => firstId m l | _ => if Nat.beq q 0 then firstId m l else some q)
/-- A part of a result, where nw: the thing 1 is new. -/
noncomputable def fin1 (nw : Bool) (m : Mem) : SV → Option SV
  | .row r => if nw && Nat.beq r 1 then some (.row 1) else viewC (getM m) (.row r)
  | .rsl r sh a n c => if nw && Nat.beq r 1 then none else viewC (getM m) (.rsl r sh a n c)
  | .ptr r o => if nw && Nat.beq r 1 && Nat.beq o 0 then some (.ptr 1 0) else none
  | x => viewC (getM m) x
noncomputable def fin1s (nw : Bool) (m : Mem) : List SV → Option (List SV)
  | [] => some []
  | x :: l => (match fin1 nw m x, fin1s nw m l with
    | some y, some ys => some (y :: ys)
    | _, _ => none)
noncomputable def finV (T : Nat → Option TI) (nw : Bool) (m : Mem) (t : Nat) : SV → Option SV
  | .agg l => (match fin1s nw m l with | some l => some (.agg l) | none => none)
  | x => (match fin1 nw m x with | some y => some (normNil T t y) | none => none)
noncomputable def finL (T : Nat → Option TI) (nw : Bool) (m : Mem) : List Nat → List SV → Option (List SV)
  | t :: ts, x :: xs => (match finV T nw m t x, finL T nw m ts xs with
    | some y, some ys => some (y :: ys)
    | _, _ => none)
  | [], [] => some []
  | _, _ => none
def packR : List SV → SV
  | [x] => x
  | l => .tup l
/-- A body is at its end: the result, what is new, what was lent. -/
structure Fin (x r : SV) (b n : Blk) (l l' : Blk) : Prop where
  r : x = r
  n : b = n
  l : l = l'
def finS (s : St) : Option Nat → St
  | some q => if Nat.beq q 0 then s else swS 1 q s
  | none => s
/-- The state with what is new at 1. -/
def endS (T : Nat → Option TI) (vs : List ResultVar) (nw : Bool) (s : St) : St :=
  if nw then (match resL T s vs with | some xs => finS s (firstId s.mem (idsV.idsVs xs)) | none => s) else s
def lentE (l : Option (Nat × SV)) (m : Mem) : Blk := match l with | some _ => getM m 0 | none => .no
def retQ' (T : Nat → Option TI) (ts : List Nat) (vs : List ResultVar) (c : CT) (nw : Bool) (s : St) : Prop :=
  match resL T s vs with
  | some xs => (match finL T nw s.mem ts xs with
    | some ys => Fin (packR ys) c.r (if nw then getM s.mem 1 else .no) c.new (lentE c.lent s.mem) (lentB' c.lent c.lent')
    | none => False)
  | none => False
def retQ (T : Nat → Option TI) (ts : List Nat) (vs : List ResultVar) (s : St) (c : CT) : Prop := retQ' T ts vs c (isNew c.new) (endS T vs (isNew c.new) s)

def resSem (a : Act) (v : ResultVar) : Sem Value := match v with
  | .tmp t => pure (a.tmps.getD t undef)
  | .cell k ty => do loadVar ty (← asAddr (a.tmps.getD k undef))


theorem resOne_ok (tab : Tab P T) {N : Nat → Prop} {w0 : World} {X : Nat → Prop} {z : Anc} {s : St} {a : Act} {w : World} {ρ : Env} (h : Rep T N w0 X z s a w ρ) {v : ResultVar} {x : SV} (hx : resOne T s v = some x) :
    ∃ u, (resSem a v).run P w = .ok u w ∧ Den w (Forb X s.mem ρ) ρ x u := by
  cases v with
  | tmp k => simp only [resOne] at hx; injection hx with hx; subst hx; exact ⟨_, rfl, h.slot k⟩
  | cell k ty =>
    simp only [resOne] at hx
    cases hs : getN SV.any s.slots k with
    | ptr r o =>
      simp only [hs] at hx
      cases hm : getM s.mem r with
      | chunk t' y =>
        simp only [hm] at hx
        split at hx
        · rename_i hc
          simp only [Bool.and_eq_true] at hc
          have h0 : o = 0 := Nat.eq_of_beq_eq_true hc.1
          have h1 : t' = ty := Nat.eq_of_beq_eq_true hc.2
          subst h0; subst h1
          injection hx with hx; subst hx
          have hb := h.m.blk r
          rw [hm] at hb
          obtain ⟨i', b, us, tt, e1, e2, e3, e4, e5, e6, e7⟩ := hb
          have hd := h.slot k
          rw [hs] at hd
          simp only [resSem]
          generalize a.tmps.getD k undef = q at hd
          cases hd with
          | ptr _ _ _ b' hb' =>
            have := hb' _ e2
            simp only [Value.pointer.injEq, Option.some.injEq, Addr.mk.injEq, and_true] at this
            subst this
            refine ⟨_, ?_, e7⟩
            have := run_load_at (P := P) (tab.tys.ok t' i' e1) (tab.sz.one t' i' e1) w b 0 us.toList (by rw [Array.length_toList, e5]; exact Nat.le_refl _) (fun j u hu => by rw [Nat.zero_add, cell_of_row w b j us tt (0, 0) e4]; simpa using hu)
            simpa [Instr.loadAt, Instr.sureAddr, asAddr] using this
        · cases hx
      | _ => simp only [hm] at hx; cases hx
    | _ => simp only [hs] at hx; cases hx

theorem resL_ok (tab : Tab P T) {N : Nat → Prop} {w0 : World} {X : Nat → Prop} {z : Anc} {s : St} {a : Act} {w : World} {ρ : Env} (h : Rep T N w0 X z s a w ρ) : ∀ (vs : List ResultVar) (xs : List SV), resL T s vs = some xs →
    ∃ us : List Value, (vs.mapM (resSem a)).run P w = Result.ok us w ∧ DenL w (Forb X s.mem ρ) ρ xs us
  | [], xs, hx => by
    simp only [resL] at hx
    injection hx with hx; subst hx
    exact ⟨[], rfl, rfl, fun i x u h => by simp at h⟩
  | v :: vs, xs, hx => by
    simp only [resL] at hx
    cases h1 : resOne T s v with
    | none => rw [h1] at hx; cases hx
    | some x =>
      cases h2 : resL T s vs with
      | none => rw [h1, h2] at hx; cases hx
      | some ys =>
        rw [h1, h2] at hx
        injection hx with hx; subst hx
        obtain ⟨u, r1, d1⟩ := resOne_ok tab h h1
        obtain ⟨us, r2, d2⟩ := resL_ok tab h vs ys h2
        refine ⟨u :: us, ?_, by simp [d2.1], fun i x' u' hx' hu' => ?_⟩
        · rw [List.mapM_cons, Sem.run_bind, r1, Result.andThen_ok, Sem.run_bind, r2, Result.andThen_ok]
          rfl
        · cases i with
          | zero => simp at hx' hu'; subst hx'; subst hu'; exact d1
          | succ i => exact d2.2 i x' u' (by simpa using hx') (by simpa using hu')

theorem endS_sub (vs : List ResultVar) (nw : Bool) (s : St) : Sub T s (endS T vs nw s) := by
  unfold endS
  split
  · split
    · unfold finS
      split
      · split
        · exact .refl s
        · rename_i h; exact swS_sub 1 _ s (by simp) (fun h0 => h (by simp [h0]))
      · exact .refl s
    · exact .refl s
  · exact .refl s

def idsF (nw : Bool) : List Nat → List Nat
  | [] => []
  | q :: l => if nw && Nat.beq q 1 then idsF nw l else q :: idsF nw l
theorem idsF_mem {nw : Bool} : ∀ {l : List Nat} {q : Nat}, q ∈ idsF nw l ↔ q ∈ l ∧ ¬ (nw = true ∧ q = 1)
  | [], q => by simp [idsF]
  | k :: l, q => by
    simp only [idsF]
    split
    · rename_i h
      simp only [Bool.and_eq_true, nbeq] at h
      rw [idsF_mem]
      constructor
      · rintro ⟨h1, h2⟩; exact ⟨by simp [h1], h2⟩
      · rintro ⟨h1, h2⟩
        rcases List.mem_cons.1 h1 with rfl | h1
        · exact absurd h h2
        · exact ⟨h1, h2⟩
    · rename_i h
      simp only [Bool.and_eq_true, nbeq] at h
      rw [List.mem_cons, idsF_mem, List.mem_cons]
      constructor
      · rintro (rfl | ⟨h1, h2⟩)
        · exact ⟨.inl rfl, h⟩
        · exact ⟨.inr h1, h2⟩
      · rintro ⟨rfl | h1, h2⟩
        · exact .inl rfl
        · exact .inr ⟨h1, h2⟩

theorem ret_ok (tab : Tab P T) {N : Nat → Prop} {w0 : World} {X : Nat → Prop} {z : Anc} {s : St} {a : Act} {w : World} {ρ : Env} (h : Rep T N w0 X z s a w ρ) {fn : Func} {c : CT} {nw : Bool} (hnw : nw = isNew c.new) (hq : retQ' T fn.resultTypes.toList fn.results.toList c nw s) :
    ∃ v ρ', (results fn a.tmps).run P w = .ok v w ∧ MRep T N w0 w X (outM c) ρ' ∧ Den w (Forb X (outM c) ρ') ρ' c.r v ∧ (∀ u, z.z = some u → c.lent.isSome = true → ρ' 0 = some u) ∧ (c.lent = none → ρ' 0 = none) := by
  unfold retQ' at hq
  cases hx : resL T s fn.results.toList with
  | none => rw [hx] at hq; exact hq.elim
  | some xs =>
    rw [hx] at hq
    simp only at hq
    cases hy : finL T nw s.mem fn.resultTypes.toList xs with
    | none => rw [hy] at hq; exact hq.elim
    | some ys =>
      rw [hy] at hq
      simp only at hq
      obtain ⟨q1, q2, q3⟩ := hq
      obtain ⟨us, hr, hd⟩ := resL_ok tab h _ _ hx
      have fz := freeze_ids (T := T) (sees_all s.mem) h.m (idsF nw (rids.ridsL xs))
      have hout : ∀ r, getM (outM c) r = .no ∨ getM (outM c) r = getM (appU (frzU (getM s.mem) (idsF nw (rids.ridsL xs))) s.mem) r := by
        intro r
        rw [getM_out]
        have keep : ∀ r, (∀ sh e k, getM s.mem r ≠ .row sh e k) ∨ r ∉ idsF nw (rids.ridsL xs) → getM (appU (frzU (getM s.mem) (idsF nw (rids.ridsL xs))) s.mem) r = getM s.mem r := by
          intro r hr
          rcases fz.old r with g | ⟨g1, sh, e, k, g2, _⟩
          · exact g
          · rcases hr with hr | hr
            · exact absurd g2 (hr _ _ _)
            · exact absurd g1 hr
        by_cases h0 : r = 0
        · subst h0
          rw [if_pos rfl]
          cases hl : c.lent with
          | none => exact .inl rfl
          | some p =>
            obtain ⟨t, x⟩ := p
            right
            rw [hl] at q3
            simp only [lentE, lentB'] at q3 ⊢
            rw [keep 0 (.inl fun sh e k hk => by rw [hk] at q3; cases q3)]
            exact q3.symm
        · rw [if_neg h0]
          by_cases h1 : r = 1
          · subst h1
            rw [if_pos rfl]
            cases hn : nw with
            | false =>
              rw [hn] at q2
              simp only [Bool.false_eq_true, if_false] at q2
              exact .inl q2.symm
            | true =>
              rw [hn] at q2 keep
              simp only [if_true] at q2
              right
              rw [← hn] at keep ⊢
              rw [keep 1 (.inr fun hm => (idsF_mem.1 hm).2 ⟨hn, rfl⟩)]
              exact q2.symm
          · rw [if_neg h1]; exact .inl rfl
      obtain ⟨m', env, hf⟩ := fz.m.drop hout
      generalize hρ : (fun r => match getM (outM c) r with | .no => none | _ => ρ r : Env) = ρ' at m' env hf
      have lift : ∀ {ρ0 : Env} {x : SV} {v : Value}, Den w (Forb X s.mem ρ) ρ0 x v → Den w (Forb X (outM c) ρ') ρ0 x v := fun hd => (hd.mono fz.t.size fz.t.keep).mono (Nat.le_refl _) fun b _ hb => ⟨fun hb' => hb (hf b hb'), rfl⟩
      have view1 : ∀ {x y : SV} {v : Value}, (∀ r ∈ rids x, r ∈ idsF nw (rids.ridsL xs)) → viewC (getM s.mem) x = some y → Den w (Forb X s.mem ρ) ρ x v → Den w (Forb X (outM c) ρ') ρ' y v := by
        intro x y v hr hv hd
        obtain ⟨a1, a2⟩ := viewC_same (μ' := getM (appU (frzU (getM s.mem) (idsF nw (rids.ridsL xs))) s.mem)) (fun r hr' => fz.at' r (hr r hr')) hv
        have := viewC_den (sees_all _) fz.m (Z := Forb X (outM c) ρ') (fun b _ hb hb' => hb (hf b hb')) (fun hl => by rw [a2] at hl; cases hl) a1 (fz.t.den (fun _ h => by cases h) hd)
        exact this.env fun r => .inr (.inr (by
          have hp : plainB y = true := by
            have := view_data (T := T) (μ := getM s.mem) (t := 0) (x := .agg [x]) (y := .agg [y]) (by simp [view, viewCs, hv])
            simpa [dataB, allPlain] using this
          exact plain_noref hp r))
      have part : ∀ {x y : SV} {v : Value}, (∀ r ∈ rids x, r ∈ rids.ridsL xs) → fin1 nw s.mem x = some y → Den w (Forb X s.mem ρ) ρ x v → Den w (Forb X (outM c) ρ') ρ' y v := by
        intro x y v hr hv hd
        cases x with
        | row r =>
          simp only [fin1] at hv
          split at hv
          · rename_i hc
            simp only [Bool.and_eq_true, nbeq] at hc
            injection hv with hv; subst hv
            obtain ⟨_, rfl⟩ := hc
            exact (lift hd).env fun r => (env r).imp id .inl
          · rename_i hc
            simp only [Bool.and_eq_true, nbeq] at hc
            exact view1 (fun k hk => idsF_mem.2 ⟨hr k hk, by simp [rids] at hk; subst hk; exact hc⟩) hv hd
        | rsl r sh a n c =>
          simp only [fin1] at hv
          split at hv
          · cases hv
          · rename_i hc
            simp only [Bool.and_eq_true, nbeq] at hc
            exact view1 (fun k hk => idsF_mem.2 ⟨hr k hk, by simp [rids] at hk; subst hk; exact hc⟩) hv hd
        | ptr r o =>
          simp only [fin1] at hv
          split at hv
          · rename_i hc
            simp only [Bool.and_eq_true, nbeq] at hc
            injection hv with hv; subst hv
            obtain ⟨⟨_, rfl⟩, rfl⟩ := hc
            exact (lift hd).env fun r => (env r).imp id .inl
          · cases hv
        | agg l => simp [fin1, viewC, plainB] at hv
        | tup l => simp [fin1, viewC, plainB] at hv
        | _ => exact view1 (fun k hk => by simp [rids] at hk) (by simpa only [fin1] using hv) hd
      have parts : ∀ {l l' : List SV} {vs : List Value}, (∀ r ∈ rids.ridsL l, r ∈ rids.ridsL xs) → fin1s nw s.mem l = some l' → DenL w (Forb X s.mem ρ) ρ l vs → DenL w (Forb X (outM c) ρ') ρ' l' vs := by
        intro l
        induction l with
        | nil => intro l' vs _ hv hd; simp only [fin1s] at hv; injection hv with hv; subst hv; exact ⟨hd.1, fun i x u h => by simp at h⟩
        | cons x l ih =>
          intro l' vs hr hv hd
          simp only [fin1s] at hv
          cases h1 : fin1 nw s.mem x with
          | none => rw [h1] at hv; cases hv
          | some y =>
            cases h2 : fin1s nw s.mem l with
            | none => rw [h1, h2] at hv; cases hv
            | some ys' =>
              rw [h1, h2] at hv
              injection hv with hv; subst hv
              cases vs with
              | nil => have := hd.1; simp at this
              | cons v vs =>
                have ih := ih (fun r hr' => hr r (by simp [rids.ridsL, hr'])) h2 ⟨by have := hd.1; simpa using this, fun i x u hx hu => hd.2 (i + 1) x u hx hu⟩
                refine ⟨by simp [ih.1], fun i x' u hx' hu' => ?_⟩
                cases i with
                | zero => simp at hx' hu'; subst hx'; subst hu'; exact part (fun r hr' => hr r (by simp [rids.ridsL, hr'])) h1 (hd.2 0 _ _ rfl rfl)
                | succ i => exact ih.2 i x' u (by simpa using hx') (by simpa using hu')
      have whole : ∀ {t : Nat} {x y : SV} {v : Value}, (∀ r ∈ rids x, r ∈ rids.ridsL xs) → finV T nw s.mem t x = some y → Den w (Forb X s.mem ρ) ρ x v → Den w (Forb X (outM c) ρ') ρ' y v := by
        intro t x y v hr hv hd
        cases x with
        | agg l =>
          simp only [finV] at hv
          cases h1 : fin1s nw s.mem l with
          | none => rw [h1] at hv; cases hv
          | some l' =>
            rw [h1] at hv
            injection hv with hv; subst hv
            obtain ⟨cs, rfl, hd2⟩ := Den.agg_iff.1 hd
            exact Den.agg_iff.2 ⟨cs, rfl, parts hr h1 hd2⟩
        | _ =>
          simp only [finV] at hv
          split at hv
          · rename_i y' h1
            injection hv with hv; subst hv
            exact normNil_den (part hr h1 hd)
          · cases hv
      have all : ∀ {ts : List Nat} {l l' : List SV} {vs : List Value}, (∀ r ∈ rids.ridsL l, r ∈ rids.ridsL xs) → finL T nw s.mem ts l = some l' → DenL w (Forb X s.mem ρ) ρ l vs → DenL w (Forb X (outM c) ρ') ρ' l' vs := by
        intro ts
        induction ts with
        | nil =>
          intro l l' vs _ hv hd
          cases l with
          | nil => simp only [finL] at hv; injection hv with hv; subst hv; exact ⟨hd.1, fun i x u h => by simp at h⟩
          | cons => simp [finL] at hv
        | cons t ts ih =>
          intro l l' vs hr hv hd
          cases l with
          | nil => simp [finL] at hv
          | cons x l =>
            simp only [finL] at hv
            cases h1 : finV T nw s.mem t x with
            | none => rw [h1] at hv; cases hv
            | some y =>
              cases h2 : finL T nw s.mem ts l with
              | none => rw [h1, h2] at hv; cases hv
              | some ys' =>
                rw [h1, h2] at hv
                injection hv with hv; subst hv
                cases vs with
                | nil => have := hd.1; simp at this
                | cons v vs =>
                  have ih := ih (fun r hr' => hr r (by simp [rids.ridsL, hr'])) h2 ⟨by have := hd.1; simpa using this, fun i x u hx hu => hd.2 (i + 1) x u hx hu⟩
                  refine ⟨by simp [ih.1], fun i x' u hx' hu' => ?_⟩
                  cases i with
                  | zero => simp at hx' hu'; subst hx'; subst hu'; exact whole (fun r hr' => hr r (by simp [rids.ridsL, hr'])) h1 (hd.2 0 _ _ rfl rfl)
                  | succ i => exact ih.2 i x' u (by simpa using hx') (by simpa using hu')
      have hdy := all (fun r hr => hr) hy hd
      have hm : (fn.results.mapM (resSem a)).run P w = .ok us.toArray w := by
        rw [Array.mapM_eq_mapM_toList, Sem.run_map, hr]
        rfl
      have hres : (results fn a.tmps).run P w = .ok (if h : us.toArray.size = 1 then us.toArray[0] else .tuple us.toArray) w := by
        unfold results
        rw [Sem.run_bind]
        refine (congrArg (fun r => Result.andThen r _) hm).trans ?_
        rfl
      refine ⟨_, ρ', hres, m', ?_, fun u hz hl => ?_, fun hl => ?_⟩
      · rw [← q1]
        by_cases h1 : us.length = 1
        · obtain ⟨u, rfl⟩ := List.length_eq_one_iff.1 h1
          have hxl : ys.length = 1 := by rw [hdy.1]; rfl
          obtain ⟨x, rfl⟩ := List.length_eq_one_iff.1 hxl
          simp only [packR]
          have := hdy.2 0 x u rfl rfl
          simpa using this
        · have hp : packR ys = .tup ys := by
            have : ys.length ≠ 1 := by rw [hdy.1]; exact h1
            match ys, this with
            | [], _ => rfl
            | [x], h => exact absurd rfl h
            | x :: y :: l, _ => rfl
          rw [hp, dif_neg (by simpa using h1)]
          exact Den.tup_iff.2 ⟨us, rfl, hdy⟩
      · cases hl' : c.lent with
        | none => rw [hl'] at hl; cases hl
        | some p =>
          obtain ⟨t, x⟩ := p
          rw [hl'] at q3
          simp only [lentE, lentB'] at q3
          have h0 : ρ 0 = some u := h.anch u hz (by rw [q3]; simp)
          rw [← hρ]
          simp only [getM_out, if_true, hl', lentB']
          exact h0
      · rw [← hρ]
        simp only [getM_out, if_true, hl, lentB']

/-! ### A contract -/
def start (n : Nat) (c : CT) : St := ⟨c.args ++ List.replicate (n - c.args.length) .any, inM c⟩

theorem contract (tab : Tab P T) (hG : ∀ f c, G f c → ACall P T f c) (hmix : P.follows .mixedOrders = true) {f : FuncId} {fn : Func} {c : Code} {ct : CT} (hf : P.funcs[f]? = some fn) (hb : fn.body = some c)
    (hn : (fn.name == "runtime.NumGoroutine") = false) (hok : codeOk c = true) (hni : isSeq ct = false)
    (h : swp T G c (start fn.ntmps ct) ⟨fun s => retQ T fn.resultTypes.toList fn.results.toList s ct, fun s => retQ T fn.resultTypes.toList fn.results.toList s ct, fun _ _ => False⟩) : ACall P T f ct := by
  refine ⟨⟨fn, hf, by rw [hb]; rfl, hn⟩, (fun hs => by rw [hni] at hs; cases hs), fun _ N w X ρ vs m hd => ?_⟩
  refine (callsIn_wide (n := 1)).1 (callsIn_of_wp_marks hf hb trivial ?_)
  have hrep : Rep T N w X ⟨ρ 0, fun _ => none, none, false⟩ (start fn.ntmps ct) { tmps := ⟨vs⟩ ++ Array.replicate (fn.ntmps - (⟨vs⟩ : Array Value).size) undef, defers := [] } w ρ := by
    refine ⟨m, .nil _ _ _, ?_, fun t => ?_, fun v hv _ => hv, (fun _ _ h => by cases h), (fun _ h => by cases h), (fun h => by cases h)⟩
    · simp only [start, Array.size_append, List.size_toArray, Array.size_replicate, List.length_append, List.length_replicate, hd.1]
    · simp only [start]
      rw [getN_eq]
      by_cases ht : t < ct.args.length
      · have ht' : t < vs.length := by rw [← hd.1]; exact ht
        rw [List.getElem?_append_left ht, List.getElem?_eq_getElem ht]
        have : ((⟨vs⟩ : Array Value) ++ Array.replicate (fn.ntmps - (⟨vs⟩ : Array Value).size) undef).getD t undef = vs[t] := by
          simp [Array.getElem?_append, ht']
        rw [this]
        exact hd.2 t _ _ (List.getElem?_eq_getElem ht) (List.getElem?_eq_getElem ht')
      · rw [List.getElem?_append_right (by omega), List.getElem?_replicate]
        split <;> exact .any _ _
  have fin0 : ∀ (s : St) (a : Act) (w' : World) (ρ1 : Env), retQ T fn.resultTypes.toList fn.results.toList s ct → Rep T N w X ⟨ρ 0, fun _ => none, none, false⟩ s a w' ρ1 →
      ∃ v, (results fn a.tmps).run P w' = .ok v w' ∧ ∃ v' ρ', Ending.returned v = .returned v' ∧ MRep T N w w' X (outM ct) ρ' ∧ ρ' 0 = ρ 0 ∧ Den w' (Forb X (outM ct) ρ') ρ' ct.r v' := by
    intro s a w' ρ1 hq hr
    obtain ⟨ρ2, hr2⟩ := (endS_sub (T := T) fn.results.toList (isNew ct.new) s).h _ _ _ _ _ _ _ hr
    obtain ⟨v, ρ', h1, h2, h3, h4, h5⟩ := ret_ok tab hr2 rfl hq
    refine ⟨v, h1, v, ρ', rfl, h2, ?_, h3⟩
    have hm0 := m.some0 0
    rw [getM_in, if_pos rfl] at hm0
    cases hl : ct.lent with
    | none =>
      rw [h5 hl, hm0.1 (by rw [hl]; rfl)]
    | some p =>
      cases h0 : ρ 0 with
      | none => have := hm0.2 h0; rw [hl] at this; cases this
      | some u => exact h4 u h0 (by rw [hl]; rfl)
  have fin1 : ∀ (Ds : List Nat) (s : St) (a : Act) (w' : World) (ρ1 : Env), retQ T fn.resultTypes.toList fn.results.toList s ct → Rep T N w X ⟨ρ 0, fun _ => none, none, false⟩ s a w' ρ1 → a.defers = Ds.map (fun D => { target := .collected D, args := #[] }) → Ds.Nodup →
      (∀ D ∈ Ds, N D ∧ ¬ Forb X s.mem ρ1 D ∧ w'.heap[D]? = some (.deferred (some []))) →
      LeavesInM Fence.wide 1 P fn a.tmps (fun e w' => ∃ v' ρ', e = .returned v' ∧ MRep T N w w' X (outM ct) ρ' ∧ ρ' 0 = ρ 0 ∧ Den w' (Forb X (outM ct) ρ') ρ' ct.r v') a.defers .returning w' := by
    intro Ds
    induction Ds with
    | nil =>
      intro s a w' ρ1 hq hr hd _ _
      rw [hd]
      exact fin0 s a w' ρ1 hq hr
    | cons D Ds ih =>
      intro s a w' ρ1 hq hr hd hnd hk
      rw [hd]
      obtain ⟨k1, k2, k3⟩ := hk D (by simp)
      have hne : ∀ q ∈ Ds, q ≠ D := by rintro q hq rfl; exact (List.nodup_cons.1 hnd).1 hq
      have hk2 : ∀ q ∈ Ds, N q ∧ ¬ Forb X s.mem ρ1 q ∧ (w'.putObj D (.deferred none)).heap[q]? = some (.deferred (some [])) := fun q hq => by
        obtain ⟨g1, g2, g3⟩ := hk q (by simp [hq])
        exact ⟨g1, g2, (World.putObj_heap_other (hne q hq)).trans g3⟩
      have hr2 := hr.putObj k3 rfl k1 k2 (.deferred none) (ds := Ds.map (fun D => { target := .collected D, args := #[] })) ⟨Ds, rfl, (List.nodup_cons.1 hnd).2, hk2⟩ (fun h => by cases h)
      exact ⟨by simp, .inl ⟨D, _, rfl, run_takeDeferred k3, ih s _ _ ρ1 hq hr2 rfl (List.nodup_cons.1 hnd).2 hk2⟩⟩
  have fin : ∀ (s : St) (a : Act) (w' : World) (ρ1 : Env), retQ T fn.resultTypes.toList fn.results.toList s ct → Rep T N w X ⟨ρ 0, fun _ => none, none, false⟩ s a w' ρ1 →
      LeavesInM Fence.wide 1 P fn a.tmps (fun e w' => ∃ v' ρ', e = .returned v' ∧ MRep T N w w' X (outM ct) ρ' ∧ ρ' 0 = ρ 0 ∧ Den w' (Forb X (outM ct) ρ') ρ' ct.r v') a.defers .returning w' := by
    intro s a w' ρ1 hq hr
    obtain ⟨Ds, h1, h2, h3⟩ := hr.defers.h
    exact fin1 Ds s a w' ρ1 hq hr h1 h2 h3
  exact swp_sound tab hG hmix c N w X _ _ _ _ _ w ρ hok h hrep (fun s a w' ρ1 hq hr => fin s a w' ρ1 hq hr) (fun s a w' ρ1 hq hr => fin s a w' ρ1 hq hr) (fun i s a w' ρ hq => hq.elim) (fun _ _ => rfl) none 1 (.inl ⟨rfl, rfl⟩)

/-! ### Loops: what a round may write is forgotten, then said anew -/
def putNs : List (Nat × SV) → List SV → List SV
  | [], l => l
  | (d, x) :: ds, l => putNs ds (setN x l d)
/-- The memory less the ids that a round may make. -/
def killM (D : List Nat) : Mem → Mem
  | [] => []
  | (k, b) :: m => (match b with
    | .no => killM D m
    | b => if memB k D then killM D m else (k, b) :: killM D m)
def putMs : List (Nat × Blk) → Mem → Mem
  | [], m => m
  | (d, x) :: ds, m => putMs ds (setM x m d)
def loopSt (c : Code) (s : St) (u : List (Nat × SV)) (v : List (Nat × Blk)) : St :=
  ⟨putNs u (killN (assignedC c) s.slots), putMs v (killM (assignedC c) s.mem)⟩
/-- Nil cells taken for empty lists where lists are wanted. -/
def nilL : List SV → List SV → List SV
  | .lst sh _ :: ys, .nil :: xs => .lst sh [] :: nilL ys xs
  | _ :: ys, x :: xs => x :: nilL ys xs
  | _, xs => xs
def nilH : List SV → List SV → Bool
  | .lst _ _ :: _, .nil :: _ => true
  | _ :: ys, _ :: xs => nilH ys xs
  | _, _ => false
def fitN (k : Nat) (b : Blk) (s : St) : St :=
  match b, getM s.mem k with
  | .chunk _ (.agg ys), .chunk t (.agg xs) => if nilH ys xs then ⟨s.slots, setM (.chunk t (.agg (nilL ys xs))) s.mem k⟩ else s
  | _, _ => s
theorem nilL_den {w : World} {Y : Nat → Prop} {ρ : Env} : ∀ (ys xs : List SV) (us : List Value), DenL w Y ρ xs us → DenL w Y ρ (nilL ys xs) us
  | [], xs, us, h => by unfold nilL; exact h
  | y :: ys, [], us, h => by cases y <;> exact h
  | y :: ys, x :: xs, [], h => by have := h.1; simp at this
  | y :: ys, x :: xs, u :: us, h => by
    have ih := nilL_den ys xs us ⟨by have := h.1; simpa using this, fun i x u hx hu => h.2 (i + 1) x u hx hu⟩
    have cons : ∀ x', Den w Y ρ x' u → DenL w Y ρ (x' :: nilL ys xs) (u :: us) := fun x' hx' => ⟨by simp [ih.1], fun i z v hz hv => by
      cases i with
      | zero => simp at hz hv; subst hz; subst hv; exact hx'
      | succ i => exact ih.2 i z v (by simpa using hz) (by simpa using hv)⟩
    have h0 := h.2 0 x u rfl rfl
    have keep : DenL w Y ρ (x :: nilL ys xs) (u :: us) := cons x h0
    cases y with
    | lst sh l =>
      cases x with
      | nil =>
        refine cons _ ?_
        generalize u = v at h0
        cases h0
        exact .lst0 _ _ _ _
      | _ => exact keep
    | _ => exact keep
theorem MRep.weakC {N : Nat → Prop} {w0 w : World} {X : Nat → Prop} {mem : Mem} {ρ : Env} (m : MRep T N w0 w X mem ρ) {k t : Nat} {xs xs' : List SV} (hk : getM mem k = .chunk t (.agg xs)) (hw : ∀ (us : List Value), DenL w (Forb X mem ρ) ρ xs us → DenL w (Forb X mem ρ) ρ xs' us) :
    MRep T N w0 w X (setM (.chunk t (.agg xs')) mem k) ρ ∧ Forb X (setM (.chunk t (.agg xs')) mem k) ρ = Forb X mem ρ := by
  have ho : ∀ r, (getM (setM (.chunk t (.agg xs')) mem k) r).own = (getM mem r).own := fun r => by
    rw [getM_setM]
    by_cases h : r = k
    · subst h; rw [if_pos rfl, hk]; rfl
    · rw [if_neg h]
  have hF : Forb X (setM (.chunk t (.agg xs')) mem k) ρ = Forb X mem ρ := by
    funext b
    simp only [Forb, owned, ho]
  refine ⟨⟨m.low, m.below, m.szN, fun r => ?_, fun r r' v v' b g1 g2 => ?_, ?_⟩, hF⟩
  · rw [hF, getM_setM]
    by_cases h : r = k
    · subst h
      rw [if_pos rfl]
      have hb := m.blk r
      rw [hk] at hb
      obtain ⟨i, b, us, ty, h1, h2, h3, h4, h5, h6, h7⟩ := hb
      refine ⟨i, b, us, ty, h1, h2, h3, h4, h5, h6, ?_⟩
      obtain ⟨cs, hv, hc⟩ := Den.agg_iff.1 h7
      exact Den.agg_iff.2 ⟨cs, hv, hw _ hc⟩
    · rw [if_neg h]; exact m.blk r
  · rw [ho] at g1 g2
    exact m.inj r r' v v' b g1 g2
  · rw [hF]; exact m.gl
theorem fitN_sub (k : Nat) (b : Blk) (s : St) : Sub T s (fitN k b s) := ⟨fun N w0 X z a w ρ hr => by
  unfold fitN
  split
  case h_2 => exact ⟨ρ, hr⟩
  rename_i ys t xs hk
  split
  case isFalse => exact ⟨ρ, hr⟩
  obtain ⟨m', hF⟩ := hr.m.weakC hk (xs' := nilL ys xs) (fun us => nilL_den ys xs us)
  refine ⟨ρ, ⟨m', by rw [hF]; exact hr.defers, hr.size, fun t => by rw [hF]; exact hr.slot t, anch_turn hr.m m' hr.anch (.inr rfl), hr.fix, hr.len, hr.nod⟩⟩⟩
/-- A slot that is nil, taken for an empty list. -/
def nilT (t : Nat) (sh : Option Nat) (s : St) : St :=
  match getN .any s.slots t with
  | .nil => if Nat.blt t s.slots.length then ⟨setN (.lst sh []) s.slots t, s.mem⟩ else s
  | _ => s
theorem nilT_sub (t : Nat) (sh : Option Nat) (s : St) : Sub T s (nilT t sh s) := ⟨fun N w0 X z a w ρ hr => by
  unfold nilT
  split
  case h_2 => exact ⟨ρ, hr⟩
  rename_i ht
  split
  case isFalse => exact ⟨ρ, hr⟩
  rename_i hc
  simp only [Nat.blt_eq] at hc
  refine ⟨ρ, ⟨hr.m, hr.defers, by rw [hr.size]; simp [setN_length], fun k => ?_, hr.anch, hr.fix, hr.len, hr.nod⟩⟩
  simp only
  rw [getN_setN _ _ _ _ _ hc]
  by_cases hk : k = t
  · subst hk
    rw [if_pos rfl]
    have := hr.slot k
    rw [ht] at this
    generalize a.tmps.getD k undef = v at this
    cases this
    exact .lst0 _ _ _ _
  · rw [if_neg hk]
    exact hr.slot k⟩
/-- Ids exchanged so that the values are as they are wanted. -/
noncomputable def fit1 (v : List (Nat × Blk)) (t : Nat) (y : SV) (s : St) : St :=
  match y, getN .any s.slots t with
  | .row q, .row p => if Nat.beq p q || Nat.beq p 0 || Nat.beq q 0 then s else swS p q s
  | .ptr q _, .ptr p _ => if Nat.beq p q || Nat.beq p 0 || Nat.beq q 0 then s else swS p q s
  | .row q, .nil => (match getM v q with | .row sh e _ => adopt t q sh e s | _ => s)
  | .rsl q _ _ _ _, .row p => asRsl t (if Nat.beq p q || Nat.beq p 0 || Nat.beq q 0 then s else swS p q s)
  | .rsl q _ _ _ _, .rsl p _ _ _ _ => if Nat.beq p q || Nat.beq p 0 || Nat.beq q 0 then s else swS p q s
  | .lst sh _, .nil => nilT t sh s
  | _, _ => s
noncomputable def fitU (v : List (Nat × Blk)) : List (Nat × SV) → St → St
  | [], s => s
  | (t, y) :: u, s => fitU v u (fit1 v t y s)
def sw1 (y x : SV) (s : St) : St :=
  match y, x with
  | .row q, .row p => if Nat.beq p q || Nat.beq p 0 || Nat.beq q 0 then s else swS p q s
  | _, _ => s
def fit2 : List SV → List SV → St → St
  | y :: ys, x :: xs, s => fit2 ys xs (sw1 y x s)
  | [], _, s => s
  | _ :: _, [], s => s
noncomputable def fitB (k : Nat) (b : Blk) (s : St) : St :=
  match b, getM s.mem k with
  | .chunk _ (.agg ys), .chunk _ (.agg xs) => fit2 ys xs s
  | .row _ _ _, .rowx _ _ _ _ => unXs k s
  | .rowx _ _ _ y, .rowx _ _ _ x => sw1 y x s
  | _, _ => s
noncomputable def fitM : List (Nat × Blk) → St → St
  | [], s => s
  | (k, b) :: v, s => fitM v (fitN k b (fitB k b s))
noncomputable def fitS (u : List (Nat × SV)) (v : List (Nat × Blk)) (s : St) : St := fitM v (fitU v u s)
theorem swS_sub' (p q : Nat) (s : St) : Sub T s (if Nat.beq p q || Nat.beq p 0 || Nat.beq q 0 then s else swS p q s) := by
  split
  · exact .refl s
  · rename_i h
    simp only [Bool.or_eq_true, nbeq, not_or] at h
    exact swS_sub p q s h.1.2 h.2
theorem fit1_sub (v : List (Nat × Blk)) (t : Nat) (y : SV) (s : St) : Sub T s (fit1 v t y s) := by
  unfold fit1
  split
  · exact swS_sub' _ _ s
  · exact swS_sub' _ _ s
  · split
    · exact adopt_sub _ _ _ _ s
    · exact .refl s
  · exact (swS_sub' _ _ s).trans (asRsl_sub _ _)
  · exact swS_sub' _ _ s
  · exact nilT_sub _ _ s
  · exact .refl s
theorem fitU_sub (v : List (Nat × Blk)) : ∀ (u : List (Nat × SV)) (s : St), Sub T s (fitU v u s)
  | [], s => .refl s
  | (t, y) :: u, s => (fit1_sub v t y s).trans (fitU_sub v u _)
theorem sw1_sub (y x : SV) (s : St) : Sub T s (sw1 y x s) := by
  unfold sw1
  split
  · exact swS_sub' _ _ s
  · exact .refl s
theorem fit2_sub : ∀ (ys xs : List SV) (s : St), Sub T s (fit2 ys xs s)
  | [], xs, s => by simp only [fit2]; exact .refl s
  | y :: ys, [], s => by simp only [fit2]; exact .refl s
  | y :: ys, x :: xs, s => by
    simp only [fit2]
    exact (sw1_sub y x s).trans (fit2_sub ys xs _)
theorem fitB_sub (k : Nat) (b : Blk) (s : St) : Sub T s (fitB k b s) := by
  unfold fitB
  split
  · exact fit2_sub _ _ s
  · exact unXs_sub k s
  · exact sw1_sub _ _ s
  · exact .refl s
theorem fitM_sub : ∀ (v : List (Nat × Blk)) (s : St), Sub T s (fitM v s)
  | [], s => .refl s
  | (k, b) :: v, s => ((fitB_sub k b s).trans (fitN_sub k b _)).trans (fitM_sub v _)
theorem fitS_sub (u : List (Nat × SV)) (v : List (Nat × Blk)) (s : St) : Sub T s (fitS u v s) := (fitU_sub v u s).trans (fitM_sub v _)

theorem loopQ {c : Code} {s : St} {K : Ks} {A : Type} (I : A → Prop) (μ : A → Nat) (u : A → List (Nat × SV)) (v : A → List (Nat × Blk)) (i0 : A) (h0 : I i0)
    (hs : WeakSt (fitS (u i0) (v i0) s) (loopSt c (fitS (u i0) (v i0) s) (u i0) (v i0)))
    (hr : ∀ i, I i → swp T G c (loopSt c (fitS (u i0) (v i0) s) (u i) (v i)) ⟨fun s' => ∃ j, I j ∧ μ j < μ i ∧ WeakSt (fitS (u j) (v j) s') (loopSt c (fitS (u i0) (v i0) s) (u j) (v j)), K.r, K.e⟩) : LoopQ T (fun s K => swp T G c s K) s K := by
  exact ⟨⟨A, I, μ, fun i => loopSt c (fitS (u i0) (v i0) s) (u i) (v i), fun i s s' => WeakSt (fitS (u i) (v i) s) s', fun i s s' h => (fitS_sub (u i) (v i) s).trans (weak_sub h), ⟨i0, h0, hs⟩, hr⟩⟩
def rangeSt (asg : List Nat) (s : St) (u : List (Nat × SV)) (v : List (Nat × Blk)) : St := ⟨putNs u (killN asg s.slots), putMs v (killM asg s.mem)⟩
theorem rangeQ {FA FB : St → Ks → Prop} {asg ps : List Nat} {f : Nat} {caps : List SV} {s : St} {K : Ks} (xs : List (List SV)) (hg : G f (seqC caps xs)) (hx : ∀ x ∈ xs, x.length = ps.length ∧ datas x = true) {A : Type} (I : A → Prop) (pos : A → Nat) (u : A → List (Nat × SV)) (v : A → List (Nat × Blk)) (i0 : A) (h0 : I i0 ∧ pos i0 = 0)
    (hs : WeakSt (fitS (u i0) (v i0) (kill asg s)) (rangeSt asg (fitS (u i0) (v i0) (kill asg s)) (u i0) (v i0)))
    (hr : ∀ i x, I i → xs[pos i]? = some x → FA ⟨putZ ps x (rangeSt asg (fitS (u i0) (v i0) (kill asg s)) (u i) (v i)).slots, (rangeSt asg (fitS (u i0) (v i0) (kill asg s)) (u i) (v i)).mem⟩
      ⟨fun s1 => FB s1 ⟨fun s' => ∃ j, I j ∧ pos j = pos i + 1 ∧ WeakSt (fitS (u j) (v j) (kill asg s')) (rangeSt asg (fitS (u i0) (v i0) (kill asg s)) (u j) (v j)), fun s' => K.r (kill asg s'), fun id s' => K.e id (kill asg s')⟩, fun _ => False, fun _ _ => False⟩)
    (hd : ∀ i, I i → pos i = xs.length → K.n (rangeSt asg (fitS (u i0) (v i0) (kill asg s)) (u i) (v i))) : RangeQ T G FA FB asg ps f caps s K :=
  ⟨⟨xs, hg, hx, A, I, pos, fun i => rangeSt asg (fitS (u i0) (v i0) (kill asg s)) (u i) (v i), fun i s s' => WeakSt (fitS (u i) (v i) s) s', fun i s s' h => (fitS_sub (u i) (v i) s).trans (weak_sub h), ⟨i0, h0.1, h0.2, hs⟩, hr, hd⟩⟩
end Go.Proofs.Ytapcbkcnokoljaa
