/- Texts put together: Swp Ty Tac Wk OA OM VB VC VE VD VA VF VG VH VI OB OS VJ. -/
import Derived.Test.YtjhicdoigllblaaMb
import Derived.Scope
import Derived.Test.YtjhicdoigllblaaChecked
import Derived.KernelRfl
import Derived.RangeFuncBound
import Derived.RangeFuncCalls
import Derived.RangeFuncLeaves
import Derived.Shelf.Abstract
import Derived.WalkKit
import Derived.OwnWalkIn
import Derived.TacticsInMore
import Derived.LoopNIn
import Derived.LoopIn
namespace Go.Proofs.Ytjhicdoigllblaa
set_option linter.unusedVariables false
set_option linter.unusedSimpArgs false
open Go.RowKit
variable {P : Program} {T : Nat → Option TI} {G : Nat → CT → Prop}

structure LoopQ (T : Nat → Option TI) (F : St → Ks → Prop) (s : St) (K : Ks) : Prop where
  h : ∃ (A : Type) (I : A → Prop) (μ : A → Nat) (f : A → St) (R : A → St → St → Prop), (∀ i s s', R i s s' → Sub T s s') ∧ (∃ i, I i ∧ R i s (f i)) ∧ ∀ i, I i → F (f i) ⟨fun s' => ∃ j, I j ∧ μ j < μ i ∧ R j s' (f j), K.r, K.e⟩

def swp (T : Nat → Option TI) (G : Nat → CT → Prop) : Code → St → Ks → Prop
  | .skip, s, K => K.n s
  | .ret, s, K => K.r s
  | .region _ ops false, s, K => opsG T G [] ops ops.toList [] (prepO ops.toList s) (fun _ s => K.n s)
  | .region _ ops true, s, K => drawG T G ops (prepO ops.toList s) K.n
  | .seq a b, s, K => swp T G a s ⟨fun s => swp T G b s K, K.r, K.e⟩
  | .cond c a b, s, K => (match s.ev c with
    | .bool t => br t (fun _ => swp T G a s K) (fun _ => swp T G b s K)
    | _ => False)
  | .block id c, s, K => swp T G c s ⟨K.n, K.r, fun i s => if Nat.beq i id then K.n s else K.e i s⟩
  | .exit id, s, K => K.e id s
  | .label _, s, K => K.n s
  | .scope c, s, K => swp T G c s K
  | .loop c, s, K => LoopQ T (fun s K => swp T G c s K) s K
  | .rangeFunc f ps a b, s, K => (match s.ev f with
    | .clo f caps => RangeQ T G (fun s K => swp T G a s K) (fun s K => swp T G b s K) (ps.toList ++ (assignedC a ++ assignedC b)) ps.toList f caps s K
    | _ => False)
  | _, _, _ => False

def noRange : Code → Bool
  | .seq a b => noRange a && noRange b
  | .cond _ a b => noRange a && noRange b
  | .block _ c => noRange c
  | .scope c => noRange c
  | .loop c => noRange c
  | .rangeFunc _ _ _ _ => false
  | _ => true
def codeOk : Code → Bool
  | .region _ ops true => regOk ops
  | .seq a b => codeOk a && codeOk b
  | .cond _ a b => codeOk a && codeOk b
  | .block _ c => codeOk c
  | .scope c => codeOk c
  | .loop c => codeOk c
  | .rangeFunc _ _ a b => codeOk a && codeOk b && noRange a && noRange b
  | _ => true

theorem wp_loop_ix {F : Fence} {n : Nat} {c : Code} {A : Type} {Q : Exit → Act → World → Prop} (I : A → Act → World → Prop) (μ : A → Nat)
    (round : ∀ i a w, I i a w → c.wpIn F n P (Exit.then (fun a' w' => ∃ j, I j a' w' ∧ μ j < μ i) Q) a w) : ∀ i a w, I i a w → (Code.loop c).wpIn F n P Q a w := by
  intro i a w hI b k cs hro hb hr
  have key : ∀ n i a w, μ i = n → I i a w → ∃ e a' w', Q e a' w' ∧ ArrivesIn (Machine.fenced P F) P (lone (b.atR a (.code c :: .inLoop c :: k)) cs w) b k cs e a' w' := by
    intro m
    induction m using Nat.strongRecOn with
    | _ m ih =>
      intro i a w hn hI
      obtain ⟨e, a₁, w₁, hq, harr⟩ := round i a w hI b (.inLoop c :: k) cs hro hb hr
      cases e with
      | normal =>
        obtain ⟨j, hI₁, hlt⟩ := hq
        obtain ⟨e₂, a₂, w₂, hq₂, harr₂⟩ := ih (μ j) (hn ▸ hlt) j a₁ w₁ rfl hI₁
        exact ⟨e₂, a₂, w₂, hq₂, .of_steps (StepsIn.trans harr (.one (fenced_calm hb hr rfl) stepR_inLoop)) harr₂⟩
      | exit id => exact ⟨_, a₁, w₁, hq, .pass (x := .inLoop c) rfl (fun _ _ => .inl (by simp)) harr⟩
      | goto l => exact ⟨_, a₁, w₁, hq, .pass (x := .inLoop c) rfl (fun _ _ => .inl (by simp)) harr⟩
      | ret => exact ⟨_, a₁, w₁, hq, .pass (x := .inLoop c) rfl (fun _ _ => .inl (by simp)) harr⟩
      | panic ch => exact ⟨_, a₁, w₁, hq, .pass (x := .inLoop c) rfl (fun _ _ => .inl (by simp)) harr⟩
      | outgrown => exact ⟨_, a₁, w₁, hq, .pass (x := .inLoop c) rfl (fun _ _ => .inl (by simp)) harr⟩
  obtain ⟨e, a', w', hq, harr⟩ := key _ i a w rfl hI
  exact ⟨e, a', w', hq, .of_steps (.one (fenced_calm hb hr rfl) stepR_loop) harr⟩

theorem stepR_scope {b : Frame} {a : Act} {k : List Item} {cs : List Frame} {w : World} {c : Code} : step P (lone (b.atR a (.code (.scope c) :: k)) cs w) = .next (lone (b.atR a (.code c :: .inScope c :: k)) cs w) :=
  step_lone_go (by simp [stepG, stepG.exec, Frame.atR])
theorem stepR_inScope {b : Frame} {a : Act} {k : List Item} {cs : List Frame} {w : World} {c : Code} : step P (lone (b.atR a (.inScope c :: k)) cs w) = .next (lone (b.atR a k) cs w) :=
  step_lone_go (by simp [stepG, stepG.exec, Frame.atR])
theorem wpIn_scope_straight {F : Fence} {n : Nat} {Q : Exit → Act → World → Prop} {a : Act} {w : World} {c : Code} (h : c.wpIn F n P (Exit.noGoto Q) a w) : (Code.scope c).wpIn F n P Q a w := by
  intro b k cs hro hb hr
  have h0 : (lone (b.atR a (.code (.scope c) :: k)) cs w).fenced P F := fenced_calm hb hr rfl
  obtain ⟨e, a₁, w₁, hq, harr⟩ := h b (.inScope c :: k) cs hro hb hr
  cases e with
  | normal => exact ⟨.normal, a₁, w₁, hq, .head h0 stepR_scope (StepsIn.trans harr (.one (fenced_calm hb hr rfl) stepR_inScope))⟩
  | exit id =>
    have hx : exitTo id (.inScope c :: k) = exitTo id k := by simp [exitTo]
    exact ⟨.exit id, a₁, w₁, hq, fun k' hk => .head h0 stepR_scope (harr.1 k' (by rw [hx]; exact hk)),
      fun hr' hk => let ⟨k₁, h1, h2⟩ := harr.2 hr' (by rw [hx]; exact hk); ⟨k₁, h1, .head h0 stepR_scope h2⟩⟩
  | goto l => exact hq.elim
  | ret => exact ⟨_, a₁, w₁, hq, .of_steps (.one h0 stepR_scope) harr⟩
  | panic ch => exact ⟨_, a₁, w₁, hq, .of_steps (.one h0 stepR_scope) harr⟩
  | outgrown => exact ⟨_, a₁, w₁, hq, .of_steps (.one h0 stepR_scope) harr⟩

theorem swp_sound (tab : Tab P T) (hG : ∀ f c, G f c → ACall P T f c) (hmix : P.follows .mixedOrders = true) : ∀ (c : Code) (N : Nat → Prop) (w0 : World) (X : Nat → Prop) (z : Anc) (s : St) (K : Ks) (Q : Exit → Act → World → Prop) (a : Act) (w : World) (ρ : Env),
    codeOk c = true → swp T G c s K → Rep T N w0 X z s a w ρ → (∀ s a w ρ, K.n s → Rep T N w0 X z s a w ρ → Q .normal a w) → (∀ s a w ρ, K.r s → Rep T N w0 X z s a w ρ → Q .ret a w) →
    (∀ i s a w ρ, K.e i s → Rep T N w0 X z s a w ρ → Q (.exit i) a w) → (∀ q ∈ assignedC c, z.fx q = none) → ∀ (ro : Option Nat) (nn : Nat), ((ro = none ∧ z.nd = false) ∨ noRange c = true) → c.wpIn (FR ro) nn P Q a w := by
  intro c
  induction c with
  | skip => intro N w0 X z s K Q a w ρ _ h hr hn _ _ _ ro nn _; exact wpIn_skip (hn s a w ρ h hr)
  | ret => intro N w0 X z s K Q a w ρ _ h hr _ hret _ _ ro nn _; exact wpIn_ret (hret s a w ρ h hr)
  | region id ops draw =>
    intro N w0 X z s K Q a w ρ hok h hr hn _ _ hfx ro nn _
    obtain ⟨ρ1, hr1⟩ := (prepO_sub (T := T) ops.toList s).h _ _ _ _ _ _ _ hr
    have hfx' : ∀ o ∈ ops.toList, ∀ q, o.dst = some q → z.fx q = none := fun o ho q hq => hfx q (dstsL_mem ho hq)
    cases draw
    · exact reg_seq tab hG h hr1 hn hfx' ro nn
    · exact reg_draw tab hG hmix hok h hr1 hn hfx' ro nn
  | seq x y ihx ihy =>
    intro N w0 X z s K Q a w ρ hok h hr hn hret he hfx ro nn hro
    simp only [codeOk, Bool.and_eq_true] at hok
    have h1 : (ro = none ∧ z.nd = false) ∨ noRange x = true := hro.imp id fun h => by simp only [noRange, Bool.and_eq_true] at h; exact h.1
    have h2 : (ro = none ∧ z.nd = false) ∨ noRange y = true := hro.imp id fun h => by simp only [noRange, Bool.and_eq_true] at h; exact h.2
    exact wpIn_seq (ihx N w0 X z s _ (Exit.then (y.wpIn (FR ro) nn P Q) Q) a w ρ hok.1 h hr (fun s a w ρ h hr => ihy N w0 X z s K Q a w ρ hok.2 h hr hn hret he (fun q hq => hfx q (by simp [assignedC, hq])) ro nn h2) hret he (fun q hq => hfx q (by simp [assignedC, hq])) ro nn h1)
  | cond c x y ihx ihy =>
    intro N w0 X z s K Q a w ρ hok h hr hn hret he hfx ro nn hro
    simp only [codeOk, Bool.and_eq_true] at hok
    have h1 : (ro = none ∧ z.nd = false) ∨ noRange x = true := hro.imp id fun h => by simp only [noRange, Bool.and_eq_true] at h; exact h.1
    have h2 : (ro = none ∧ z.nd = false) ∨ noRange y = true := hro.imp id fun h => by simp only [noRange, Bool.and_eq_true] at h; exact h.2
    simp only [swp] at h
    have hev := hr.ev c
    split at h
    · rename_i t ht
      rw [ht, Den.bool_iff] at hev
      cases t
      · exact wpIn_cond hev (ihy N w0 X z s K Q a w ρ hok.2 h hr hn hret he (fun q hq => hfx q (by simp [assignedC, hq])) ro nn h2)
      · exact wpIn_cond hev (ihx N w0 X z s K Q a w ρ hok.1 h hr hn hret he (fun q hq => hfx q (by simp [assignedC, hq])) ro nn h1)
    · exact h.elim
  | block id c ih =>
    intro N w0 X z s K Q a w ρ hok h hr hn hret he hfx ro nn hro
    refine wpIn_block (ih N w0 X z s _ (Exit.inBlock id Q) a w ρ hok h hr hn hret (fun i s a w ρ h hr => ?_) hfx ro nn hro)
    simp only [Exit.inBlock]
    by_cases hi : i = id
    · subst hi
      rw [if_pos rfl]
      simp at h
      exact hn s a w ρ h hr
    · rw [if_neg hi]
      have hb : Nat.beq i id = false := by
        cases hb : Nat.beq i id
        · rfl
        · exact absurd (Nat.eq_of_beq_eq_true hb) hi
      have h' : (if Nat.beq i id = true then K.n s else K.e i s) := h
      rw [hb] at h'
      exact he i s a w ρ h' hr
  | exit id => intro N w0 X z s K Q a w ρ _ h hr _ _ he _ ro nn _; exact wpIn_exit (he id s a w ρ h hr)
  | loop c ih =>
    intro N w0 X z s K Q a w ρ hok h hr hn hret he hfx ro nn hro
    obtain ⟨A, I, μ, f, R, hR, ⟨i, hI, hs⟩, hround⟩ := h.h
    obtain ⟨ρ', hr'⟩ := (hR _ _ _ hs).h _ _ _ _ _ _ _ hr
    refine wp_loop_ix (fun i a w => I i ∧ ∃ ρ, Rep T N w0 X z (f i) a w ρ) μ (fun i a w ⟨hI, ρ, hr⟩ => ?_) i a w ⟨hI, ρ', hr'⟩
    refine ih N w0 X z (f i) _ (Exit.then (fun a' w' => ∃ j, (I j ∧ ∃ ρ, Rep T N w0 X z (f j) a' w' ρ) ∧ μ j < μ i) Q) a w ρ hok (hround i hI) hr (fun s a w ρ h hr => ?_) hret he hfx ro nn hro
    obtain ⟨j, hj, hlt, hsub⟩ := h
    obtain ⟨ρ'', hr''⟩ := (hR _ _ _ hsub).h _ _ _ _ _ _ _ hr
    exact ⟨j, ⟨hj, ρ'', hr''⟩, hlt⟩
  | rangeFunc f ps x y ihx ihy =>
    intro N w0 X z s K Q a w ρ hok h hr hn hret he hfx ro nn hro
    obtain ⟨rfl, hznd⟩ := hro.resolve_right (by simp [noRange])
    simp only [codeOk, Bool.and_eq_true] at hok
    simp only [swp] at h
    split at h
    · rename_i gf caps hev
      exact range_sound hG hr hev h (fun N w0 z s K Q a w ρ h hr hn hret he hfx l nn => ihx N w0 X z s K Q a w ρ hok.1.1.1 h hr hn hret he hfx (some l) nn (.inr hok.1.2))
        (fun N w0 z s K Q a w ρ h hr hn hret he hfx l nn => ihy N w0 X z s K Q a w ρ hok.1.1.2 h hr hn hret he hfx (some l) nn (.inr hok.2)) hn hret he nn hznd
    · exact h.elim
  | scope c ih =>
    intro N w0 X z s K Q a w ρ hok h hr hn hret he hfx ro nn hro
    exact wpIn_scope_straight (ih N w0 X z s K (Exit.noGoto Q) a w ρ hok h hr hn hret he hfx ro nn hro)
  | label l => intro N w0 X z s K Q a w ρ _ h hr hn _ _ _ ro nn _; exact wpIn_label (hn s a w ρ h hr)
  | goto l => intro N w0 X z s K Q a w ρ _ h; exact h.elim
  | refuse y => intro N w0 X z s K Q a w ρ _ h; exact h.elim

def resOne (T : Nat → Option TI) (s : St) : ResultVar → Option SV
  | .tmp k => some (getN .any s.slots k)
  | .cell k ty => (match getN .any s.slots k with
    | .ptr r o => (match getM s.mem r with
      | .chunk t' y => if Nat.beq o 0 && Nat.beq t' ty then some y else none
      | _ => none)
    | _ => none)
def resL (T : Nat → Option TI) (s : St) : List ResultVar → Option (List SV)
  | v :: vs => (match resOne T s v, resL T s vs with
    | some x, some xs => some (x :: xs)
    | _, _ => none)
  | [] => some []
def firstId (m : Mem) : List Nat → Option Nat
  | [] => none
  | q :: l => (match getM m q with | .no => firstId m l | .frz _ _ => firstId m l | _ => if Nat.beq q 0 then firstId m l else some q)
noncomputable def fin1 (nw : Bool) (m : Mem) : SV → Option SV
  | .row r => if nw && Nat.beq r 1 then some (.row 1) else viewC (getM m) (.row r)
  | .rsl r sh a n c => if nw && Nat.beq r 1 then none else viewC (getM m) (.rsl r sh a n c)
  | .ptr r o => if nw && Nat.beq r 1 && Nat.beq o 0 then some (.ptr 1 0) else none
  | x => viewC (getM m) x
noncomputable def fin1s (nw : Bool) (m : Mem) : List SV → Option (List SV)
  | [] => some []
  | x :: l => (match fin1 nw m x, fin1s nw m l with
    | some y, some ys => some (y :: ys)
    | _, _ => none)
noncomputable def finV (T : Nat → Option TI) (nw : Bool) (m : Mem) (t : Nat) : SV → Option SV
  | .agg l => (match fin1s nw m l with | some l => some (.agg l) | none => none)
  | x => (match fin1 nw m x with | some y => some (normNil T t y) | none => none)
noncomputable def finL (T : Nat → Option TI) (nw : Bool) (m : Mem) : List Nat → List SV → Option (List SV)
  | t :: ts, x :: xs => (match finV T nw m t x, finL T nw m ts xs with
    | some y, some ys => some (y :: ys)
    | _, _ => none)
  | [], [] => some []
  | _, _ => none
def packR : List SV → SV
  | [x] => x
  | l => .tup l
structure Fin (x r : SV) (b n : Blk) (l l' : Blk) : Prop where
  r : x = r
  n : b = n
  l : l = l'
def finS (s : St) : Option Nat → St
  | some q => if Nat.beq q 0 then s else swS 1 q s
  | none => s
def endS (T : Nat → Option TI) (vs : List ResultVar) (nw : Bool) (s : St) : St :=
  if nw then (match resL T s vs with | some xs => finS s (firstId s.mem (idsV.idsVs xs)) | none => s) else s
def lentE (l : Option (Nat × SV)) (m : Mem) : Blk := match l with | some _ => getM m 0 | none => .no
def retQ' (T : Nat → Option TI) (ts : List Nat) (vs : List ResultVar) (c : CT) (nw : Bool) (s : St) : Prop :=
  match resL T s vs with
  | some xs => (match finL T nw s.mem ts xs with
    | some ys => Fin (packR ys) c.r (if nw then getM s.mem 1 else .no) c.new (lentE c.lent s.mem) (lentB' c.lent c.lent')
    | none => False)
  | none => False
def retQ (T : Nat → Option TI) (ts : List Nat) (vs : List ResultVar) (s : St) (c : CT) : Prop := retQ' T ts vs c (isNew c.new) (endS T vs (isNew c.new) s)

def resSem (a : Act) (v : ResultVar) : Sem Value := match v with
  | .tmp t => pure (a.tmps.getD t undef)
  | .cell k ty => do loadVar ty (← asAddr (a.tmps.getD k undef))


theorem resOne_ok (tab : Tab P T) {N : Nat → Prop} {w0 : World} {X : Nat → Prop} {z : Anc} {s : St} {a : Act} {w : World} {ρ : Env} (h : Rep T N w0 X z s a w ρ) {v : ResultVar} {x : SV} (hx : resOne T s v = some x) :
    ∃ u, (resSem a v).run P w = .ok u w ∧ Den w (Forb X s.mem ρ) ρ x u := by
  cases v with
  | tmp k => simp only [resOne] at hx; injection hx with hx; subst hx; exact ⟨_, rfl, h.slot k⟩
  | cell k ty =>
    simp only [resOne] at hx
    cases hs : getN SV.any s.slots k with
    | ptr r o =>
      simp only [hs] at hx
      cases hm : getM s.mem r with
      | chunk t' y =>
        simp only [hm] at hx
        split at hx
        · rename_i hc
          simp only [Bool.and_eq_true] at hc
          have h0 : o = 0 := Nat.eq_of_beq_eq_true hc.1
          have h1 : t' = ty := Nat.eq_of_beq_eq_true hc.2
          subst h0; subst h1
          injection hx with hx; subst hx
          have hb := h.m.blk r
          rw [hm] at hb
          obtain ⟨i', b, us, tt, e1, e2, e3, e4, e5, e6, e7⟩ := hb
          have hd := h.slot k
          rw [hs] at hd
          simp only [resSem]
          generalize a.tmps.getD k undef = q at hd
          cases hd with
          | ptr _ _ _ b' hb' =>
            have := hb' _ e2
            simp only [Value.pointer.injEq, Option.some.injEq, Addr.mk.injEq, and_true] at this
            subst this
            refine ⟨_, ?_, e7⟩
            have := run_load_at (P := P) (tab.tys.ok t' i' e1) (tab.sz.one t' i' e1) w b 0 us.toList (by rw [Array.length_toList, e5]; exact Nat.le_refl _) (fun j u hu => by rw [Nat.zero_add, cell_of_row w b j us tt (0, 0) e4]; simpa using hu)
            simpa [Instr.loadAt, Instr.sureAddr, asAddr] using this
        · cases hx
      | _ => simp only [hm] at hx; cases hx
    | _ => simp only [hs] at hx; cases hx

theorem resL_ok (tab : Tab P T) {N : Nat → Prop} {w0 : World} {X : Nat → Prop} {z : Anc} {s : St} {a : Act} {w : World} {ρ : Env} (h : Rep T N w0 X z s a w ρ) : ∀ (vs : List ResultVar) (xs : List SV), resL T s vs = some xs →
    ∃ us : List Value, (vs.mapM (resSem a)).run P w = Result.ok us w ∧ DenL w (Forb X s.mem ρ) ρ xs us
  | [], xs, hx => by
    simp only [resL] at hx
    injection hx with hx; subst hx
    exact ⟨[], rfl, rfl, fun i x u h => by simp at h⟩
  | v :: vs, xs, hx => by
    simp only [resL] at hx
    cases h1 : resOne T s v with
    | none => rw [h1] at hx; cases hx
    | some x =>
      cases h2 : resL T s vs with
      | none => rw [h1, h2] at hx; cases hx
      | some ys =>
        rw [h1, h2] at hx
        injection hx with hx; subst hx
        obtain ⟨u, r1, d1⟩ := resOne_ok tab h h1
        obtain ⟨us, r2, d2⟩ := resL_ok tab h vs ys h2
        refine ⟨u :: us, ?_, by simp [d2.1], fun i x' u' hx' hu' => ?_⟩
        · rw [List.mapM_cons, Sem.run_bind, r1, Result.andThen_ok, Sem.run_bind, r2, Result.andThen_ok]
          rfl
        · cases i with
          | zero => simp at hx' hu'; subst hx'; subst hu'; exact d1
          | succ i => exact d2.2 i x' u' (by simpa using hx') (by simpa using hu')

theorem endS_sub (vs : List ResultVar) (nw : Bool) (s : St) : Sub T s (endS T vs nw s) := by
  unfold endS
  split
  · split
    · unfold finS
      split
      · split
        · exact .refl s
        · rename_i h; exact swS_sub 1 _ s (by simp) (fun h0 => h (by simp [h0]))
      · exact .refl s
    · exact .refl s
  · exact .refl s

def idsF (nw : Bool) : List Nat → List Nat
  | [] => []
  | q :: l => if nw && Nat.beq q 1 then idsF nw l else q :: idsF nw l
theorem idsF_mem {nw : Bool} : ∀ {l : List Nat} {q : Nat}, q ∈ idsF nw l ↔ q ∈ l ∧ ¬ (nw = true ∧ q = 1)
  | [], q => by simp [idsF]
  | k :: l, q => by
    simp only [idsF]
    split
    · rename_i h
      simp only [Bool.and_eq_true, nbeq] at h
      rw [idsF_mem]
      constructor
      · rintro ⟨h1, h2⟩; exact ⟨by simp [h1], h2⟩
      · rintro ⟨h1, h2⟩
        rcases List.mem_cons.1 h1 with rfl | h1
        · exact absurd h h2
        · exact ⟨h1, h2⟩
    · rename_i h
      simp only [Bool.and_eq_true, nbeq] at h
      rw [List.mem_cons, idsF_mem, List.mem_cons]
      constructor
      · rintro (rfl | ⟨h1, h2⟩)
        · exact ⟨.inl rfl, h⟩
        · exact ⟨.inr h1, h2⟩
      · rintro ⟨rfl | h1, h2⟩
        · exact .inl rfl
        · exact .inr ⟨h1, h2⟩

theorem ret_ok (tab : Tab P T) {N : Nat → Prop} {w0 : World} {X : Nat → Prop} {z : Anc} {s : St} {a : Act} {w : World} {ρ : Env} (h : Rep T N w0 X z s a w ρ) {fn : Func} {c : CT} {nw : Bool} (hnw : nw = isNew c.new) (hq : retQ' T fn.resultTypes.toList fn.results.toList c nw s) :
    ∃ v ρ', (results fn a.tmps).run P w = .ok v w ∧ MRep T N w0 w X (outM c) ρ' ∧ Den w (Forb X (outM c) ρ') ρ' c.r v ∧ (∀ u, z.z = some u → c.lent.isSome = true → ρ' 0 = some u) ∧ (c.lent = none → ρ' 0 = none) := by
  unfold retQ' at hq
  cases hx : resL T s fn.results.toList with
  | none => rw [hx] at hq; exact hq.elim
  | some xs =>
    rw [hx] at hq
    simp only at hq
    cases hy : finL T nw s.mem fn.resultTypes.toList xs with
    | none => rw [hy] at hq; exact hq.elim
    | some ys =>
      rw [hy] at hq
      simp only at hq
      obtain ⟨q1, q2, q3⟩ := hq
      obtain ⟨us, hr, hd⟩ := resL_ok tab h _ _ hx
      have fz := freeze_ids (T := T) (sees_all s.mem) h.m (idsF nw (rids.ridsL xs))
      have hout : ∀ r, getM (outM c) r = .no ∨ getM (outM c) r = getM (appU (frzU (getM s.mem) (idsF nw (rids.ridsL xs))) s.mem) r := by
        intro r
        rw [getM_out]
        have keep : ∀ r, (∀ sh e k, getM s.mem r ≠ .row sh e k) ∨ r ∉ idsF nw (rids.ridsL xs) → getM (appU (frzU (getM s.mem) (idsF nw (rids.ridsL xs))) s.mem) r = getM s.mem r := by
          intro r hr
          rcases fz.old r with g | ⟨g1, sh, e, k, g2, _⟩
          · exact g
          · rcases hr with hr | hr
            · exact absurd g2 (hr _ _ _)
            · exact absurd g1 hr
        by_cases h0 : r = 0
        · subst h0
          rw [if_pos rfl]
          cases hl : c.lent with
          | none => exact .inl rfl
          | some p =>
            obtain ⟨t, x⟩ := p
            right
            rw [hl] at q3
            simp only [lentE, lentB'] at q3 ⊢
            rw [keep 0 (.inl fun sh e k hk => by rw [hk] at q3; cases q3)]
            exact q3.symm
        · rw [if_neg h0]
          by_cases h1 : r = 1
          · subst h1
            rw [if_pos rfl]
            cases hn : nw with
            | false =>
              rw [hn] at q2
              simp only [Bool.false_eq_true, if_false] at q2
              exact .inl q2.symm
            | true =>
              rw [hn] at q2 keep
              simp only [if_true] at q2
              right
              rw [← hn] at keep ⊢
              rw [keep 1 (.inr fun hm => (idsF_mem.1 hm).2 ⟨hn, rfl⟩)]
              exact q2.symm
          · rw [if_neg h1]; exact .inl rfl
      obtain ⟨m', env, hf⟩ := fz.m.drop hout
      generalize hρ : (fun r => match getM (outM c) r with | .no => none | _ => ρ r : Env) = ρ' at m' env hf
      have lift : ∀ {ρ0 : Env} {x : SV} {v : Value}, Den w (Forb X s.mem ρ) ρ0 x v → Den w (Forb X (outM c) ρ') ρ0 x v := fun hd => (hd.mono fz.t.size fz.t.keep).mono (Nat.le_refl _) fun b _ hb => ⟨fun hb' => hb (hf b hb'), rfl⟩
      have view1 : ∀ {x y : SV} {v : Value}, (∀ r ∈ rids x, r ∈ idsF nw (rids.ridsL xs)) → viewC (getM s.mem) x = some y → Den w (Forb X s.mem ρ) ρ x v → Den w (Forb X (outM c) ρ') ρ' y v := by
        intro x y v hr hv hd
        obtain ⟨a1, a2⟩ := viewC_same (μ' := getM (appU (frzU (getM s.mem) (idsF nw (rids.ridsL xs))) s.mem)) (fun r hr' => fz.at' r (hr r hr')) hv
        have := viewC_den (sees_all _) fz.m (Z := Forb X (outM c) ρ') (fun b _ hb hb' => hb (hf b hb')) (fun hl => by rw [a2] at hl; cases hl) a1 (fz.t.den (fun _ h => by cases h) hd)
        exact this.env fun r => .inr (.inr (by
          have hp : plainB y = true := by
            have := view_data (T := T) (μ := getM s.mem) (t := 0) (x := .agg [x]) (y := .agg [y]) (by simp [view, viewCs, hv])
            simpa [dataB, allPlain] using this
          exact plain_noref hp r))
      have part : ∀ {x y : SV} {v : Value}, (∀ r ∈ rids x, r ∈ rids.ridsL xs) → fin1 nw s.mem x = some y → Den w (Forb X s.mem ρ) ρ x v → Den w (Forb X (outM c) ρ') ρ' y v := by
        intro x y v hr hv hd
        cases x with
        | row r =>
          simp only [fin1] at hv
          split at hv
          · rename_i hc
            simp only [Bool.and_eq_true, nbeq] at hc
            injection hv with hv; subst hv
            obtain ⟨_, rfl⟩ := hc
            exact (lift hd).env fun r => (env r).imp id .inl
          · rename_i hc
            simp only [Bool.and_eq_true, nbeq] at hc
            exact view1 (fun k hk => idsF_mem.2 ⟨hr k hk, by simp [rids] at hk; subst hk; exact hc⟩) hv hd
        | rsl r sh a n c =>
          simp only [fin1] at hv
          split at hv
          · cases hv
          · rename_i hc
            simp only [Bool.and_eq_true, nbeq] at hc
            exact view1 (fun k hk => idsF_mem.2 ⟨hr k hk, by simp [rids] at hk; subst hk; exact hc⟩) hv hd
        | ptr r o =>
          simp only [fin1] at hv
          split at hv
          · rename_i hc
            simp only [Bool.and_eq_true, nbeq] at hc
            injection hv with hv; subst hv
            obtain ⟨⟨_, rfl⟩, rfl⟩ := hc
            exact (lift hd).env fun r => (env r).imp id .inl
          · cases hv
        | agg l => simp [fin1, viewC, plainB] at hv
        | tup l => simp [fin1, viewC, plainB] at hv
        | _ => exact view1 (fun k hk => by simp [rids] at hk) (by simpa only [fin1] using hv) hd
      have parts : ∀ {l l' : List SV} {vs : List Value}, (∀ r ∈ rids.ridsL l, r ∈ rids.ridsL xs) → fin1s nw s.mem l = some l' → DenL w (Forb X s.mem ρ) ρ l vs → DenL w (Forb X (outM c) ρ') ρ' l' vs := by
        intro l
        induction l with
        | nil => intro l' vs _ hv hd; simp only [fin1s] at hv; injection hv with hv; subst hv; exact ⟨hd.1, fun i x u h => by simp at h⟩
        | cons x l ih =>
          intro l' vs hr hv hd
          simp only [fin1s] at hv
          cases h1 : fin1 nw s.mem x with
          | none => rw [h1] at hv; cases hv
          | some y =>
            cases h2 : fin1s nw s.mem l with
            | none => rw [h1, h2] at hv; cases hv
            | some ys' =>
              rw [h1, h2] at hv
              injection hv with hv; subst hv
              cases vs with
              | nil => have := hd.1; simp at this
              | cons v vs =>
                have ih := ih (fun r hr' => hr r (by simp [rids.ridsL, hr'])) h2 ⟨by have := hd.1; simpa using this, fun i x u hx hu => hd.2 (i + 1) x u hx hu⟩
                refine ⟨by simp [ih.1], fun i x' u hx' hu' => ?_⟩
                cases i with
                | zero => simp at hx' hu'; subst hx'; subst hu'; exact part (fun r hr' => hr r (by simp [rids.ridsL, hr'])) h1 (hd.2 0 _ _ rfl rfl)
                | succ i => exact ih.2 i x' u (by simpa using hx') (by simpa using hu')
      have whole : ∀ {t : Nat} {x y : SV} {v : Value}, (∀ r ∈ rids x, r ∈ rids.ridsL xs) → finV T nw s.mem t x = some y → Den w (Forb X s.mem ρ) ρ x v → Den w (Forb X (outM c) ρ') ρ' y v := by
        intro t x y v hr hv hd
        cases x with
        | agg l =>
          simp only [finV] at hv
          cases h1 : fin1s nw s.mem l with
          | none => rw [h1] at hv; cases hv
          | some l' =>
            rw [h1] at hv
            injection hv with hv; subst hv
            obtain ⟨cs, rfl, hd2⟩ := Den.agg_iff.1 hd
            exact Den.agg_iff.2 ⟨cs, rfl, parts hr h1 hd2⟩
        | _ =>
          simp only [finV] at hv
          split at hv
          · rename_i y' h1
            injection hv with hv; subst hv
            exact normNil_den (part hr h1 hd)
          · cases hv
      have all : ∀ {ts : List Nat} {l l' : List SV} {vs : List Value}, (∀ r ∈ rids.ridsL l, r ∈ rids.ridsL xs) → finL T nw s.mem ts l = some l' → DenL w (Forb X s.mem ρ) ρ l vs → DenL w (Forb X (outM c) ρ') ρ' l' vs := by
        intro ts
        induction ts with
        | nil =>
          intro l l' vs _ hv hd
          cases l with
          | nil => simp only [finL] at hv; injection hv with hv; subst hv; exact ⟨hd.1, fun i x u h => by simp at h⟩
          | cons => simp [finL] at hv
        | cons t ts ih =>
          intro l l' vs hr hv hd
          cases l with
          | nil => simp [finL] at hv
          | cons x l =>
            simp only [finL] at hv
            cases h1 : finV T nw s.mem t x with
            | none => rw [h1] at hv; cases hv
            | some y =>
              cases h2 : finL T nw s.mem ts l with
              | none => rw [h1, h2] at hv; cases hv
              | some ys' =>
                rw [h1, h2] at hv
                injection hv with hv; subst hv
                cases vs with
                | nil => have := hd.1; simp at this
                | cons v vs =>
                  have ih := ih (fun r hr' => hr r (by simp [rids.ridsL, hr'])) h2 ⟨by have := hd.1; simpa using this, fun i x u hx hu => hd.2 (i + 1) x u hx hu⟩
                  refine ⟨by simp [ih.1], fun i x' u hx' hu' => ?_⟩
                  cases i with
                  | zero => simp at hx' hu'; subst hx'; subst hu'; exact whole (fun r hr' => hr r (by simp [rids.ridsL, hr'])) h1 (hd.2 0 _ _ rfl rfl)
                  | succ i => exact ih.2 i x' u (by simpa using hx') (by simpa using hu')
      have hdy := all (fun r hr => hr) hy hd
      have hm : (fn.results.mapM (resSem a)).run P w = .ok us.toArray w := by
        rw [Array.mapM_eq_mapM_toList, Sem.run_map, hr]
        rfl
      have hres : (results fn a.tmps).run P w = .ok (if h : us.toArray.size = 1 then us.toArray[0] else .tuple us.toArray) w := by
        unfold results
        rw [Sem.run_bind]
        refine (congrArg (fun r => Result.andThen r _) hm).trans ?_
        rfl
      refine ⟨_, ρ', hres, m', ?_, fun u hz hl => ?_, fun hl => ?_⟩
      · rw [← q1]
        by_cases h1 : us.length = 1
        · obtain ⟨u, rfl⟩ := List.length_eq_one_iff.1 h1
          have hxl : ys.length = 1 := by rw [hdy.1]; rfl
          obtain ⟨x, rfl⟩ := List.length_eq_one_iff.1 hxl
          simp only [packR]
          have := hdy.2 0 x u rfl rfl
          simpa using this
        · have hp : packR ys = .tup ys := by
            have : ys.length ≠ 1 := by rw [hdy.1]; exact h1
            match ys, this with
            | [], _ => rfl
            | [x], h => exact absurd rfl h
            | x :: y :: l, _ => rfl
          rw [hp, dif_neg (by simpa using h1)]
          exact Den.tup_iff.2 ⟨us, rfl, hdy⟩
      · cases hl' : c.lent with
        | none => rw [hl'] at hl; cases hl
        | some p =>
          obtain ⟨t, x⟩ := p
          rw [hl'] at q3
          simp only [lentE, lentB'] at q3
          have h0 : ρ 0 = some u := h.anch u hz (by rw [q3]; simp)
          rw [← hρ]
          simp only [getM_out, if_true, hl', lentB']
          exact h0
      · rw [← hρ]
        simp only [getM_out, if_true, hl, lentB']

def start (n : Nat) (c : CT) : St := ⟨c.args ++ List.replicate (n - c.args.length) .any, inM c⟩

theorem contract (tab : Tab P T) (hG : ∀ f c, G f c → ACall P T f c) (hmix : P.follows .mixedOrders = true) {f : FuncId} {fn : Func} {c : Code} {ct : CT} (hf : P.funcs[f]? = some fn) (hb : fn.body = some c)
    (hn : (fn.name == "runtime.NumGoroutine") = false) (hok : codeOk c = true) (hni : isSeq ct = false)
    (h : swp T G c (start fn.ntmps ct) ⟨fun s => retQ T fn.resultTypes.toList fn.results.toList s ct, fun s => retQ T fn.resultTypes.toList fn.results.toList s ct, fun _ _ => False⟩) : ACall P T f ct := by
  refine ⟨⟨fn, hf, by rw [hb]; rfl, hn⟩, (fun hs => by rw [hni] at hs; cases hs), fun _ N w X ρ vs m hd => ?_⟩
  refine (callsIn_wide (n := 1)).1 (callsIn_of_wp_marks hf hb trivial ?_)
  have hrep : Rep T N w X ⟨ρ 0, fun _ => none, none, false⟩ (start fn.ntmps ct) { tmps := ⟨vs⟩ ++ Array.replicate (fn.ntmps - (⟨vs⟩ : Array Value).size) undef, defers := [] } w ρ := by
    refine ⟨m, .nil _ _ _, ?_, fun t => ?_, fun v hv _ => hv, (fun _ _ h => by cases h), (fun _ h => by cases h), (fun h => by cases h)⟩
    · simp only [start, Array.size_append, List.size_toArray, Array.size_replicate, List.length_append, List.length_replicate, hd.1]
    · simp only [start]
      rw [getN_eq]
      by_cases ht : t < ct.args.length
      · have ht' : t < vs.length := by rw [← hd.1]; exact ht
        rw [List.getElem?_append_left ht, List.getElem?_eq_getElem ht]
        have : ((⟨vs⟩ : Array Value) ++ Array.replicate (fn.ntmps - (⟨vs⟩ : Array Value).size) undef).getD t undef = vs[t] := by
          simp [Array.getElem?_append, ht']
        rw [this]
        exact hd.2 t _ _ (List.getElem?_eq_getElem ht) (List.getElem?_eq_getElem ht')
      · rw [List.getElem?_append_right (by omega), List.getElem?_replicate]
        split <;> exact .any _ _
  have fin0 : ∀ (s : St) (a : Act) (w' : World) (ρ1 : Env), retQ T fn.resultTypes.toList fn.results.toList s ct → Rep T N w X ⟨ρ 0, fun _ => none, none, false⟩ s a w' ρ1 →
      ∃ v, (results fn a.tmps).run P w' = .ok v w' ∧ ∃ v' ρ', Ending.returned v = .returned v' ∧ MRep T N w w' X (outM ct) ρ' ∧ ρ' 0 = ρ 0 ∧ Den w' (Forb X (outM ct) ρ') ρ' ct.r v' := by
    intro s a w' ρ1 hq hr
    obtain ⟨ρ2, hr2⟩ := (endS_sub (T := T) fn.results.toList (isNew ct.new) s).h _ _ _ _ _ _ _ hr
    obtain ⟨v, ρ', h1, h2, h3, h4, h5⟩ := ret_ok tab hr2 rfl hq
    refine ⟨v, h1, v, ρ', rfl, h2, ?_, h3⟩
    have hm0 := m.some0 0
    rw [getM_in, if_pos rfl] at hm0
    cases hl : ct.lent with
    | none =>
      rw [h5 hl, hm0.1 (by rw [hl]; rfl)]
    | some p =>
      cases h0 : ρ 0 with
      | none => have := hm0.2 h0; rw [hl] at this; cases this
      | some u => exact h4 u h0 (by rw [hl]; rfl)
  have fin1 : ∀ (Ds : List Nat) (s : St) (a : Act) (w' : World) (ρ1 : Env), retQ T fn.resultTypes.toList fn.results.toList s ct → Rep T N w X ⟨ρ 0, fun _ => none, none, false⟩ s a w' ρ1 → a.defers = Ds.map (fun D => { target := .collected D, args := #[] }) → Ds.Nodup →
      (∀ D ∈ Ds, N D ∧ ¬ Forb X s.mem ρ1 D ∧ w'.heap[D]? = some (.deferred (some []))) →
      LeavesInM Fence.wide 1 P fn a.tmps (fun e w' => ∃ v' ρ', e = .returned v' ∧ MRep T N w w' X (outM ct) ρ' ∧ ρ' 0 = ρ 0 ∧ Den w' (Forb X (outM ct) ρ') ρ' ct.r v') a.defers .returning w' := by
    intro Ds
    induction Ds with
    | nil =>
      intro s a w' ρ1 hq hr hd _ _
      rw [hd]
      exact fin0 s a w' ρ1 hq hr
    | cons D Ds ih =>
      intro s a w' ρ1 hq hr hd hnd hk
      rw [hd]
      obtain ⟨k1, k2, k3⟩ := hk D (by simp)
      have hne : ∀ q ∈ Ds, q ≠ D := by rintro q hq rfl; exact (List.nodup_cons.1 hnd).1 hq
      have hk2 : ∀ q ∈ Ds, N q ∧ ¬ Forb X s.mem ρ1 q ∧ (w'.putObj D (.deferred none)).heap[q]? = some (.deferred (some [])) := fun q hq => by
        obtain ⟨g1, g2, g3⟩ := hk q (by simp [hq])
        exact ⟨g1, g2, (World.putObj_heap_other (hne q hq)).trans g3⟩
      have hr2 := hr.putObj k3 rfl k1 k2 (.deferred none) (ds := Ds.map (fun D => { target := .collected D, args := #[] })) ⟨Ds, rfl, (List.nodup_cons.1 hnd).2, hk2⟩ (fun h => by cases h)
      exact ⟨by simp, .inl ⟨D, _, rfl, run_takeDeferred k3, ih s _ _ ρ1 hq hr2 rfl (List.nodup_cons.1 hnd).2 hk2⟩⟩
  have fin : ∀ (s : St) (a : Act) (w' : World) (ρ1 : Env), retQ T fn.resultTypes.toList fn.results.toList s ct → Rep T N w X ⟨ρ 0, fun _ => none, none, false⟩ s a w' ρ1 →
      LeavesInM Fence.wide 1 P fn a.tmps (fun e w' => ∃ v' ρ', e = .returned v' ∧ MRep T N w w' X (outM ct) ρ' ∧ ρ' 0 = ρ 0 ∧ Den w' (Forb X (outM ct) ρ') ρ' ct.r v') a.defers .returning w' := by
    intro s a w' ρ1 hq hr
    obtain ⟨Ds, h1, h2, h3⟩ := hr.defers.h
    exact fin1 Ds s a w' ρ1 hq hr h1 h2 h3
  exact swp_sound tab hG hmix c N w X _ _ _ _ _ w ρ hok h hrep (fun s a w' ρ1 hq hr => fin s a w' ρ1 hq hr) (fun s a w' ρ1 hq hr => fin s a w' ρ1 hq hr) (fun i s a w' ρ hq => hq.elim) (fun _ _ => rfl) none 1 (.inl ⟨rfl, rfl⟩)

def putNs : List (Nat × SV) → List SV → List SV
  | [], l => l
  | (d, x) :: ds, l => putNs ds (setN x l d)
def killM (D : List Nat) : Mem → Mem
  | [] => []
  | (k, b) :: m => (match b with
    | .no => killM D m
    | b => if memB k D then killM D m else (k, b) :: killM D m)
def putMs : List (Nat × Blk) → Mem → Mem
  | [], m => m
  | (d, x) :: ds, m => putMs ds (setM x m d)
def loopSt (c : Code) (s : St) (u : List (Nat × SV)) (v : List (Nat × Blk)) : St :=
  ⟨putNs u (killN (assignedC c) s.slots), putMs v (killM (assignedC c) s.mem)⟩
def nilL : List SV → List SV → List SV
  | .lst sh _ :: ys, .nil :: xs => .lst sh [] :: nilL ys xs
  | _ :: ys, x :: xs => x :: nilL ys xs
  | _, xs => xs
def nilH : List SV → List SV → Bool
  | .lst _ _ :: _, .nil :: _ => true
  | _ :: ys, _ :: xs => nilH ys xs
  | _, _ => false
def fitN (k : Nat) (b : Blk) (s : St) : St :=
  match b, getM s.mem k with
  | .chunk _ (.agg ys), .chunk t (.agg xs) => if nilH ys xs then ⟨s.slots, setM (.chunk t (.agg (nilL ys xs))) s.mem k⟩ else s
  | _, _ => s
theorem nilL_den {w : World} {Y : Nat → Prop} {ρ : Env} : ∀ (ys xs : List SV) (us : List Value), DenL w Y ρ xs us → DenL w Y ρ (nilL ys xs) us
  | [], xs, us, h => by unfold nilL; exact h
  | y :: ys, [], us, h => by cases y <;> exact h
  | y :: ys, x :: xs, [], h => by have := h.1; simp at this
  | y :: ys, x :: xs, u :: us, h => by
    have ih := nilL_den ys xs us ⟨by have := h.1; simpa using this, fun i x u hx hu => h.2 (i + 1) x u hx hu⟩
    have cons : ∀ x', Den w Y ρ x' u → DenL w Y ρ (x' :: nilL ys xs) (u :: us) := fun x' hx' => ⟨by simp [ih.1], fun i z v hz hv => by
      cases i with
      | zero => simp at hz hv; subst hz; subst hv; exact hx'
      | succ i => exact ih.2 i z v (by simpa using hz) (by simpa using hv)⟩
    have h0 := h.2 0 x u rfl rfl
    have keep : DenL w Y ρ (x :: nilL ys xs) (u :: us) := cons x h0
    cases y with
    | lst sh l =>
      cases x with
      | nil =>
        refine cons _ ?_
        generalize u = v at h0
        cases h0
        exact .lst0 _ _ _ _
      | _ => exact keep
    | _ => exact keep
theorem MRep.weakC {N : Nat → Prop} {w0 w : World} {X : Nat → Prop} {mem : Mem} {ρ : Env} (m : MRep T N w0 w X mem ρ) {k t : Nat} {xs xs' : List SV} (hk : getM mem k = .chunk t (.agg xs)) (hw : ∀ (us : List Value), DenL w (Forb X mem ρ) ρ xs us → DenL w (Forb X mem ρ) ρ xs' us) :
    MRep T N w0 w X (setM (.chunk t (.agg xs')) mem k) ρ ∧ Forb X (setM (.chunk t (.agg xs')) mem k) ρ = Forb X mem ρ := by
  have ho : ∀ r, (getM (setM (.chunk t (.agg xs')) mem k) r).own = (getM mem r).own := fun r => by
    rw [getM_setM]
    by_cases h : r = k
    · subst h; rw [if_pos rfl, hk]; rfl
    · rw [if_neg h]
  have hF : Forb X (setM (.chunk t (.agg xs')) mem k) ρ = Forb X mem ρ := by
    funext b
    simp only [Forb, owned, ho]
  refine ⟨⟨m.low, m.below, m.szN, fun r => ?_, fun r r' v v' b g1 g2 => ?_, ?_⟩, hF⟩
  · rw [hF, getM_setM]
    by_cases h : r = k
    · subst h
      rw [if_pos rfl]
      have hb := m.blk r
      rw [hk] at hb
      obtain ⟨i, b, us, ty, h1, h2, h3, h4, h5, h6, h7⟩ := hb
      refine ⟨i, b, us, ty, h1, h2, h3, h4, h5, h6, ?_⟩
      obtain ⟨cs, hv, hc⟩ := Den.agg_iff.1 h7
      exact Den.agg_iff.2 ⟨cs, hv, hw _ hc⟩
    · rw [if_neg h]; exact m.blk r
  · rw [ho] at g1 g2
    exact m.inj r r' v v' b g1 g2
  · rw [hF]; exact m.gl
theorem fitN_sub (k : Nat) (b : Blk) (s : St) : Sub T s (fitN k b s) := ⟨fun N w0 X z a w ρ hr => by
  unfold fitN
  split
  case h_2 => exact ⟨ρ, hr⟩
  rename_i ys t xs hk
  split
  case isFalse => exact ⟨ρ, hr⟩
  obtain ⟨m', hF⟩ := hr.m.weakC hk (xs' := nilL ys xs) (fun us => nilL_den ys xs us)
  refine ⟨ρ, ⟨m', by rw [hF]; exact hr.defers, hr.size, fun t => by rw [hF]; exact hr.slot t, anch_turn hr.m m' hr.anch (.inr rfl), hr.fix, hr.len, hr.nod⟩⟩⟩
def nilT (t : Nat) (sh : Option Nat) (s : St) : St :=
  match getN .any s.slots t with
  | .nil => if Nat.blt t s.slots.length then ⟨setN (.lst sh []) s.slots t, s.mem⟩ else s
  | _ => s
theorem nilT_sub (t : Nat) (sh : Option Nat) (s : St) : Sub T s (nilT t sh s) := ⟨fun N w0 X z a w ρ hr => by
  unfold nilT
  split
  case h_2 => exact ⟨ρ, hr⟩
  rename_i ht
  split
  case isFalse => exact ⟨ρ, hr⟩
  rename_i hc
  simp only [Nat.blt_eq] at hc
  refine ⟨ρ, ⟨hr.m, hr.defers, by rw [hr.size]; simp [setN_length], fun k => ?_, hr.anch, hr.fix, hr.len, hr.nod⟩⟩
  simp only
  rw [getN_setN _ _ _ _ _ hc]
  by_cases hk : k = t
  · subst hk
    rw [if_pos rfl]
    have := hr.slot k
    rw [ht] at this
    generalize a.tmps.getD k undef = v at this
    cases this
    exact .lst0 _ _ _ _
  · rw [if_neg hk]
    exact hr.slot k⟩
noncomputable def fit1 (v : List (Nat × Blk)) (t : Nat) (y : SV) (s : St) : St :=
  match y, getN .any s.slots t with
  | .row q, .row p => if Nat.beq p q || Nat.beq p 0 || Nat.beq q 0 then s else swS p q s
  | .ptr q _, .ptr p _ => if Nat.beq p q || Nat.beq p 0 || Nat.beq q 0 then s else swS p q s
  | .row q, .nil => (match getM v q with | .row sh e _ => adopt t q sh e s | _ => s)
  | .rsl q _ _ _ _, .row p => asRsl t (if Nat.beq p q || Nat.beq p 0 || Nat.beq q 0 then s else swS p q s)
  | .rsl q _ _ _ _, .rsl p _ _ _ _ => if Nat.beq p q || Nat.beq p 0 || Nat.beq q 0 then s else swS p q s
  | .lst sh _, .nil => nilT t sh s
  | _, _ => s
noncomputable def fitU (v : List (Nat × Blk)) : List (Nat × SV) → St → St
  | [], s => s
  | (t, y) :: u, s => fitU v u (fit1 v t y s)
def sw1 (y x : SV) (s : St) : St :=
  match y, x with
  | .row q, .row p => if Nat.beq p q || Nat.beq p 0 || Nat.beq q 0 then s else swS p q s
  | _, _ => s
def fit2 : List SV → List SV → St → St
  | y :: ys, x :: xs, s => fit2 ys xs (sw1 y x s)
  | [], _, s => s
  | _ :: _, [], s => s
noncomputable def fitB (k : Nat) (b : Blk) (s : St) : St :=
  match b, getM s.mem k with
  | .chunk _ (.agg ys), .chunk _ (.agg xs) => fit2 ys xs s
  | .row _ _ _, .rowx _ _ _ _ => unXs k s
  | .rowx _ _ _ y, .rowx _ _ _ x => sw1 y x s
  | _, _ => s
noncomputable def fitM : List (Nat × Blk) → St → St
  | [], s => s
  | (k, b) :: v, s => fitM v (fitN k b (fitB k b s))
noncomputable def fitS (u : List (Nat × SV)) (v : List (Nat × Blk)) (s : St) : St := fitM v (fitU v u s)
theorem swS_sub' (p q : Nat) (s : St) : Sub T s (if Nat.beq p q || Nat.beq p 0 || Nat.beq q 0 then s else swS p q s) := by
  split
  · exact .refl s
  · rename_i h
    simp only [Bool.or_eq_true, nbeq, not_or] at h
    exact swS_sub p q s h.1.2 h.2
theorem fit1_sub (v : List (Nat × Blk)) (t : Nat) (y : SV) (s : St) : Sub T s (fit1 v t y s) := by
  unfold fit1
  split
  · exact swS_sub' _ _ s
  · exact swS_sub' _ _ s
  · split
    · exact adopt_sub _ _ _ _ s
    · exact .refl s
  · exact (swS_sub' _ _ s).trans (asRsl_sub _ _)
  · exact swS_sub' _ _ s
  · exact nilT_sub _ _ s
  · exact .refl s
theorem fitU_sub (v : List (Nat × Blk)) : ∀ (u : List (Nat × SV)) (s : St), Sub T s (fitU v u s)
  | [], s => .refl s
  | (t, y) :: u, s => (fit1_sub v t y s).trans (fitU_sub v u _)
theorem sw1_sub (y x : SV) (s : St) : Sub T s (sw1 y x s) := by
  unfold sw1
  split
  · exact swS_sub' _ _ s
  · exact .refl s
theorem fit2_sub : ∀ (ys xs : List SV) (s : St), Sub T s (fit2 ys xs s)
  | [], xs, s => by simp only [fit2]; exact .refl s
  | y :: ys, [], s => by simp only [fit2]; exact .refl s
  | y :: ys, x :: xs, s => by
    simp only [fit2]
    exact (sw1_sub y x s).trans (fit2_sub ys xs _)
theorem fitB_sub (k : Nat) (b : Blk) (s : St) : Sub T s (fitB k b s) := by
  unfold fitB
  split
  · exact fit2_sub _ _ s
  · exact unXs_sub k s
  · exact sw1_sub _ _ s
  · exact .refl s
theorem fitM_sub : ∀ (v : List (Nat × Blk)) (s : St), Sub T s (fitM v s)
  | [], s => .refl s
  | (k, b) :: v, s => ((fitB_sub k b s).trans (fitN_sub k b _)).trans (fitM_sub v _)
theorem fitS_sub (u : List (Nat × SV)) (v : List (Nat × Blk)) (s : St) : Sub T s (fitS u v s) := (fitU_sub v u s).trans (fitM_sub v _)

theorem loopQ {c : Code} {s : St} {K : Ks} {A : Type} (I : A → Prop) (μ : A → Nat) (u : A → List (Nat × SV)) (v : A → List (Nat × Blk)) (i0 : A) (h0 : I i0)
    (hs : WeakSt (fitS (u i0) (v i0) s) (loopSt c (fitS (u i0) (v i0) s) (u i0) (v i0)))
    (hr : ∀ i, I i → swp T G c (loopSt c (fitS (u i0) (v i0) s) (u i) (v i)) ⟨fun s' => ∃ j, I j ∧ μ j < μ i ∧ WeakSt (fitS (u j) (v j) s') (loopSt c (fitS (u i0) (v i0) s) (u j) (v j)), K.r, K.e⟩) : LoopQ T (fun s K => swp T G c s K) s K := by
  exact ⟨⟨A, I, μ, fun i => loopSt c (fitS (u i0) (v i0) s) (u i) (v i), fun i s s' => WeakSt (fitS (u i) (v i) s) s', fun i s s' h => (fitS_sub (u i) (v i) s).trans (weak_sub h), ⟨i0, h0, hs⟩, hr⟩⟩
def rangeSt (asg : List Nat) (s : St) (u : List (Nat × SV)) (v : List (Nat × Blk)) : St := ⟨putNs u (killN asg s.slots), putMs v (killM asg s.mem)⟩
theorem rangeQ {FA FB : St → Ks → Prop} {asg ps : List Nat} {f : Nat} {caps : List SV} {s : St} {K : Ks} (xs : List (List SV)) (hg : G f (seqC caps xs)) (hx : ∀ x ∈ xs, x.length = ps.length ∧ datas x = true) {A : Type} (I : A → Prop) (pos : A → Nat) (u : A → List (Nat × SV)) (v : A → List (Nat × Blk)) (i0 : A) (h0 : I i0 ∧ pos i0 = 0)
    (hs : WeakSt (fitS (u i0) (v i0) (kill asg s)) (rangeSt asg (fitS (u i0) (v i0) (kill asg s)) (u i0) (v i0)))
    (hr : ∀ i x, I i → xs[pos i]? = some x → FA ⟨putZ ps x (rangeSt asg (fitS (u i0) (v i0) (kill asg s)) (u i) (v i)).slots, (rangeSt asg (fitS (u i0) (v i0) (kill asg s)) (u i) (v i)).mem⟩
      ⟨fun s1 => FB s1 ⟨fun s' => ∃ j, I j ∧ pos j = pos i + 1 ∧ WeakSt (fitS (u j) (v j) (kill asg s')) (rangeSt asg (fitS (u i0) (v i0) (kill asg s)) (u j) (v j)), fun s' => K.r (kill asg s'), fun id s' => K.e id (kill asg s')⟩, fun _ => False, fun _ _ => False⟩)
    (hd : ∀ i, I i → pos i = xs.length → K.n (rangeSt asg (fitS (u i0) (v i0) (kill asg s)) (u i) (v i))) : RangeQ T G FA FB asg ps f caps s K :=
  ⟨⟨xs, hg, hx, A, I, pos, fun i => rangeSt asg (fitS (u i0) (v i0) (kill asg s)) (u i) (v i), fun i s s' => WeakSt (fitS (u i) (v i) s) s', fun i s s' h => (fitS_sub (u i) (v i) s).trans (weak_sub h), ⟨i0, h0.1, h0.2, hs⟩, hr, hd⟩⟩
end Go.Proofs.Ytjhicdoigllblaa
namespace Go.Proofs.Ytjhicdoigllblaa
set_option linter.unusedVariables false
set_option linter.unusedSimpArgs false

def tinfo (t : Nat) : Option TI := match t with
  | 2 => some ⟨.int .i64, 1, 8, .int .i64 0⟩  -- int64
  | 3 => some ⟨.int .i64, 1, 8, .int .i64 0⟩  -- int
  | 4 => some ⟨.bool, 1, 1, .bool false⟩  -- bool
  | 5 => some ⟨.int .u8, 1, 1, .int .u8 0⟩  -- uint8
  | 9 => some ⟨.string, 1, 16, .str .empty⟩  -- string
  | 21 => some ⟨.int .i32, 1, 4, .int .i32 0⟩  -- int32
  | 22 => some ⟨.slice 26, 1, 24, .nil⟩  -- [][]uint8
  | 23 => some ⟨.int .u32, 1, 4, .int .u32 0⟩  -- uint32
  | 24 => some ⟨.struct [(0, 3), (1, 5), (2, 22), (3, 23), (4, 3), (5, 3)], 6, 64, .agg [.int .i64 0, .int .u8 0, .nil, .int .u32 0, .int .i64 0, .int .i64 0]⟩  -- struct { State int; Tag uint8; Pieces [][]uint8; Acked uint32; Round int; Until int }
  | 25 => some ⟨.struct [(0, 3), (1, 5), (2, 22), (3, 23), (4, 3), (5, 3)], 6, 64, .agg [.int .i64 0, .int .u8 0, .nil, .int .u32 0, .int .i64 0, .int .i64 0]⟩  -- api.Sender
  | 26 => some ⟨.slice 5, 1, 24, .nil⟩  -- []uint8
  | 27 => some ⟨.slice 3, 1, 24, .nil⟩  -- []int
  | 32 => some ⟨.int .u64, 1, 8, .int .u64 0⟩  -- uint
  | 35 => some ⟨.slice 25, 1, 24, .nil⟩  -- []api.Sender
  | 36 => some ⟨.slice 51, 1, 24, .nil⟩  -- []api.Piece
  | 37 => some ⟨.int .i64, 1, 8, .int .i64 0⟩  -- api.Errno
  | 50 => some ⟨.struct [(0, 5), (1, 3), (2, 3), (3, 4), (4, 26)], 5, 56, .agg [.int .u8 0, .int .i64 0, .int .i64 0, .bool false, .nil]⟩  -- struct { Tag uint8; Number int; Count int; Ack bool; Data []uint8 }
  | 51 => some ⟨.struct [(0, 5), (1, 3), (2, 3), (3, 4), (4, 26)], 5, 56, .agg [.int .u8 0, .int .i64 0, .int .i64 0, .bool false, .nil]⟩  -- api.Piece
  | 54 => some ⟨.struct [(0, 5), (1, 3), (2, 22), (3, 23), (4, 4)], 5, 48, .agg [.int .u8 0, .int .i64 0, .nil, .int .u32 0, .bool false]⟩  -- struct { Tag uint8; Count int; Pieces [][]uint8; Have uint32; Done bool }
  | 55 => some ⟨.struct [(0, 5), (1, 3), (2, 22), (3, 23), (4, 4)], 5, 48, .agg [.int .u8 0, .int .i64 0, .nil, .int .u32 0, .bool false]⟩  -- api.Receiver
  | 58 => some ⟨.slice 55, 1, 24, .nil⟩  -- []api.Receiver
  | 80 => some ⟨.struct [(0, 27), (1, 3)], 2, 32, .agg [.nil, .int .i64 0]⟩  -- struct { l []int; at int }
  | 81 => some ⟨.struct [(0, 27), (1, 3)], 2, 32, .agg [.nil, .int .i64 0]⟩  -- multihopmade.Tape
  | 82 => some ⟨.int .u64, 1, 8, .int .u64 0⟩  -- uint64
  | 92 => some ⟨.array 5 5, 5, 5, .agg [.int .u8 0, .int .u8 0, .int .u8 0, .int .u8 0, .int .u8 0]⟩  -- [5]uint8
  | _ => none

theorem tok2 : TOk Try.prog 2 ⟨.int .i64, 1, 8, .int .i64 0⟩ := ⟨by kernel_rfl, by kernel_rfl, ⟨.int .i64 0, by kernel_rfl, by kernel_rfl, by kernel_rfl, by kernel_rfl, ⟨fun h => (by obtain ⟨_, h⟩ := h; cases h), fun h => (by cases h)⟩⟩⟩
theorem tok3 : TOk Try.prog 3 ⟨.int .i64, 1, 8, .int .i64 0⟩ := ⟨by kernel_rfl, by kernel_rfl, ⟨.int .i64 0, by kernel_rfl, by kernel_rfl, by kernel_rfl, by kernel_rfl, ⟨fun h => (by obtain ⟨_, h⟩ := h; cases h), fun h => (by cases h)⟩⟩⟩
theorem tok4 : TOk Try.prog 4 ⟨.bool, 1, 1, .bool false⟩ := ⟨by kernel_rfl, by kernel_rfl, ⟨.bool false, by kernel_rfl, by kernel_rfl, by kernel_rfl, by kernel_rfl, ⟨fun h => (by obtain ⟨_, h⟩ := h; cases h), fun h => (by cases h)⟩⟩⟩
theorem tok5 : TOk Try.prog 5 ⟨.int .u8, 1, 1, .int .u8 0⟩ := ⟨by kernel_rfl, by kernel_rfl, ⟨.int .u8 0, by kernel_rfl, by kernel_rfl, by kernel_rfl, by kernel_rfl, ⟨fun h => (by obtain ⟨_, h⟩ := h; cases h), fun h => (by cases h)⟩⟩⟩
theorem tok9 : TOk Try.prog 9 ⟨.string, 1, 16, .str .empty⟩ := ⟨by kernel_rfl, by kernel_rfl, ⟨.string .empty, by kernel_rfl, by kernel_rfl, by kernel_rfl, by kernel_rfl, ⟨fun h => (by obtain ⟨_, h⟩ := h; cases h), fun h => (by cases h)⟩⟩⟩
theorem tok21 : TOk Try.prog 21 ⟨.int .i32, 1, 4, .int .i32 0⟩ := ⟨by kernel_rfl, by kernel_rfl, ⟨.int .i32 0, by kernel_rfl, by kernel_rfl, by kernel_rfl, by kernel_rfl, ⟨fun h => (by obtain ⟨_, h⟩ := h; cases h), fun h => (by cases h)⟩⟩⟩
theorem tok22 : TOk Try.prog 22 ⟨.slice 26, 1, 24, .nil⟩ := ⟨by kernel_rfl, by kernel_rfl, ⟨.slice none 0 0, by kernel_rfl, by kernel_rfl, by kernel_rfl, by kernel_rfl, ⟨fun h => (by obtain ⟨_, h⟩ := h; cases h), fun h => (by cases h)⟩⟩⟩
theorem tok23 : TOk Try.prog 23 ⟨.int .u32, 1, 4, .int .u32 0⟩ := ⟨by kernel_rfl, by kernel_rfl, ⟨.int .u32 0, by kernel_rfl, by kernel_rfl, by kernel_rfl, by kernel_rfl, ⟨fun h => (by obtain ⟨_, h⟩ := h; cases h), fun h => (by cases h)⟩⟩⟩
theorem tok24 : TOk Try.prog 24 ⟨.struct [(0, 3), (1, 5), (2, 22), (3, 23), (4, 3), (5, 3)], 6, 64, .agg [.int .i64 0, .int .u8 0, .nil, .int .u32 0, .int .i64 0, .int .i64 0]⟩ := ⟨by kernel_rfl, by kernel_rfl, ⟨.agg #[.int .i64 0, .int .u8 0, .slice none 0 0, .int .u32 0, .int .i64 0, .int .i64 0], by kernel_rfl, by kernel_rfl, by kernel_rfl, by kernel_rfl, ⟨fun _ => rfl, fun _ => ⟨_, rfl⟩⟩⟩⟩
theorem tcmp24 : Try.prog.stoodInHeld 24 = false ∧ Try.prog.eqGuardType Try.prog.depth 24 = false ∧ ∀ fs, Try.prog.underlying 24 = some (.struct fs) → (fs.toList.all fun f => f.name != "_") = true := ⟨by kernel_rfl, by kernel_rfl, fun fs h => by rw [Try.underlying24] at h; first | (injection h with h; injection h with h; subst h; rfl) | cases h⟩
theorem tok25 : TOk Try.prog 25 ⟨.struct [(0, 3), (1, 5), (2, 22), (3, 23), (4, 3), (5, 3)], 6, 64, .agg [.int .i64 0, .int .u8 0, .nil, .int .u32 0, .int .i64 0, .int .i64 0]⟩ := ⟨by kernel_rfl, by kernel_rfl, ⟨.agg #[.int .i64 0, .int .u8 0, .slice none 0 0, .int .u32 0, .int .i64 0, .int .i64 0], by kernel_rfl, by kernel_rfl, by kernel_rfl, by kernel_rfl, ⟨fun _ => rfl, fun _ => ⟨_, rfl⟩⟩⟩⟩
theorem tcmp25 : Try.prog.stoodInHeld 25 = false ∧ Try.prog.eqGuardType Try.prog.depth 25 = false ∧ ∀ fs, Try.prog.underlying 25 = some (.struct fs) → (fs.toList.all fun f => f.name != "_") = true := ⟨by kernel_rfl, by kernel_rfl, fun fs h => by rw [Try.underlying25] at h; first | (injection h with h; injection h with h; subst h; rfl) | cases h⟩
theorem tok26 : TOk Try.prog 26 ⟨.slice 5, 1, 24, .nil⟩ := ⟨by kernel_rfl, by kernel_rfl, ⟨.slice none 0 0, by kernel_rfl, by kernel_rfl, by kernel_rfl, by kernel_rfl, ⟨fun h => (by obtain ⟨_, h⟩ := h; cases h), fun h => (by cases h)⟩⟩⟩
theorem tok27 : TOk Try.prog 27 ⟨.slice 3, 1, 24, .nil⟩ := ⟨by kernel_rfl, by kernel_rfl, ⟨.slice none 0 0, by kernel_rfl, by kernel_rfl, by kernel_rfl, by kernel_rfl, ⟨fun h => (by obtain ⟨_, h⟩ := h; cases h), fun h => (by cases h)⟩⟩⟩
theorem tok32 : TOk Try.prog 32 ⟨.int .u64, 1, 8, .int .u64 0⟩ := ⟨by kernel_rfl, by kernel_rfl, ⟨.int .u64 0, by kernel_rfl, by kernel_rfl, by kernel_rfl, by kernel_rfl, ⟨fun h => (by obtain ⟨_, h⟩ := h; cases h), fun h => (by cases h)⟩⟩⟩
theorem tok35 : TOk Try.prog 35 ⟨.slice 25, 1, 24, .nil⟩ := ⟨by kernel_rfl, by kernel_rfl, ⟨.slice none 0 0, by kernel_rfl, by kernel_rfl, by kernel_rfl, by kernel_rfl, ⟨fun h => (by obtain ⟨_, h⟩ := h; cases h), fun h => (by cases h)⟩⟩⟩
theorem tok36 : TOk Try.prog 36 ⟨.slice 51, 1, 24, .nil⟩ := ⟨by kernel_rfl, by kernel_rfl, ⟨.slice none 0 0, by kernel_rfl, by kernel_rfl, by kernel_rfl, by kernel_rfl, ⟨fun h => (by obtain ⟨_, h⟩ := h; cases h), fun h => (by cases h)⟩⟩⟩
theorem tok37 : TOk Try.prog 37 ⟨.int .i64, 1, 8, .int .i64 0⟩ := ⟨by kernel_rfl, by kernel_rfl, ⟨.int .i64 0, by kernel_rfl, by kernel_rfl, by kernel_rfl, by kernel_rfl, ⟨fun h => (by obtain ⟨_, h⟩ := h; cases h), fun h => (by cases h)⟩⟩⟩
theorem tok50 : TOk Try.prog 50 ⟨.struct [(0, 5), (1, 3), (2, 3), (3, 4), (4, 26)], 5, 56, .agg [.int .u8 0, .int .i64 0, .int .i64 0, .bool false, .nil]⟩ := ⟨by kernel_rfl, by kernel_rfl, ⟨.agg #[.int .u8 0, .int .i64 0, .int .i64 0, .bool false, .slice none 0 0], by kernel_rfl, by kernel_rfl, by kernel_rfl, by kernel_rfl, ⟨fun _ => rfl, fun _ => ⟨_, rfl⟩⟩⟩⟩
theorem tcmp50 : Try.prog.stoodInHeld 50 = false ∧ Try.prog.eqGuardType Try.prog.depth 50 = false ∧ ∀ fs, Try.prog.underlying 50 = some (.struct fs) → (fs.toList.all fun f => f.name != "_") = true := ⟨by kernel_rfl, by kernel_rfl, fun fs h => by rw [Try.underlying50] at h; first | (injection h with h; injection h with h; subst h; rfl) | cases h⟩
theorem tok51 : TOk Try.prog 51 ⟨.struct [(0, 5), (1, 3), (2, 3), (3, 4), (4, 26)], 5, 56, .agg [.int .u8 0, .int .i64 0, .int .i64 0, .bool false, .nil]⟩ := ⟨by kernel_rfl, by kernel_rfl, ⟨.agg #[.int .u8 0, .int .i64 0, .int .i64 0, .bool false, .slice none 0 0], by kernel_rfl, by kernel_rfl, by kernel_rfl, by kernel_rfl, ⟨fun _ => rfl, fun _ => ⟨_, rfl⟩⟩⟩⟩
theorem tcmp51 : Try.prog.stoodInHeld 51 = false ∧ Try.prog.eqGuardType Try.prog.depth 51 = false ∧ ∀ fs, Try.prog.underlying 51 = some (.struct fs) → (fs.toList.all fun f => f.name != "_") = true := ⟨by kernel_rfl, by kernel_rfl, fun fs h => by rw [Try.underlying51] at h; first | (injection h with h; injection h with h; subst h; rfl) | cases h⟩
theorem tok54 : TOk Try.prog 54 ⟨.struct [(0, 5), (1, 3), (2, 22), (3, 23), (4, 4)], 5, 48, .agg [.int .u8 0, .int .i64 0, .nil, .int .u32 0, .bool false]⟩ := ⟨by kernel_rfl, by kernel_rfl, ⟨.agg #[.int .u8 0, .int .i64 0, .slice none 0 0, .int .u32 0, .bool false], by kernel_rfl, by kernel_rfl, by kernel_rfl, by kernel_rfl, ⟨fun _ => rfl, fun _ => ⟨_, rfl⟩⟩⟩⟩
theorem tcmp54 : Try.prog.stoodInHeld 54 = false ∧ Try.prog.eqGuardType Try.prog.depth 54 = false ∧ ∀ fs, Try.prog.underlying 54 = some (.struct fs) → (fs.toList.all fun f => f.name != "_") = true := ⟨by kernel_rfl, by kernel_rfl, fun fs h => by rw [Try.underlying54] at h; first | (injection h with h; injection h with h; subst h; rfl) | cases h⟩
theorem tok55 : TOk Try.prog 55 ⟨.struct [(0, 5), (1, 3), (2, 22), (3, 23), (4, 4)], 5, 48, .agg [.int .u8 0, .int .i64 0, .nil, .int .u32 0, .bool false]⟩ := ⟨by kernel_rfl, by kernel_rfl, ⟨.agg #[.int .u8 0, .int .i64 0, .slice none 0 0, .int .u32 0, .bool false], by kernel_rfl, by kernel_rfl, by kernel_rfl, by kernel_rfl, ⟨fun _ => rfl, fun _ => ⟨_, rfl⟩⟩⟩⟩
theorem tcmp55 : Try.prog.stoodInHeld 55 = false ∧ Try.prog.eqGuardType Try.prog.depth 55 = false ∧ ∀ fs, Try.prog.underlying 55 = some (.struct fs) → (fs.toList.all fun f => f.name != "_") = true := ⟨by kernel_rfl, by kernel_rfl, fun fs h => by rw [Try.underlying55] at h; first | (injection h with h; injection h with h; subst h; rfl) | cases h⟩
theorem tok58 : TOk Try.prog 58 ⟨.slice 55, 1, 24, .nil⟩ := ⟨by kernel_rfl, by kernel_rfl, ⟨.slice none 0 0, by kernel_rfl, by kernel_rfl, by kernel_rfl, by kernel_rfl, ⟨fun h => (by obtain ⟨_, h⟩ := h; cases h), fun h => (by cases h)⟩⟩⟩
theorem tok80 : TOk Try.prog 80 ⟨.struct [(0, 27), (1, 3)], 2, 32, .agg [.nil, .int .i64 0]⟩ := ⟨by kernel_rfl, by kernel_rfl, ⟨.agg #[.slice none 0 0, .int .i64 0], by kernel_rfl, by kernel_rfl, by kernel_rfl, by kernel_rfl, ⟨fun _ => rfl, fun _ => ⟨_, rfl⟩⟩⟩⟩
theorem tcmp80 : Try.prog.stoodInHeld 80 = false ∧ Try.prog.eqGuardType Try.prog.depth 80 = false ∧ ∀ fs, Try.prog.underlying 80 = some (.struct fs) → (fs.toList.all fun f => f.name != "_") = true := ⟨by kernel_rfl, by kernel_rfl, fun fs h => by rw [Try.underlying80] at h; first | (injection h with h; injection h with h; subst h; rfl) | cases h⟩
theorem tok81 : TOk Try.prog 81 ⟨.struct [(0, 27), (1, 3)], 2, 32, .agg [.nil, .int .i64 0]⟩ := ⟨by kernel_rfl, by kernel_rfl, ⟨.agg #[.slice none 0 0, .int .i64 0], by kernel_rfl, by kernel_rfl, by kernel_rfl, by kernel_rfl, ⟨fun _ => rfl, fun _ => ⟨_, rfl⟩⟩⟩⟩
theorem tcmp81 : Try.prog.stoodInHeld 81 = false ∧ Try.prog.eqGuardType Try.prog.depth 81 = false ∧ ∀ fs, Try.prog.underlying 81 = some (.struct fs) → (fs.toList.all fun f => f.name != "_") = true := ⟨by kernel_rfl, by kernel_rfl, fun fs h => by rw [Try.underlying81] at h; first | (injection h with h; injection h with h; subst h; rfl) | cases h⟩
theorem tok82 : TOk Try.prog 82 ⟨.int .u64, 1, 8, .int .u64 0⟩ := ⟨by kernel_rfl, by kernel_rfl, ⟨.int .u64 0, by kernel_rfl, by kernel_rfl, by kernel_rfl, by kernel_rfl, ⟨fun h => (by obtain ⟨_, h⟩ := h; cases h), fun h => (by cases h)⟩⟩⟩
theorem tok92 : TOk Try.prog 92 ⟨.array 5 5, 5, 5, .agg [.int .u8 0, .int .u8 0, .int .u8 0, .int .u8 0, .int .u8 0]⟩ := ⟨by kernel_rfl, by kernel_rfl, ⟨.agg #[.int .u8 0, .int .u8 0, .int .u8 0, .int .u8 0, .int .u8 0], by kernel_rfl, by kernel_rfl, by kernel_rfl, by kernel_rfl, ⟨fun _ => rfl, fun _ => ⟨_, rfl⟩⟩⟩⟩
theorem tcmp92 : Try.prog.stoodInHeld 92 = false ∧ Try.prog.eqGuardType Try.prog.depth 92 = false ∧ ∀ fs, Try.prog.underlying 92 = some (.struct fs) → (fs.toList.all fun f => f.name != "_") = true := ⟨by kernel_rfl, by kernel_rfl, fun fs h => by rw [Try.underlying92] at h; first | (injection h with h; injection h with h; subst h; rfl) | cases h⟩

theorem types_ok : Types Try.prog tinfo := by
  refine ⟨fun t i h => ?_, fun t i h hs => ?_⟩
  · unfold tinfo at h
    split at h <;> first | (injection h with h; subst h; first | exact tok2 | exact tok3 | exact tok4 | exact tok5 | exact tok9 | exact tok21 | exact tok22 | exact tok23 | exact tok24 | exact tok25 | exact tok26 | exact tok27 | exact tok32 | exact tok35 | exact tok36 | exact tok37 | exact tok50 | exact tok51 | exact tok54 | exact tok55 | exact tok58 | exact tok80 | exact tok81 | exact tok82 | exact tok92) | cases h
  · unfold tinfo at h
    split at h <;> first | (injection h with h; subst h; first | exact absurd (show false = true from hs) (by decide) | exact tcmp24 | exact tcmp25 | exact tcmp50 | exact tcmp51 | exact tcmp54 | exact tcmp55 | exact tcmp80 | exact tcmp81 | exact tcmp92) | cases h
theorem sizes_ok : Sizes tinfo := by
  refine ⟨fun t i h hb => ?_, fun t i fs h hk off ft j hm hj => ?_⟩
  · unfold tinfo at h
    split at h <;> first | (injection h with h; subst h; first | rfl | cases hb) | cases h
  · unfold tinfo at h
    split at h
    · injection h with h; subst h; cases hk
    · injection h with h; subst h; cases hk
    · injection h with h; subst h; cases hk
    · injection h with h; subst h; cases hk
    · injection h with h; subst h; cases hk
    · injection h with h; subst h; cases hk
    · injection h with h; subst h; cases hk
    · injection h with h; subst h; cases hk
    · injection h with h; subst h; injection hk with hk; subst hk
      simp only [List.mem_cons, List.not_mem_nil, or_false, Prod.mk.injEq] at hm
      rcases hm with ⟨rfl, rfl⟩ | ⟨rfl, rfl⟩ | ⟨rfl, rfl⟩ | ⟨rfl, rfl⟩ | ⟨rfl, rfl⟩ | ⟨rfl, rfl⟩
      all_goals (simp only [tinfo, Option.some.injEq] at hj; subst hj; simp)
    · injection h with h; subst h; injection hk with hk; subst hk
      simp only [List.mem_cons, List.not_mem_nil, or_false, Prod.mk.injEq] at hm
      rcases hm with ⟨rfl, rfl⟩ | ⟨rfl, rfl⟩ | ⟨rfl, rfl⟩ | ⟨rfl, rfl⟩ | ⟨rfl, rfl⟩ | ⟨rfl, rfl⟩
      all_goals (simp only [tinfo, Option.some.injEq] at hj; subst hj; simp)
    · injection h with h; subst h; cases hk
    · injection h with h; subst h; cases hk
    · injection h with h; subst h; cases hk
    · injection h with h; subst h; cases hk
    · injection h with h; subst h; cases hk
    · injection h with h; subst h; cases hk
    · injection h with h; subst h; injection hk with hk; subst hk
      simp only [List.mem_cons, List.not_mem_nil, or_false, Prod.mk.injEq] at hm
      rcases hm with ⟨rfl, rfl⟩ | ⟨rfl, rfl⟩ | ⟨rfl, rfl⟩ | ⟨rfl, rfl⟩ | ⟨rfl, rfl⟩
      all_goals (simp only [tinfo, Option.some.injEq] at hj; subst hj; simp)
    · injection h with h; subst h; injection hk with hk; subst hk
      simp only [List.mem_cons, List.not_mem_nil, or_false, Prod.mk.injEq] at hm
      rcases hm with ⟨rfl, rfl⟩ | ⟨rfl, rfl⟩ | ⟨rfl, rfl⟩ | ⟨rfl, rfl⟩ | ⟨rfl, rfl⟩
      all_goals (simp only [tinfo, Option.some.injEq] at hj; subst hj; simp)
    · injection h with h; subst h; injection hk with hk; subst hk
      simp only [List.mem_cons, List.not_mem_nil, or_false, Prod.mk.injEq] at hm
      rcases hm with ⟨rfl, rfl⟩ | ⟨rfl, rfl⟩ | ⟨rfl, rfl⟩ | ⟨rfl, rfl⟩ | ⟨rfl, rfl⟩
      all_goals (simp only [tinfo, Option.some.injEq] at hj; subst hj; simp)
    · injection h with h; subst h; injection hk with hk; subst hk
      simp only [List.mem_cons, List.not_mem_nil, or_false, Prod.mk.injEq] at hm
      rcases hm with ⟨rfl, rfl⟩ | ⟨rfl, rfl⟩ | ⟨rfl, rfl⟩ | ⟨rfl, rfl⟩ | ⟨rfl, rfl⟩
      all_goals (simp only [tinfo, Option.some.injEq] at hj; subst hj; simp)
    · injection h with h; subst h; cases hk
    · injection h with h; subst h; injection hk with hk; subst hk
      simp only [List.mem_cons, List.not_mem_nil, or_false, Prod.mk.injEq] at hm
      rcases hm with ⟨rfl, rfl⟩ | ⟨rfl, rfl⟩
      all_goals (simp only [tinfo, Option.some.injEq] at hj; subst hj; simp)
    · injection h with h; subst h; injection hk with hk; subst hk
      simp only [List.mem_cons, List.not_mem_nil, or_false, Prod.mk.injEq] at hm
      rcases hm with ⟨rfl, rfl⟩ | ⟨rfl, rfl⟩
      all_goals (simp only [tinfo, Option.some.injEq] at hj; subst hj; simp)
    · injection h with h; subst h; cases hk
    · injection h with h; subst h; cases hk
    · cases h
theorem closed_ok : Closed tinfo := by
  refine ⟨fun t i fs h hk q hq => ?_⟩
  unfold tinfo at h
  split at h
  · injection h with h; subst h; cases hk
  · injection h with h; subst h; cases hk
  · injection h with h; subst h; cases hk
  · injection h with h; subst h; cases hk
  · injection h with h; subst h; cases hk
  · injection h with h; subst h; cases hk
  · injection h with h; subst h; cases hk
  · injection h with h; subst h; cases hk
  · injection h with h; subst h; injection hk with hk; subst hk
    simp only [List.mem_cons, List.not_mem_nil, or_false] at hq
    rcases hq with rfl | rfl | rfl | rfl | rfl | rfl
    all_goals exact ⟨_, rfl⟩
  · injection h with h; subst h; injection hk with hk; subst hk
    simp only [List.mem_cons, List.not_mem_nil, or_false] at hq
    rcases hq with rfl | rfl | rfl | rfl | rfl | rfl
    all_goals exact ⟨_, rfl⟩
  · injection h with h; subst h; cases hk
  · injection h with h; subst h; cases hk
  · injection h with h; subst h; cases hk
  · injection h with h; subst h; cases hk
  · injection h with h; subst h; cases hk
  · injection h with h; subst h; cases hk
  · injection h with h; subst h; injection hk with hk; subst hk
    simp only [List.mem_cons, List.not_mem_nil, or_false] at hq
    rcases hq with rfl | rfl | rfl | rfl | rfl
    all_goals exact ⟨_, rfl⟩
  · injection h with h; subst h; injection hk with hk; subst hk
    simp only [List.mem_cons, List.not_mem_nil, or_false] at hq
    rcases hq with rfl | rfl | rfl | rfl | rfl
    all_goals exact ⟨_, rfl⟩
  · injection h with h; subst h; injection hk with hk; subst hk
    simp only [List.mem_cons, List.not_mem_nil, or_false] at hq
    rcases hq with rfl | rfl | rfl | rfl | rfl
    all_goals exact ⟨_, rfl⟩
  · injection h with h; subst h; injection hk with hk; subst hk
    simp only [List.mem_cons, List.not_mem_nil, or_false] at hq
    rcases hq with rfl | rfl | rfl | rfl | rfl
    all_goals exact ⟨_, rfl⟩
  · injection h with h; subst h; cases hk
  · injection h with h; subst h; injection hk with hk; subst hk
    simp only [List.mem_cons, List.not_mem_nil, or_false] at hq
    rcases hq with rfl | rfl
    all_goals exact ⟨_, rfl⟩
  · injection h with h; subst h; injection hk with hk; subst hk
    simp only [List.mem_cons, List.not_mem_nil, or_false] at hq
    rcases hq with rfl | rfl
    all_goals exact ⟨_, rfl⟩
  · injection h with h; subst h; cases hk
  · injection h with h; subst h; cases hk
  · cases h
theorem tab : Tab Try.prog tinfo := ⟨types_ok, sizes_ok, closed_ok, fun t i h d => by
  unfold tinfo at h
  split at h <;> first | (injection h with h; subst h; rfl) | cases h⟩
theorem mixed : Try.prog.follows .mixedOrders = true := by kernel_rfl

structure Good (f : Nat) (c : CT) : Prop where
  h : ACall Try.prog tinfo f c
theorem good_call : ∀ f c, (fun f c => Good f c) f c → ACall Try.prog tinfo f c := fun _ _ h => h.h
abbrev pu (args : List SV) (r : SV) : CT := ⟨args, none, r, .any, .no⟩
abbrev nu (args : List SV) (r : SV) (b : Blk) : CT := ⟨args, none, r, .any, b⟩
abbrev le (t : Nat) (x : SV) (args : List SV) (r : SV) (y : SV) : CT := ⟨.ptr 0 0 :: args, some (t, x), r, y, .no⟩
abbrev leN (t : Nat) (x : SV) (args : List SV) (r : SV) (y : SV) (b : Blk) : CT := ⟨.ptr 0 0 :: args, some (t, x), r, y, b⟩
theorem Good.of {f : FuncId} {fn : Func} {c : Code} {ct : CT} (hf : Try.prog.funcs[f]? = some fn) (hb : fn.body = some c)
    (hn : (fn.name == "runtime.NumGoroutine") = false) (hok : codeOk c = true)
    (h : swp (fun t => tinfo t) (fun f c => Good f c) c (start fn.ntmps ct) ⟨fun s => retQ (fun t => tinfo t) fn.resultTypes.toList fn.results.toList s ct, fun s => retQ (fun t => tinfo t) fn.resultTypes.toList fn.results.toList s ct, fun _ _ => False⟩) (hni : isSeq ct = false := by rfl) : Good f ct :=
  ⟨contract tab good_call mixed hf hb hn hok hni h⟩
end Go.Proofs.Ytjhicdoigllblaa
namespace Go.Proofs.Ytjhicdoigllblaa
set_option linter.unusedVariables false
set_option linter.unusedSimpArgs false
theorem oln (l : List SV) : O.ln l = l.length := O.hln l
theorem otk (n : Int) (l : List SV) : O.tk n l = l.take n.toNat := O.htk n l
theorem odr (n : Int) (l : List SV) : O.dr n l = l.drop n.toNat := O.hdr n l
theorem oap (l k : List SV) : O.ap l k = l ++ k := O.hap l k
theorem ost (l : List SV) (i : Nat) (y : SV) : O.st l i y = l.set i y := O.hst l i y
theorem orp (n : Int) (x : SV) : O.rp n x = List.replicate n.toNat x := O.hrp n x
theorem ocp (l : List SV) (a n : Nat) (ys : List SV) : O.cp l a n ys = l.take a ++ ys.take n ++ l.drop (a + min ys.length n) := O.hcp l a n ys
theorem osg (l : List SV) (a n : Nat) : O.sg l a n = (l.drop a).take n := O.hsg l a n
theorem otn (n : Int) : O.tn n = n.toNat := O.htn n
theorem oad (a : Nat) (n : Int) : O.ad a n = a + n.toNat := O.had a n
theorem osb (a : Nat) (n : Int) : O.sb a n = a - n.toNat := O.hsb a n
theorem osi (a n : Int) : O.si a n = a.toNat - n.toNat := O.hsi a n
theorem oby (s : ByteArray) : O.by' s = s.data.toList.map fun b => SV.int .u8 b.toNat := O.hby s
theorem pln (l : List SV) : (Classical.choice lo_ex).ln l = l.length := O.hln l
theorem ptk (n : Int) (l : List SV) : (Classical.choice lo_ex).tk n l = l.take n.toNat := O.htk n l
theorem pdr (n : Int) (l : List SV) : (Classical.choice lo_ex).dr n l = l.drop n.toNat := O.hdr n l
theorem pap (l k : List SV) : (Classical.choice lo_ex).ap l k = l ++ k := O.hap l k
theorem pst (l : List SV) (i : Nat) (y : SV) : (Classical.choice lo_ex).st l i y = l.set i y := O.hst l i y
theorem prp (n : Int) (x : SV) : (Classical.choice lo_ex).rp n x = List.replicate n.toNat x := O.hrp n x
theorem pcp (l : List SV) (a n : Nat) (ys : List SV) : (Classical.choice lo_ex).cp l a n ys = l.take a ++ ys.take n ++ l.drop (a + min ys.length n) := O.hcp l a n ys
theorem psg (l : List SV) (a n : Nat) : (Classical.choice lo_ex).sg l a n = (l.drop a).take n := O.hsg l a n
theorem ptn (n : Int) : (Classical.choice lo_ex).tn n = n.toNat := O.htn n
theorem pad (a : Nat) (n : Int) : (Classical.choice lo_ex).ad a n = a + n.toNat := O.had a n
theorem psb (a : Nat) (n : Int) : (Classical.choice lo_ex).sb a n = a - n.toNat := O.hsb a n
theorem psi (a n : Int) : (Classical.choice lo_ex).si a n = a.toNat - n.toNat := O.hsi a n
theorem pby (s : ByteArray) : (Classical.choice lo_ex).by' s = s.data.toList.map fun b => SV.int .u8 b.toNat := O.hby s
theorem cst (n : Nat) : @NatCast.natCast Int _ n = @Nat.cast Int _ n := rfl
theorem qv {A : Type} {p k : A → Prop} (z : A) (h : p z) (g : k z) : QV p k := ⟨⟨z, h, g⟩⟩
def ints (k : IntKind) (l : List Int) : List SV := l.map (SV.int k)
theorem ints_len (k : IntKind) (l : List Int) : (ints k l).length = l.length := by simp [ints]
theorem sm : (∀ l, O.ln l = l.length) ∧ (∀ n l, O.tk n l = l.take n.toNat) ∧ (∀ n l, O.dr n l = l.drop n.toNat) ∧ (∀ l k, O.ap l k = l ++ k) ∧ (∀ l i x, O.st l i x = l.set i x) ∧ (∀ n x, O.rp n x = List.replicate n.toNat x) ∧
    (∀ l a n ys, O.cp l a n ys = l.take a ++ ys.take n ++ l.drop (a + min ys.length n)) ∧ (∀ l a n, O.sg l a n = (l.drop a).take n) ∧ (∀ n, O.tn n = n.toNat) ∧ (∀ a n, O.ad a n = a + n.toNat) ∧ (∀ a n, O.sb a n = a - n.toNat) ∧ (∀ a n, O.si a n = a.toNat - n.toNat) ∧
    (∀ s, O.by' s = s.data.toList.map fun b => SV.int .u8 b.toNat) ∧
    (∀ l, (Classical.choice lo_ex).ln l = l.length) ∧ (∀ n l, (Classical.choice lo_ex).tk n l = l.take n.toNat) ∧ (∀ n l, (Classical.choice lo_ex).dr n l = l.drop n.toNat) ∧ (∀ l k, (Classical.choice lo_ex).ap l k = l ++ k) ∧ (∀ l i x, (Classical.choice lo_ex).st l i x = l.set i x) ∧
    (∀ n x, (Classical.choice lo_ex).rp n x = List.replicate n.toNat x) ∧ (∀ l a n ys, (Classical.choice lo_ex).cp l a n ys = l.take a ++ ys.take n ++ l.drop (a + min ys.length n)) ∧ (∀ l a n, (Classical.choice lo_ex).sg l a n = (l.drop a).take n) ∧ (∀ n, (Classical.choice lo_ex).tn n = n.toNat) ∧
    (∀ a n, (Classical.choice lo_ex).ad a n = a + n.toNat) ∧ (∀ a n, (Classical.choice lo_ex).sb a n = a - n.toNat) ∧ (∀ a n, (Classical.choice lo_ex).si a n = a.toNat - n.toNat) ∧ (∀ s, (Classical.choice lo_ex).by' s = s.data.toList.map fun b => SV.int .u8 b.toNat) ∧
    (∀ n : Nat, @NatCast.natCast Int _ n = @Nat.cast Int _ n) ∧ (∀ k l, (ints k l).length = l.length) ∧
    (∀ (A : Type) (n : Nat) (l : List A), (l.take n).length = min n l.length) ∧ (∀ (A : Type) (n : Nat) (l : List A), (l.drop n).length = l.length - n) ∧ (∀ (A : Type) (l k : List A), (l ++ k).length = l.length + k.length) ∧ (∀ (A : Type) (l : List A) (n : Nat) (x : A), (l.set n x).length = l.length) ∧
    (∀ (A : Type) (n : Nat) (x : A), (List.replicate n x).length = n) ∧ (∀ (A : Type) (x : A) (l : List A), (x :: l).length = l.length + 1) ∧ (∀ (A : Type), ([] : List A).length = 0) :=
  ⟨oln, otk, odr, oap, ost, orp, ocp, osg, otn, oad, osb, osi, oby, pln, ptk, pdr, pap, pst, prp, pcp, psg, ptn, pad, psb, psi, pby, cst, ints_len, fun _ _ _ => List.length_take, fun _ _ _ => List.length_drop, fun _ _ _ => List.length_append, fun _ _ _ _ => List.length_set, fun _ _ _ => List.length_replicate, fun _ _ _ => List.length_cons, fun _ => List.length_nil⟩
theorem q1w {req : Unit → Prop} {p k : Int → Prop} (g : ∀ z, p z → k z) (h : req () := by first | exact trivial | omega | (dsimp only; omega) | exact pow62 _ (by omega) | exact mul9 (by omega) (by omega) | (simp only [sm] at *; omega)) : Q1 req p k := q1 h g
theorem rqw {p : Unit → Prop} {A : Prop} (g : A) (h : p () := by first | exact trivial | omega | (dsimp only; omega) | (simp only [sm] at *; omega)) : Rq p (fun _ => A) := rq h g
theorem QC.tw {p : Unit → Prop} {k : Bool → Prop} (g : k true) (h : p () := by first | omega | (dsimp only; omega) | exact rfl | (simp only [sm] at *; omega)) : QC p k := QC.tt h g
theorem QC.fw {p : Unit → Prop} {k : Bool → Prop} (g : k false) (h : ¬ p () := by first | omega | (dsimp only; omega) | (simp only [sm] at *; omega)) : QC p k := QC.ff h g
theorem ints_get {k : IntKind} {l : List Int} {i : Nat} {v : Int} (h : l[i]? = some v) : (ints k l)[i]? = some (SV.int k v) := by simp [ints, h]
theorem ints_at {k : IntKind} {l : List Int} (i : Nat) (h : i < l.length) : (ints k l)[i]? = some (SV.int k (l.getD i 0)) := by simp [ints, h]
theorem getD_mem {l : List Int} {i : Nat} (h : i < l.length) : l.getD i 0 ∈ l := by simp [List.getD, h]
theorem ints_app (k : IntKind) (l m : List Int) : ints k l ++ ints k m = ints k (l ++ m) := by simp [ints]
theorem ints_take (k : IntKind) (l : List Int) (n : Nat) : (ints k l).take n = ints k (l.take n) := by simp [ints]
theorem ints_drop (k : IntKind) (l : List Int) (n : Nat) : (ints k l).drop n = ints k (l.drop n) := by simp [ints]
theorem ints_set (k : IntKind) (l : List Int) (n : Nat) (v : Int) : (ints k l).set n (.int k v) = ints k (l.set n v) := by simp [ints, List.map_set]
theorem ints_rep (k : IntKind) (n : Nat) (v : Int) : List.replicate n (SV.int k v) = ints k (List.replicate n v) := by simp [ints]
end Go.Proofs.Ytjhicdoigllblaa
namespace Go.Proofs.Ytjhicdoigllblaa
set_option linter.unusedVariables false
set_option linter.unusedSimpArgs false
open Go.RowKit
def Wk (x y : SV) : Prop := ∀ (w : World) (X : Nat → Prop) (ρ : Env) (v : Value), Den w X ρ x v → Den w X ρ y v
def WkL : List SV → List SV → Prop
  | [], [] => True
  | x :: xs, y :: ys => Wk x y ∧ WkL xs ys
  | _, _ => False
theorem Wk.rfl' (x : SV) : Wk x x := fun _ _ _ _ h => h
theorem Wk.nil (sh : Option Nat) : Wk .nil (.lst sh []) := fun _ _ ρ _ h => by
  cases h
  exact .lst0 ρ sh none 0
theorem WkL.len : ∀ {xs ys : List SV}, WkL xs ys → xs.length = ys.length
  | [], [], _ => rfl
  | _ :: _, _ :: _, h => by rw [List.length_cons, List.length_cons, WkL.len h.2]
  | [], _ :: _, h => h.elim
  | _ :: _, [], h => h.elim
theorem WkL.at : ∀ {xs ys : List SV}, WkL xs ys → ∀ (i : Nat) (y : SV), ys[i]? = some y → ∃ x, xs[i]? = some x ∧ Wk x y
  | [], [], _ => fun i y h => by cases h
  | x :: xs, y :: ys, h => fun i z hz => by
    cases i with
    | zero => injection hz with hz; subst hz; exact ⟨x, rfl, h.1⟩
    | succ i => exact WkL.at h.2 i z hz
  | [], _ :: _, h => h.elim
  | _ :: _, [], h => h.elim
theorem WkL.den {xs ys : List SV} (h : WkL xs ys) {w : World} {X : Nat → Prop} {ρ : Env} {us : List Value} (hd : DenL w X ρ xs us) : DenL w X ρ ys us :=
  ⟨h.len.symm.trans hd.1, fun i y u hy hu => by
    obtain ⟨x, hx, hw⟩ := h.at i y hy
    exact hw _ _ _ _ (hd.2 i x u hx hu)⟩
theorem Wk.agg {xs ys : List SV} (h : WkL xs ys) : Wk (.agg xs) (.agg ys) := fun _ _ _ _ hd => by
  obtain ⟨cs, hv, hc⟩ := Den.agg_iff.1 hd
  exact Den.agg_iff.2 ⟨cs, hv, h.den hc⟩
theorem Wk.tup {xs ys : List SV} (h : WkL xs ys) : Wk (.tup xs) (.tup ys) := fun _ _ _ _ hd => by
  obtain ⟨cs, hv, hc⟩ := Den.tup_iff.1 hd
  exact Den.tup_iff.2 ⟨cs, hv, h.den hc⟩
theorem Good.res {f : Nat} {a : List SV} {r r' : SV} (h : Good f (pu a r)) (hw : Wk r r') : Good f (pu a r') :=
  ⟨⟨h.h.fn, (fun hq => nomatch hq), fun _ N w X ρ vs hm hd => (h.h.h rfl N w X ρ vs hm hd).mono fun e w' ⟨v, ρ', h1, h2, h3, h4⟩ => ⟨v, ρ', h1, h2, h3, hw _ _ _ _ h4⟩⟩⟩
theorem Good.arg {f : Nat} {a a' : List SV} {r : SV} (h : Good f (pu a r)) (hw : WkL a' a) : Good f (pu a' r) :=
  ⟨⟨h.h.fn, (fun hq => nomatch hq), fun _ N w X ρ vs hm hd => h.h.h rfl N w X ρ vs hm (hw.den hd)⟩⟩
end Go.Proofs.Ytjhicdoigllblaa
namespace Go.Proofs.Ytjhicdoigllblaa
set_option linter.unusedVariables false
set_option linter.unusedSimpArgs false
set_option maxHeartbeats 1000000
set_option linter.unusedSimpArgs false
theorem new_c (L R : List SV) (hR : R = L.take 400) : Good 10 (nu [.lst none L] (.ptr 1 0) (.chunk 81 (.agg [.lst none R, .int .i64 0]))) := by
  refine Good.of Try.func10 rfl (by rfl) (by kernel_rfl) ?_
  cbv
  (repeat' (first
| (refine q1w (fun z hz => ?_); (try simp only at hz); cbv)
| (refine rqw ?_; cbv)
| (refine QC.tw ?_; cbv)
| (refine QC.tt ?_ ?_; (focus (simp only [decide_true, Bool.and_true, Bool.and_self] <;> fail)); cbv)
| (refine QC.ff ?_ ?_; (focus (simp only [decide_true, Bool.and_true, Bool.and_self, decide_false, Bool.false_and, reduceCtorEq, not_false_eq_true] <;> fail)); cbv)
| (refine QC.fw ?_; cbv)
| (refine QC.mk (fun hc => ?_) (fun hc => ?_) <;> (try dsimp only at hc) <;> cbv)
| (refine br_mk2 (fun hb => ?_) (fun hb => ?_) <;> (try subst hb) <;> cbv)))
  · refine ⟨rfl, ?_, rfl⟩
    rw [hR]
    simp only [sm]
    rfl
  · refine ⟨rfl, ?_, rfl⟩
    rw [hR]
    simp only [sm] at hz
    rw [List.take_of_length_le (by omega)]

def tapeV (L : List SV) (a : Int) : SV := .agg [.lst none L, .int .i64 a]
theorem mod_c (v n : Int) (hv : -9223372036854775808 ≤ v ∧ v ≤ 9223372036854775807) (hn : 1 ≤ n ∧ n ≤ 1000000) : Good 23 (pu [.int .i64 v, .int .i64 n] (.int .i64 (v % n))) := by
  have h1 := Int.tmod_lt_of_pos v (show 0 < n by omega)
  have h2 := Int.lt_tmod_of_pos v (show 0 < n by omega)
  have h3 : v % n = if v.tmod n < 0 then v.tmod n + n else v.tmod n := by
    have e : v % n = v.tmod n % n := by
      conv => lhs; rw [← Int.tmod_add_mul_tdiv v n]
      rw [Int.add_mul_emod_self_left]
    rw [e]
    split
    · rw [← Int.add_emod_right]
      exact Int.emod_eq_of_lt (by omega) (by omega)
    · exact Int.emod_eq_of_lt (by omega) (by omega)
  generalize hr : v % n = r at *
  refine Good.of Try.func23 rfl (by rfl) (by kernel_rfl) ?_
  cbv
  (repeat' (first
| (refine q1w (fun z hz => ?_); (try simp only at hz); cbv)
| (refine rqw ?_; cbv)
| (refine QC.tw ?_; cbv)
| (refine QC.tt ?_ ?_; (focus (simp only [decide_true, Bool.and_true, Bool.and_self] <;> fail)); cbv)
| (refine QC.ff ?_ ?_; (focus (simp only [decide_true, Bool.and_true, Bool.and_self, decide_false, Bool.false_and, reduceCtorEq, not_false_eq_true] <;> fail)); cbv)
| (refine QC.fw ?_; cbv)
| (refine QC.mk (fun hc => ?_) (fun hc => ?_) <;> (try dsimp only at hc) <;> cbv)
| (refine br_mk2 (fun hb => ?_) (fun hb => ?_) <;> (try subst hb) <;> cbv)))
  all_goals refine ⟨?_, rfl, rfl⟩
  · rw [h3, if_pos (by omega), hz]; rename_i y hy; rw [hy.1]
  · rw [h3, if_neg (by omega), hz.1]

def nextT (l : List Int) (a n : Int) : Int := if l.length ≤ a then 0 else (l.getD a.toNat 0) % n
def nextA (l : List Int) (a : Int) : Int := if l.length ≤ a then a else a + 1
theorem next_c (L : List SV) (l : List Int) (hL : L = ints .i64 l) (hl : ∀ v ∈ l, -9223372036854775808 ≤ v ∧ v ≤ 9223372036854775807) (h400 : l.length ≤ 400) (a n r b : Int) (ha : 0 ≤ a ∧ a ≤ 400) (hn : 1 ≤ n ∧ n ≤ 1000000) (hr : r = nextT l a n) (hb : b = nextA l a) :
    Good 12 (le 81 (.agg [.lst none L, .int .i64 a]) [.int .i64 n] (.int .i64 r) (.agg [.lst none L, .int .i64 b])) := by
  refine Good.of Try.func12 rfl (by rfl) (by kernel_rfl) ?_
  cbv
  have hlen : L.length = l.length := by rw [hL, ints_len]
  (repeat' (first
| (refine q1w (fun z hz => ?_); (try simp only at hz); cbv)
| (refine rqw ?_; cbv)
| (refine QC.tw ?_; cbv)
| (refine QC.tt ?_ ?_; (focus (simp only [decide_true, Bool.and_true, Bool.and_self] <;> fail)); cbv)
| (refine QC.ff ?_ ?_; (focus (simp only [decide_true, Bool.and_true, Bool.and_self, decide_false, Bool.false_and, reduceCtorEq, not_false_eq_true] <;> fail)); cbv)
| (refine QC.fw ?_; cbv)
| (refine QC.mk (fun hc => ?_) (fun hc => ?_) <;> (try dsimp only at hc) <;> cbv)
| (refine br_mk2 (fun hb => ?_) (fun hb => ?_) <;> (try subst hb) <;> cbv)))
  · have hz' : z = l.length := by rw [hz, oln, hlen]
    refine ⟨?_, rfl, ?_⟩
    · rw [hr, nextT, if_pos (by omega)]
    · rw [hb, nextA, if_pos (by omega)]
  · have hz' : z = l.length := by rw [hz, oln, hlen]
    have hlt : a.toNat < l.length := by omega
    have hv := hl _ (getD_mem hlt)
    have hr' : r = l.getD a.toNat 0 % n := by rw [hr, nextT, if_neg (by omega)]
    have hb' : b = a + 1 := by rw [hb, nextA, if_neg (by omega)]
    refine qv (a.toNat, .int .i64 (l.getD a.toNat 0)) ⟨?_, ?_⟩ ?_
    · show a = (a.toNat : Int); omega
    · rw [hL]; exact ints_at _ hlt
    generalize l.getD a.toNat 0 = v at *
    have h1 := Int.tmod_lt_of_pos v (show 0 < n by omega)
    have h2 := Int.lt_tmod_of_pos v (show 0 < n by omega)
    have h3 : v % n = if v.tmod n < 0 then v.tmod n + n else v.tmod n := by
      have e : v % n = v.tmod n % n := by
        conv => lhs; rw [← Int.tmod_add_mul_tdiv v n]
        rw [Int.add_mul_emod_self_left]
      rw [e]
      split
      · rw [← Int.add_emod_right]
        exact Int.emod_eq_of_lt (by omega) (by omega)
      · exact Int.emod_eq_of_lt (by omega) (by omega)
    clear hz hr hb
    cbv
    (repeat' (first
| (refine q1w (fun z hz => ?_); (try simp only at hz); cbv)
| (refine rqw ?_; cbv)
| (refine QC.tw ?_; cbv)
| (refine QC.tt ?_ ?_; (focus (simp only [decide_true, Bool.and_true, Bool.and_self] <;> fail)); cbv)
| (refine QC.ff ?_ ?_; (focus (simp only [decide_true, Bool.and_true, Bool.and_self, decide_false, Bool.false_and, reduceCtorEq, not_false_eq_true] <;> fail)); cbv)
| (refine QC.fw ?_; cbv)
| (refine QC.mk (fun hc => ?_) (fun hc => ?_) <;> (try dsimp only at hc) <;> cbv)
| (refine br_mk2 (fun hb => ?_) (fun hb => ?_) <;> (try subst hb) <;> cbv)))
    · rename_i y hy _ _
      refine ⟨?_, rfl, ?_⟩
      · rw [hr', h3, if_pos (by omega), ← hy.1, hz]
      · subst_vars; rfl
    · rename_i y hy
      refine ⟨?_, rfl, ?_⟩
      · rw [hr', h3, if_neg (by omega), ← hy.1]
      · subst_vars; rfl
theorem bool_c (L : List SV) (l : List Int) (hL : L = ints .i64 l) (hl : ∀ v ∈ l, -9223372036854775808 ≤ v ∧ v ≤ 9223372036854775807) (h400 : l.length ≤ 400) (a n b : Int) (r : Bool) (ha : 0 ≤ a ∧ a ≤ 400) (hn : 1 ≤ n ∧ n ≤ 1000000) (hr : r = decide (nextT l a n = n - 1)) (hb : b = nextA l a) :
    Good 30 (le 81 (.agg [.lst none L, .int .i64 a]) [.int .i64 n] (.bool r) (.agg [.lst none L, .int .i64 b])) := by
  have h1 := next_c L l hL hl h400 a n _ _ ha hn rfl hb
  generalize nextT l a n = x at *
  refine Good.of Try.func30 rfl (by rfl) (by kernel_rfl) ?_
  cbv
  (repeat' (first
| (refine q1w (fun z hz => ?_); (try simp only at hz); cbv)
| (refine rqw ?_; cbv)
| (refine QC.tw ?_; cbv)
| (refine QC.tt ?_ ?_; (focus (simp only [decide_true, Bool.and_true, Bool.and_self] <;> fail)); cbv)
| (refine QC.ff ?_ ?_; (focus (simp only [decide_true, Bool.and_true, Bool.and_self, decide_false, Bool.false_and, reduceCtorEq, not_false_eq_true] <;> fail)); cbv)
| (refine QC.fw ?_; cbv)
| (refine QC.mk (fun hc => ?_) (fun hc => ?_) <;> (try dsimp only at hc) <;> cbv)
| (refine br_mk2 (fun hb => ?_) (fun hb => ?_) <;> (try subst hb) <;> cbv)))
  refine callq h1 rfl rfl ?_
  cbv
  (repeat' (first
| (refine q1w (fun z hz => ?_); (try simp only at hz); cbv)
| (refine rqw ?_; cbv)
| (refine QC.tw ?_; cbv)
| (refine QC.tt ?_ ?_; (focus (simp only [decide_true, Bool.and_true, Bool.and_self] <;> fail)); cbv)
| (refine QC.ff ?_ ?_; (focus (simp only [decide_true, Bool.and_true, Bool.and_self, decide_false, Bool.false_and, reduceCtorEq, not_false_eq_true] <;> fail)); cbv)
| (refine QC.fw ?_; cbv)
| (refine QC.mk (fun hc => ?_) (fun hc => ?_) <;> (try dsimp only at hc) <;> cbv)
| (refine br_mk2 (fun hb => ?_) (fun hb => ?_) <;> (try subst hb) <;> cbv)))
  · refine ⟨?_, rfl, rfl⟩
    rw [hr, decide_eq_true (by omega)]
  · refine ⟨?_, rfl, rfl⟩
    rw [hr, decide_eq_false (by omega)]

def Tp (L : List SV) (a : Int) : Prop := (∃ l, L = ints .i64 l ∧ (∀ v ∈ l, -9223372036854775808 ≤ v ∧ v ≤ 9223372036854775807) ∧ l.length ≤ 400) ∧ 0 ≤ a ∧ a ≤ 400
theorem next_e {L : List SV} {a : Int} (h : Tp L a) (n : Int) (hn : 1 ≤ n ∧ n ≤ 1000000) : ∃ r b, 0 ≤ r ∧ r < n ∧ Tp L b ∧ Good 12 (le 81 (.agg [.lst none L, .int .i64 a]) [.int .i64 n] (.int .i64 r) (.agg [.lst none L, .int .i64 b])) := by
  obtain ⟨⟨l, h1, h2, h3⟩, h4⟩ := h
  refine ⟨_, _, ?_, ?_, ⟨⟨l, h1, h2, h3⟩, ?_⟩, next_c L l h1 h2 h3 a n _ _ h4 hn rfl rfl⟩
  · unfold nextT; split
    · omega
    · exact Int.emod_nonneg _ (by omega)
  · unfold nextT; split
    · omega
    · exact Int.emod_lt_of_pos _ (by omega)
  · unfold nextA; split <;> omega
theorem next_f {L : List SV} {a0 : Int} (h0 : Tp L a0) : ∃ (N : Int → Int → Int) (B : Int → Int), ∀ a n, Tp L a → 1 ≤ n ∧ n ≤ 1000000 → 0 ≤ N a n ∧ N a n < n ∧ Tp L (B a) ∧
    Good 12 (le 81 (.agg [.lst none L, .int .i64 a]) [.int .i64 n] (.int .i64 (N a n)) (.agg [.lst none L, .int .i64 (B a)])) := by
  obtain ⟨⟨l, h1, h2, h3⟩, _⟩ := h0
  refine ⟨nextT l, nextA l, fun a n ha hn => ?_⟩
  obtain ⟨_, h4⟩ := ha
  refine ⟨?_, ?_, ⟨⟨l, h1, h2, h3⟩, ?_⟩, next_c L l h1 h2 h3 a n _ _ h4 hn rfl rfl⟩
  · unfold nextT; split
    · omega
    · exact Int.emod_nonneg _ (by omega)
  · unfold nextT; split
    · omega
    · exact Int.emod_lt_of_pos _ (by omega)
  · unfold nextA; split <;> omega
theorem bool_e {L : List SV} {a : Int} (h : Tp L a) (n : Int) (hn : 1 ≤ n ∧ n ≤ 1000000) : ∃ r b, Tp L b ∧ Good 30 (le 81 (.agg [.lst none L, .int .i64 a]) [.int .i64 n] (.bool r) (.agg [.lst none L, .int .i64 b])) := by
  obtain ⟨⟨l, h1, h2, h3⟩, h4⟩ := h
  refine ⟨_, _, ⟨⟨l, h1, h2, h3⟩, ?_⟩, bool_c L l h1 h2 h3 a n _ _ h4 hn rfl rfl⟩
  unfold nextA; split <;> omega

theorem fillG (n : Nat) (f : Nat → Int) (a : SV) (ha : a = .int .u8 0) : ∃ G : Nat → List SV, G 0 = O.rp (n : Int) a ∧ (∀ i, (G i).length = n) ∧ (∀ i, i < n → O.st (G i) i (.int .u8 (f i)) = G (i + 1)) ∧ G n = ints .u8 ((List.range n).map f) := by
  subst ha
  refine ⟨fun i => ints .u8 (((List.range n).map f).take i ++ List.replicate (n - i) 0), ?_, ?_, ?_, ?_⟩
  · simp only [orp]; simp [ints]
  · intro i; simp [ints]; omega
  · intro i hi
    simp only [ost, ints_set]
    congr 1
    apply List.ext_getElem
    · simp; omega
    · intro k h1 h2
      simp only [List.getElem_set, List.getElem_append, List.length_take, List.length_map, List.length_range, List.getElem_take, List.getElem_map, List.getElem_range, List.getElem_replicate]
      split
      · subst_vars; split
        · rfl
        · omega
      · split <;> split <;> first | rfl | omega
  · simp [List.take_of_length_le]
theorem fill_e {L : List SV} {a : Int} (h : Tp L a) (n : Int) (hn : 0 ≤ n ∧ n ≤ 1000000) : ∃ R bs b, R = ints .u8 bs ∧ (bs.length : Int) = n ∧ (∀ v ∈ bs, 0 ≤ v ∧ v ≤ 255) ∧ Tp L b ∧
    Good 27 (leN 81 (.agg [.lst none L, .int .i64 a]) [.int .i64 n] (.row 1) (.agg [.lst none L, .int .i64 b]) (.row none 5 R)) := by
  obtain ⟨x1, b1, p1, u1, t1, g1⟩ := next_e h 256 (by omega)
  obtain ⟨x2, b2, p2, u2, t2, g2⟩ := next_e t1 256 (by omega)
  obtain ⟨x3, b3, p3, u3, t3, g3⟩ := next_e t2 256 (by omega)
  obtain ⟨m, hm⟩ := Int.eq_ofNat_of_zero_le hn.1
  obtain ⟨F, hF⟩ : ∃ F : Nat → Int, ∀ i, F i = ([x1, x2, 0, x3, 7].getD (i % 5) 0 + (i / 5 : Nat)) % 256 := ⟨_, fun i => rfl⟩
  obtain ⟨G, G0, Gl, Gs, Gn⟩ := fillG m F (.int .u8 0) rfl
  have hFb : ∀ i, 0 ≤ F i ∧ F i ≤ 255 := fun i => by rw [hF]; omega
  refine ⟨_, (List.range m).map F, b3, rfl, by simp [hm], fun v hv => by simp at hv; obtain ⟨i, _, rfl⟩ := hv; exact hFb i, t3, ?_⟩
  rw [← hm] at G0
  rw [← Gn]
  generalize hR : G m = R
  refine Good.of Try.func27 rfl (by rfl) (by kernel_rfl) ?_
  cbv
  (repeat' (first
| (refine q1w (fun z hz => ?_); (try simp only at hz); cbv)
| (refine rqw ?_; cbv)
| (refine QC.tw ?_; cbv)
| (refine QC.tt ?_ ?_; (focus (simp only [decide_true, Bool.and_true, Bool.and_self] <;> fail)); cbv)
| (refine QC.ff ?_ ?_; (focus (simp only [decide_true, Bool.and_true, Bool.and_self, decide_false, Bool.false_and, reduceCtorEq, not_false_eq_true] <;> fail)); cbv)
| (refine QC.fw ?_; cbv)
| (refine QC.mk (fun hc => ?_) (fun hc => ?_) <;> (try dsimp only at hc) <;> cbv)
| (refine br_mk2 (fun hb => ?_) (fun hb => ?_) <;> (try subst hb) <;> cbv)))
  (refine callq (g1) rfl rfl ?_; cbv; (repeat' (first
| (refine q1w (fun z hz => ?_); (try simp only at hz); cbv)
| (refine rqw ?_; cbv)
| (refine QC.tw ?_; cbv)
| (refine QC.tt ?_ ?_; (focus (simp only [decide_true, Bool.and_true, Bool.and_self] <;> fail)); cbv)
| (refine QC.ff ?_ ?_; (focus (simp only [decide_true, Bool.and_true, Bool.and_self, decide_false, Bool.false_and, reduceCtorEq, not_false_eq_true] <;> fail)); cbv)
| (refine QC.fw ?_; cbv)
| (refine QC.mk (fun hc => ?_) (fun hc => ?_) <;> (try dsimp only at hc) <;> cbv)
| (refine br_mk2 (fun hb => ?_) (fun hb => ?_) <;> (try subst hb) <;> cbv))))
  (refine callq (g2) rfl rfl ?_; cbv; (repeat' (first
| (refine q1w (fun z hz => ?_); (try simp only at hz); cbv)
| (refine rqw ?_; cbv)
| (refine QC.tw ?_; cbv)
| (refine QC.tt ?_ ?_; (focus (simp only [decide_true, Bool.and_true, Bool.and_self] <;> fail)); cbv)
| (refine QC.ff ?_ ?_; (focus (simp only [decide_true, Bool.and_true, Bool.and_self, decide_false, Bool.false_and, reduceCtorEq, not_false_eq_true] <;> fail)); cbv)
| (refine QC.fw ?_; cbv)
| (refine QC.mk (fun hc => ?_) (fun hc => ?_) <;> (try dsimp only at hc) <;> cbv)
| (refine br_mk2 (fun hb => ?_) (fun hb => ?_) <;> (try subst hb) <;> cbv))))
  (refine callq (g3) rfl rfl ?_; cbv; (repeat' (first
| (refine q1w (fun z hz => ?_); (try simp only at hz); cbv)
| (refine rqw ?_; cbv)
| (refine QC.tw ?_; cbv)
| (refine QC.tt ?_ ?_; (focus (simp only [decide_true, Bool.and_true, Bool.and_self] <;> fail)); cbv)
| (refine QC.ff ?_ ?_; (focus (simp only [decide_true, Bool.and_true, Bool.and_self, decide_false, Bool.false_and, reduceCtorEq, not_false_eq_true] <;> fail)); cbv)
| (refine QC.fw ?_; cbv)
| (refine QC.mk (fun hc => ?_) (fun hc => ?_) <;> (try dsimp only at hc) <;> cbv)
| (refine br_mk2 (fun hb => ?_) (fun hb => ?_) <;> (try subst hb) <;> cbv))))
  refine loopQ (A := Nat × Int) (fun p => p.2 = p.1 ∧ p.1 ≤ m) (fun p => m - p.1) (fun p => [(6, .row 6), (7, .int .i64 p.2)]) (fun p => [(6, .row none 5 (G p.1))]) (0, 0) ⟨rfl, Nat.zero_le _⟩ ?_ ?_
  · cbv
    rw [G0]
    exact ⟨rfl, trivial⟩
  · intro ⟨i, j⟩ h
    have hj : j = (i : Int) := h.1
    have hi : i ≤ m := h.2
    clear h
    have hF' := hF i
    have hl := Gl i
    cbv
    (repeat' (first
| (refine q1w (fun z hz => ?_); (try simp only at hz); cbv)
| (refine rqw ?_; cbv)
| (refine QC.tw ?_; cbv)
| (refine QC.tt ?_ ?_; (focus (simp only [decide_true, Bool.and_true, Bool.and_self] <;> fail)); cbv)
| (refine QC.ff ?_ ?_; (focus (simp only [decide_true, Bool.and_true, Bool.and_self, decide_false, Bool.false_and, reduceCtorEq, not_false_eq_true] <;> fail)); cbv)
| (refine QC.fw ?_; cbv)
| (refine QC.mk (fun hc => ?_) (fun hc => ?_) <;> (try dsimp only at hc) <;> cbv)
| (refine br_mk2 (fun hb => ?_) (fun hb => ?_) <;> (try subst hb) <;> cbv)))
    · have hjm : i < m := by (first | omega | (simp only [cst] at *; omega) | (simp only [sm] at *; omega))
      rcases (show i % 5 = 0 ∨ i % 5 = 1 ∨ i % 5 = 2 ∨ i % 5 = 3 ∨ i % 5 = 4 by omega) with e | e | e | e | e
      all_goals rw [e] at hF'
      all_goals first
        | refine qv 0 (by (first | omega | (simp only [cst] at *; omega) | (simp only [sm] at *; omega))) ?_
        | refine qv 1 (by (first | omega | (simp only [cst] at *; omega) | (simp only [sm] at *; omega))) ?_
        | refine qv 2 (by (first | omega | (simp only [cst] at *; omega) | (simp only [sm] at *; omega))) ?_
        | refine qv 3 (by (first | omega | (simp only [cst] at *; omega) | (simp only [sm] at *; omega))) ?_
        | refine qv 4 (by (first | omega | (simp only [cst] at *; omega) | (simp only [sm] at *; omega))) ?_
      all_goals cbv
      all_goals (repeat' (first
| (refine q1w (fun z hz => ?_); (try simp only at hz); cbv)
| (refine rqw ?_; cbv)
| (refine QC.tw ?_; cbv)
| (refine QC.tt ?_ ?_; (focus (simp only [decide_true, Bool.and_true, Bool.and_self] <;> fail)); cbv)
| (refine QC.ff ?_ ?_; (focus (simp only [decide_true, Bool.and_true, Bool.and_self, decide_false, Bool.false_and, reduceCtorEq, not_false_eq_true] <;> fail)); cbv)
| (refine QC.fw ?_; cbv)
| (refine QC.mk (fun hc => ?_) (fun hc => ?_) <;> (try dsimp only at hc) <;> cbv)
| (refine br_mk2 (fun hb => ?_) (fun hb => ?_) <;> (try subst hb) <;> cbv)))
      all_goals refine qv i (by (first | omega | (simp only [cst] at *; omega) | (simp only [sm] at *; omega))) ?_
      all_goals cbv
      all_goals (repeat' (first
| (refine q1w (fun z hz => ?_); (try simp only at hz); cbv)
| (refine rqw ?_; cbv)
| (refine QC.tw ?_; cbv)
| (refine QC.tt ?_ ?_; (focus (simp only [decide_true, Bool.and_true, Bool.and_self] <;> fail)); cbv)
| (refine QC.ff ?_ ?_; (focus (simp only [decide_true, Bool.and_true, Bool.and_self, decide_false, Bool.false_and, reduceCtorEq, not_false_eq_true] <;> fail)); cbv)
| (refine QC.fw ?_; cbv)
| (refine QC.mk (fun hc => ?_) (fun hc => ?_) <;> (try dsimp only at hc) <;> cbv)
| (refine br_mk2 (fun hb => ?_) (fun hb => ?_) <;> (try subst hb) <;> cbv)))
      all_goals rename_i z hz
      all_goals refine ⟨(i + 1, z), ⟨by (first | omega | (simp only [cst] at *; omega) | (simp only [sm] at *; omega)), by omega⟩, by (first | omega | (simp only [cst] at *; omega) | (simp only [sm] at *; omega)), ?_⟩
      all_goals cbv
      all_goals refine ⟨?_, trivial⟩
      all_goals show Blk.row none 5 (O.st (G i) i (.int .u8 _)) = .row none 5 (G (i + 1))
      all_goals rw [← Gs i hjm]
      all_goals congr 3
      all_goals rw [hF']
      all_goals simp only [List.getD_cons_zero, List.getD_cons_succ]
      all_goals (first | omega | (simp only [cst] at *; omega) | (simp only [sm] at *; omega))
    · have e : i = m := by (first | omega | (simp only [cst] at *; omega) | (simp only [sm] at *; omega))
      subst e
      exact ⟨rfl, by rw [← hR], rfl⟩
end Go.Proofs.Ytjhicdoigllblaa
namespace Go.Proofs.Ytjhicdoigllblaa
set_option linter.unusedVariables false
set_option linter.unusedSimpArgs false
open Go.RowKit
def u8l (l : List UInt8) : List SV := l.map fun b => SV.int .u8 b.toNat
theorem u8l_len (l : List UInt8) : (u8l l).length = l.length := by simp [u8l]
theorem u8l_at {l : List UInt8} (i : Nat) (h : i < l.length) : (u8l l)[i]? = some (SV.int .u8 (l.getD i 0).toNat) := by simp [u8l, h]
theorem u8l_app (l m : List UInt8) : u8l l ++ u8l m = u8l (l ++ m) := by simp [u8l]
theorem u8l_take (l : List UInt8) (n : Nat) : (u8l l).take n = u8l (l.take n) := by simp [u8l]
theorem u8l_drop (l : List UInt8) (n : Nat) : (u8l l).drop n = u8l (l.drop n) := by simp [u8l]
theorem u8l_set (l : List UInt8) (n : Nat) (v : UInt8) : (u8l l).set n (.int .u8 v.toNat) = u8l (l.set n v) := by simp [u8l, List.map_set]
theorem u8l_rep (n : Nat) : List.replicate n (SV.int .u8 0) = u8l (List.replicate n 0) := by simp [u8l]
theorem u8l_nil : [] = u8l [] := rfl
theorem u8l_of (l : List Int) (h : ∀ v ∈ l, 0 ≤ v ∧ v ≤ 255) : ∃ bs : List UInt8, ints .u8 l = u8l bs ∧ bs.length = l.length := by
  refine ⟨l.map fun v => UInt8.ofNat v.toNat, ?_, by simp⟩
  simp only [ints, u8l, List.map_map]
  apply List.map_congr_left
  intro v hv
  have := h v hv
  simp only [Function.comp_def, UInt8.toNat_ofNat']
  congr 1
  omega

def digit (v : Int) (n i : Nat) : UInt8 := UInt8.ofNat (v / 2 ^ (8 * (n - 1 - i)) % 256).toNat
def bytesOf (v : Int) (n : Nat) : List UInt8 := (List.range n).map (digit v n)
theorem digit_val (v : Int) (n i : Nat) : ((digit v n i).toNat : Int) = v / 2 ^ (8 * (n - 1 - i)) % 256 := by
  have h0 := Int.emod_nonneg (v / 2 ^ (8 * (n - 1 - i))) (show (256 : Int) ≠ 0 by omega)
  have h1 := Int.emod_lt_of_pos (v / 2 ^ (8 * (n - 1 - i))) (show (0 : Int) < 256 by omega)
  unfold digit
  generalize v / 2 ^ (8 * (n - 1 - i)) % 256 = x at *
  simp only [UInt8.toNat_ofNat']
  omega
theorem bytesOf_length (v : Int) (n : Nat) : (bytesOf v n).length = n := by simp [bytesOf]
theorem bytesOf_get (v : Int) (n k : Nat) (h : k < n) : (bytesOf v n)[k]? = some (digit v n k) := by simp [bytesOf, h]
def appRow (bs : List UInt8) (v : Int) (n k : Nat) : List UInt8 := bs ++ ((bytesOf v n).take k ++ List.replicate (n - k) 0)
theorem appRow_zero (bs : List UInt8) (v : Int) (n : Nat) : appRow bs v n 0 = bs ++ List.replicate n 0 := by simp [appRow]
theorem appRow_full (bs : List UInt8) (v : Int) (n : Nat) : appRow bs v n n = bs ++ bytesOf v n := by
  simp [appRow, List.take_of_length_le (Nat.le_of_eq (bytesOf_length v n))]
theorem appRow_get (bs : List UInt8) (v : Int) (n k : Nat) (h : k < n) : (appRow bs v n k)[bs.length + k]? = some 0 := by
  unfold appRow
  rw [List.getElem?_append_right (by omega), List.getElem?_append_right (by rw [List.length_take, bytesOf_length]; omega)]
  have : bs.length + k - bs.length - ((bytesOf v n).take k).length = 0 := by rw [List.length_take, bytesOf_length]; omega
  rw [this, show n - k = (n - (k + 1)) + 1 by omega, List.replicate_succ]
  rfl
theorem appRow_set (bs : List UInt8) (v : Int) (n k : Nat) (h : k < n) : (appRow bs v n k).set (bs.length + k) (digit v n k) = appRow bs v n (k + 1) := by
  unfold appRow
  have hl : ((bytesOf v n).take k).length = k := by rw [List.length_take, bytesOf_length]; omega
  have e : List.take (k + 1) (bytesOf v n) = List.take k (bytesOf v n) ++ [digit v n k] := by
    rw [List.take_add_one, bytesOf_get v n k h]; rfl
  rw [List.set_append_right _ _ (by omega), List.set_append_right _ _ (by omega), hl, e]
  have : bs.length + k - bs.length - k = 0 := by omega
  rw [this, show n - k = (n - (k + 1)) + 1 by omega, List.replicate_succ, List.set_cons_zero, List.append_assoc, List.singleton_append]

def be (bs : List UInt8) : Nat := bs.foldl (fun a b => a * 256 + b.toNat) 0
theorem be_snoc (bs : List UInt8) (b : UInt8) : be (bs ++ [b]) = be bs * 256 + b.toNat := by simp [be]
theorem be_lt (bs : List UInt8) : be bs < 256 ^ bs.length := by
  have key : ∀ (k : Nat) (l : List UInt8), l.length = k → be l < 256 ^ k := by
    intro k
    induction k with
    | zero => intro l hl; rw [List.eq_nil_of_length_eq_zero hl]; simp [be]
    | succ k ih =>
      intro l hl
      have e : l = l.take k ++ [l[k]] := by
        have := List.take_add_one (l := l) (i := k)
        rw [List.getElem?_eq_getElem (by omega), List.take_of_length_le (by omega)] at this
        exact this
      rw [e, be_snoc, Nat.pow_succ]
      have h1 := ih (l.take k) (by simp; omega)
      have h2 := (l[k]).toNat_lt
      omega
  exact key _ _ rfl
theorem be_bytesOf (n : Nat) : ∀ u : Nat, be (bytesOf u n) = u % 256 ^ n := by
  induction n with
  | zero => intro u; simp [bytesOf, be, Nat.mod_one]
  | succ n ih =>
    intro u
    have e : bytesOf (u : Int) (n + 1) = bytesOf ((u / 256 : Nat) : Int) n ++ [digit u (n + 1) n] := by
      unfold bytesOf
      rw [List.range_succ, List.map_append]
      congr 1
      refine List.map_congr_left fun i hi => ?_
      have hi' : i < n := by simpa using hi
      unfold digit
      have e2 : n + 1 - 1 - i = (n - 1 - i) + 1 := by omega
      have e4 : (u : Int) / 2 ^ (8 * (n - 1 - i + 1)) = ((u / 256 : Nat) : Int) / 2 ^ (8 * (n - 1 - i)) := by
        have e5 : (u : Int) / 2 ^ (8 * (n - 1 - i + 1)) = ((u / 2 ^ (8 * (n - 1 - i + 1)) : Nat) : Int) := by simp
        have e6 : ((u / 256 : Nat) : Int) / 2 ^ (8 * (n - 1 - i)) = ((u / 256 / 2 ^ (8 * (n - 1 - i)) : Nat) : Int) := by simp
        rw [e5, e6, Nat.div_div_eq_div_mul, Nat.mul_add, Nat.pow_add, Nat.mul_comm]
      rw [e2, e4]
    have e3 : (digit (u : Int) (n + 1) n).toNat = u % 256 := by
      have := digit_val (u : Int) (n + 1) n
      simp at this
      omega
    rw [e, be_snoc, ih, e3, Nat.pow_succ, Nat.mul_comm (256 ^ n) 256, Nat.mod_mul]
    omega
theorem wrap_shift (v : Int) (k : Nat) (hv : 0 ≤ v ∧ v < 18446744073709551616) (h1 : 1 ≤ k) (h8 : k ≤ 8) :
    ((be (bytesOf v k) : Nat) : Int) = IntKind.u64.wrap (v * 2 ^ (64 - 8 * k)) / 2 ^ (64 - 8 * k) := by
  obtain ⟨u, rfl⟩ := Int.eq_ofNat_of_zero_le hv.1
  rw [be_bytesOf, IntKind.wrap_u64]
  have hk : k = 1 ∨ k = 2 ∨ k = 3 ∨ k = 4 ∨ k = 5 ∨ k = 6 ∨ k = 7 ∨ k = 8 := by omega
  rcases hk with rfl | rfl | rfl | rfl | rfl | rfl | rfl | rfl <;> simp <;> omega
theorem or_byte (a b : Nat) (hb : b < 256) : a * 256 ||| b = a * 256 + b := by
  have := Nat.two_pow_add_eq_or_of_lt (i := 8) (b := b) (by omega) a
  rw [show 2 ^ 8 * a = a * 256 from by omega] at this
  exact this.symm
theorem take_snoc_u8 (bs : List UInt8) (k : Nat) (h : k < bs.length) : bs.take (k + 1) = bs.take k ++ [bs[k]] := by
  rw [List.take_add_one, List.getElem?_eq_getElem h]; rfl

end Go.Proofs.Ytjhicdoigllblaa
namespace Go.Proofs.Ytjhicdoigllblaa
set_option linter.unusedVariables false
set_option linter.unusedSimpArgs false
open Go.RowKit
def rowsB (l : List (List UInt8)) : List SV := l.map fun b => .lst none (u8l b)
theorem rowsB_len (l : List (List UInt8)) : (rowsB l).length = l.length := by simp [rowsB]
theorem rowsB_at {l : List (List UInt8)} {R : List SV} (hR : R = rowsB l) (i : Nat) (hi : i < l.length) : ∃ b B, l[i]? = some b ∧ B = u8l b ∧ R[i]? = some (.lst none B) :=
  ⟨l[i], _, List.getElem?_eq_getElem hi, rfl, by rw [hR]; simp [rowsB, hi]⟩
def bm (f : Nat → Bool) : Nat → Nat
  | 0 => 0
  | n + 1 => bm f n + if f n then 2 ^ n else 0
theorem bm_lt (f : Nat → Bool) : ∀ n, bm f n < 2 ^ n
  | 0 => by simp [bm]
  | n + 1 => by
    have := bm_lt f n
    rw [bm, Nat.pow_succ]
    split <;> omega
theorem bm_or (f : Nat → Bool) (n : Nat) (h : f n = true) : bm f n ||| 2 ^ n = bm f (n + 1) := by
  rw [bm, if_pos h, Nat.or_comm, Nat.add_comm]
  have := Nat.two_pow_add_eq_or_of_lt (bm_lt f n) 1
  simpa using this.symm
theorem bm_bit (f : Nat → Bool) : ∀ n i, (bm f n).testBit i = (decide (i < n) && f i)
  | 0, i => by simp [bm]
  | n + 1, i => by
    rw [bm]
    by_cases h : f n = true
    · rw [if_pos h]
      have := Nat.two_pow_add_eq_or_of_lt (bm_lt f n) 1
      rw [Nat.add_comm, show 2 ^ n = 2 ^ n * 1 by omega, this, Nat.testBit_or, bm_bit f n i]
      simp only [Nat.mul_one, Nat.testBit_two_pow]
      by_cases hi : i = n
      · subst hi; simp [h]
      · have e1 : decide (n = i) = false := decide_eq_false (by omega)
        rw [e1, Bool.false_or]
        congr 1
        exact decide_eq_decide.2 (by omega)
    · rw [if_neg h, Nat.add_zero, bm_bit f n i]
      by_cases hi : i = n
      · subst hi; simp at h; simp [h]
      · congr 1
        exact decide_eq_decide.2 (by omega)
theorem bm_full (f : Nat → Bool) (n : Nat) : bm f n = 2 ^ n - 1 ↔ ∀ i, i < n → f i = true := by
  constructor
  · intro h i hi
    have := bm_bit f n i
    rw [h, Nat.testBit_two_pow_sub_one] at this
    simpa [hi] using this.symm
  · intro h
    apply Nat.eq_of_testBit_eq
    intro i
    rw [bm_bit, Nat.testBit_two_pow_sub_one]
    by_cases hi : i < n
    · simp [hi, h i hi]
    · simp [hi]
def hasN (ps : List (List UInt8)) (n : Nat) : Nat := bm (fun i => decide (0 < (ps.getD i []).length)) n
structure Snd where
  st : Int
  tag : Int
  ps : List (List UInt8)
  ak : Int
  rd : Int
  un : Int
def Snd.v (s : Snd) : SV := .agg [.int .i64 s.st, .int .u8 s.tag, .lst none (rowsB s.ps), .int .u32 s.ak, .int .i64 s.rd, .int .i64 s.un]
def allI (n : Nat) : Int := 2 ^ n - 1
theorem allI_nat (n : Nat) : allI n = ((2 ^ n - 1 : Nat) : Int) := by
  have : 1 ≤ 2 ^ n := Nat.one_le_two_pow
  rw [allI]
  rw [Int.natCast_sub this]
  simp
theorem allI_b {n : Nat} (h : n ≤ 32) : 0 ≤ allI n ∧ allI n ≤ 4294967295 := by
  have h1 : (2 : Nat) ^ n ≤ 2 ^ 32 := Nat.pow_le_pow_right (by omega) h
  have h2 : 1 ≤ 2 ^ n := Nat.one_le_two_pow
  rw [allI_nat]
  omega
structure VS (s : Snd) : Prop where
  n1 : 1 ≤ s.ps.length
  n2 : s.ps.length ≤ 32
  ne : ∀ p ∈ s.ps, p ≠ []
  ak : s.ak ≤ allI s.ps.length
  r1 : 0 ≤ s.rd
  r2 : s.rd ≤ 8
  u1 : 0 ≤ s.un
  u2 : s.un ≤ 1099511627776
  d : s.ak = allI s.ps.length → s.st = 2
  a : s.ak ≠ allI s.ps.length → s.st = 1 ∨ s.st = 3
structure Snd.fits (s : Snd) : Prop where
  st : -9223372036854775808 ≤ s.st ∧ s.st ≤ 9223372036854775807
  tag : 0 ≤ s.tag ∧ s.tag ≤ 255
  ak : 0 ≤ s.ak ∧ s.ak ≤ 4294967295
  rd : -9223372036854775808 ≤ s.rd ∧ s.rd ≤ 9223372036854775807
  un : -9223372036854775808 ≤ s.un ∧ s.un ≤ 9223372036854775807
  n : s.ps.length ≤ 5864062014805
  b : ∀ p ∈ s.ps, p.length ≤ 140737488351232
end Go.Proofs.Ytjhicdoigllblaa
namespace Go.Proofs.Ytjhicdoigllblaa
set_option linter.unusedVariables false
set_option linter.unusedSimpArgs false
open Go.RowKit
set_option maxHeartbeats 4000000
theorem cloned_c (b : List UInt8) (B : List SV) (hB : B = u8l b) (hb : b.length ≤ 140737488351232) : Good 53 (pu [.lst none B] (.lst none B)) := by
  have hl : B.length = b.length := by rw [hB, u8l_len]
  refine Good.of Try.func53 rfl (by rfl) (by kernel_rfl) ?_
  cbv
  (repeat' (first
| (refine q1w (fun z hz => ?_); (try simp only at hz); cbv)
| (refine rqw ?_; cbv)
| (refine QC.tw ?_; cbv)
| (refine QC.tt ?_ ?_; (focus (simp only [decide_true, Bool.and_true, Bool.and_self] <;> fail)); cbv)
| (refine QC.ff ?_ ?_; (focus (simp only [decide_true, Bool.and_true, Bool.and_self, decide_false, Bool.false_and, reduceCtorEq, not_false_eq_true] <;> fail)); cbv)
| (refine QC.fw ?_; cbv)
| (refine QC.mk (fun hc => ?_) (fun hc => ?_) <;> (try dsimp only at hc) <;> cbv)
| (refine br_mk2 (fun hb => ?_) (fun hb => ?_) <;> (try subst hb) <;> cbv)))
  refine ⟨?_, rfl, rfl⟩
  simp only [sm]
  rename_i z0 hz0
  have e : z0.toNat = B.length := by (first | omega | (simp only [cst] at *; omega) | (simp only [sm] at *; omega))
  rw [e]
  simp
theorem all_c (n : Nat) (N A : Int) (hN : N = n) (hn : n ≤ 32) (hA : A = allI n) : Good 57 (pu [.int .i64 N] (.int .u32 A)) := by
  have hb := allI_b hn
  refine Good.of Try.func57 rfl (by rfl) (by kernel_rfl) ?_
  cbv
  (repeat' (first
| (refine q1w (fun z hz => ?_); (try simp only at hz); cbv)
| (refine rqw ?_; cbv)
| (refine QC.tw ?_; cbv)
| (refine QC.tt ?_ ?_; (focus (simp only [decide_true, Bool.and_true, Bool.and_self] <;> fail)); cbv)
| (refine QC.ff ?_ ?_; (focus (simp only [decide_true, Bool.and_true, Bool.and_self, decide_false, Bool.false_and, reduceCtorEq, not_false_eq_true] <;> fail)); cbv)
| (refine QC.fw ?_; cbv)
| (refine QC.mk (fun hc => ?_) (fun hc => ?_) <;> (try dsimp only at hc) <;> cbv)
| (refine br_mk2 (fun hb => ?_) (fun hb => ?_) <;> (try subst hb) <;> cbv)))
  rename_i z1 h1 z2 h2
  have e0 : N.toNat = n := by (first | omega | (simp only [cst] at *; omega) | (simp only [sm] at *; omega))
  rw [e0] at h1
  have e1 : (2 : Int) ^ n = allI n + 1 := by rw [allI]; omega
  rw [e1] at h1
  refine ⟨?_, rfl, rfl⟩
  have : z = A := by omega
  rw [this]
theorem rall_c (n : Nat) (N A : Int) (hN : N = n) (hn : n ≤ 32) (hA : A = allI n) : Good 58 (pu [.int .i64 N] (.int .u32 A)) := by
  have hb := allI_b hn
  refine Good.of Try.func58 rfl (by rfl) (by kernel_rfl) ?_
  cbv
  (repeat' (first
| (refine q1w (fun z hz => ?_); (try simp only at hz); cbv)
| (refine rqw ?_; cbv)
| (refine QC.tw ?_; cbv)
| (refine QC.tt ?_ ?_; (focus (simp only [decide_true, Bool.and_true, Bool.and_self] <;> fail)); cbv)
| (refine QC.ff ?_ ?_; (focus (simp only [decide_true, Bool.and_true, Bool.and_self, decide_false, Bool.false_and, reduceCtorEq, not_false_eq_true] <;> fail)); cbv)
| (refine QC.fw ?_; cbv)
| (refine QC.mk (fun hc => ?_) (fun hc => ?_) <;> (try dsimp only at hc) <;> cbv)
| (refine br_mk2 (fun hb => ?_) (fun hb => ?_) <;> (try subst hb) <;> cbv)))
  rename_i z0 h0 z1 h1 z2 h2
  have e0 : z0.toNat = n := by (first | omega | (simp only [cst] at *; omega) | (simp only [sm] at *; omega))
  rw [e0] at h1
  have e1 : (2 : Int) ^ n = allI n + 1 := by rw [allI]; omega
  rw [e1] at h1
  refine ⟨?_, rfl, rfl⟩
  have : z = A := by omega
  rw [this]
theorem has_c (ps : List (List UInt8)) (R : List SV) (hR : R = rowsB ps) (hn : ps.length ≤ 32) (hb : ∀ p ∈ ps, p.length ≤ 140737488351232) (h : Int) (hh : h = hasN ps ps.length) : Good 59 (pu [.lst none R] (.int .u32 h)) := by
  have hRl : R.length = ps.length := by rw [hR, rowsB_len]
  have hE := fun i hi => rowsB_at hR i hi
  obtain ⟨H, hH⟩ : ∃ H : Nat → Int, ∀ i, H i = hasN ps i := ⟨_, fun _ => rfl⟩
  have hHb : ∀ i, i ≤ 32 → 0 ≤ H i ∧ H i ≤ 4294967295 := fun i hi => by
    have h1 := bm_lt (fun i => decide (0 < (ps.getD i []).length)) i
    have h2 : (2 : Nat) ^ i ≤ 2 ^ 32 := Nat.pow_le_pow_right (by omega) hi
    rw [hH, hasN]
    omega
  have hHs : ∀ i b, ps[i]? = some b → (0 < b.length → (((H i).toNat ||| (2 ^ i : Nat) : Nat) : Int) = H (i + 1)) ∧ (¬ 0 < b.length → H i = H (i + 1)) := fun i b hib => by
    have hg : ps.getD i [] = b := by rw [List.getD_eq_getElem?_getD, hib]; rfl
    refine ⟨fun hp => ?_, fun hp => ?_⟩
    · rw [hH, hH, hasN, hasN, Int.toNat_natCast, bm_or _ _ (by rw [hg]; simpa using hp)]
    · rw [hH, hH, hasN, hasN, bm, if_neg (by rw [hg]; simpa using hp), Nat.add_zero]
  have hH0 : (0 : Int) = H 0 := by rw [hH]; rfl
  rw [← hH] at hh
  clear hH
  refine Good.of Try.func59 rfl (by rfl) (by kernel_rfl) ?_
  cbv
  (repeat' (first
| (refine q1w (fun z hz => ?_); (try simp only at hz); cbv)
| (refine rqw ?_; cbv)
| (refine QC.tw ?_; cbv)
| (refine QC.tt ?_ ?_; (focus (simp only [decide_true, Bool.and_true, Bool.and_self] <;> fail)); cbv)
| (refine QC.ff ?_ ?_; (focus (simp only [decide_true, Bool.and_true, Bool.and_self, decide_false, Bool.false_and, reduceCtorEq, not_false_eq_true] <;> fail)); cbv)
| (refine QC.fw ?_; cbv)
| (refine QC.mk (fun hc => ?_) (fun hc => ?_) <;> (try dsimp only at hc) <;> cbv)
| (refine br_mk2 (fun hb => ?_) (fun hb => ?_) <;> (try subst hb) <;> cbv)))
  refine loopQ (A := Nat × Int × Int) (fun p => p.2.1 = p.1 ∧ p.1 ≤ ps.length ∧ p.2.2 = H p.1) (fun p => ps.length - p.1) (fun p => [(8, .int .i64 p.2.1), (3, .int .u32 p.2.2)]) (fun p => []) (0, 0, 0) ⟨rfl, Nat.zero_le _, hH0⟩ ?_ ?_
  · cbv
  · intro ⟨i, j, x⟩ hi0
    have hj : j = (i : Int) := hi0.1
    have hi : i ≤ ps.length := hi0.2.1
    have hx : x = H i := hi0.2.2
    clear hi0
    have hmk : True := trivial
    have hHi := hHb i (by omega)
    cbv
    (repeat' (first
| (refine q1w (fun z hz => ?_); (try simp only at hz); cbv)
| (refine rqw ?_; cbv)
| (refine QC.tw ?_; cbv)
| (refine QC.tt ?_ ?_; (focus (simp only [decide_true, Bool.and_true, Bool.and_self] <;> fail)); cbv)
| (refine QC.ff ?_ ?_; (focus (simp only [decide_true, Bool.and_true, Bool.and_self, decide_false, Bool.false_and, reduceCtorEq, not_false_eq_true] <;> fail)); cbv)
| (refine QC.fw ?_; cbv)
| (refine QC.mk (fun hc => ?_) (fun hc => ?_) <;> (try dsimp only at hc) <;> cbv)
| (refine br_mk2 (fun hb => ?_) (fun hb => ?_) <;> (try subst hb) <;> cbv)))
    · have hlt : i < ps.length := by (first | omega | (simp only [cst] at *; omega) | (simp only [sm] at *; omega))
      obtain ⟨b, B, hbi, hB, hEi⟩ := hE i hlt
      have hBl : B.length = b.length := by rw [hB, u8l_len]
      have hs := hHs i b hbi
      have hbl := hb b (List.mem_of_getElem? hbi)
      (refine qv (i, _) ⟨hj, hEi⟩ ?_; cbv; (repeat' (first
| (refine q1w (fun z hz => ?_); (try simp only at hz); cbv)
| (refine rqw ?_; cbv)
| (refine QC.tw ?_; cbv)
| (refine QC.tt ?_ ?_; (focus (simp only [decide_true, Bool.and_true, Bool.and_self] <;> fail)); cbv)
| (refine QC.ff ?_ ?_; (focus (simp only [decide_true, Bool.and_true, Bool.and_self, decide_false, Bool.false_and, reduceCtorEq, not_false_eq_true] <;> fail)); cbv)
| (refine QC.fw ?_; cbv)
| (refine QC.mk (fun hc => ?_) (fun hc => ?_) <;> (try dsimp only at hc) <;> cbv)
| (refine br_mk2 (fun hb => ?_) (fun hb => ?_) <;> (try subst hb) <;> cbv))))
      · rename_i zs hzs zo hzo
        have hp : 0 < b.length := by (first | omega | (simp only [cst] at *; omega) | (simp only [sm] at *; omega))
        have ej : j.toNat = i := by (first | omega | (simp only [cst] at *; omega) | (simp only [sm] at *; omega))
        have e2 : (2 : Nat) ^ i < 4294967296 := by
          have : (2 : Nat) ^ i ≤ 2 ^ 31 := Nat.pow_le_pow_right (by omega) (by omega)
          omega
        have e3 : zs = ((2 ^ i : Nat) : Int) := by
          rw [hzs, ej, Int.one_mul]
          have : (2 : Int) ^ i = ((2 ^ i : Nat) : Int) := by simp
          have e5 : ∀ p : Nat, p < 4294967296 → (p : Int) % 4294967296 = p := fun p hp => by omega
          rw [this]
          exact e5 _ e2
        have e4 : zo = H (i + 1) := by
          rw [hzo, hx, e3, Int.toNat_natCast]
          exact hs.1 hp
        refine ⟨(i + 1, z, zo), ⟨by show z = ((i + 1 : Nat) : Int); (first | omega | (simp only [cst] at *; omega) | (simp only [sm] at *; omega)), by show i + 1 ≤ ps.length; omega, e4⟩, by show ps.length - (i + 1) < ps.length - i; omega, ?_⟩
        cbv
      · have hp : ¬ 0 < b.length := by (first | omega | (simp only [cst] at *; omega) | (simp only [sm] at *; omega))
        refine ⟨(i + 1, z, x), ⟨by show z = ((i + 1 : Nat) : Int); (first | omega | (simp only [cst] at *; omega) | (simp only [sm] at *; omega)), by show i + 1 ≤ ps.length; omega, by show x = H (i + 1); rw [hx]; exact hs.2 hp⟩, by show ps.length - (i + 1) < ps.length - i; omega, ?_⟩
        cbv
    · have e : i = ps.length := by (first | omega | (simp only [cst] at *; omega) | (simp only [sm] at *; omega))
      refine ⟨?_, rfl, rfl⟩
      rw [hx, hh, e]
theorem clonedPieces_c (ps : List (List UInt8)) (R : List SV) (hR : R = rowsB ps) (hn : ps.length ≤ 5864062014805) (hb : ∀ p ∈ ps, p.length ≤ 140737488351232) : Good 51 (pu [.lst none R] (.lst none R)) := by
  have hRl : R.length = ps.length := by rw [hR, rowsB_len]
  have hE := fun i hi => rowsB_at hR i hi
  obtain ⟨H, hH⟩ : ∃ H : Nat → List SV, ∀ i, H i = R.take i ++ List.replicate (R.length - i) .nil := ⟨_, fun _ => rfl⟩
  have hH0 : List.replicate R.length SV.nil = H 0 := by rw [hH]; simp
  have hHl : ∀ i, i ≤ R.length → (H i).length = R.length := fun i hi => by rw [hH]; simp; omega
  have hHs : ∀ i y, R[i]? = some y → (H i).set i y = H (i + 1) := fun i y hy => by
    obtain ⟨h1, h2⟩ := List.getElem?_eq_some_iff.1 hy
    rw [hH, hH]
    apply List.ext_getElem?
    intro k
    rw [List.getElem?_set]
    by_cases hk : i = k
    · subst hk
      rw [if_pos rfl, if_pos (by simp; omega), List.getElem?_append_left (by simp; omega), List.getElem?_take, if_pos (by omega), hy]
    · rw [if_neg hk]
      by_cases h3 : k < i
      · rw [List.getElem?_append_left (by simp; omega), List.getElem?_append_left (by simp; omega), List.getElem?_take, List.getElem?_take, if_pos h3, if_pos (by omega)]
      · rw [List.getElem?_append_right (by simp; omega), List.getElem?_append_right (by simp; omega), List.getElem?_replicate, List.getElem?_replicate]
        simp only [List.length_take]
        by_cases h4 : k < R.length
        · rw [if_pos (by omega), if_pos (by omega)]
        · rw [if_neg (by omega), if_neg (by omega)]
  have hHn : H R.length = R := by rw [hH]; simp
  clear hH
  refine Good.of Try.func51 rfl (by rfl) (by kernel_rfl) ?_
  cbv
  (repeat' (first
| (refine q1w (fun z hz => ?_); (try simp only at hz); cbv)
| (refine rqw ?_; cbv)
| (refine QC.tw ?_; cbv)
| (refine QC.tt ?_ ?_; (focus (simp only [decide_true, Bool.and_true, Bool.and_self] <;> fail)); cbv)
| (refine QC.ff ?_ ?_; (focus (simp only [decide_true, Bool.and_true, Bool.and_self, decide_false, Bool.false_and, reduceCtorEq, not_false_eq_true] <;> fail)); cbv)
| (refine QC.fw ?_; cbv)
| (refine QC.mk (fun hc => ?_) (fun hc => ?_) <;> (try dsimp only at hc) <;> cbv)
| (refine br_mk2 (fun hb => ?_) (fun hb => ?_) <;> (try subst hb) <;> cbv)))
  refine loopQ (A := Nat × Int) (fun p => p.2 = p.1 ∧ p.1 ≤ ps.length) (fun p => ps.length - p.1) (fun p => [(11, .int .i64 p.2), (3, .row 8)]) (fun p => [(8, .row none 26 (H p.1))]) (0, 0) ⟨rfl, Nat.zero_le _⟩ ?_ ?_
  · cbv
    rename_i z0 hz0
    refine ⟨?_, trivial⟩
    show Blk.row none 26 (O.rp z0 .nil) = .row none 26 (H 0)
    rw [orp, ← hH0, show z0.toNat = R.length by (first | omega | (simp only [cst] at *; omega) | (simp only [sm] at *; omega))]
  · intro ⟨i, j⟩ hi0
    have hj : j = (i : Int) := hi0.1
    have hi : i ≤ ps.length := hi0.2
    clear hi0
    have hmk : True := trivial
    have hli := hHl i (by omega)
    cbv
    (repeat' (first
| (refine q1w (fun z hz => ?_); (try simp only at hz); cbv)
| (refine rqw ?_; cbv)
| (refine QC.tw ?_; cbv)
| (refine QC.tt ?_ ?_; (focus (simp only [decide_true, Bool.and_true, Bool.and_self] <;> fail)); cbv)
| (refine QC.ff ?_ ?_; (focus (simp only [decide_true, Bool.and_true, Bool.and_self, decide_false, Bool.false_and, reduceCtorEq, not_false_eq_true] <;> fail)); cbv)
| (refine QC.fw ?_; cbv)
| (refine QC.mk (fun hc => ?_) (fun hc => ?_) <;> (try dsimp only at hc) <;> cbv)
| (refine br_mk2 (fun hb => ?_) (fun hb => ?_) <;> (try subst hb) <;> cbv)))
    · have hlt : i < ps.length := by (first | omega | (simp only [cst] at *; omega) | (simp only [sm] at *; omega))
      obtain ⟨b, B, hbi, hB, hEi⟩ := hE i hlt
      have hbl := hb b (List.mem_of_getElem? hbi)
      have g1 := cloned_c b B hB hbl
      have hs := hHs i _ hEi
      (refine qv (i, _) ⟨hj, hEi⟩ ?_; cbv; (repeat' (first
| (refine q1w (fun z hz => ?_); (try simp only at hz); cbv)
| (refine rqw ?_; cbv)
| (refine QC.tw ?_; cbv)
| (refine QC.tt ?_ ?_; (focus (simp only [decide_true, Bool.and_true, Bool.and_self] <;> fail)); cbv)
| (refine QC.ff ?_ ?_; (focus (simp only [decide_true, Bool.and_true, Bool.and_self, decide_false, Bool.false_and, reduceCtorEq, not_false_eq_true] <;> fail)); cbv)
| (refine QC.fw ?_; cbv)
| (refine QC.mk (fun hc => ?_) (fun hc => ?_) <;> (try dsimp only at hc) <;> cbv)
| (refine br_mk2 (fun hb => ?_) (fun hb => ?_) <;> (try subst hb) <;> cbv))))
      (refine callq (g1) rfl rfl ?_; cbv; (repeat' (first
| (refine q1w (fun z hz => ?_); (try simp only at hz); cbv)
| (refine rqw ?_; cbv)
| (refine QC.tw ?_; cbv)
| (refine QC.tt ?_ ?_; (focus (simp only [decide_true, Bool.and_true, Bool.and_self] <;> fail)); cbv)
| (refine QC.ff ?_ ?_; (focus (simp only [decide_true, Bool.and_true, Bool.and_self, decide_false, Bool.false_and, reduceCtorEq, not_false_eq_true] <;> fail)); cbv)
| (refine QC.fw ?_; cbv)
| (refine QC.mk (fun hc => ?_) (fun hc => ?_) <;> (try dsimp only at hc) <;> cbv)
| (refine br_mk2 (fun hb => ?_) (fun hb => ?_) <;> (try subst hb) <;> cbv))))
      refine qv i ⟨hj, by show i < O.ln (H i); rw [oln]; omega⟩ ?_
      cbv
      (repeat' (first
| (refine q1w (fun z hz => ?_); (try simp only at hz); cbv)
| (refine rqw ?_; cbv)
| (refine QC.tw ?_; cbv)
| (refine QC.tt ?_ ?_; (focus (simp only [decide_true, Bool.and_true, Bool.and_self] <;> fail)); cbv)
| (refine QC.ff ?_ ?_; (focus (simp only [decide_true, Bool.and_true, Bool.and_self, decide_false, Bool.false_and, reduceCtorEq, not_false_eq_true] <;> fail)); cbv)
| (refine QC.fw ?_; cbv)
| (refine QC.mk (fun hc => ?_) (fun hc => ?_) <;> (try dsimp only at hc) <;> cbv)
| (refine br_mk2 (fun hb => ?_) (fun hb => ?_) <;> (try subst hb) <;> cbv)))
      refine ⟨(i + 1, z), ⟨by show z = ((i + 1 : Nat) : Int); (first | omega | (simp only [cst] at *; omega) | (simp only [sm] at *; omega)), by show i + 1 ≤ ps.length; omega⟩, by show ps.length - (i + 1) < ps.length - i; omega, ?_⟩
      cbv
      refine ⟨?_, trivial⟩
      show Blk.row none 26 (O.st (H i) i (.lst none B)) = .row none 26 (H (i + 1))
      rw [ost, hs]
    · have e : i = ps.length := by (first | omega | (simp only [cst] at *; omega) | (simp only [sm] at *; omega))
      refine ⟨?_, rfl, rfl⟩
      show SV.lst none (H i) = _
      rw [e, ← hRl, hHn]
theorem copied_c (ps : List (List UInt8)) (R : List SV) (hR : R = rowsB ps) (hn : ps.length ≤ 5864062014805) (hb : ∀ p ∈ ps, p.length ≤ 140737488351232) : Good 55 (pu [.lst none R] (.lst none R)) := by
  have hRl : R.length = ps.length := by rw [hR, rowsB_len]
  have hE := fun i hi => rowsB_at hR i hi
  obtain ⟨H, hH⟩ : ∃ H : Nat → List SV, ∀ i, H i = R.take i := ⟨_, fun _ => rfl⟩
  have hH0 : [] = H 0 := by rw [hH]; simp
  have hHl : ∀ i, i ≤ R.length → (H i).length = i := fun i hi => by rw [hH]; simp; omega
  have hHs : ∀ i y, R[i]? = some y → H i ++ [y] = H (i + 1) := fun i y hy => by
    obtain ⟨h1, h2⟩ := List.getElem?_eq_some_iff.1 hy
    rw [hH, hH, ← h2, List.take_append_getElem h1]
  have hHn : H R.length = R := by rw [hH]; simp
  clear hH
  refine Good.of Try.func55 rfl (by rfl) (by kernel_rfl) ?_
  cbv
  (repeat' (first
| (refine q1w (fun z hz => ?_); (try simp only at hz); cbv)
| (refine rqw ?_; cbv)
| (refine QC.tw ?_; cbv)
| (refine QC.tt ?_ ?_; (focus (simp only [decide_true, Bool.and_true, Bool.and_self] <;> fail)); cbv)
| (refine QC.ff ?_ ?_; (focus (simp only [decide_true, Bool.and_true, Bool.and_self, decide_false, Bool.false_and, reduceCtorEq, not_false_eq_true] <;> fail)); cbv)
| (refine QC.fw ?_; cbv)
| (refine QC.mk (fun hc => ?_) (fun hc => ?_) <;> (try dsimp only at hc) <;> cbv)
| (refine br_mk2 (fun hb => ?_) (fun hb => ?_) <;> (try subst hb) <;> cbv)))
  refine loopQ (A := Nat × Int) (fun p => p.2 = p.1 ∧ p.1 ≤ ps.length) (fun p => ps.length - p.1) (fun p => [(4, .int .i64 p.2), (3, .row 3)]) (fun p => [(3, .row none 26 (H p.1))]) (0, 0) ⟨rfl, Nat.zero_le _⟩ ?_ ?_
  · cbv
    refine ⟨?_, trivial⟩
    show Blk.row none 26 [] = .row none 26 (H 0)
    rw [← hH0]
  · intro ⟨i, j⟩ hi0
    have hj : j = (i : Int) := hi0.1
    have hi : i ≤ ps.length := hi0.2
    clear hi0
    have hmk : True := trivial
    have hli := hHl i (by omega)
    cbv
    (repeat' (first
| (refine q1w (fun z hz => ?_); (try simp only at hz); cbv)
| (refine rqw ?_; cbv)
| (refine QC.tw ?_; cbv)
| (refine QC.tt ?_ ?_; (focus (simp only [decide_true, Bool.and_true, Bool.and_self] <;> fail)); cbv)
| (refine QC.ff ?_ ?_; (focus (simp only [decide_true, Bool.and_true, Bool.and_self, decide_false, Bool.false_and, reduceCtorEq, not_false_eq_true] <;> fail)); cbv)
| (refine QC.fw ?_; cbv)
| (refine QC.mk (fun hc => ?_) (fun hc => ?_) <;> (try dsimp only at hc) <;> cbv)
| (refine br_mk2 (fun hb => ?_) (fun hb => ?_) <;> (try subst hb) <;> cbv)))
    · have hlt : i < ps.length := by (first | omega | (simp only [cst] at *; omega) | (simp only [sm] at *; omega))
      obtain ⟨b, B, hbi, hB, hEi⟩ := hE i hlt
      have hbl := hb b (List.mem_of_getElem? hbi)
      have hBl : B.length = b.length := by rw [hB, u8l_len]
      have hs := hHs i _ hEi
      (refine qv (i, _) ⟨hj, hEi⟩ ?_; cbv; (repeat' (first
| (refine q1w (fun z hz => ?_); (try simp only at hz); cbv)
| (refine rqw ?_; cbv)
| (refine QC.tw ?_; cbv)
| (refine QC.tt ?_ ?_; (focus (simp only [decide_true, Bool.and_true, Bool.and_self] <;> fail)); cbv)
| (refine QC.ff ?_ ?_; (focus (simp only [decide_true, Bool.and_true, Bool.and_self, decide_false, Bool.false_and, reduceCtorEq, not_false_eq_true] <;> fail)); cbv)
| (refine QC.fw ?_; cbv)
| (refine QC.mk (fun hc => ?_) (fun hc => ?_) <;> (try dsimp only at hc) <;> cbv)
| (refine br_mk2 (fun hb => ?_) (fun hb => ?_) <;> (try subst hb) <;> cbv))))
      refine ⟨(i + 1, z), ⟨by show z = ((i + 1 : Nat) : Int); (first | omega | (simp only [cst] at *; omega) | (simp only [sm] at *; omega)), by show i + 1 ≤ ps.length; omega⟩, by show ps.length - (i + 1) < ps.length - i; omega, ?_⟩
      cbv
      refine ⟨?_, trivial⟩
      show Blk.row none 26 (apL (H i) [.lst none B]) = .row none 26 (H (i + 1))
      rw [apL_eq, hs]
    · have e : i = ps.length := by (first | omega | (simp only [cst] at *; omega) | (simp only [sm] at *; omega))
      refine ⟨?_, rfl, rfl⟩
      show SV.lst none (H i) = _
      rw [e, ← hRl, hHn]
end Go.Proofs.Ytjhicdoigllblaa
namespace Go.Proofs.Ytjhicdoigllblaa
set_option linter.unusedVariables false
set_option linter.unusedSimpArgs false
open Go.RowKit
set_option maxHeartbeats 8000000
def chk (sz : Nat) (b : List UInt8) (n : Nat) : List (List UInt8) := (List.range n).map fun i => (b.drop (i * sz)).take sz
theorem chk_len (sz : Nat) (b : List UInt8) (n : Nat) : (chk sz b n).length = n := by simp [chk]
theorem chk_succ (sz : Nat) (b : List UInt8) (n : Nat) : chk sz b (n + 1) = chk sz b n ++ [(b.drop (n * sz)).take sz] := by simp [chk, List.range_succ]
def nPc (len sz : Nat) : Nat := (len - 1) / sz + 1
theorem nPc_lt {len sz i : Nat} (h1 : 1 ≤ len) (hs : 1 ≤ sz) (h : i < nPc len sz) : i * sz < len := by
  have h2 : i ≤ (len - 1) / sz := by unfold nPc at h; omega
  have h3 := (Nat.le_div_iff_mul_le (by omega)).1 h2
  omega
theorem nPc_ge {len sz : Nat} (h1 : 1 ≤ len) (hs : 1 ≤ sz) : len ≤ nPc len sz * sz := by
  have h2 := Nat.lt_div_mul_add (show 0 < sz by omega) (a := len - 1)
  unfold nPc
  rw [Nat.add_mul]
  omega
def zeroS : SV := .agg [.int .i64 0, .int .u8 0, .nil, .int .u32 0, .int .i64 0, .int .i64 0]
def begX (b : List UInt8) (tag room : Int) : SV × Int :=
  if room ≤ 4 then (zeroS, 2) else if b.length = 0 ∨ 32 ≤ ((b.length : Int) - 1) / (room - 4) then (zeroS, 3)
  else ((⟨1, tag, chk (room - 4).toNat b (nPc b.length (room - 4).toNat), 0, 0, 0⟩ : Snd).v, 0)
theorem begin_c (b : List UInt8) (B : List SV) (hB : B = u8l b) (hb : b.length ≤ 140737488351232) (tag room : Int) (hr : -9223372036854775808 ≤ room ∧ room ≤ 9223372036854775807) (X : SV) (e : Int) (hX : begX b tag room = (X, e)) :
    Good 24 (pu [.lst none B, .int .u8 tag, .int .i64 room] (.tup [X, .int .i64 e])) := by
  have hBl : B.length = b.length := by rw [hB, u8l_len]
  unfold begX at hX
  refine Good.of Try.func24 rfl (by rfl) (by kernel_rfl) ?_
  cbv
  have hmk : True := trivial
  (repeat' (first
| (refine q1w (fun z hz => ?_); (try simp only at hz); cbv)
| (refine rqw ?_; cbv)
| (refine QC.tw ?_; cbv)
| (refine QC.tt ?_ ?_; (focus (simp only [decide_true, Bool.and_true, Bool.and_self] <;> fail)); cbv)
| (refine QC.ff ?_ ?_; (focus (simp only [decide_true, Bool.and_true, Bool.and_self, decide_false, Bool.false_and, reduceCtorEq, not_false_eq_true] <;> fail)); cbv)
| (refine QC.fw ?_; cbv)
| (refine QC.mk (fun hc => ?_) (fun hc => ?_) <;> (try dsimp only at hc) <;> cbv)
| (refine br_mk2 (fun hb => ?_) (fun hb => ?_) <;> (try subst hb) <;> cbv)))
  · rw [if_pos hc] at hX
    obtain ⟨rfl, rfl⟩ := Prod.mk.inj hX
    exact ⟨rfl, rfl, rfl⟩
  · rename_i h4 z0 hz0
    rw [if_neg h4, if_pos (.inl (by (first | omega | (simp only [cst] at *; omega) | (simp only [sm] at *; omega))))] at hX
    obtain ⟨rfl, rfl⟩ := Prod.mk.inj hX
    exact ⟨rfl, rfl, rfl⟩
  · rename_i h4 z0 hz0 z1 hz1 h5 z2 hz2 z3 hz3
    have hz3b : 0 ≤ z3 := by (first | omega | (simp only [cst] at *; omega) | (simp only [sm] at *; omega))
    have e3 : z3 = (b.length : Int) - 1 := by (first | omega | (simp only [cst] at *; omega) | (simp only [sm] at *; omega))
    have e1 : z = ((b.length : Int) - 1) / (room - 4) := by rw [hz.1 hz3b, e3, hz0]
    rw [e1] at hc
    rw [if_neg h4, if_pos (.inr hc)] at hX
    obtain ⟨rfl, rfl⟩ := Prod.mk.inj hX
    exact ⟨rfl, rfl, rfl⟩
  · rename_i h4 z0 hz0 z1 hz1 h5 z2 hz2 z3 hz3
    have hz3b : 0 ≤ z3 := by (first | omega | (simp only [cst] at *; omega) | (simp only [sm] at *; omega))
    have e3 : z3 = (b.length : Int) - 1 := by (first | omega | (simp only [cst] at *; omega) | (simp only [sm] at *; omega))
    have e1 : z = ((b.length : Int) - 1) / (room - 4) := by rw [hz.1 hz3b, e3, hz0]
    rw [e1] at hc
    have hb1 : 1 ≤ b.length := by (first | omega | (simp only [cst] at *; omega) | (simp only [sm] at *; omega))
    rw [if_neg h4, if_neg (by rintro (h | h); omega; exact hc h)] at hX
    obtain ⟨hXv, rfl⟩ := Prod.mk.inj hX
    obtain ⟨sz, hsz⟩ : ∃ sz : Nat, sz = (room - 4).toNat := ⟨_, rfl⟩
    have hsz1 : 1 ≤ sz := by omega
    have hz0' : z0 = sz := by omega
    obtain ⟨n, hn⟩ : ∃ n, n = nPc b.length sz := ⟨_, rfl⟩
    have hn32 : n ≤ 32 := by
      rw [hn, nPc]
      have e4 : ((b.length : Int) - 1) / (room - 4) = (((b.length - 1) / sz : Nat) : Int) := by
        rw [show (b.length : Int) - 1 = ((b.length - 1 : Nat) : Int) by omega, show room - 4 = (sz : Int) by omega]
        rfl
      rw [e4] at hc
      omega
    rw [← hsz, ← hn] at hXv
    obtain ⟨q, hq⟩ : ∃ q : Nat → Nat, ∀ i, q i = i * sz := ⟨_, fun _ => rfl⟩
    have hq0 : q 0 = 0 := by rw [hq]; simp
    have hqs : ∀ i, q (i + 1) = q i + sz := fun i => by rw [hq, hq, Nat.add_mul, Nat.one_mul]
    have hql : ∀ i, i < n → q i < b.length := fun i hi => by rw [hq]; exact nPc_lt hb1 hsz1 (hn ▸ hi)
    have hqn : b.length ≤ q n := by rw [hq, hn]; exact nPc_ge hb1 hsz1
    have hcs : ∀ i, chk sz b (i + 1) = chk sz b i ++ [(b.drop (q i)).take sz] := fun i => by rw [hq]; exact chk_succ sz b i
    clear hq hX hn e1 hc hz hz3 hz2
    obtain ⟨G, hG⟩ : ∃ G : Nat → List SV, ∀ i, G i = u8l (b.drop (q i)) := ⟨_, fun _ => rfl⟩
    obtain ⟨U, hU⟩ : ∃ U : Nat → List SV, ∀ i, U i = rowsB (chk sz b i) := ⟨_, fun _ => rfl⟩
    have hG0 : B = G 0 := by rw [hG, hq0, hB]; rfl
    have hGl : ∀ i, (G i).length = b.length - q i := fun i => by rw [hG, u8l_len, List.length_drop]
    have hU0 : [] = U 0 := by rw [hU]; rfl
    have hUl : ∀ i, (U i).length = i := fun i => by rw [hU, rowsB_len, chk_len]
    refine loopQ (A := Nat) (fun p => p ≤ n) (fun p => n - p) (fun p => [(10, .lst none (G p)), (9, .row 9)]) (fun p => [(9, .row none 26 (U p))]) 0 (Nat.zero_le _) ?_ ?_
    · cbv
      refine ⟨⟨by rw [hG0], trivial⟩, ?_, trivial⟩
      show Blk.row none 26 [] = .row none 26 (U 0)
      rw [← hU0]
    · intro i hi
      have hmk : True := trivial
      have hgl := hGl i
      have hul := hUl i
      cbv
      (repeat' (first
| (refine q1w (fun z hz => ?_); (try simp only at hz); cbv)
| (refine rqw ?_; cbv)
| (refine QC.tw ?_; cbv)
| (refine QC.tt ?_ ?_; (focus (simp only [decide_true, Bool.and_true, Bool.and_self] <;> fail)); cbv)
| (refine QC.ff ?_ ?_; (focus (simp only [decide_true, Bool.and_true, Bool.and_self, decide_false, Bool.false_and, reduceCtorEq, not_false_eq_true] <;> fail)); cbv)
| (refine QC.fw ?_; cbv)
| (refine QC.mk (fun hc => ?_) (fun hc => ?_) <;> (try dsimp only at hc) <;> cbv)
| (refine br_mk2 (fun hb => ?_) (fun hb => ?_) <;> (try subst hb) <;> cbv)))
      · rename_i zl hzl hzp zm hzm
        have hlt : i < n := by
          rcases Nat.lt_or_ge i n with h | h
          · exact h
          · exfalso
            have : b.length ≤ q i := by rw [show i = n by omega]; exact hqn
            (first | omega | (simp only [cst] at *; omega) | (simp only [sm] at *; omega))
        obtain ⟨P, hP⟩ : ∃ P, P = (b.drop (q i)).take sz := ⟨_, rfl⟩
        have hzn : z.toNat = min sz (b.length - q i) := by (first | omega | (simp only [cst] at *; omega) | (simp only [sm] at *; omega))
        have hT : O.tk z (G i) = u8l P := by
          rw [otk, hG, u8l_take, hP, hzn]
          congr 1
          rw [List.take_eq_take_iff, List.length_drop]
          omega
        have hD : O.dr z (G i) = G (i + 1) := by
          rw [odr, hG, hG, u8l_drop, List.drop_drop, hqs, hzn]
          congr 1
          rw [List.drop_eq_drop_iff]
          omega
        have hPl : P.length ≤ b.length := by rw [hP, List.length_take, List.length_drop]; omega
        have hUs : apL (U i) [.lst none (O.tk z (G i))] = U (i + 1) := by
          rw [apL_eq, hU, hU, hcs, hT, ← hP]
          simp [rowsB]
        have g1 := cloned_c P _ hT (by omega)
        (refine callq (g1) rfl rfl ?_; cbv; (repeat' (first
| (refine q1w (fun z hz => ?_); (try simp only at hz); cbv)
| (refine rqw ?_; cbv)
| (refine QC.tw ?_; cbv)
| (refine QC.tt ?_ ?_; (focus (simp only [decide_true, Bool.and_true, Bool.and_self] <;> fail)); cbv)
| (refine QC.ff ?_ ?_; (focus (simp only [decide_true, Bool.and_true, Bool.and_self, decide_false, Bool.false_and, reduceCtorEq, not_false_eq_true] <;> fail)); cbv)
| (refine QC.fw ?_; cbv)
| (refine QC.mk (fun hc => ?_) (fun hc => ?_) <;> (try dsimp only at hc) <;> cbv)
| (refine br_mk2 (fun hb => ?_) (fun hb => ?_) <;> (try subst hb) <;> cbv))))
        refine ⟨i + 1, hlt, by show n - (i + 1) < n - i; omega, ?_⟩
        cbv
        refine ⟨⟨?_, trivial⟩, ?_, trivial⟩
        · show SV.lst none (O.dr z (G i)) = .lst none (G (i + 1))
          rw [hD]
        · show Blk.row none 26 (apL (U i) [.lst none (O.tk z (G i))]) = .row none 26 (U (i + 1))
          rw [hUs]
      · have e : i = n := by
          rcases Nat.lt_or_ge i n with h | h
          · have := hql i h
            exfalso
            (first | omega | (simp only [cst] at *; omega) | (simp only [sm] at *; omega))
          · omega
        refine ⟨?_, rfl, rfl⟩
        rw [← hXv]
        show SV.tup [.agg [.int .i64 1, .int .u8 tag, .lst none (U i), .int .u32 0, .int .i64 0, .int .i64 0], .int .i64 0] = _
        rw [e, hU]
        rfl
set_option maxRecDepth 4000 in
theorem rbegin_c (b : List UInt8) (B : List SV) (hB : B = u8l b) (hb : b.length ≤ 140737488351232) (tag room : Int) (hr : -9223372036854775808 ≤ room ∧ room ≤ 9223372036854775807) (X : SV) (e : Int) (hX : begX b tag room = (X, e)) :
    Good 25 (pu [.lst none B, .int .u8 tag, .int .i64 room] (.tup [X, .int .i64 e])) := by
  have hBl : B.length = b.length := by rw [hB, u8l_len]
  unfold begX at hX
  refine Good.of Try.func25 rfl (by rfl) (by kernel_rfl) ?_
  cbv
  have hmk : True := trivial
  (repeat' (first
| (refine q1w (fun z hz => ?_); (try simp only at hz); cbv)
| (refine rqw ?_; cbv)
| (refine QC.tw ?_; cbv)
| (refine QC.tt ?_ ?_; (focus (simp only [decide_true, Bool.and_true, Bool.and_self] <;> fail)); cbv)
| (refine QC.ff ?_ ?_; (focus (simp only [decide_true, Bool.and_true, Bool.and_self, decide_false, Bool.false_and, reduceCtorEq, not_false_eq_true] <;> fail)); cbv)
| (refine QC.fw ?_; cbv)
| (refine QC.mk (fun hc => ?_) (fun hc => ?_) <;> (try dsimp only at hc) <;> cbv)
| (refine br_mk2 (fun hb => ?_) (fun hb => ?_) <;> (try subst hb) <;> cbv)))
  · rw [if_pos (by omega)] at hX
    obtain ⟨rfl, rfl⟩ := Prod.mk.inj hX
    exact ⟨rfl, rfl, rfl⟩
  · rename_i h4 z0 hz0
    rw [if_neg (by omega), if_pos (.inl (by (first | omega | (simp only [cst] at *; omega) | (simp only [sm] at *; omega))))] at hX
    obtain ⟨rfl, rfl⟩ := Prod.mk.inj hX
    exact ⟨rfl, rfl, rfl⟩
  rename_i h4 z0 hz0 z1 hz1 z2 hz2 z3 hz3
  have h5 := hc
  have hz3b : 0 ≤ z3 := by (first | omega | (simp only [cst] at *; omega) | (simp only [sm] at *; omega))
  have e3 : z3 = (b.length : Int) - 1 := by (first | omega | (simp only [cst] at *; omega) | (simp only [sm] at *; omega))
  have e1 : z = ((b.length : Int) - 1) / (room - 4) := by rw [hz.1 hz3b, e3, hz0]
  have hzz1 : z ≤ z3 := by rw [hz.1 hz3b]; exact Int.ediv_le_self _ hz3b
  have hzz2 : 0 ≤ z := by rw [hz.1 hz3b]; exact Int.ediv_nonneg hz3b (by omega)
  have hb1 : 1 ≤ b.length := by (first | omega | (simp only [cst] at *; omega) | (simp only [sm] at *; omega))
  clear hz
  (repeat' (first
| (refine q1w (fun z hz => ?_); (try simp only at hz); cbv)
| (refine rqw ?_; cbv)
| (refine QC.tw ?_; cbv)
| (refine QC.tt ?_ ?_; (focus (simp only [decide_true, Bool.and_true, Bool.and_self] <;> fail)); cbv)
| (refine QC.ff ?_ ?_; (focus (simp only [decide_true, Bool.and_true, Bool.and_self, decide_false, Bool.false_and, reduceCtorEq, not_false_eq_true] <;> fail)); cbv)
| (refine QC.fw ?_; cbv)
| (refine QC.mk (fun hc => ?_) (fun hc => ?_) <;> (try dsimp only at hc) <;> cbv)
| (refine br_mk2 (fun hb => ?_) (fun hb => ?_) <;> (try subst hb) <;> cbv)))
  · rw [if_neg (by omega), if_pos (.inr (by omega))] at hX
    obtain ⟨rfl, rfl⟩ := Prod.mk.inj hX
    exact ⟨rfl, rfl, rfl⟩
  · rename_i z4 hz4
    rw [if_neg (by omega), if_neg (by rintro (h | h) <;> omega)] at hX
    obtain ⟨hXv, rfl⟩ := Prod.mk.inj hX
    obtain ⟨sz, hsz⟩ : ∃ sz : Nat, sz = (room - 4).toNat := ⟨_, rfl⟩
    have hsz1 : 1 ≤ sz := by omega
    have hz0' : z0 = sz := by omega
    obtain ⟨n, hn⟩ : ∃ n, n = nPc b.length sz := ⟨_, rfl⟩
    have hn32 : n ≤ 32 := by
      rw [hn, nPc]
      have e4 : ((b.length : Int) - 1) / (room - 4) = (((b.length - 1) / sz : Nat) : Int) := by
        rw [show (b.length : Int) - 1 = ((b.length - 1 : Nat) : Int) by omega, show room - 4 = (sz : Int) by omega]
        rfl
      rw [e4] at e1
      omega
    rw [← hsz, ← hn] at hXv
    obtain ⟨q, hq⟩ : ∃ q : Nat → Nat, ∀ i, q i = i * sz := ⟨_, fun _ => rfl⟩
    have hq0 : q 0 = 0 := by rw [hq]; simp
    have hqs : ∀ i, q (i + 1) = q i + sz := fun i => by rw [hq, hq, Nat.add_mul, Nat.one_mul]
    have hql : ∀ i, i < n → q i < b.length := fun i hi => by rw [hq]; exact nPc_lt hb1 hsz1 (hn ▸ hi)
    have hqn : b.length ≤ q n := by rw [hq, hn]; exact nPc_ge hb1 hsz1
    have hcs : ∀ i, chk sz b (i + 1) = chk sz b i ++ [(b.drop (q i)).take sz] := fun i => by rw [hq]; exact chk_succ sz b i
    clear hq hX hn e1 hz3 hz2
    obtain ⟨U, hU⟩ : ∃ U : Nat → List SV, ∀ i, U i = rowsB (chk sz b i) := ⟨_, fun _ => rfl⟩
    have hU0 : [] = U 0 := by rw [hU]; rfl
    have hUl : ∀ i, (U i).length = i := fun i => by rw [hU, rowsB_len, chk_len]
    have hn1 : 1 ≤ n := by
      rcases Nat.eq_zero_or_pos n with h | h
      · rw [h, hq0] at hqn; omega
      · exact h
    refine loopQ (A := Option (Nat × Int)) (fun p => match p with | none => True | some p => (((q p.1 : Int) ≤ b.length → p.2 = q p.1) ∧ ((b.length : Int) ≤ q p.1 → p.2 = b.length)) ∧ 1 ≤ p.1 ∧ p.1 ≤ n) (fun p => match p with | none => n | some p => n - p.1)
      (fun p => match p with | none => [(10, .int .i64 0)] | some p => [(10, .int .i64 p.2)])
      (fun p => match p with
        | none => [(9, .chunk 25 (.agg [.int .i64 1, .int .u8 tag, .nil, .int .u32 0, .int .i64 0, .int .i64 0])), (53, .no)]
        | some p => [(9, .chunk 25 (.agg [.int .i64 1, .int .u8 tag, .row 53, .int .u32 0, .int .i64 0, .int .i64 0])), (53, .row none 26 (U p.1))]) none trivial ?_ ?_
    · cbv
      try trace_state
    · intro p hp
      cases p with
      | none =>
        clear hp
        have hmk : True := trivial
        cbv
        (repeat' (first
| (refine q1w (fun z hz => ?_); (try simp only at hz); cbv)
| (refine rqw ?_; cbv)
| (refine QC.tw ?_; cbv)
| (refine QC.tt ?_ ?_; (focus (simp only [decide_true, Bool.and_true, Bool.and_self] <;> fail)); cbv)
| (refine QC.ff ?_ ?_; (focus (simp only [decide_true, Bool.and_true, Bool.and_self, decide_false, Bool.false_and, reduceCtorEq, not_false_eq_true] <;> fail)); cbv)
| (refine QC.fw ?_; cbv)
| (refine QC.mk (fun hc => ?_) (fun hc => ?_) <;> (try dsimp only at hc) <;> cbv)
| (refine br_mk2 (fun hb => ?_) (fun hb => ?_) <;> (try subst hb) <;> cbv)))
        have hq1 : q 1 = sz := by show q (0 + 1) = sz; rw [hqs, hq0]; omega
        rename_i a1 g1 a2 g2 a3 g3 a4 g4 a5 g5
        have hUs : O.sg B (O.tn 0) (O.si a5 0) = u8l ((b.drop (q 0)).take sz) := by
          have e0 : Int.toNat 0 = 0 := rfl
          rw [osg, otn, osi, hq0, hB, u8l_drop, u8l_take, e0]
          congr 1
          rw [List.take_eq_take_iff, List.length_drop]
          (first | omega | (simp only [cst] at *; omega) | (simp only [sm] at *; omega))
        refine ⟨some (1, z), ⟨⟨fun h => by show z = ((q 1 : Nat) : Int); rw [hq1] at h ⊢; (first | omega | (simp only [cst] at *; omega) | (simp only [sm] at *; omega)), fun h => by show z = (b.length : Int); rw [hq1] at h; (first | omega | (simp only [cst] at *; omega) | (simp only [sm] at *; omega))⟩, Nat.le_refl _, hn1⟩, by show n - 1 < n; omega, ?_⟩
        cbv
        refine ⟨?_, trivial⟩
        show Blk.row none 26 [.lst none (O.sg B (O.tn 0) (O.si a5 0))] = .row none 26 (U 1)
        rw [hUs, hU, hcs 0]
        rfl
      | some p =>
        obtain ⟨i, j⟩ := p
        have hj1 : (q i : Int) ≤ b.length → j = q i := hp.1.1
        have hj2 : (b.length : Int) ≤ q i → j = b.length := hp.1.2
        have hi1 : 1 ≤ i := hp.2.1
        have hin : i ≤ n := hp.2.2
        clear hp
        have hqi := hqs i
        have hql := hql i
        have hul := hUl i
        have hmk : True := trivial
        cbv
        (repeat' (first
| (refine q1w (fun z hz => ?_); (try simp only at hz); cbv)
| (refine rqw ?_; cbv)
| (refine QC.tw ?_; cbv)
| (refine QC.tt ?_ ?_; (focus (simp only [decide_true, Bool.and_true, Bool.and_self] <;> fail)); cbv)
| (refine QC.ff ?_ ?_; (focus (simp only [decide_true, Bool.and_true, Bool.and_self, decide_false, Bool.false_and, reduceCtorEq, not_false_eq_true] <;> fail)); cbv)
| (refine QC.fw ?_; cbv)
| (refine QC.mk (fun hc => ?_) (fun hc => ?_) <;> (try dsimp only at hc) <;> cbv)
| (refine br_mk2 (fun hb => ?_) (fun hb => ?_) <;> (try subst hb) <;> cbv)))
        · rename_i a0 g0 hjl a1 g1 a2 g2 a3 g3 a4 g4 a5 g5
          have hlt : i < n := by
            rcases Nat.lt_or_ge i n with h | h
            · exact h
            · exfalso
              have h6 : b.length ≤ q i := by rw [show i = n by omega]; exact hqn
              have h7 := hj2 (by (first | omega | (simp only [cst] at *; omega) | (simp only [sm] at *; omega)))
              (first | omega | (simp only [cst] at *; omega) | (simp only [sm] at *; omega))
          have hql := hql hlt
          have hjq : j = q i := hj1 (by (first | omega | (simp only [cst] at *; omega) | (simp only [sm] at *; omega)))
          have hUs : O.sg B (O.tn j) (O.si a5 j) = u8l ((b.drop (q i)).take sz) := by
            rw [osg, otn, osi, hB, u8l_drop, u8l_take, hjq, Int.toNat_natCast]
            congr 1
            rw [List.take_eq_take_iff, List.length_drop]
            (first | omega | (simp only [cst] at *; omega) | (simp only [sm] at *; omega))
          refine ⟨some (i + 1, z), ⟨⟨fun h => by show z = ((q (i + 1) : Nat) : Int); rw [hqi] at h ⊢; (first | omega | (simp only [cst] at *; omega) | (simp only [sm] at *; omega)), fun h => by show z = (b.length : Int); rw [hqi] at h; (first | omega | (simp only [cst] at *; omega) | (simp only [sm] at *; omega))⟩, by show 1 ≤ i + 1; omega, hlt⟩, by show n - (i + 1) < n - i; omega, ?_⟩
          cbv
          refine ⟨?_, trivial⟩
          show Blk.row none 26 (apL (U i) [.lst none (O.sg B (O.tn j) (O.si a5 j))]) = .row none 26 (U (i + 1))
          rw [apL_eq, hUs, hU, hU, hcs i]
          simp [rowsB]
        · have e : i = n := by
            rcases Nat.lt_or_ge i n with h | h
            · have := hql h
              exfalso
              (first | omega | (simp only [cst] at *; omega) | (simp only [sm] at *; omega))
            · omega
          refine ⟨?_, rfl, rfl⟩
          rw [← hXv]
          show SV.tup [.agg [.int .i64 1, .int .u8 tag, .lst none (U i), .int .u32 0, .int .i64 0, .int .i64 0], .int .i64 0] = _
          rw [e, hU]
          rfl
end Go.Proofs.Ytjhicdoigllblaa
namespace Go.Proofs.Ytjhicdoigllblaa
set_option linter.unusedVariables false
set_option linter.unusedSimpArgs false
open Go.RowKit
set_option maxHeartbeats 8000000
theorem xor_zero (a b : Nat) : a ^^^ b = 0 ↔ a = b := by
  constructor
  · intro h
    apply Nat.eq_of_testBit_eq
    intro i
    have h1 : (a ^^^ b).testBit i = false := by rw [h]; simp
    rw [Nat.testBit_xor] at h1
    cases h2 : a.testBit i <;> cases h3 : b.testBit i <;> simp_all
  · rintro rfl; exact Nat.xor_self a
theorem andNot_all (a : Int) (n : Nat) (h0 : 0 ≤ a) : (a.toNat ^^^ (a.toNat &&& (allI n).toNat) = 0 ↔ a ≤ allI n) := by
  have e : (allI n).toNat = 2 ^ n - 1 := by rw [allI_nat, Int.toNat_natCast]
  have h1 : 1 ≤ 2 ^ n := Nat.one_le_two_pow
  rw [e, Nat.and_two_pow_sub_one_eq_mod, xor_zero, allI_nat]
  constructor
  · intro h
    have := Nat.mod_lt a.toNat (show 0 < 2 ^ n by omega)
    omega
  · intro h
    exact (Nat.mod_eq_of_lt (by omega)).symm
theorem hasN_full (ps : List (List UInt8)) : ((hasN ps ps.length : Nat) : Int) = allI ps.length ↔ ∀ p ∈ ps, p ≠ [] := by
  rw [allI_nat]
  constructor
  · intro h p hp
    obtain ⟨i, hi, rfl⟩ := List.mem_iff_getElem.1 hp
    have := (bm_full _ _).1 (show hasN ps ps.length = 2 ^ ps.length - 1 by omega) i hi
    simp only [List.getD_eq_getElem?_getD, List.getElem?_eq_getElem hi, Option.getD_some, decide_eq_true_eq] at this
    intro e; rw [e] at this; simp at this
  · intro h
    have := (bm_full (fun i => decide (0 < (ps.getD i []).length)) ps.length).2 (fun i hi => by
      simp only [List.getD_eq_getElem?_getD, List.getElem?_eq_getElem hi, Option.getD_some, decide_eq_true_eq]
      have := h ps[i] (List.getElem_mem hi)
      cases hq : ps[i] with
      | nil => exact absurd hq this
      | cons a l => simp)
    exact congrArg _ this
theorem vsender_c (st tag ak rd un : Int) (ps : List (List UInt8)) (R : List SV) (hR : R = rowsB ps) (hf : Snd.fits ⟨st, tag, ps, ak, rd, un⟩) (b : Bool) (hb : b = true ↔ VS ⟨st, tag, ps, ak, rd, un⟩) :
    Good 19 (pu [.agg [.int .i64 st, .int .u8 tag, .lst none R, .int .u32 ak, .int .i64 rd, .int .i64 un]] (.bool b)) := by
  have hRl : R.length = ps.length := by rw [hR, rowsB_len]
  have hfb := hf.b
  have hak := hf.ak
  have hfull := hasN_full ps
  have han := andNot_all ak ps.length hf.ak.1
  have g1 : ps.length ≤ 32 → Good 59 (pu [.lst none R] (.int .u32 (hasN ps ps.length))) := fun hn => has_c ps R hR hn hfb _ rfl
  have g2 : ∀ N : Int, N = ps.length → ps.length ≤ 32 → Good 57 (pu [.int .i64 N] (.int .u32 (allI ps.length))) := fun N hN hn => all_c ps.length N _ hN hn rfl
  have hAb := fun hn => allI_b (n := ps.length) hn
  obtain ⟨h, hh⟩ : ∃ h : Int, h = hasN ps ps.length := ⟨_, rfl⟩
  obtain ⟨A, hA⟩ : ∃ A : Int, A = allI ps.length := ⟨_, rfl⟩
  rw [← hh] at hfull g1
  rw [← hA] at hfull han hAb g2
  refine Good.of Try.func19 rfl (by rfl) (by kernel_rfl) ?_
  cbv
  have hmk : True := trivial
  (repeat' (first
| (refine q1w (fun z hz => ?_); (try simp only at hz); cbv)
| (refine rqw ?_; cbv)
| (refine QC.tw ?_; cbv)
| (refine QC.tt ?_ ?_; (focus (simp only [decide_true, Bool.and_true, Bool.and_self] <;> fail)); cbv)
| (refine QC.ff ?_ ?_; (focus (simp only [decide_true, Bool.and_true, Bool.and_self, decide_false, Bool.false_and, reduceCtorEq, not_false_eq_true] <;> fail)); cbv)
| (refine QC.fw ?_; cbv)
| (refine QC.mk (fun hc => ?_) (fun hc => ?_) <;> (try dsimp only at hc) <;> cbv)
| (refine br_mk2 (fun hb => ?_) (fun hb => ?_) <;> (try subst hb) <;> cbv)))
  all_goals first
    | (refine Fin.mk ?_ rfl rfl
       have : b = false := by
         cases hb0 : b
         · rfl
         · exfalso
           have v := hb.1 hb0
           have n1 := v.n1
           have n2 := v.n2
           have ne := hfull.2 v.ne
           have ak := v.ak
           have r1 := v.r1
           have r2 := v.r2
           have u1 := v.u1
           have u2 := v.u2
           have d := v.d
           have a := v.a
           clear hb v
           dsimp only at *
           (first | omega | (simp only [cst] at *; omega) | (simp only [sm] at *; omega))
       rw [this]; done)
    | (refine Fin.mk ?_ rfl rfl
       have : b = true := hb.2 ⟨by dsimp only; (first | omega | (simp only [cst] at *; omega) | (simp only [sm] at *; omega)), by dsimp only; (first | omega | (simp only [cst] at *; omega) | (simp only [sm] at *; omega)), hfull.1 (by (first | omega | (simp only [cst] at *; omega) | (simp only [sm] at *; omega))), by dsimp only; (first | omega | (simp only [cst] at *; omega) | (simp only [sm] at *; omega)), by dsimp only; (first | omega | (simp only [cst] at *; omega) | (simp only [sm] at *; omega)), by dsimp only; (first | omega | (simp only [cst] at *; omega) | (simp only [sm] at *; omega)), by dsimp only; (first | omega | (simp only [cst] at *; omega) | (simp only [sm] at *; omega)), by dsimp only; (first | omega | (simp only [cst] at *; omega) | (simp only [sm] at *; omega)), by dsimp only; intro h0; (first | omega | (simp only [cst] at *; omega) | (simp only [sm] at *; omega)), by dsimp only; intro h0; (first | omega | (simp only [cst] at *; omega) | (simp only [sm] at *; omega))⟩
       rw [this]; done)
    | skip
  have hn : ps.length ≤ 32 := by (first | omega | (simp only [cst] at *; omega) | (simp only [sm] at *; omega))
  have hAb := hAb hn
  have g1 := g1 hn
  (refine callq (g1) rfl rfl ?_; cbv; (repeat' (first
| (refine q1w (fun z hz => ?_); (try simp only at hz); cbv)
| (refine rqw ?_; cbv)
| (refine QC.tw ?_; cbv)
| (refine QC.tt ?_ ?_; (focus (simp only [decide_true, Bool.and_true, Bool.and_self] <;> fail)); cbv)
| (refine QC.ff ?_ ?_; (focus (simp only [decide_true, Bool.and_true, Bool.and_self, decide_false, Bool.false_and, reduceCtorEq, not_false_eq_true] <;> fail)); cbv)
| (refine QC.fw ?_; cbv)
| (refine QC.mk (fun hc => ?_) (fun hc => ?_) <;> (try dsimp only at hc) <;> cbv)
| (refine br_mk2 (fun hb => ?_) (fun hb => ?_) <;> (try subst hb) <;> cbv))))
  have g2 := g2 z (by (first | omega | (simp only [cst] at *; omega) | (simp only [sm] at *; omega))) hn
  (refine callq (g2) rfl rfl ?_; cbv; (repeat' (first
| (refine q1w (fun z hz => ?_); (try simp only at hz); cbv)
| (refine rqw ?_; cbv)
| (refine QC.tw ?_; cbv)
| (refine QC.tt ?_ ?_; (focus (simp only [decide_true, Bool.and_true, Bool.and_self] <;> fail)); cbv)
| (refine QC.ff ?_ ?_; (focus (simp only [decide_true, Bool.and_true, Bool.and_self, decide_false, Bool.false_and, reduceCtorEq, not_false_eq_true] <;> fail)); cbv)
| (refine QC.fw ?_; cbv)
| (refine QC.mk (fun hc => ?_) (fun hc => ?_) <;> (try dsimp only at hc) <;> cbv)
| (refine br_mk2 (fun hb => ?_) (fun hb => ?_) <;> (try subst hb) <;> cbv))))
  all_goals first
    | (refine Fin.mk ?_ rfl rfl
       have : b = false := by
         cases hb0 : b
         · rfl
         · exfalso
           have v := hb.1 hb0
           have n1 := v.n1
           have n2 := v.n2
           have ne := hfull.2 v.ne
           have ak := v.ak
           have r1 := v.r1
           have r2 := v.r2
           have u1 := v.u1
           have u2 := v.u2
           have d := v.d
           have a := v.a
           clear hb v
           dsimp only at *
           (first | omega | (simp only [cst] at *; omega) | (simp only [sm] at *; omega))
       rw [this]; done)
    | (refine Fin.mk ?_ rfl rfl
       have : b = true := hb.2 ⟨by dsimp only; (first | omega | (simp only [cst] at *; omega) | (simp only [sm] at *; omega)), by dsimp only; (first | omega | (simp only [cst] at *; omega) | (simp only [sm] at *; omega)), hfull.1 (by (first | omega | (simp only [cst] at *; omega) | (simp only [sm] at *; omega))), by dsimp only; (first | omega | (simp only [cst] at *; omega) | (simp only [sm] at *; omega)), by dsimp only; (first | omega | (simp only [cst] at *; omega) | (simp only [sm] at *; omega)), by dsimp only; (first | omega | (simp only [cst] at *; omega) | (simp only [sm] at *; omega)), by dsimp only; (first | omega | (simp only [cst] at *; omega) | (simp only [sm] at *; omega)), by dsimp only; (first | omega | (simp only [cst] at *; omega) | (simp only [sm] at *; omega)), by dsimp only; intro h0; (first | omega | (simp only [cst] at *; omega) | (simp only [sm] at *; omega)), by dsimp only; intro h0; (first | omega | (simp only [cst] at *; omega) | (simp only [sm] at *; omega))⟩
       rw [this]; done)
    | skip
  (refine callq (g2) rfl rfl ?_; cbv; (repeat' (first
| (refine q1w (fun z hz => ?_); (try simp only at hz); cbv)
| (refine rqw ?_; cbv)
| (refine QC.tw ?_; cbv)
| (refine QC.tt ?_ ?_; (focus (simp only [decide_true, Bool.and_true, Bool.and_self] <;> fail)); cbv)
| (refine QC.ff ?_ ?_; (focus (simp only [decide_true, Bool.and_true, Bool.and_self, decide_false, Bool.false_and, reduceCtorEq, not_false_eq_true] <;> fail)); cbv)
| (refine QC.fw ?_; cbv)
| (refine QC.mk (fun hc => ?_) (fun hc => ?_) <;> (try dsimp only at hc) <;> cbv)
| (refine br_mk2 (fun hb => ?_) (fun hb => ?_) <;> (try subst hb) <;> cbv))))
  all_goals first
    | (refine Fin.mk ?_ rfl rfl
       have : b = false := by
         cases hb0 : b
         · rfl
         · exfalso
           have v := hb.1 hb0
           have n1 := v.n1
           have n2 := v.n2
           have ne := hfull.2 v.ne
           have ak := v.ak
           have r1 := v.r1
           have r2 := v.r2
           have u1 := v.u1
           have u2 := v.u2
           have d := v.d
           have a := v.a
           clear hb v
           dsimp only at *
           (first | omega | (simp only [cst] at *; omega) | (simp only [sm] at *; omega))
       rw [this]; done)
    | (refine Fin.mk ?_ rfl rfl
       have : b = true := hb.2 ⟨by dsimp only; (first | omega | (simp only [cst] at *; omega) | (simp only [sm] at *; omega)), by dsimp only; (first | omega | (simp only [cst] at *; omega) | (simp only [sm] at *; omega)), hfull.1 (by (first | omega | (simp only [cst] at *; omega) | (simp only [sm] at *; omega))), by dsimp only; (first | omega | (simp only [cst] at *; omega) | (simp only [sm] at *; omega)), by dsimp only; (first | omega | (simp only [cst] at *; omega) | (simp only [sm] at *; omega)), by dsimp only; (first | omega | (simp only [cst] at *; omega) | (simp only [sm] at *; omega)), by dsimp only; (first | omega | (simp only [cst] at *; omega) | (simp only [sm] at *; omega)), by dsimp only; (first | omega | (simp only [cst] at *; omega) | (simp only [sm] at *; omega)), by dsimp only; intro h0; (first | omega | (simp only [cst] at *; omega) | (simp only [sm] at *; omega)), by dsimp only; intro h0; (first | omega | (simp only [cst] at *; omega) | (simp only [sm] at *; omega))⟩
       rw [this]; done)
    | skip
  (refine callq (g2) rfl rfl ?_; cbv; (repeat' (first
| (refine q1w (fun z hz => ?_); (try simp only at hz); cbv)
| (refine rqw ?_; cbv)
| (refine QC.tw ?_; cbv)
| (refine QC.tt ?_ ?_; (focus (simp only [decide_true, Bool.and_true, Bool.and_self] <;> fail)); cbv)
| (refine QC.ff ?_ ?_; (focus (simp only [decide_true, Bool.and_true, Bool.and_self, decide_false, Bool.false_and, reduceCtorEq, not_false_eq_true] <;> fail)); cbv)
| (refine QC.fw ?_; cbv)
| (refine QC.mk (fun hc => ?_) (fun hc => ?_) <;> (try dsimp only at hc) <;> cbv)
| (refine br_mk2 (fun hb => ?_) (fun hb => ?_) <;> (try subst hb) <;> cbv))))
  all_goals first
    | (refine Fin.mk ?_ rfl rfl
       have : b = false := by
         cases hb0 : b
         · rfl
         · exfalso
           have v := hb.1 hb0
           have n1 := v.n1
           have n2 := v.n2
           have ne := hfull.2 v.ne
           have ak := v.ak
           have r1 := v.r1
           have r2 := v.r2
           have u1 := v.u1
           have u2 := v.u2
           have d := v.d
           have a := v.a
           clear hb v
           dsimp only at *
           (first | omega | (simp only [cst] at *; omega) | (simp only [sm] at *; omega))
       rw [this]; done)
    | (refine Fin.mk ?_ rfl rfl
       have : b = true := hb.2 ⟨by dsimp only; (first | omega | (simp only [cst] at *; omega) | (simp only [sm] at *; omega)), by dsimp only; (first | omega | (simp only [cst] at *; omega) | (simp only [sm] at *; omega)), hfull.1 (by (first | omega | (simp only [cst] at *; omega) | (simp only [sm] at *; omega))), by dsimp only; (first | omega | (simp only [cst] at *; omega) | (simp only [sm] at *; omega)), by dsimp only; (first | omega | (simp only [cst] at *; omega) | (simp only [sm] at *; omega)), by dsimp only; (first | omega | (simp only [cst] at *; omega) | (simp only [sm] at *; omega)), by dsimp only; (first | omega | (simp only [cst] at *; omega) | (simp only [sm] at *; omega)), by dsimp only; (first | omega | (simp only [cst] at *; omega) | (simp only [sm] at *; omega)), by dsimp only; intro h0; (first | omega | (simp only [cst] at *; omega) | (simp only [sm] at *; omega)), by dsimp only; intro h0; (first | omega | (simp only [cst] at *; omega) | (simp only [sm] at *; omega))⟩
       rw [this]; done)
    | skip
def timeT (t : Int) : Bool := decide (0 ≤ t ∧ t ≤ 1099511627776)
theorem rtime_c (t : Int) (r : Bool) (hr : r = timeT t) : Good 54 (pu [.int .i64 t] (.bool r)) := by
  unfold timeT at hr
  refine Good.of Try.func54 rfl (by rfl) (by kernel_rfl) ?_
  cbv
  (repeat' (first
| (refine q1w (fun z hz => ?_); (try simp only at hz); cbv)
| (refine rqw ?_; cbv)
| (refine QC.tw ?_; cbv)
| (refine QC.tt ?_ ?_; (focus (simp only [decide_true, Bool.and_true, Bool.and_self] <;> fail)); cbv)
| (refine QC.ff ?_ ?_; (focus (simp only [decide_true, Bool.and_true, Bool.and_self, decide_false, Bool.false_and, reduceCtorEq, not_false_eq_true] <;> fail)); cbv)
| (refine QC.fw ?_; cbv)
| (refine QC.mk (fun hc => ?_) (fun hc => ?_) <;> (try dsimp only at hc) <;> cbv)
| (refine br_mk2 (fun hb => ?_) (fun hb => ?_) <;> (try subst hb) <;> cbv)))
  all_goals refine ⟨?_, rfl, rfl⟩
  all_goals rw [hr]
  all_goals first | (rw [decide_eq_true (by omega)]) | (rw [decide_eq_false (by omega)])
theorem rlater_c (t r : Int) (ht : 0 ≤ t ∧ t ≤ 1099511627776) (hr : r = min (t + 8) 1099511627776) : Good 56 (pu [.int .i64 t, .int .i64 8] (.int .i64 r)) := by
  refine Good.of Try.func56 rfl (by rfl) (by kernel_rfl) ?_
  cbv
  (repeat' (first
| (refine q1w (fun z hz => ?_); (try simp only at hz); cbv)
| (refine rqw ?_; cbv)
| (refine QC.tw ?_; cbv)
| (refine QC.tt ?_ ?_; (focus (simp only [decide_true, Bool.and_true, Bool.and_self] <;> fail)); cbv)
| (refine QC.ff ?_ ?_; (focus (simp only [decide_true, Bool.and_true, Bool.and_self, decide_false, Bool.false_and, reduceCtorEq, not_false_eq_true] <;> fail)); cbv)
| (refine QC.fw ?_; cbv)
| (refine QC.mk (fun hc => ?_) (fun hc => ?_) <;> (try dsimp only at hc) <;> cbv)
| (refine br_mk2 (fun hb => ?_) (fun hb => ?_) <;> (try subst hb) <;> cbv)))
  refine Fin.mk ?_ rfl rfl
  have : z = r := by omega
  rw [this]
theorem rvsender_c (st tag ak rd un : Int) (ps : List (List UInt8)) (R : List SV) (hR : R = rowsB ps) (hf : Snd.fits ⟨st, tag, ps, ak, rd, un⟩) (b : Bool) (hb : b = true ↔ VS ⟨st, tag, ps, ak, rd, un⟩) :
    Good 20 (pu [.agg [.int .i64 st, .int .u8 tag, .lst none R, .int .u32 ak, .int .i64 rd, .int .i64 un]] (.bool b)) := by
  have hRl : R.length = ps.length := by rw [hR, rowsB_len]
  have hE := fun i hi => rowsB_at hR i hi
  have hfb := hf.b
  have hak := hf.ak
  have han := andNot_all ak ps.length hf.ak.1
  have g2 : ∀ N : Int, N = ps.length → ps.length ≤ 32 → Good 58 (pu [.int .i64 N] (.int .u32 (allI ps.length))) := fun N hN hn => rall_c ps.length N _ hN hn rfl
  have g3 := rtime_c un _ rfl
  have hAb := fun hn => allI_b (n := ps.length) hn
  obtain ⟨A, hA⟩ : ∃ A : Int, A = allI ps.length := ⟨_, rfl⟩
  obtain ⟨h, hfull⟩ : ∃ h : Int, (h = A ↔ ∀ p ∈ ps, p ≠ []) := ⟨_, by rw [hA]; exact hasN_full ps⟩
  obtain ⟨tb, htb⟩ : ∃ tb, tb = timeT un := ⟨_, rfl⟩
  have htb1 : tb = true → 0 ≤ un ∧ un ≤ 1099511627776 := fun h => by rw [htb, timeT] at h; simpa using h
  have htb0 : tb = false → un < 0 ∨ 1099511627776 < un := fun h => by rw [htb, timeT] at h; simp at h; omega
  rw [← htb] at g3
  rw [← hA] at han hAb g2
  have hne : ∀ (i : Nat) (p : List UInt8), ps[i]? = some p → p.length = 0 → h ≠ A := fun i p hip hp e => by
    have := hfull.1 e p (List.mem_of_getElem? hip)
    exact this (List.length_eq_zero_iff.1 hp)
  have hall : (∀ (i : Nat) (p : List UInt8), ps[i]? = some p → p.length ≠ 0) → h = A := fun hh => hfull.2 (fun p hp e => by
    obtain ⟨i, hi, rfl⟩ := List.mem_iff_getElem.1 hp
    exact hh i _ (List.getElem?_eq_getElem hi) (by rw [e]; rfl))
  clear htb
  refine Good.of Try.func20 rfl (by rfl) (by kernel_rfl) ?_
  cbv
  have hmk : True := trivial
  (repeat' (first
| (refine q1w (fun z hz => ?_); (try simp only at hz); cbv)
| (refine rqw ?_; cbv)
| (refine QC.tw ?_; cbv)
| (refine QC.tt ?_ ?_; (focus (simp only [decide_true, Bool.and_true, Bool.and_self] <;> fail)); cbv)
| (refine QC.ff ?_ ?_; (focus (simp only [decide_true, Bool.and_true, Bool.and_self, decide_false, Bool.false_and, reduceCtorEq, not_false_eq_true] <;> fail)); cbv)
| (refine QC.fw ?_; cbv)
| (refine QC.mk (fun hc => ?_) (fun hc => ?_) <;> (try dsimp only at hc) <;> cbv)
| (refine br_mk2 (fun hb => ?_) (fun hb => ?_) <;> (try subst hb) <;> cbv)))
  all_goals first
    | (refine Fin.mk ?_ rfl rfl
       have : b = false := by
         cases hb0 : b
         · rfl
         · exfalso
           have v := hb.1 hb0
           have n1 := v.n1
           have n2 := v.n2
           have ne := hfull.2 v.ne
           have ak := v.ak
           have r1 := v.r1
           have r2 := v.r2
           have u1 := v.u1
           have u2 := v.u2
           have d := v.d
           have a := v.a
           clear hb v
           dsimp only at *
           (first | omega | (simp only [cst] at *; omega) | (simp only [sm] at *; omega))
       rw [this]; done)
    | (refine Fin.mk ?_ rfl rfl
       have : b = true := hb.2 ⟨by dsimp only; (first | omega | (simp only [cst] at *; omega) | (simp only [sm] at *; omega)), by dsimp only; (first | omega | (simp only [cst] at *; omega) | (simp only [sm] at *; omega)), hfull.1 (by (first | omega | (simp only [cst] at *; omega) | (simp only [sm] at *; omega))), by dsimp only; (first | omega | (simp only [cst] at *; omega) | (simp only [sm] at *; omega)), by dsimp only; (first | omega | (simp only [cst] at *; omega) | (simp only [sm] at *; omega)), by dsimp only; (first | omega | (simp only [cst] at *; omega) | (simp only [sm] at *; omega)), by dsimp only; (first | omega | (simp only [cst] at *; omega) | (simp only [sm] at *; omega)), by dsimp only; (first | omega | (simp only [cst] at *; omega) | (simp only [sm] at *; omega)), by dsimp only; intro h0; (first | omega | (simp only [cst] at *; omega) | (simp only [sm] at *; omega)), by dsimp only; intro h0; (first | omega | (simp only [cst] at *; omega) | (simp only [sm] at *; omega))⟩
       rw [this]; done)
    | skip
  have hn : ps.length ≤ 32 := by (first | omega | (simp only [cst] at *; omega) | (simp only [sm] at *; omega))
  have hAb := hAb hn
  have g2 := g2 z (by (first | omega | (simp only [cst] at *; omega) | (simp only [sm] at *; omega))) hn
  (refine callq (g2) rfl rfl ?_; cbv; (repeat' (first
| (refine q1w (fun z hz => ?_); (try simp only at hz); cbv)
| (refine rqw ?_; cbv)
| (refine QC.tw ?_; cbv)
| (refine QC.tt ?_ ?_; (focus (simp only [decide_true, Bool.and_true, Bool.and_self] <;> fail)); cbv)
| (refine QC.ff ?_ ?_; (focus (simp only [decide_true, Bool.and_true, Bool.and_self, decide_false, Bool.false_and, reduceCtorEq, not_false_eq_true] <;> fail)); cbv)
| (refine QC.fw ?_; cbv)
| (refine QC.mk (fun hc => ?_) (fun hc => ?_) <;> (try dsimp only at hc) <;> cbv)
| (refine br_mk2 (fun hb => ?_) (fun hb => ?_) <;> (try subst hb) <;> cbv))))
  all_goals first
    | (refine Fin.mk ?_ rfl rfl
       have : b = false := by
         cases hb0 : b
         · rfl
         · exfalso
           have v := hb.1 hb0
           have n1 := v.n1
           have n2 := v.n2
           have ne := hfull.2 v.ne
           have ak := v.ak
           have r1 := v.r1
           have r2 := v.r2
           have u1 := v.u1
           have u2 := v.u2
           have d := v.d
           have a := v.a
           clear hb v
           dsimp only at *
           (first | omega | (simp only [cst] at *; omega) | (simp only [sm] at *; omega))
       rw [this]; done)
    | (refine Fin.mk ?_ rfl rfl
       have : b = true := hb.2 ⟨by dsimp only; (first | omega | (simp only [cst] at *; omega) | (simp only [sm] at *; omega)), by dsimp only; (first | omega | (simp only [cst] at *; omega) | (simp only [sm] at *; omega)), hfull.1 (by (first | omega | (simp only [cst] at *; omega) | (simp only [sm] at *; omega))), by dsimp only; (first | omega | (simp only [cst] at *; omega) | (simp only [sm] at *; omega)), by dsimp only; (first | omega | (simp only [cst] at *; omega) | (simp only [sm] at *; omega)), by dsimp only; (first | omega | (simp only [cst] at *; omega) | (simp only [sm] at *; omega)), by dsimp only; (first | omega | (simp only [cst] at *; omega) | (simp only [sm] at *; omega)), by dsimp only; (first | omega | (simp only [cst] at *; omega) | (simp only [sm] at *; omega)), by dsimp only; intro h0; (first | omega | (simp only [cst] at *; omega) | (simp only [sm] at *; omega)), by dsimp only; intro h0; (first | omega | (simp only [cst] at *; omega) | (simp only [sm] at *; omega))⟩
       rw [this]; done)
    | skip
  (refine callq (g3) rfl rfl ?_; cbv; (repeat' (first
| (refine q1w (fun z hz => ?_); (try simp only at hz); cbv)
| (refine rqw ?_; cbv)
| (refine QC.tw ?_; cbv)
| (refine QC.tt ?_ ?_; (focus (simp only [decide_true, Bool.and_true, Bool.and_self] <;> fail)); cbv)
| (refine QC.ff ?_ ?_; (focus (simp only [decide_true, Bool.and_true, Bool.and_self, decide_false, Bool.false_and, reduceCtorEq, not_false_eq_true] <;> fail)); cbv)
| (refine QC.fw ?_; cbv)
| (refine QC.mk (fun hc => ?_) (fun hc => ?_) <;> (try dsimp only at hc) <;> cbv)
| (refine br_mk2 (fun hb => ?_) (fun hb => ?_) <;> (try subst hb) <;> cbv))))
  rotate_left
  · have hub := htb0 rfl
    clear htb0 htb1
    skip
    all_goals first
      | (refine Fin.mk ?_ rfl rfl
         have : b = false := by
           cases hb0 : b
           · rfl
           · exfalso
             have v := hb.1 hb0
             have n1 := v.n1
             have n2 := v.n2
             have ne := hfull.2 v.ne
             have ak := v.ak
             have r1 := v.r1
             have r2 := v.r2
             have u1 := v.u1
             have u2 := v.u2
             have d := v.d
             have a := v.a
             clear hb v
             dsimp only at *
             (first | omega | (simp only [cst] at *; omega) | (simp only [sm] at *; omega))
         rw [this]; done)
      | (refine Fin.mk ?_ rfl rfl
         have : b = true := hb.2 ⟨by dsimp only; (first | omega | (simp only [cst] at *; omega) | (simp only [sm] at *; omega)), by dsimp only; (first | omega | (simp only [cst] at *; omega) | (simp only [sm] at *; omega)), hfull.1 (by (first | omega | (simp only [cst] at *; omega) | (simp only [sm] at *; omega))), by dsimp only; (first | omega | (simp only [cst] at *; omega) | (simp only [sm] at *; omega)), by dsimp only; (first | omega | (simp only [cst] at *; omega) | (simp only [sm] at *; omega)), by dsimp only; (first | omega | (simp only [cst] at *; omega) | (simp only [sm] at *; omega)), by dsimp only; (first | omega | (simp only [cst] at *; omega) | (simp only [sm] at *; omega)), by dsimp only; (first | omega | (simp only [cst] at *; omega) | (simp only [sm] at *; omega)), by dsimp only; intro h0; (first | omega | (simp only [cst] at *; omega) | (simp only [sm] at *; omega)), by dsimp only; intro h0; (first | omega | (simp only [cst] at *; omega) | (simp only [sm] at *; omega))⟩
         rw [this]; done)
      | skip
  have hub := htb1 rfl
  clear htb0 htb1
  refine loopQ (A := Nat × Int) (fun p => p.2 = p.1 ∧ p.1 ≤ ps.length ∧ ∀ (i : Nat) (q : List UInt8), i < p.1 → ps[i]? = some q → q.length ≠ 0) (fun p => ps.length - p.1) (fun p => [(4, .int .i64 p.2)]) (fun p => []) (0, 0) ⟨rfl, Nat.zero_le _, fun i q h => absurd h (Nat.not_lt_zero _)⟩ ?_ ?_
  · cbv
  · intro ⟨i, j⟩ hi0
    have hj : j = (i : Int) := hi0.1
    have hi : i ≤ ps.length := hi0.2.1
    have hki : ∀ (k : Nat) (q : List UInt8), k < i → ps[k]? = some q → q.length ≠ 0 := hi0.2.2
    clear hi0
    have hmk : True := trivial
    cbv
    (repeat' (first
| (refine q1w (fun z hz => ?_); (try simp only at hz); cbv)
| (refine rqw ?_; cbv)
| (refine QC.tw ?_; cbv)
| (refine QC.tt ?_ ?_; (focus (simp only [decide_true, Bool.and_true, Bool.and_self] <;> fail)); cbv)
| (refine QC.ff ?_ ?_; (focus (simp only [decide_true, Bool.and_true, Bool.and_self, decide_false, Bool.false_and, reduceCtorEq, not_false_eq_true] <;> fail)); cbv)
| (refine QC.fw ?_; cbv)
| (refine QC.mk (fun hc => ?_) (fun hc => ?_) <;> (try dsimp only at hc) <;> cbv)
| (refine br_mk2 (fun hb => ?_) (fun hb => ?_) <;> (try subst hb) <;> cbv)))
    · have hlt : i < ps.length := by (first | omega | (simp only [cst] at *; omega) | (simp only [sm] at *; omega))
      obtain ⟨p, B, hbi, hB, hEi⟩ := hE i hlt
      have hbl := hfb p (List.mem_of_getElem? hbi)
      have hBl : B.length = p.length := by rw [hB, u8l_len]
      have hne := hne i p hbi
      (refine qv (i, _) ⟨hj, hEi⟩ ?_; cbv; (repeat' (first
| (refine q1w (fun z hz => ?_); (try simp only at hz); cbv)
| (refine rqw ?_; cbv)
| (refine QC.tw ?_; cbv)
| (refine QC.tt ?_ ?_; (focus (simp only [decide_true, Bool.and_true, Bool.and_self] <;> fail)); cbv)
| (refine QC.ff ?_ ?_; (focus (simp only [decide_true, Bool.and_true, Bool.and_self, decide_false, Bool.false_and, reduceCtorEq, not_false_eq_true] <;> fail)); cbv)
| (refine QC.fw ?_; cbv)
| (refine QC.mk (fun hc => ?_) (fun hc => ?_) <;> (try dsimp only at hc) <;> cbv)
| (refine br_mk2 (fun hb => ?_) (fun hb => ?_) <;> (try subst hb) <;> cbv))))
      · have hh := hne (by (first | omega | (simp only [cst] at *; omega) | (simp only [sm] at *; omega)))
        clear hne hki
        skip
        all_goals first
          | (refine Fin.mk ?_ rfl rfl
             have : b = false := by
               cases hb0 : b
               · rfl
               · exfalso
                 have v := hb.1 hb0
                 have n1 := v.n1
                 have n2 := v.n2
                 have ne := hfull.2 v.ne
                 have ak := v.ak
                 have r1 := v.r1
                 have r2 := v.r2
                 have u1 := v.u1
                 have u2 := v.u2
                 have d := v.d
                 have a := v.a
                 clear hb v
                 dsimp only at *
                 (first | omega | (simp only [cst] at *; omega) | (simp only [sm] at *; omega))
             rw [this]; done)
          | (refine Fin.mk ?_ rfl rfl
             have : b = true := hb.2 ⟨by dsimp only; (first | omega | (simp only [cst] at *; omega) | (simp only [sm] at *; omega)), by dsimp only; (first | omega | (simp only [cst] at *; omega) | (simp only [sm] at *; omega)), hfull.1 (by (first | omega | (simp only [cst] at *; omega) | (simp only [sm] at *; omega))), by dsimp only; (first | omega | (simp only [cst] at *; omega) | (simp only [sm] at *; omega)), by dsimp only; (first | omega | (simp only [cst] at *; omega) | (simp only [sm] at *; omega)), by dsimp only; (first | omega | (simp only [cst] at *; omega) | (simp only [sm] at *; omega)), by dsimp only; (first | omega | (simp only [cst] at *; omega) | (simp only [sm] at *; omega)), by dsimp only; (first | omega | (simp only [cst] at *; omega) | (simp only [sm] at *; omega)), by dsimp only; intro h0; (first | omega | (simp only [cst] at *; omega) | (simp only [sm] at *; omega)), by dsimp only; intro h0; (first | omega | (simp only [cst] at *; omega) | (simp only [sm] at *; omega))⟩
             rw [this]; done)
          | skip
      · have hp : p.length ≠ 0 := by (first | omega | (simp only [cst] at *; omega) | (simp only [sm] at *; omega))
        refine ⟨(i + 1, z), ⟨by show z = ((i + 1 : Nat) : Int); (first | omega | (simp only [cst] at *; omega) | (simp only [sm] at *; omega)), by show i + 1 ≤ ps.length; omega, fun k q hk hq => ?_⟩, by show ps.length - (i + 1) < ps.length - i; omega, ?_⟩
        · by_cases e : k = i
          · subst e
            rw [hbi] at hq
            injection hq with hq
            rw [← hq]; exact hp
          · exact hki k q (by have : k < i + 1 := hk; omega) hq
        · cbv
    · have e : i = ps.length := by (first | omega | (simp only [cst] at *; omega) | (simp only [sm] at *; omega))
      have hh := hall fun k q hq => hki k q (by rw [e]; exact (List.getElem?_eq_some_iff.1 hq).1) hq
      clear hall hki hne
      (refine callq (g2) rfl rfl ?_; cbv; (repeat' (first
| (refine q1w (fun z hz => ?_); (try simp only at hz); cbv)
| (refine rqw ?_; cbv)
| (refine QC.tw ?_; cbv)
| (refine QC.tt ?_ ?_; (focus (simp only [decide_true, Bool.and_true, Bool.and_self] <;> fail)); cbv)
| (refine QC.ff ?_ ?_; (focus (simp only [decide_true, Bool.and_true, Bool.and_self, decide_false, Bool.false_and, reduceCtorEq, not_false_eq_true] <;> fail)); cbv)
| (refine QC.fw ?_; cbv)
| (refine QC.mk (fun hc => ?_) (fun hc => ?_) <;> (try dsimp only at hc) <;> cbv)
| (refine br_mk2 (fun hb => ?_) (fun hb => ?_) <;> (try subst hb) <;> cbv))))
      all_goals first
        | (refine Fin.mk ?_ rfl rfl
           have : b = false := by
             cases hb0 : b
             · rfl
             · exfalso
               have v := hb.1 hb0
               have n1 := v.n1
               have n2 := v.n2
               have ne := hfull.2 v.ne
               have ak := v.ak
               have r1 := v.r1
               have r2 := v.r2
               have u1 := v.u1
               have u2 := v.u2
               have d := v.d
               have a := v.a
               clear hb v
               dsimp only at *
               (first | omega | (simp only [cst] at *; omega) | (simp only [sm] at *; omega))
           rw [this]; done)
        | (refine Fin.mk ?_ rfl rfl
           have : b = true := hb.2 ⟨by dsimp only; (first | omega | (simp only [cst] at *; omega) | (simp only [sm] at *; omega)), by dsimp only; (first | omega | (simp only [cst] at *; omega) | (simp only [sm] at *; omega)), hfull.1 (by (first | omega | (simp only [cst] at *; omega) | (simp only [sm] at *; omega))), by dsimp only; (first | omega | (simp only [cst] at *; omega) | (simp only [sm] at *; omega)), by dsimp only; (first | omega | (simp only [cst] at *; omega) | (simp only [sm] at *; omega)), by dsimp only; (first | omega | (simp only [cst] at *; omega) | (simp only [sm] at *; omega)), by dsimp only; (first | omega | (simp only [cst] at *; omega) | (simp only [sm] at *; omega)), by dsimp only; (first | omega | (simp only [cst] at *; omega) | (simp only [sm] at *; omega)), by dsimp only; intro h0; (first | omega | (simp only [cst] at *; omega) | (simp only [sm] at *; omega)), by dsimp only; intro h0; (first | omega | (simp only [cst] at *; omega) | (simp only [sm] at *; omega))⟩
           rw [this]; done)
        | skip
end Go.Proofs.Ytjhicdoigllblaa
namespace Go.Proofs.Ytjhicdoigllblaa
set_option linter.unusedVariables false
set_option linter.unusedSimpArgs false
open Go.RowKit Go.Shelf
def misX (m : Int) : Nat → List SV → List (List SV)
  | _, [] => []
  | i, x :: L => if m / 2 ^ i % 2 = 0 then [.int .i64 i, x] :: misX m (i + 1) L else misX m (i + 1) L
def cntF (m : Int) : Nat → Nat → Nat
  | _, 0 => 0
  | j, i + 1 => (if m / 2 ^ j % 2 = 0 then 1 else 0) + cntF m (j + 1) i
theorem cntF_succ (m : Int) : ∀ (i j : Nat), cntF m j (i + 1) = cntF m j i + (if m / 2 ^ (j + i) % 2 = 0 then 1 else 0)
  | 0, j => by simp [cntF]
  | i + 1, j => by
    rw [cntF, cntF_succ m i (j + 1), cntF]
    have : j + 1 + i = j + (i + 1) := by omega
    rw [this]
    omega
theorem misX_at (m : Int) : ∀ (L : List SV) (j i : Nat) (x : SV), L[i]? = some x → m / 2 ^ (j + i) % 2 = 0 → (misX m j L)[cntF m j i]? = some [.int .i64 ((j + i : Nat) : Int), x]
  | [], j, i, x, h, _ => by simp at h
  | y :: L, j, 0, x, h, hm => by
    simp at h
    subst h
    simp only [Nat.add_zero] at hm ⊢
    simp [misX, cntF, hm]
  | y :: L, j, i + 1, x, h, hm => by
    have e : j + 1 + i = j + (i + 1) := by omega
    have ih := misX_at m L (j + 1) i x (by simpa using h) (by rw [e]; exact hm)
    rw [e] at ih
    simp only [misX, cntF]
    split
    · rw [Nat.add_comm 1]; simpa using ih
    · simpa using ih
theorem misX_len (m : Int) : ∀ (L : List SV) (j : Nat), (misX m j L).length = cntF m j L.length
  | [], j => rfl
  | y :: L, j => by
    simp only [misX, List.length_cons, cntF]
    split
    · rw [List.length_cons, misX_len m L (j + 1)]; omega
    · rw [misX_len m L (j + 1)]; omega
theorem and1 (m : Int) (h : 0 ≤ m ∧ m < 4294967296) (i : Nat) (hi : i < 32) : ((BitVec.ofInt 32 (m / 2 ^ i) &&& 1#32).toNat : Int) = m / 2 ^ i % 2 := by
  have h0 : 0 ≤ m / 2 ^ i := Int.ediv_nonneg h.1 (Int.pow_nonneg (by omega))
  have h1 : m / 2 ^ i ≤ m := Int.ediv_le_self _ h.1
  obtain ⟨k, hk⟩ := Int.eq_ofNat_of_zero_le h0
  rw [hk] at h1 ⊢
  have : (BitVec.ofInt 32 (k : Int)).toNat = k := by rw [BitVec.toNat_ofInt]; omega
  rw [BitVec.toNat_and, this]
  simp only [BitVec.toNat_ofNat]
  have e : (1 : Nat) % 2 ^ 32 = 1 := by decide
  rw [e, Nat.and_one_is_mod]
  omega
theorem and1b (m : Int) (h : 0 ≤ m ∧ m < 4294967296) (i : Nat) (hi : i < 32) : bits .and .u32 (m / 2 ^ i) 1 = m / 2 ^ i % 2 := by
  have := and1 m h i hi
  have h1 := Int.emod_nonneg (m / 2 ^ i) (show (2 : Int) ≠ 0 by omega)
  have h2 := Int.emod_lt_of_pos (m / 2 ^ i) (show (0 : Int) < 2 by omega)
  unfold bits
  show IntKind.u32.wrap ((BitVec.ofInt 32 (m / 2 ^ i) &&& 1#32).toNat : Int) = _
  rw [IntKind.wrap_u32, this]
  omega
attribute [local go_sem] Oper.semAt_some
set_option maxRecDepth 100000 in
set_option maxHeartbeats 4000000 in
theorem missing1_in (l Bs b off len cap : Nat) (m : Int) (hm : 0 ≤ m ∧ m < 4294967296) (hlen : len ≤ 32) (V : Nat → Value) (o : Nat) (Kp : World → Prop) (J : Nat → World → Prop) (Jx : World → Prop)
    (hK : ∀ W, Kp W → W.cell? ⟨Bs, o + 2, none⟩ = some (.slice (some ⟨b, off, none⟩) len cap) ∧ W.cell? ⟨Bs, o + 3, none⟩ = some (.int .u32 m) ∧ ∀ j, j < len → W.cell? ⟨b, off + j, none⟩ = some (V j))
    (hJK : ∀ k W, J k W → Kp W)
    (hY : ∀ i W, i < len → m / 2 ^ i % 2 = 0 → J (cntF m 0 i) W → ∀ q, YieldAt Fence.wide q Try.prog l #[.int .i64 (i : Int), V i] W fun e W' =>
      (e = .returned (.bool true) ∧ J (cntF m 0 i + 1) W') ∨ (e = .returned (.bool false) ∧ Jx W'))
    (W : World) (h0 : J 0 W) (n : Nat) (hn : 1 ≤ n) :
    CallsIn Fence.wide n Try.prog 67 #[.func (.yield l) #[] #[], .pointer (some ⟨Bs, o, none⟩)] W fun e W' => (∃ v, e = .returned v) ∧ (J (cntF m 0 len) W' ∨ Jx W') := by
  refine callsIn_of_wp Try.func67 rfl trivial ?_ rfl
  simp only [Try.ntmps67, List.size_toArray, List.length_cons, List.length_nil, Nat.reduceAdd, Nat.reduceSub, Array.replicate_succ, Array.replicate_zero, List.push_toArray, List.append_toArray, List.nil_append, List.cons_append]
  obtain ⟨hc2, hc3, hcs⟩ := hK W (hJK _ _ h0)
  gi_wp2
  gi_loopw [8] (fun i wr => ∃ k : Nat, k ≤ len ∧ i = .int .i64 k ∧ J (cntF m 0 k) wr) (fun i _ => len - (intOf i).toNat)
  case atStart => exact ⟨0, Nat.zero_le _, rfl, h0⟩
  case round =>
    obtain ⟨k, hk, rfl, hJs⟩ := hrel
    obtain ⟨hd2, hd3, hds⟩ := hK _ (hJK _ _ hJs)
    have hcx := fun h : k < len => hds k h
    by_cases hlt : k < len
    · have hcx' := hcx hlt
      have hk32 : k < 32 := by omega
      have han : bits .and .u32 (m / 2 ^ k) 1 = m / 2 ^ k % 2 := and1b m hm k hk32
      by_cases hbit : m / 2 ^ k % 2 = 0
      · obtain ⟨fn, tmps, assign, body, hy, hR⟩ := hY k wr hlt hbit hJs (n - 1)
        rw [hbit] at han
        gi_wp2
        refine hR.mono ?_
        rintro e W3 (⟨rfl, hJ3⟩ | ⟨rfl, hJx3⟩)
        · gi_wp2
          go_roundw
          case rel => exact ⟨k + 1, by omega, by simp, by rw [cntF_succ, Nat.zero_add, if_pos hbit]; exact hJ3⟩
          case measure => simp [intOf]; omega
        · gi_wp2
          refine bodyPost_ret (results_none rfl _ _ _) rfl ?_
          exact ⟨⟨_, rfl⟩, .inr hJx3⟩
      · have hb1 : m / 2 ^ k % 2 = 1 := by
          have h1 := Int.emod_nonneg (m / 2 ^ k) (show (2 : Int) ≠ 0 by omega)
          have h2 := Int.emod_lt_of_pos (m / 2 ^ k) (show (0 : Int) < 2 by omega)
          omega
        have hcn : cntF m 0 (k + 1) = cntF m 0 k := by rw [cntF_succ, Nat.zero_add, if_neg hbit, Nat.add_zero]
        rw [hb1] at han
        clear hb1 hbit
        gi_wp2
        refine ⟨fun _ h => (by cases h), ?_⟩
        gi_wp2
        go_roundw
        case rel => exact ⟨k + 1, by omega, by simp, by rw [hcn]; exact hJs⟩
        case measure => simp [intOf]; omega
    · obtain rfl : k = len := by omega
      gi_wp2
      go_end0
      exact ⟨⟨_, rfl⟩, .inl hJs⟩
set_option maxRecDepth 100000 in
set_option maxHeartbeats 4000000 in
theorem missing1_nil (l Bs cap : Nat) (ad : Option Addr) (o : Nat) (J : Nat → World → Prop) (W : World) (hc2 : W.cell? ⟨Bs, o + 2, none⟩ = some (.slice ad 0 cap)) (h0 : J 0 W) (n : Nat) (hn : 1 ≤ n) :
    CallsIn Fence.wide n Try.prog 67 #[.func (.yield l) #[] #[], .pointer (some ⟨Bs, o, none⟩)] W fun e W' => (∃ v, e = .returned v) ∧ J 0 W' := by
  refine callsIn_of_wp Try.func67 rfl trivial ?_ rfl
  simp only [Try.ntmps67, List.size_toArray, List.length_cons, List.length_nil, Nat.reduceAdd, Nat.reduceSub, Array.replicate_succ, Array.replicate_zero, List.push_toArray, List.append_toArray, List.nil_append, List.cons_append]
  gi_wp2
  gi_loopw [8] (fun i wr => i = .int .i64 0 ∧ J 0 wr) (fun _ _ => 0)
  case atStart => exact ⟨rfl, h0⟩
  case round =>
    obtain ⟨rfl, hJs⟩ := hrel
    gi_wp2
    go_end0
    exact ⟨⟨_, rfl⟩, hJs⟩
theorem missing1_q (st tag rd un m : Int) (L : List SV) (hm : 0 ≤ m ∧ m < 4294967296) (hl : L.length ≤ 32) :
    Good 67 (seqC [.eptr (some 6) (.agg [.int .i64 st, .int .u8 tag, .lst none L, .int .u32 m, .int .i64 rd, .int .i64 un]) 0] (misX m 0 L)) := by
  refine ⟨⟨⟨Try.f67, Try.func67, rfl, by kernel_rfl⟩, fun _ => ?_, fun h => by simp [isSeq, seqC] at h⟩⟩
  rw [seqC_L]
  refine ⟨fun w Y us hus l J Jx W hJb hJxb hKY hY h0 n => ?_⟩
  obtain ⟨v, rfl⟩ := List.length_eq_one_iff.1 (show us.length = 1 from hus.1.symm)
  have hv := hus.2 0 _ v rfl rfl
  cases hv with
  | eptr _ _ _ _ B o cs hb hx hu hcl hy =>
  rw [valAt_some_full (by rw [hcl]; exact Nat.le_refl _)] at hy
  obtain ⟨cs', e, hd⟩ := Den.agg_iff.1 hy
  injection e with e
  injection e with e
  subst e
  have hcs : cs.length = 6 := hcl
  have hc3 : cs[3]? = some (.int .u32 m) := by
    have h3 : (3 : Nat) < cs.length := by omega
    have := hd.2 3 _ _ rfl (List.getElem?_eq_getElem h3)
    rw [List.getElem?_eq_getElem h3, Den.int_iff.1 this]
  have h2 : (2 : Nat) < cs.length := by omega
  have hc2 := hd.2 2 _ _ rfl (List.getElem?_eq_getElem h2)
  have hu2 := hu 2 _ (List.getElem?_eq_getElem h2)
  have hu3 := hu 3 _ hc3
  have same : ∀ {W1 : World}, KeepY Y w W1 → ∀ {b : Nat}, b < w.heap.size → ¬ Y b → ∀ off, W1.cell? ⟨b, off, none⟩ = w.cell? ⟨b, off, none⟩ := fun hk b hb hy off => World.cell?_of_block (hk.same b hb hy)
  refine (callsIn_wide (n := n)).2 ((callsIn_wide (n := 1)).1 ?_)
  have hk0 := hKY 0 W h0
  generalize hcv : cs[2] = c2 at hc2 hu2
  cases hc2 with
  | lst0 _ _ ad cap =>
    exact (missing1_nil l B cap ad (o + 0) J W (by rw [Nat.add_zero, same hk0 hb hx]; exact hu2) h0 1 (Nat.le_refl _)).mono fun e W' ⟨h1, h2⟩ => ⟨h1, .inl h2⟩
  | lst _ _ _ b off cap us2 hb2 hx2 hc2' hu2' hl2 ho2 hd2 =>
    have hl2' : us2.length = L.length := by simpa [wid] using hl2
    refine (missing1_in l B b off L.length cap m hm hl (fun j => (us2[j]?).getD undef) (o + 0) (fun W1 => KeepY Y w W1) J Jx (fun W1 hk => ⟨?_, ?_, fun j hj => ?_⟩) hKY (fun i W1 hi hbit hJ q => ?_) W h0 1 (Nat.le_refl _)).mono fun e W' ⟨h1, h2⟩ => ⟨h1, ?_⟩
    · rw [Nat.add_zero, same hk hb hx]; exact hu2
    · rw [Nat.add_zero, same hk hb hx]; exact hu3
    · rw [same hk hb2 hx2, hu2' j _ (List.getElem?_eq_getElem (by omega))]
      simp [hl2', hj]
    · have hx := misX_at m L 0 i L[i] (List.getElem?_eq_getElem hi) (by rw [Nat.zero_add]; exact hbit)
      rw [Nat.zero_add] at hx
      refine hY _ _ [.int .i64 (i : Int), (us2[i]?).getD undef] W1 hJ hx ⟨rfl, fun j x u hxx huu => ?_⟩ q
      match j, hxx, huu with
      | 0, hxx, huu => simp at hxx huu; subst hxx; subst huu; exact .int _ _ _
      | 1, hxx, huu => simp at hxx huu; subst hxx; subst huu; exact hd2 i hi
    · rw [misX_len]; exact h2
end Go.Proofs.Ytjhicdoigllblaa
namespace Go.Proofs.Ytjhicdoigllblaa
set_option linter.unusedVariables false
set_option linter.unusedSimpArgs false
open Go.RowKit
structure Pce where
  tag : Int
  n : Int
  c : Int
  ack : Bool
  d : List UInt8
def Pce.v (p : Pce) : SV := .agg [.int .u8 p.tag, .int .i64 p.n, .int .i64 p.c, .bool p.ack, .lst none (u8l p.d)]
def pcL (l : List Pce) : List SV := l.map Pce.v
theorem pcL_len (l : List Pce) : (pcL l).length = l.length := by simp [pcL]
def opn (ak : Int) (n : Nat) : List Nat := (List.range n).filter fun i => decide (ak / 2 ^ i % 2 = 0)
theorem misX_eq (m : Int) : ∀ (L : List SV) (j : Nat), misX m j L = ((List.range L.length).filter fun i => decide (m / 2 ^ (j + i) % 2 = 0)).map fun i => [.int .i64 ((j + i : Nat) : Int), L.getD i .any]
  | [], j => rfl
  | y :: L, j => by
    have ih := misX_eq m L (j + 1)
    have e : ∀ i, j + 1 + i = j + (i + 1) := fun i => by omega
    simp only [e] at ih
    simp only [misX, List.length_cons, List.range_succ_eq_map, List.filter_cons, Nat.add_zero, List.filter_map, ih]
    by_cases h : m / 2 ^ j % 2 = 0
    · rw [if_pos h]
      simp only [h, decide_true, if_true, List.map_cons, List.map_map]
      rfl
    · rw [if_neg h]
      simp only [h, decide_false, Bool.false_eq_true, if_false, List.map_map]
      rfl
def pre (tag : Int) (ps : List (List UInt8)) (ak : Int) (k : Nat) : List Pce := ((opn ak ps.length).take k).map fun (i : Nat) => (⟨tag, (i : Int), (ps.length : Int), false, ps.getD i []⟩ : Pce)
def mark : List Pce → List Pce
  | [] => []
  | [p] => [{ p with ack := true }]
  | p :: q :: l => p :: mark (q :: l)
theorem mark_len : ∀ l, (mark l).length = l.length
  | [] => rfl
  | [p] => rfl
  | p :: q :: l => by simp [mark, mark_len (q :: l)]
theorem mark_set : ∀ (l : List Pce) (k : Nat) (p : Pce), l.length = k + 1 → l[k]? = some p → l.set k { p with ack := true } = mark l
  | [], k, p, h, _ => by simp at h
  | [q], 0, p, _, h => by simp at h; subst h; rfl
  | [q], k + 1, p, h, _ => by simp at h
  | q :: r :: l, 0, p, h, _ => by simp at h
  | q :: r :: l, k + 1, p, h, g => by
    rw [List.set_cons_succ, mark_set (r :: l) k p (by simpa using h) (by simpa using g)]
    rfl
theorem pre_len (tag : Int) (ps : List (List UInt8)) (ak : Int) (k : Nat) (h : k ≤ (opn ak ps.length).length) : (pre tag ps ak k).length = k := by simp [pre]; omega
theorem pre_succ (tag : Int) (ps : List (List UInt8)) (ak : Int) (k i : Nat) (h : (opn ak ps.length)[k]? = some i) : pre tag ps ak (k + 1) = pre tag ps ak k ++ [⟨tag, i, ps.length, false, ps.getD i []⟩] := by
  obtain ⟨h1, h2⟩ := List.getElem?_eq_some_iff.1 h
  rw [pre, pre, ← List.take_append_getElem h1, List.map_append, h2]
  rfl
theorem opn_lt {ak : Int} {n k i : Nat} (h : (opn ak n)[k]? = some i) : i < n ∧ ak / 2 ^ i % 2 = 0 := by
  have := List.mem_of_getElem? h
  unfold opn at this
  rw [List.mem_filter, List.mem_range] at this
  exact ⟨this.1, of_decide_eq_true this.2⟩
theorem opn_pos {ak : Int} {n : Nat} (h0 : 0 ≤ ak) (h1 : ak ≤ allI n) (h2 : ak ≠ allI n) : 1 ≤ (opn ak n).length := by
  rcases Nat.eq_zero_or_pos (opn ak n).length with h | h
  · exfalso
    have h3 : ∀ i, i < n → ¬ ak / 2 ^ i % 2 = 0 := fun i hi he => by
      have : i ∈ opn ak n := by unfold opn; rw [List.mem_filter, List.mem_range]; exact ⟨hi, decide_eq_true he⟩
      rw [List.length_eq_zero_iff.1 h] at this
      cases this
    obtain ⟨a, ha⟩ := Int.eq_ofNat_of_zero_le h0
    subst ha
    rw [allI_nat] at h1 h2
    have hp : 1 ≤ 2 ^ n := Nat.one_le_two_pow
    apply h2
    congr 1
    apply Nat.eq_of_testBit_eq
    intro i
    rw [Nat.testBit_two_pow_sub_one]
    by_cases hi : i < n
    · have := h3 i hi
      have e : ((a : Int) / 2 ^ i % 2) = ((a / 2 ^ i % 2 : Nat) : Int) := by simp
      rw [e] at this
      rw [Nat.testBit_eq_decide_div_mod_eq]
      simp only [hi, decide_true, decide_eq_true_eq]
      have := Nat.mod_lt (a / 2 ^ i) (show 0 < 2 by omega)
      omega
    · rw [Nat.testBit_lt_two_pow (Nat.lt_of_lt_of_le (show a < 2 ^ n by omega) (Nat.pow_le_pow_right (by omega) (by omega)))]
      simp [hi]
  · exact h
def nextX (s : Snd) (ok : Bool) (now : Int) : SV × List Pce × Int :=
  if ok = false then (.agg [.int .i64 0, .int .u8 0, .nil, .int .u32 0, .int .i64 0, .int .i64 0], [], 1)
  else if now < 0 ∨ 1099511627776 < now then (.agg [.int .i64 0, .int .u8 0, .nil, .int .u32 0, .int .i64 0, .int .i64 0], [], 2)
  else if s.st ≠ 1 ∨ now < s.un then (s.v, [], 0)
  else if s.rd = 8 then (({ s with st := 3 } : Snd).v, [], 0)
  else (({ s with rd := s.rd + 1, un := min (now + 8) 1099511627776 } : Snd).v, mark (pre s.tag s.ps s.ak (min (opn s.ak s.ps.length).length 8)), 0)
end Go.Proofs.Ytjhicdoigllblaa
namespace Go.Proofs.Ytjhicdoigllblaa
set_option linter.unusedVariables false
set_option linter.unusedSimpArgs false
open Go.RowKit
set_option maxHeartbeats 16000000
theorem missing_c (st tag ak rd un : Int) (R : List SV) :
    Good 52 (pu [.agg [.int .i64 st, .int .u8 tag, .lst none R, .int .u32 ak, .int .i64 rd, .int .i64 un]] (.clo 67 [.eptr (some 6) (.agg [.int .i64 st, .int .u8 tag, .lst none R, .int .u32 ak, .int .i64 rd, .int .i64 un]) 0])) := by
  refine Good.of Try.func52 rfl (by rfl) (by kernel_rfl) ?_
  cbv
  (repeat' (first
| (refine q1w (fun z hz => ?_); (try simp only at hz); cbv)
| (refine rqw ?_; cbv)
| (refine QC.tw ?_; cbv)
| (refine QC.tt ?_ ?_; (focus (simp only [decide_true, Bool.and_true, Bool.and_self] <;> fail)); cbv)
| (refine QC.ff ?_ ?_; (focus (simp only [decide_true, Bool.and_true, Bool.and_self, decide_false, Bool.false_and, reduceCtorEq, not_false_eq_true] <;> fail)); cbv)
| (refine QC.fw ?_; cbv)
| (refine QC.mk (fun hc => ?_) (fun hc => ?_) <;> (try dsimp only at hc) <;> cbv)
| (refine br_mk2 (fun hb => ?_) (fun hb => ?_) <;> (try subst hb) <;> cbv)))
  exact ⟨rfl, rfl, rfl⟩
theorem pce_at {tag : Int} {ps : List (List UInt8)} {ak : Int} {R : List SV} (hR : R = rowsB ps) {k i : Nat} (h : (opn ak ps.length)[k]? = some i) :
    ∃ (b : List UInt8) (B : List SV), ps[i]? = some b ∧ B = u8l b ∧ R[i]? = some (.lst none B) ∧ (misX ak 0 R)[k]? = some [.int .i64 (i : Int), .lst none B] ∧ pcL (pre tag ps ak (k + 1)) = pcL (pre tag ps ak k) ++ [.agg [.int .u8 tag, .int .i64 (i : Int), .int .i64 (ps.length : Int), .bool false, .lst none B]] := by
  obtain ⟨b, B, h1, h2, h3⟩ := rowsB_at hR i (opn_lt h).1
  refine ⟨b, B, h1, h2, h3, ?_, ?_⟩
  · rw [misX_eq]
    have hl : R.length = ps.length := by rw [hR, rowsB_len]
    have : ((List.range R.length).filter fun i => decide (ak / 2 ^ (0 + i) % 2 = 0)) = opn ak ps.length := by rw [hl, opn]; simp
    rw [this, List.getElem?_map, h]
    simp [h3]
  · rw [pre_succ _ _ _ _ _ h, pcL, List.map_append]
    have : ps.getD i [] = b := by rw [List.getD_eq_getElem?_getD, h1]; rfl
    rw [this, h2]
    rfl
theorem misX_opn (ak : Int) (ps : List (List UInt8)) (R : List SV) (hR : R = rowsB ps) : (misX ak 0 R).length = (opn ak ps.length).length := by
  rw [misX_eq]
  have hl : R.length = ps.length := by rw [hR, rowsB_len]
  rw [List.length_map, hl, opn]
  simp
theorem misX_shape (ak : Int) (ps : List (List UInt8)) (R : List SV) (hR : R = rowsB ps) : ∀ x ∈ misX ak 0 R, x.length = 2 ∧ datas x = true := by
  intro x hx
  obtain ⟨k, hk, rfl⟩ := List.mem_iff_getElem.1 hx
  have hk' : k < (opn ak ps.length).length := by rw [← misX_opn ak ps R hR]; exact hk
  obtain ⟨b, B, _, _, _, h, _⟩ := pce_at (tag := 0) hR (List.getElem?_eq_getElem hk')
  rw [List.getElem?_eq_getElem hk] at h
  injection h with h
  rw [h]
  exact ⟨rfl, rfl⟩
theorem pre_mark {tag : Int} {ps : List (List UInt8)} {ak : Int} {R : List SV} (hR : R = rowsB ps) {k : Nat} (h : k + 1 ≤ (opn ak ps.length).length) :
    ∃ (i : Nat) (B : List SV), (pcL (pre tag ps ak (k + 1)))[k]? = some (.agg [.int .u8 tag, .int .i64 (i : Int), .int .i64 (ps.length : Int), .bool false, .lst none B]) ∧
      (pcL (pre tag ps ak (k + 1))).set k (.agg [.int .u8 tag, .int .i64 (i : Int), .int .i64 (ps.length : Int), .bool true, .lst none B]) = pcL (mark (pre tag ps ak (k + 1))) := by
  have hk : (opn ak ps.length)[k]? = some (opn ak ps.length)[k] := List.getElem?_eq_getElem (by omega)
  have hs := pre_succ tag ps ak k _ hk
  have hl : (pre tag ps ak k).length = k := pre_len _ _ _ _ (by omega)
  have hg : (pre tag ps ak (k + 1))[k]? = some ⟨tag, ((opn ak ps.length)[k] : Nat), ps.length, false, ps.getD (opn ak ps.length)[k] []⟩ := by
    rw [hs, List.getElem?_append_right (by omega), hl]; simp
  refine ⟨(opn ak ps.length)[k], u8l (ps.getD (opn ak ps.length)[k] []), ?_, ?_⟩
  · rw [pcL, List.getElem?_map, hg]; rfl
  · rw [← mark_set _ k _ (by rw [pre_len _ _ _ _ h]) hg, pcL, pcL, List.map_set]
    rfl
set_option maxRecDepth 4000 in
theorem nx_c (st tag ak rd un : Int) (ps : List (List UInt8)) (R : List SV) (hR : R = rowsB ps) (hf : Snd.fits ⟨st, tag, ps, ak, rd, un⟩) (b : Bool) (hb : b = true ↔ VS ⟨st, tag, ps, ak, rd, un⟩) (now : Int) (hnow : -9223372036854775808 ≤ now ∧ now ≤ 9223372036854775807)
    (X : SV) (l : List Pce) (L : List SV) (hL : L = pcL l) (e : Int) (hX : nextX ⟨st, tag, ps, ak, rd, un⟩ b now = (X, l, e)) :
    Good 15 (pu [.agg [.int .i64 st, .int .u8 tag, .lst none R, .int .u32 ak, .int .i64 rd, .int .i64 un], .int .i64 now] (.tup [X, .lst (some 5) L, .int .i64 e])) := by
  have hRl : R.length = ps.length := by rw [hR, rowsB_len]
  have hfb := hf.b
  have hfn := hf.n
  have hak := hf.ak
  have g1 := vsender_c st tag ak rd un ps R hR hf b hb
  have g2 := clonedPieces_c ps R hR hf.n hf.b
  have gm := fun rd' un' => missing_c st tag ak rd' un' R
  have hv := fun h : b = true => hb.1 h
  have gq := fun (rd' un' : Int) (hn : ps.length ≤ 32) => missing1_q st tag rd' un' ak R (by have := hak; dsimp only at this; omega) (by omega)
  have hxs := misX_shape ak ps R hR
  obtain ⟨W, hW⟩ : ∃ W, W = (opn ak ps.length).length := ⟨_, rfl⟩
  have hxl := misX_opn ak ps R hR
  rw [← hW] at hxl
  have hpos : b = true → st = 1 → 1 ≤ W := fun h hst => by
    have v := hv h
    rw [hW]
    refine opn_pos hak.1 v.ak fun he => ?_
    have := v.d he
    dsimp only at this
    omega
  have hn32 : b = true → ps.length ≤ 32 := fun h => (hv h).n2
  have hrd : b = true → 0 ≤ rd ∧ rd ≤ 8 := fun h => ⟨(hv h).r1, (hv h).r2⟩
  obtain ⟨S, hS⟩ : ∃ S : Nat → List SV, ∀ k, S k = pcL (pre tag ps ak k) := ⟨_, fun _ => rfl⟩
  obtain ⟨iF, hiF⟩ : ∃ iF : Nat → Nat, ∀ k, iF k = (opn ak ps.length).getD k 0 := ⟨_, fun _ => rfl⟩
  obtain ⟨bF, hbF⟩ : ∃ bF : Nat → List UInt8, ∀ k, bF k = ps.getD (iF k) [] := ⟨_, fun _ => rfl⟩
  obtain ⟨BF, hBF⟩ : ∃ BF : Nat → List SV, ∀ k, BF k = u8l (bF k) := ⟨_, fun _ => rfl⟩
  have hS1 : ∀ (k : Nat) (x : List SV), (misX ak 0 R)[k]? = some x → x = [.int .i64 (iF k : Int), .lst none (BF k)] ∧ k < W ∧ iF k < ps.length ∧ (bF k).length ≤ 140737488351232 ∧ S (k + 1) = S k ++ [.agg [.int .u8 tag, .int .i64 (iF k : Int), .int .i64 (ps.length : Int), .bool false, .lst none (BF k)]] := fun k x hx => by
    have hk : k < (opn ak ps.length).length := by have := (List.getElem?_eq_some_iff.1 hx).1; omega
    have hki := List.getElem?_eq_getElem hk
    have hik : iF k = (opn ak ps.length)[k] := by rw [hiF, List.getD_eq_getElem?_getD, hki]; rfl
    obtain ⟨b, B, h1, h2, h3, h4, h5⟩ := pce_at (tag := tag) hR hki
    have hb : bF k = b := by rw [hbF, hik, List.getD_eq_getElem?_getD, h1]; rfl
    have hB : BF k = B := by rw [hBF, hb, h2]
    rw [hx] at h4
    injection h4 with h4
    rw [hik, hB, hb]
    exact ⟨h4, by omega, (opn_lt hki).1, hfb b (List.mem_of_getElem? h1), by rw [hS, hS]; exact h5⟩
  clear hiF hbF
  have hS0 : S 0 = [] := by rw [hS]; rfl
  have hSl : ∀ k, k ≤ W → (S k).length = k := fun k hk => by rw [hS, pcL_len, pre_len _ _ _ _ (by omega)]
  obtain ⟨F, hF⟩ : ∃ F : Nat → List SV, ∀ k, F k = pcL (mark (pre tag ps ak k)) := ⟨_, fun _ => rfl⟩
  have hSm0 : ∀ k, k + 1 ≤ W → ∃ (i : Nat) (B : List SV), (S (k + 1))[k]? = some (.agg [.int .u8 tag, .int .i64 (i : Int), .int .i64 (ps.length : Int), .bool false, .lst none B]) ∧ (S (k + 1)).set k (.agg [.int .u8 tag, .int .i64 (i : Int), .int .i64 (ps.length : Int), .bool true, .lst none B]) = F (k + 1) := fun k hk => by
    rw [hS, hF]; exact pre_mark hR (by omega)
  obtain ⟨N, hN⟩ : ∃ N : Int, N = ps.length := ⟨_, rfl⟩
  rw [← hN] at hSm0
  obtain ⟨iM, BM, hSm⟩ : ∃ (iM : Nat → Nat) (BM : Nat → List SV), ∀ k, 1 ≤ k → k ≤ W → (S k)[k - 1]? = some (.agg [.int .u8 tag, .int .i64 (iM k : Int), .int .i64 N, .bool false, .lst none (BM k)]) ∧ (S k).set (k - 1) (.agg [.int .u8 tag, .int .i64 (iM k : Int), .int .i64 N, .bool true, .lst none (BM k)]) = F k := by
    have : ∀ k, ∃ (i : Nat) (B : List SV), 1 ≤ k → k ≤ W → (S k)[k - 1]? = some (.agg [.int .u8 tag, .int .i64 (i : Int), .int .i64 N, .bool false, .lst none B]) ∧ (S k).set (k - 1) (.agg [.int .u8 tag, .int .i64 (i : Int), .int .i64 N, .bool true, .lst none B]) = F k := fun k => by
      by_cases h : 1 ≤ k ∧ k ≤ W
      · obtain ⟨i, B, h1, h2⟩ := hSm0 (k - 1) (by omega)
        rw [show k - 1 + 1 = k by omega] at h1 h2
        exact ⟨i, B, fun _ _ => ⟨h1, h2⟩⟩
      · exact ⟨0, [], fun a b => absurd ⟨a, b⟩ h⟩
    exact ⟨fun k => Classical.choose (this k), fun k => Classical.choose (Classical.choose_spec (this k)), fun k => Classical.choose_spec (Classical.choose_spec (this k))⟩
  clear hSm0
  have x1 : b = false → X = .agg [.int .i64 0, .int .u8 0, .nil, .int .u32 0, .int .i64 0, .int .i64 0] ∧ L = [] ∧ e = 1 := fun h => by
    unfold nextX at hX; rw [if_pos h] at hX; obtain ⟨a1, a2⟩ := Prod.mk.inj hX; obtain ⟨a2, a3⟩ := Prod.mk.inj a2; exact ⟨a1.symm, by rw [hL, ← a2]; rfl, a3.symm⟩
  have x2 : b = true → now < 0 ∨ 1099511627776 < now → X = .agg [.int .i64 0, .int .u8 0, .nil, .int .u32 0, .int .i64 0, .int .i64 0] ∧ L = [] ∧ e = 2 := fun h h2 => by
    unfold nextX at hX; rw [if_neg (by rw [h]; simp), if_pos h2] at hX; obtain ⟨a1, a2⟩ := Prod.mk.inj hX; obtain ⟨a2, a3⟩ := Prod.mk.inj a2; exact ⟨a1.symm, by rw [hL, ← a2]; rfl, a3.symm⟩
  have x3 : b = true → ¬ (now < 0 ∨ 1099511627776 < now) → st ≠ 1 ∨ now < un → X = .agg [.int .i64 st, .int .u8 tag, .lst none R, .int .u32 ak, .int .i64 rd, .int .i64 un] ∧ L = [] ∧ e = 0 := fun h h2 h3 => by
    unfold nextX at hX; rw [if_neg (by rw [h]; simp), if_neg h2, if_pos h3] at hX; obtain ⟨a1, a2⟩ := Prod.mk.inj hX; obtain ⟨a2, a3⟩ := Prod.mk.inj a2; exact ⟨by rw [← a1, hR]; rfl, by rw [hL, ← a2]; rfl, a3.symm⟩
  have x4 : b = true → ¬ (now < 0 ∨ 1099511627776 < now) → ¬ (st ≠ 1 ∨ now < un) → rd = 8 → X = .agg [.int .i64 3, .int .u8 tag, .lst none R, .int .u32 ak, .int .i64 rd, .int .i64 un] ∧ L = [] ∧ e = 0 := fun h h2 h3 h4 => by
    unfold nextX at hX; rw [if_neg (by rw [h]; simp), if_neg h2, if_neg h3, if_pos h4] at hX; obtain ⟨a1, a2⟩ := Prod.mk.inj hX; obtain ⟨a2, a3⟩ := Prod.mk.inj a2; exact ⟨by rw [← a1, hR]; rfl, by rw [hL, ← a2]; rfl, a3.symm⟩
  have x5 : b = true → ¬ (now < 0 ∨ 1099511627776 < now) → ¬ (st ≠ 1 ∨ now < un) → ¬ rd = 8 → X = .agg [.int .i64 st, .int .u8 tag, .lst none R, .int .u32 ak, .int .i64 (rd + 1), .int .i64 (min (now + 8) 1099511627776)] ∧ L = F (min W 8) ∧ e = 0 := fun h h2 h3 h4 => by
    unfold nextX at hX; rw [if_neg (by rw [h]; simp), if_neg h2, if_neg h3, if_neg h4] at hX; obtain ⟨a1, a2⟩ := Prod.mk.inj hX; obtain ⟨a2, a3⟩ := Prod.mk.inj a2; exact ⟨by rw [← a1, hR]; rfl, by rw [hF, hW, hL, ← a2], a3.symm⟩
  clear hX hb hv hS hF hW
  refine Good.of Try.func15 rfl (by rfl) (by kernel_rfl) ?_
  cbv
  have hmk : True := trivial
  (repeat' (first
| (refine q1w (fun z hz => ?_); (try simp only at hz); cbv)
| (refine rqw ?_; cbv)
| (refine QC.tw ?_; cbv)
| (refine QC.tt ?_ ?_; (focus (simp only [decide_true, Bool.and_true, Bool.and_self] <;> fail)); cbv)
| (refine QC.ff ?_ ?_; (focus (simp only [decide_true, Bool.and_true, Bool.and_self, decide_false, Bool.false_and, reduceCtorEq, not_false_eq_true] <;> fail)); cbv)
| (refine QC.fw ?_; cbv)
| (refine QC.mk (fun hc => ?_) (fun hc => ?_) <;> (try dsimp only at hc) <;> cbv)
| (refine br_mk2 (fun hb => ?_) (fun hb => ?_) <;> (try subst hb) <;> cbv)))
  (refine callq (g1) rfl rfl ?_; cbv; (repeat' (first
| (refine q1w (fun z hz => ?_); (try simp only at hz); cbv)
| (refine rqw ?_; cbv)
| (refine QC.tw ?_; cbv)
| (refine QC.tt ?_ ?_; (focus (simp only [decide_true, Bool.and_true, Bool.and_self] <;> fail)); cbv)
| (refine QC.ff ?_ ?_; (focus (simp only [decide_true, Bool.and_true, Bool.and_self, decide_false, Bool.false_and, reduceCtorEq, not_false_eq_true] <;> fail)); cbv)
| (refine QC.fw ?_; cbv)
| (refine QC.mk (fun hc => ?_) (fun hc => ?_) <;> (try dsimp only at hc) <;> cbv)
| (refine br_mk2 (fun hb => ?_) (fun hb => ?_) <;> (try subst hb) <;> cbv))))
  · obtain ⟨e1, e2, e3⟩ := x2 rfl (.inl hc)
    refine Fin.mk ?_ rfl rfl
    rw [e1, e2, e3]
  · obtain ⟨e1, e2, e3⟩ := x2 rfl (.inr hc)
    refine Fin.mk ?_ rfl rfl
    rw [e1, e2, e3]
  · rename_i h1
    have ht : ¬ (now < 0 ∨ 1099511627776 < now) := by omega
    have x3 := x3 rfl ht
    have x4 := x4 rfl ht
    have x5 := x5 rfl ht
    have hpos := hpos rfl
    have hn32 := hn32 rfl
    have hrd := hrd rfl
    clear x1 x2
    (refine callq (g2) rfl rfl ?_; cbv; (repeat' (first
| (refine q1w (fun z hz => ?_); (try simp only at hz); cbv)
| (refine rqw ?_; cbv)
| (refine QC.tw ?_; cbv)
| (refine QC.tt ?_ ?_; (focus (simp only [decide_true, Bool.and_true, Bool.and_self] <;> fail)); cbv)
| (refine QC.ff ?_ ?_; (focus (simp only [decide_true, Bool.and_true, Bool.and_self, decide_false, Bool.false_and, reduceCtorEq, not_false_eq_true] <;> fail)); cbv)
| (refine QC.fw ?_; cbv)
| (refine QC.mk (fun hc => ?_) (fun hc => ?_) <;> (try dsimp only at hc) <;> cbv)
| (refine br_mk2 (fun hb => ?_) (fun hb => ?_) <;> (try subst hb) <;> cbv))))
    · obtain ⟨e1, e2, e3⟩ := x3 (.inl hc)
      refine Fin.mk ?_ rfl rfl
      rw [e1, e2, e3]
    · obtain ⟨e1, e2, e3⟩ := x3 (.inr hc)
      refine Fin.mk ?_ rfl rfl
      rw [e1, e2, e3]
    · rename_i h2 h3
      obtain ⟨e1, e2, e3⟩ := x4 (by omega) hc
      refine Fin.mk ?_ rfl rfl
      rw [e1, e2, e3]
    · rename_i h2 h3 h4 z1 hz1 z2 hz2
      have x5 := x5 (by omega) hc
      have hpos := hpos (by omega)
      clear x3 x4
      have gm := gm z1 z
      (refine callq (gm) rfl rfl ?_; cbv; (repeat' (first
| (refine q1w (fun z hz => ?_); (try simp only at hz); cbv)
| (refine rqw ?_; cbv)
| (refine QC.tw ?_; cbv)
| (refine QC.tt ?_ ?_; (focus (simp only [decide_true, Bool.and_true, Bool.and_self] <;> fail)); cbv)
| (refine QC.ff ?_ ?_; (focus (simp only [decide_true, Bool.and_true, Bool.and_self, decide_false, Bool.false_and, reduceCtorEq, not_false_eq_true] <;> fail)); cbv)
| (refine QC.fw ?_; cbv)
| (refine QC.mk (fun hc => ?_) (fun hc => ?_) <;> (try dsimp only at hc) <;> cbv)
| (refine br_mk2 (fun hb => ?_) (fun hb => ?_) <;> (try subst hb) <;> cbv))))
      obtain ⟨e1, e2, e3⟩ := x5
      rw [← hz2, ← hz, ← hz1] at e1
      have gq := gq z1 z hn32
      clear gm g1
      refine rangeQ (misX ak 0 R) gq hxs (A := Option Nat) (fun p => match p with | none => True | some k => 1 ≤ k ∧ k ≤ W ∧ k ≤ 8) (fun p => match p with | none => 0 | some k => k) (fun p => [])
        (fun p => match p with | none => [(7, .chunk 36 .nil)] | some k => [(7, .chunk 36 (.row 66)), (66, .row (some 5) 51 (S k))]) none ⟨trivial, rfl⟩ ?_ ?_ ?_
      · cbv
        try trace_state
      · intro p x hp hx
        cases p with
        | none =>
          have hx1 := hS1 0 x hx
          have hxe := hx1.1
          subst hxe
          have hkW := hx1.2.1
          have hi := hx1.2.2.1
          have hbl := hx1.2.2.2.1
          have hSs := hx1.2.2.2.2
          clear hp hx hx1
          have g3 := cloned_c (bF 0) (BF 0) (hBF 0) hbl
          have hmz : True := trivial
          cbv
          (repeat' (first
| (refine q1w (fun z hz => ?_); (try simp only at hz); cbv)
| (refine rqw ?_; cbv)
| (refine QC.tw ?_; cbv)
| (refine QC.tt ?_ ?_; (focus (simp only [decide_true, Bool.and_true, Bool.and_self] <;> fail)); cbv)
| (refine QC.ff ?_ ?_; (focus (simp only [decide_true, Bool.and_true, Bool.and_self, decide_false, Bool.false_and, reduceCtorEq, not_false_eq_true] <;> fail)); cbv)
| (refine QC.fw ?_; cbv)
| (refine QC.mk (fun hc => ?_) (fun hc => ?_) <;> (try dsimp only at hc) <;> cbv)
| (refine br_mk2 (fun hb => ?_) (fun hb => ?_) <;> (try subst hb) <;> cbv)))
          (refine callq (g3) rfl rfl ?_; cbv; (repeat' (first
| (refine q1w (fun z hz => ?_); (try simp only at hz); cbv)
| (refine rqw ?_; cbv)
| (refine QC.tw ?_; cbv)
| (refine QC.tt ?_ ?_; (focus (simp only [decide_true, Bool.and_true, Bool.and_self] <;> fail)); cbv)
| (refine QC.ff ?_ ?_; (focus (simp only [decide_true, Bool.and_true, Bool.and_self, decide_false, Bool.false_and, reduceCtorEq, not_false_eq_true] <;> fail)); cbv)
| (refine QC.fw ?_; cbv)
| (refine QC.mk (fun hc => ?_) (fun hc => ?_) <;> (try dsimp only at hc) <;> cbv)
| (refine br_mk2 (fun hb => ?_) (fun hb => ?_) <;> (try subst hb) <;> cbv))))
          refine ⟨some 1, ⟨Nat.le_refl _, by show 1 ≤ W; omega, by show 1 ≤ 8; omega⟩, rfl, ?_⟩
          cbv
          refine ⟨?_, trivial⟩
          show Blk.row (some 5) 51 [.agg [.int .u8 tag, .int .i64 (iF 0 : Int), .int .i64 z, .bool false, .lst none (BF 0)]] = .row (some 5) 51 (S (0 + 1))
          rw [hSs, hS0, show z = (ps.length : Int) by (first | omega | (simp only [cst] at *; omega) | (simp only [sm] at *; omega))]
          rfl
        | some k =>
          have hk1 : 1 ≤ k := hp.1
          have hkW : k ≤ W := hp.2.1
          have hk8 : k ≤ 8 := hp.2.2
          have hx1 := hS1 k x hx
          have hxe := hx1.1
          subst hxe
          have hkW2 := hx1.2.1
          have hi := hx1.2.2.1
          have hbl := hx1.2.2.2.1
          have hSs := hx1.2.2.2.2
          have hSlk := hSl k hkW
          clear hp hx hx1
          have g3 := cloned_c (bF k) (BF k) (hBF k) hbl
          have hmz : True := trivial
          cbv
          (repeat' (first
| (refine q1w (fun z hz => ?_); (try simp only at hz); cbv)
| (refine rqw ?_; cbv)
| (refine QC.tw ?_; cbv)
| (refine QC.tt ?_ ?_; (focus (simp only [decide_true, Bool.and_true, Bool.and_self] <;> fail)); cbv)
| (refine QC.ff ?_ ?_; (focus (simp only [decide_true, Bool.and_true, Bool.and_self, decide_false, Bool.false_and, reduceCtorEq, not_false_eq_true] <;> fail)); cbv)
| (refine QC.fw ?_; cbv)
| (refine QC.mk (fun hc => ?_) (fun hc => ?_) <;> (try dsimp only at hc) <;> cbv)
| (refine br_mk2 (fun hb => ?_) (fun hb => ?_) <;> (try subst hb) <;> cbv)))
          · have hkk : k = 8 := by (first | omega | (simp only [cst] at *; omega) | (simp only [sm] at *; omega))
            have hWk : min W 8 = k := by omega
            have hm1 := (hSm k hk1 hkW).1
            have hm2 := (hSm k hk1 hkW).2
            skip
            refine qv (k - 1) ⟨by (first | omega | (simp only [cst] at *; omega) | (simp only [sm] at *; omega)), by rw [oln]; omega⟩ ?_
            cbv
            (repeat' (first
| (refine q1w (fun z hz => ?_); (try simp only at hz); cbv)
| (refine rqw ?_; cbv)
| (refine QC.tw ?_; cbv)
| (refine QC.tt ?_ ?_; (focus (simp only [decide_true, Bool.and_true, Bool.and_self] <;> fail)); cbv)
| (refine QC.ff ?_ ?_; (focus (simp only [decide_true, Bool.and_true, Bool.and_self, decide_false, Bool.false_and, reduceCtorEq, not_false_eq_true] <;> fail)); cbv)
| (refine QC.fw ?_; cbv)
| (refine QC.mk (fun hc => ?_) (fun hc => ?_) <;> (try dsimp only at hc) <;> cbv)
| (refine br_mk2 (fun hb => ?_) (fun hb => ?_) <;> (try subst hb) <;> cbv)))
            refine qv _ ⟨hm1, by simp⟩ ?_
            cbv
            (repeat' (first
| (refine q1w (fun z hz => ?_); (try simp only at hz); cbv)
| (refine rqw ?_; cbv)
| (refine QC.tw ?_; cbv)
| (refine QC.tt ?_ ?_; (focus (simp only [decide_true, Bool.and_true, Bool.and_self] <;> fail)); cbv)
| (refine QC.ff ?_ ?_; (focus (simp only [decide_true, Bool.and_true, Bool.and_self, decide_false, Bool.false_and, reduceCtorEq, not_false_eq_true] <;> fail)); cbv)
| (refine QC.fw ?_; cbv)
| (refine QC.mk (fun hc => ?_) (fun hc => ?_) <;> (try dsimp only at hc) <;> cbv)
| (refine br_mk2 (fun hb => ?_) (fun hb => ?_) <;> (try subst hb) <;> cbv)))
            refine Fin.mk ?_ rfl rfl
            rw [e1, e2, e3, hWk, ← hm2]
            show SV.tup [_, .lst (some 5) (O.st (S k) (k - 1) _), _] = _
            rw [ost]
            rfl
          · (refine callq (g3) rfl rfl ?_; cbv; (repeat' (first
| (refine q1w (fun z hz => ?_); (try simp only at hz); cbv)
| (refine rqw ?_; cbv)
| (refine QC.tw ?_; cbv)
| (refine QC.tt ?_ ?_; (focus (simp only [decide_true, Bool.and_true, Bool.and_self] <;> fail)); cbv)
| (refine QC.ff ?_ ?_; (focus (simp only [decide_true, Bool.and_true, Bool.and_self, decide_false, Bool.false_and, reduceCtorEq, not_false_eq_true] <;> fail)); cbv)
| (refine QC.fw ?_; cbv)
| (refine QC.mk (fun hc => ?_) (fun hc => ?_) <;> (try dsimp only at hc) <;> cbv)
| (refine br_mk2 (fun hb => ?_) (fun hb => ?_) <;> (try subst hb) <;> cbv))))
            have hkk : k ≠ 8 := by (first | omega | (simp only [cst] at *; omega) | (simp only [sm] at *; omega))
            refine ⟨some (k + 1), ⟨by show 1 ≤ k + 1; omega, by show k + 1 ≤ W; omega, by show k + 1 ≤ 8; omega⟩, rfl, ?_⟩
            cbv
            refine ⟨?_, trivial⟩
            show Blk.row (some 5) 51 (apL (S k) [.agg [.int .u8 tag, .int .i64 (iF k : Int), .int .i64 z, .bool false, .lst none (BF k)]]) = .row (some 5) 51 (S (k + 1))
            rw [apL_eq, hSs, show z = (ps.length : Int) by (first | omega | (simp only [cst] at *; omega) | (simp only [sm] at *; omega))]
      · intro p hp hps
        cases p with
        | none =>
          have hps' : 0 = (misX ak 0 R).length := hps
          have hWk : 0 = W := by rw [← hxl]; exact hps'
          clear hp hps hps'
          cbv
          exfalso
          (first | omega | (simp only [cst] at *; omega) | (simp only [sm] at *; omega))
        | some k =>
          have hk1 : 1 ≤ k := hp.1
          have hkW : k ≤ W := hp.2.1
          have hk8 : k ≤ 8 := hp.2.2
          have hps' : k = (misX ak 0 R).length := hps
          have hSlk := hSl k hkW
          have hWk : min W 8 = k := by omega
          have hm1 := (hSm k hk1 hkW).1
          have hm2 := (hSm k hk1 hkW).2
          clear hp hps
          have hmz : True := trivial
          cbv
          (repeat' (first
| (refine q1w (fun z hz => ?_); (try simp only at hz); cbv)
| (refine rqw ?_; cbv)
| (refine QC.tw ?_; cbv)
| (refine QC.tt ?_ ?_; (focus (simp only [decide_true, Bool.and_true, Bool.and_self] <;> fail)); cbv)
| (refine QC.ff ?_ ?_; (focus (simp only [decide_true, Bool.and_true, Bool.and_self, decide_false, Bool.false_and, reduceCtorEq, not_false_eq_true] <;> fail)); cbv)
| (refine QC.fw ?_; cbv)
| (refine QC.mk (fun hc => ?_) (fun hc => ?_) <;> (try dsimp only at hc) <;> cbv)
| (refine br_mk2 (fun hb => ?_) (fun hb => ?_) <;> (try subst hb) <;> cbv)))
          refine qv (k - 1) ⟨by (first | omega | (simp only [cst] at *; omega) | (simp only [sm] at *; omega)), by rw [oln]; omega⟩ ?_
          cbv
          (repeat' (first
| (refine q1w (fun z hz => ?_); (try simp only at hz); cbv)
| (refine rqw ?_; cbv)
| (refine QC.tw ?_; cbv)
| (refine QC.tt ?_ ?_; (focus (simp only [decide_true, Bool.and_true, Bool.and_self] <;> fail)); cbv)
| (refine QC.ff ?_ ?_; (focus (simp only [decide_true, Bool.and_true, Bool.and_self, decide_false, Bool.false_and, reduceCtorEq, not_false_eq_true] <;> fail)); cbv)
| (refine QC.fw ?_; cbv)
| (refine QC.mk (fun hc => ?_) (fun hc => ?_) <;> (try dsimp only at hc) <;> cbv)
| (refine br_mk2 (fun hb => ?_) (fun hb => ?_) <;> (try subst hb) <;> cbv)))
          refine qv _ ⟨hm1, by simp⟩ ?_
          cbv
          (repeat' (first
| (refine q1w (fun z hz => ?_); (try simp only at hz); cbv)
| (refine rqw ?_; cbv)
| (refine QC.tw ?_; cbv)
| (refine QC.tt ?_ ?_; (focus (simp only [decide_true, Bool.and_true, Bool.and_self] <;> fail)); cbv)
| (refine QC.ff ?_ ?_; (focus (simp only [decide_true, Bool.and_true, Bool.and_self, decide_false, Bool.false_and, reduceCtorEq, not_false_eq_true] <;> fail)); cbv)
| (refine QC.fw ?_; cbv)
| (refine QC.mk (fun hc => ?_) (fun hc => ?_) <;> (try dsimp only at hc) <;> cbv)
| (refine br_mk2 (fun hb => ?_) (fun hb => ?_) <;> (try subst hb) <;> cbv)))
          refine Fin.mk ?_ rfl rfl
          rw [e1, e2, e3, hWk, ← hm2]
          show SV.tup [_, .lst (some 5) (O.st (S k) (k - 1) _), _] = _
          rw [ost]
          rfl
  · obtain ⟨e1, e2, e3⟩ := x1 rfl
    refine Fin.mk ?_ rfl rfl
    rw [e1, e2, e3]
end Go.Proofs.Ytjhicdoigllblaa
namespace Go.Proofs.Ytjhicdoigllblaa
set_option linter.unusedVariables false
set_option linter.unusedSimpArgs false
open Go.RowKit
set_option maxHeartbeats 16000000
theorem opn_at {ak : Int} {n i : Nat} (hi : i < n) (h : ak / 2 ^ i % 2 = 0) : (opn ak n)[cntF ak 0 i]? = some i := by
  have h1 := misX_at ak (List.replicate n .any) 0 i .any (by simp [hi]) (by rw [Nat.zero_add]; exact h)
  rw [misX_eq, List.length_replicate, List.getElem?_map] at h1
  have e : ((List.range n).filter fun i => decide (ak / 2 ^ (0 + i) % 2 = 0)) = opn ak n := by rw [opn]; simp
  rw [e] at h1
  cases h2 : (opn ak n)[cntF ak 0 i]? with
  | none => rw [h2] at h1; cases h1
  | some q =>
    rw [h2] at h1
    simp at h1
    rw [show q = i by omega]
theorem opn_cnt (ak : Int) (n : Nat) : cntF ak 0 n = (opn ak n).length := by
  have h1 := misX_len ak (List.replicate n .any) 0
  rw [misX_eq, List.length_map, List.length_replicate] at h1
  rw [← h1, opn]
  simp
theorem and1n (m : Int) (h : 0 ≤ m) (i : Nat) : (((m / 2 ^ i).toNat &&& 1 : Nat) : Int) = m / 2 ^ i % 2 := by
  have h0 : 0 ≤ m / 2 ^ i := Int.ediv_nonneg h (Int.pow_nonneg (by omega))
  obtain ⟨k, hk⟩ := Int.eq_ofNat_of_zero_le h0
  rw [hk, Int.toNat_natCast, Nat.and_one_is_mod]
  omega
set_option maxRecDepth 4000 in
theorem rnx_c (st tag ak rd un : Int) (ps : List (List UInt8)) (R : List SV) (hR : R = rowsB ps) (hf : Snd.fits ⟨st, tag, ps, ak, rd, un⟩) (b : Bool) (hb : b = true ↔ VS ⟨st, tag, ps, ak, rd, un⟩) (now : Int) (hnow : -9223372036854775808 ≤ now ∧ now ≤ 9223372036854775807)
    (X : SV) (l : List Pce) (L : List SV) (hL : L = pcL l) (e : Int) (hX : nextX ⟨st, tag, ps, ak, rd, un⟩ b now = (X, l, e)) :
    Good 16 (pu [.agg [.int .i64 st, .int .u8 tag, .lst none R, .int .u32 ak, .int .i64 rd, .int .i64 un], .int .i64 now] (.tup [X, .lst (some 5) L, .int .i64 e])) := by
  have hRl : R.length = ps.length := by rw [hR, rowsB_len]
  have hfb := hf.b
  have hfn := hf.n
  have hak := hf.ak
  have g1 := rvsender_c st tag ak rd un ps R hR hf b hb
  have g2 := copied_c ps R hR hf.n hf.b
  have g3 := rtime_c now _ rfl
  obtain ⟨lt, hlt⟩ : ∃ lt : Int, lt = min (now + 8) 1099511627776 := ⟨_, rfl⟩
  have g4 := fun h => rlater_c now lt h hlt
  obtain ⟨tb, htb⟩ : ∃ tb, tb = timeT now := ⟨_, rfl⟩
  have htb1 : tb = true → ¬ (now < 0 ∨ 1099511627776 < now) := fun h => by rw [htb, timeT] at h; simp at h; omega
  have htb0 : tb = false → now < 0 ∨ 1099511627776 < now := fun h => by rw [htb, timeT] at h; simp at h; omega
  rw [← htb] at g3
  clear htb
  have hv := fun h : b = true => hb.1 h
  obtain ⟨W, hW⟩ : ∃ W, W = (opn ak ps.length).length := ⟨_, rfl⟩
  have hpos : b = true → st = 1 → 1 ≤ W := fun h hst => by
    have v := hv h
    rw [hW]
    refine opn_pos hak.1 v.ak fun he => ?_
    have := v.d he
    dsimp only at this
    omega
  have hn32 : b = true → ps.length ≤ 32 := fun h => (hv h).n2
  have hrd : b = true → 0 ≤ rd ∧ rd ≤ 8 := fun h => ⟨(hv h).r1, (hv h).r2⟩
  obtain ⟨S, hS⟩ : ∃ S : Nat → List SV, ∀ k, S k = pcL (pre tag ps ak k) := ⟨_, fun _ => rfl⟩
  obtain ⟨N, hN⟩ : ∃ N : Int, N = ps.length := ⟨_, rfl⟩
  have hE := fun i hi => rowsB_at hR i hi
  obtain ⟨cn, hcn⟩ : ∃ cn : Nat → Nat, ∀ i, cn i = cntF ak 0 i := ⟨_, fun _ => rfl⟩
  have hcn0 : cn 0 = 0 := by rw [hcn]; rfl
  have hcnn : cn ps.length = W := by rw [hcn, hW, opn_cnt]
  have hcnW : ∀ i, i ≤ ps.length → cn i ≤ W := fun i hi => by
    rw [← hcnn]
    have : ∀ d, cn i ≤ cn (i + d) := fun d => by
      induction d with
      | zero => exact Nat.le_refl _
      | succ d ih =>
        have e : cn (i + (d + 1)) = cn (i + d) + (if ak / 2 ^ (0 + (i + d)) % 2 = 0 then 1 else 0) := by rw [hcn, hcn, ← cntF_succ]; rfl
        omega
    have := this (ps.length - i)
    rw [show i + (ps.length - i) = ps.length by omega] at this
    exact this
  obtain ⟨bt, hbt⟩ : ∃ bt : Nat → Int, ∀ i, bt i = ((ak / 2 ^ i).toNat &&& 1 : Nat) := ⟨_, fun _ => rfl⟩
  have hS1 : ∀ (i : Nat) (B : List SV), i < ps.length → R[i]? = some (.lst none B) → (bt i = 0 → cn (i + 1) = cn i + 1 ∧ S (cn i + 1) = S (cn i) ++ [.agg [.int .u8 tag, .int .i64 (i : Int), .int .i64 N, .bool false, .lst none B]]) ∧ (¬ bt i = 0 → cn (i + 1) = cn i) := fun i B hi hRi => by
    rw [hbt, and1n ak hak.1]
    have e : cn (i + 1) = cn i + (if ak / 2 ^ i % 2 = 0 then 1 else 0) := by rw [hcn, hcn, cntF_succ, Nat.zero_add]
    refine ⟨fun h => ?_, fun h => ?_⟩
    · rw [if_pos h] at e
      refine ⟨e, ?_⟩
      obtain ⟨b, B', h1, h2, h3, h4, h5⟩ := pce_at (tag := tag) hR (opn_at hi h)
      rw [hRi] at h3
      injection h3 with h3
      injection h3 with _ h3
      rw [hS, hS, hcn, h3, hN]
      exact h5
    · rw [if_neg h] at e
      exact e
  clear hcn
  have hS0 : S 0 = [] := by rw [hS]; rfl
  have hSl : ∀ k, k ≤ W → (S k).length = k := fun k hk => by rw [hS, pcL_len, pre_len _ _ _ _ (by omega)]
  obtain ⟨F, hF⟩ : ∃ F : Nat → List SV, ∀ k, F k = pcL (mark (pre tag ps ak k)) := ⟨_, fun _ => rfl⟩
  have hSm0 : ∀ k, k + 1 ≤ W → ∃ (i : Nat) (B : List SV), (S (k + 1))[k]? = some (.agg [.int .u8 tag, .int .i64 (i : Int), .int .i64 (ps.length : Int), .bool false, .lst none B]) ∧ (S (k + 1)).set k (.agg [.int .u8 tag, .int .i64 (i : Int), .int .i64 (ps.length : Int), .bool true, .lst none B]) = F (k + 1) := fun k hk => by
    rw [hS, hF]; exact pre_mark hR (by omega)
  rw [← hN] at hSm0
  obtain ⟨iM, BM, hSm⟩ : ∃ (iM : Nat → Nat) (BM : Nat → List SV), ∀ k, 1 ≤ k → k ≤ W → (S k)[k - 1]? = some (.agg [.int .u8 tag, .int .i64 (iM k : Int), .int .i64 N, .bool false, .lst none (BM k)]) ∧ (S k).set (k - 1) (.agg [.int .u8 tag, .int .i64 (iM k : Int), .int .i64 N, .bool true, .lst none (BM k)]) = F k := by
    have : ∀ k, ∃ (i : Nat) (B : List SV), 1 ≤ k → k ≤ W → (S k)[k - 1]? = some (.agg [.int .u8 tag, .int .i64 (i : Int), .int .i64 N, .bool false, .lst none B]) ∧ (S k).set (k - 1) (.agg [.int .u8 tag, .int .i64 (i : Int), .int .i64 N, .bool true, .lst none B]) = F k := fun k => by
      by_cases h : 1 ≤ k ∧ k ≤ W
      · obtain ⟨i, B, h1, h2⟩ := hSm0 (k - 1) (by omega)
        rw [show k - 1 + 1 = k by omega] at h1 h2
        exact ⟨i, B, fun _ _ => ⟨h1, h2⟩⟩
      · exact ⟨0, [], fun a b => absurd ⟨a, b⟩ h⟩
    exact ⟨fun k => Classical.choose (this k), fun k => Classical.choose (Classical.choose_spec (this k)), fun k => Classical.choose_spec (Classical.choose_spec (this k))⟩
  clear hSm0
  have x1 : b = false → X = .agg [.int .i64 0, .int .u8 0, .nil, .int .u32 0, .int .i64 0, .int .i64 0] ∧ L = [] ∧ e = 1 := fun h => by
    unfold nextX at hX; rw [if_pos h] at hX; obtain ⟨a1, a2⟩ := Prod.mk.inj hX; obtain ⟨a2, a3⟩ := Prod.mk.inj a2; exact ⟨a1.symm, by rw [hL, ← a2]; rfl, a3.symm⟩
  have x2 : b = true → now < 0 ∨ 1099511627776 < now → X = .agg [.int .i64 0, .int .u8 0, .nil, .int .u32 0, .int .i64 0, .int .i64 0] ∧ L = [] ∧ e = 2 := fun h h2 => by
    unfold nextX at hX; rw [if_neg (by rw [h]; simp), if_pos h2] at hX; obtain ⟨a1, a2⟩ := Prod.mk.inj hX; obtain ⟨a2, a3⟩ := Prod.mk.inj a2; exact ⟨a1.symm, by rw [hL, ← a2]; rfl, a3.symm⟩
  have x3 : b = true → ¬ (now < 0 ∨ 1099511627776 < now) → st ≠ 1 ∨ now < un → X = .agg [.int .i64 st, .int .u8 tag, .lst none R, .int .u32 ak, .int .i64 rd, .int .i64 un] ∧ L = [] ∧ e = 0 := fun h h2 h3 => by
    unfold nextX at hX; rw [if_neg (by rw [h]; simp), if_neg h2, if_pos h3] at hX; obtain ⟨a1, a2⟩ := Prod.mk.inj hX; obtain ⟨a2, a3⟩ := Prod.mk.inj a2; exact ⟨by rw [← a1, hR]; rfl, by rw [hL, ← a2]; rfl, a3.symm⟩
  have x4 : b = true → ¬ (now < 0 ∨ 1099511627776 < now) → ¬ (st ≠ 1 ∨ now < un) → rd = 8 → X = .agg [.int .i64 3, .int .u8 tag, .lst none R, .int .u32 ak, .int .i64 rd, .int .i64 un] ∧ L = [] ∧ e = 0 := fun h h2 h3 h4 => by
    unfold nextX at hX; rw [if_neg (by rw [h]; simp), if_neg h2, if_neg h3, if_pos h4] at hX; obtain ⟨a1, a2⟩ := Prod.mk.inj hX; obtain ⟨a2, a3⟩ := Prod.mk.inj a2; exact ⟨by rw [← a1, hR]; rfl, by rw [hL, ← a2]; rfl, a3.symm⟩
  have x5 : b = true → ¬ (now < 0 ∨ 1099511627776 < now) → ¬ (st ≠ 1 ∨ now < un) → ¬ rd = 8 → X = .agg [.int .i64 st, .int .u8 tag, .lst none R, .int .u32 ak, .int .i64 (rd + 1), .int .i64 (min (now + 8) 1099511627776)] ∧ L = F (min W 8) ∧ e = 0 := fun h h2 h3 h4 => by
    unfold nextX at hX; rw [if_neg (by rw [h]; simp), if_neg h2, if_neg h3, if_neg h4] at hX; obtain ⟨a1, a2⟩ := Prod.mk.inj hX; obtain ⟨a2, a3⟩ := Prod.mk.inj a2; exact ⟨by rw [← a1, hR]; rfl, by rw [hF, hW, hL, ← a2], a3.symm⟩
  rw [← hlt] at x5
  clear hX hb hv hS hF hW hlt
  refine Good.of Try.func16 rfl (by rfl) (by kernel_rfl) ?_
  cbv
  have hmz : True := trivial
  (repeat' (first
| (refine q1w (fun z hz => ?_); (try simp only at hz); cbv)
| (refine rqw ?_; cbv)
| (refine QC.tw ?_; cbv)
| (refine QC.tt ?_ ?_; (focus (simp only [decide_true, Bool.and_true, Bool.and_self] <;> fail)); cbv)
| (refine QC.ff ?_ ?_; (focus (simp only [decide_true, Bool.and_true, Bool.and_self, decide_false, Bool.false_and, reduceCtorEq, not_false_eq_true] <;> fail)); cbv)
| (refine QC.fw ?_; cbv)
| (refine QC.mk (fun hc => ?_) (fun hc => ?_) <;> (try dsimp only at hc) <;> cbv)
| (refine br_mk2 (fun hb => ?_) (fun hb => ?_) <;> (try subst hb) <;> cbv)))
  (refine callq (g1) rfl rfl ?_; cbv; (repeat' (first
| (refine q1w (fun z hz => ?_); (try simp only at hz); cbv)
| (refine rqw ?_; cbv)
| (refine QC.tw ?_; cbv)
| (refine QC.tt ?_ ?_; (focus (simp only [decide_true, Bool.and_true, Bool.and_self] <;> fail)); cbv)
| (refine QC.ff ?_ ?_; (focus (simp only [decide_true, Bool.and_true, Bool.and_self, decide_false, Bool.false_and, reduceCtorEq, not_false_eq_true] <;> fail)); cbv)
| (refine QC.fw ?_; cbv)
| (refine QC.mk (fun hc => ?_) (fun hc => ?_) <;> (try dsimp only at hc) <;> cbv)
| (refine br_mk2 (fun hb => ?_) (fun hb => ?_) <;> (try subst hb) <;> cbv))))
  · (refine callq (g3) rfl rfl ?_; cbv; (repeat' (first
| (refine q1w (fun z hz => ?_); (try simp only at hz); cbv)
| (refine rqw ?_; cbv)
| (refine QC.tw ?_; cbv)
| (refine QC.tt ?_ ?_; (focus (simp only [decide_true, Bool.and_true, Bool.and_self] <;> fail)); cbv)
| (refine QC.ff ?_ ?_; (focus (simp only [decide_true, Bool.and_true, Bool.and_self, decide_false, Bool.false_and, reduceCtorEq, not_false_eq_true] <;> fail)); cbv)
| (refine QC.fw ?_; cbv)
| (refine QC.mk (fun hc => ?_) (fun hc => ?_) <;> (try dsimp only at hc) <;> cbv)
| (refine br_mk2 (fun hb => ?_) (fun hb => ?_) <;> (try subst hb) <;> cbv))))
    · have ht := htb1 rfl
      have x3 := x3 rfl ht
      have x4 := x4 rfl ht
      have x5 := x5 rfl ht
      have hpos := hpos rfl
      have hn32 := hn32 rfl
      have hrd := hrd rfl
      clear x1 x2 htb0 htb1
      (refine callq (g2) rfl rfl ?_; cbv; (repeat' (first
| (refine q1w (fun z hz => ?_); (try simp only at hz); cbv)
| (refine rqw ?_; cbv)
| (refine QC.tw ?_; cbv)
| (refine QC.tt ?_ ?_; (focus (simp only [decide_true, Bool.and_true, Bool.and_self] <;> fail)); cbv)
| (refine QC.ff ?_ ?_; (focus (simp only [decide_true, Bool.and_true, Bool.and_self, decide_false, Bool.false_and, reduceCtorEq, not_false_eq_true] <;> fail)); cbv)
| (refine QC.fw ?_; cbv)
| (refine QC.mk (fun hc => ?_) (fun hc => ?_) <;> (try dsimp only at hc) <;> cbv)
| (refine br_mk2 (fun hb => ?_) (fun hb => ?_) <;> (try subst hb) <;> cbv))))
      · obtain ⟨e1, e2, e3⟩ := x3 (.inl hc)
        refine Fin.mk ?_ rfl rfl
        rw [e1, e2, e3]
      · obtain ⟨e1, e2, e3⟩ := x3 (.inr hc)
        refine Fin.mk ?_ rfl rfl
        rw [e1, e2, e3]
      · rename_i h2 h3
        obtain ⟨e1, e2, e3⟩ := x4 (fun h => h.elim h2 h3) hc
        refine Fin.mk ?_ rfl rfl
        rw [e1, e2, e3]
      · rename_i h2 h3
        have x5 := x5 (fun h => h.elim h2 h3) hc
        have hpos1 := hpos (Classical.not_not.1 h2)
        have g4 := g4 ⟨Int.not_lt.1 (fun h => ht (.inl h)), Int.not_lt.1 (fun h => ht (.inr h))⟩
        clear x3 x4
        (refine callq (g4) rfl rfl ?_; cbv; (repeat' (first
| (refine q1w (fun z hz => ?_); (try simp only at hz); cbv)
| (refine rqw ?_; cbv)
| (refine QC.tw ?_; cbv)
| (refine QC.tt ?_ ?_; (focus (simp only [decide_true, Bool.and_true, Bool.and_self] <;> fail)); cbv)
| (refine QC.ff ?_ ?_; (focus (simp only [decide_true, Bool.and_true, Bool.and_self, decide_false, Bool.false_and, reduceCtorEq, not_false_eq_true] <;> fail)); cbv)
| (refine QC.fw ?_; cbv)
| (refine QC.mk (fun hc => ?_) (fun hc => ?_) <;> (try dsimp only at hc) <;> cbv)
| (refine br_mk2 (fun hb => ?_) (fun hb => ?_) <;> (try subst hb) <;> cbv))))
        obtain ⟨e1, e2, e3⟩ := x5
        rw [← hz] at e1
        clear g1 g2 g3 g4 ht hpos
        refine loopQ (A := Nat × Int) (fun p => p.2 = p.1 ∧ p.1 ≤ ps.length ∧ cn p.1 ≤ 8) (fun p => ps.length - p.1) (fun p => [(8, .int .i64 p.2), (7, .row 7)]) (fun p => [(7, .row (some 5) 51 (S (cn p.1)))]) (0, 0) ⟨rfl, Nat.zero_le _, by rw [hcn0]; exact Nat.zero_le _⟩ ?_ ?_
        · cbv
          refine ⟨?_, trivial⟩
          show Blk.row (some 5) 51 [] = .row (some 5) 51 (S (cn 0))
          rw [hcn0, hS0]
        · intro ⟨i, j⟩ hh
          have hj : j = (i : Int) := hh.1
          have hi : i ≤ ps.length := hh.2.1
          have hc8 : cn i ≤ 8 := hh.2.2
          clear hh
          have hcw := hcnW i hi
          have hSlk := hSl (cn i) hcw
          have hmy : True := trivial
          cbv
          (repeat' (first
| (refine q1w (fun z hz => ?_); (try simp only at hz); cbv)
| (refine rqw ?_; cbv)
| (refine QC.tw ?_; cbv)
| (refine QC.tt ?_ ?_; (focus (simp only [decide_true, Bool.and_true, Bool.and_self] <;> fail)); cbv)
| (refine QC.ff ?_ ?_; (focus (simp only [decide_true, Bool.and_true, Bool.and_self, decide_false, Bool.false_and, reduceCtorEq, not_false_eq_true] <;> fail)); cbv)
| (refine QC.fw ?_; cbv)
| (refine QC.mk (fun hc => ?_) (fun hc => ?_) <;> (try dsimp only at hc) <;> cbv)
| (refine br_mk2 (fun hb => ?_) (fun hb => ?_) <;> (try subst hb) <;> cbv)))
          · rename_i zr hzr hcr zs hzs zj hzj
            have hiL : i < ps.length := by (first | omega | (simp only [cst] at *; omega) | (simp only [sm] at *; omega))
            have hji : zj.toNat = i := by (first | omega | (simp only [cst] at *; omega) | (simp only [sm] at *; omega))
            have hz0 : 0 ≤ z := by rw [hz]; exact Int.ediv_nonneg hak.1 (Int.pow_nonneg (by omega))
            have hz4 : z ≤ ak := by rw [hz]; exact Int.ediv_le_self _ hak.1
            have hak2 : ak ≤ 4294967295 := by have := hak.2; dsimp only at this; omega
            have hzz : ((z.toNat &&& Int.toNat 1 : Nat) : Int) = bt i := by rw [hbt, hz, hji]; rfl
            obtain ⟨b, B, hbi, hB, hEi⟩ := hE i hiL
            have hs := hS1 i B hiL hEi
            have hbl := hfb b (List.mem_of_getElem? hbi)
            have hBl : B.length = b.length := by rw [hB, u8l_len]
            have hcw2 := hcnW (i + 1) hiL
            clear hz
            refine q1 ⟨hz0, by omega, by omega, by omega⟩ ?_
            intro za hza
            have hza := hza.trans hzz
            clear hzz
            cbv
            (repeat' (first
| (refine q1w (fun z hz => ?_); (try simp only at hz); cbv)
| (refine rqw ?_; cbv)
| (refine QC.tw ?_; cbv)
| (refine QC.tt ?_ ?_; (focus (simp only [decide_true, Bool.and_true, Bool.and_self] <;> fail)); cbv)
| (refine QC.ff ?_ ?_; (focus (simp only [decide_true, Bool.and_true, Bool.and_self, decide_false, Bool.false_and, reduceCtorEq, not_false_eq_true] <;> fail)); cbv)
| (refine QC.fw ?_; cbv)
| (refine QC.mk (fun hc => ?_) (fun hc => ?_) <;> (try dsimp only at hc) <;> cbv)
| (refine br_mk2 (fun hb => ?_) (fun hb => ?_) <;> (try subst hb) <;> cbv)))
            · have hs := hs.1 (hza.symm.trans hc)
              have hs1 := hs.1
              have hs2 := hs.2
              clear hs
              rename_i zn hzn
              skip
              (refine qv (i, _) ⟨hj, hEi⟩ ?_; cbv; (repeat' (first
| (refine q1w (fun z hz => ?_); (try simp only at hz); cbv)
| (refine rqw ?_; cbv)
| (refine QC.tw ?_; cbv)
| (refine QC.tt ?_ ?_; (focus (simp only [decide_true, Bool.and_true, Bool.and_self] <;> fail)); cbv)
| (refine QC.ff ?_ ?_; (focus (simp only [decide_true, Bool.and_true, Bool.and_self, decide_false, Bool.false_and, reduceCtorEq, not_false_eq_true] <;> fail)); cbv)
| (refine QC.fw ?_; cbv)
| (refine QC.mk (fun hc => ?_) (fun hc => ?_) <;> (try dsimp only at hc) <;> cbv)
| (refine br_mk2 (fun hb => ?_) (fun hb => ?_) <;> (try subst hb) <;> cbv))))
              refine ⟨(i + 1, z), ⟨by show z = ((i + 1 : Nat) : Int); (first | omega | (simp only [cst] at *; omega) | (simp only [sm] at *; omega)), by show i + 1 ≤ ps.length; omega, by show cn (i + 1) ≤ 8; rw [hs1]; (first | omega | (simp only [cst] at *; omega) | (simp only [sm] at *; omega))⟩, by show ps.length - (i + 1) < ps.length - i; omega, ?_⟩
              cbv
              rename_i zN hzN
              refine ⟨?_, trivial⟩
              show Blk.row (some 5) 51 (apL (S (cn i)) [.agg [.int .u8 tag, .int .i64 j, .int .i64 zN, .bool false, .lst none B]]) = .row (some 5) 51 (S (cn (i + 1)))
              rw [apL_eq, hs1, hs2, show zN = N by (first | omega | (simp only [cst] at *; omega) | (simp only [sm] at *; omega)), hj]
            · have hs := hs.2 (fun h => hc (hza.trans h))
              refine ⟨(i + 1, z), ⟨by show z = ((i + 1 : Nat) : Int); (first | omega | (simp only [cst] at *; omega) | (simp only [sm] at *; omega)), by show i + 1 ≤ ps.length; omega, by show cn (i + 1) ≤ 8; omega⟩, by show ps.length - (i + 1) < ps.length - i; omega, ?_⟩
              cbv
              refine ⟨?_, trivial⟩
              show Blk.row (some 5) 51 (S (cn i)) = .row (some 5) 51 (S (cn (i + 1)))
              rw [hs]
          · have hWk : min W 8 = cn i := by (first | omega | (simp only [cst] at *; omega) | (simp only [sm] at *; omega))
            have hm1 := (hSm (cn i) (by (first | omega | (simp only [cst] at *; omega) | (simp only [sm] at *; omega))) hcw).1
            have hm2 := (hSm (cn i) (by (first | omega | (simp only [cst] at *; omega) | (simp only [sm] at *; omega))) hcw).2
            skip
            refine qv (cn i - 1) ⟨by (first | omega | (simp only [cst] at *; omega) | (simp only [sm] at *; omega)), by show cn i - 1 < O.ln (S (cn i)); rw [oln]; omega⟩ ?_
            cbv
            (repeat' (first
| (refine q1w (fun z hz => ?_); (try simp only at hz); cbv)
| (refine rqw ?_; cbv)
| (refine QC.tw ?_; cbv)
| (refine QC.tt ?_ ?_; (focus (simp only [decide_true, Bool.and_true, Bool.and_self] <;> fail)); cbv)
| (refine QC.ff ?_ ?_; (focus (simp only [decide_true, Bool.and_true, Bool.and_self, decide_false, Bool.false_and, reduceCtorEq, not_false_eq_true] <;> fail)); cbv)
| (refine QC.fw ?_; cbv)
| (refine QC.mk (fun hc => ?_) (fun hc => ?_) <;> (try dsimp only at hc) <;> cbv)
| (refine br_mk2 (fun hb => ?_) (fun hb => ?_) <;> (try subst hb) <;> cbv)))
            refine qv _ ⟨hm1, by simp⟩ ?_
            cbv
            (repeat' (first
| (refine q1w (fun z hz => ?_); (try simp only at hz); cbv)
| (refine rqw ?_; cbv)
| (refine QC.tw ?_; cbv)
| (refine QC.tt ?_ ?_; (focus (simp only [decide_true, Bool.and_true, Bool.and_self] <;> fail)); cbv)
| (refine QC.ff ?_ ?_; (focus (simp only [decide_true, Bool.and_true, Bool.and_self, decide_false, Bool.false_and, reduceCtorEq, not_false_eq_true] <;> fail)); cbv)
| (refine QC.fw ?_; cbv)
| (refine QC.mk (fun hc => ?_) (fun hc => ?_) <;> (try dsimp only at hc) <;> cbv)
| (refine br_mk2 (fun hb => ?_) (fun hb => ?_) <;> (try subst hb) <;> cbv)))
            refine Fin.mk ?_ rfl rfl
            rw [e1, e2, e3, hWk, ← hm2]
            show SV.tup [_, .lst (some 5) (O.st (S (cn i)) (cn i - 1) _), _] = _
            rw [ost]
            rfl
          · have hii : i = ps.length := by (first | omega | (simp only [cst] at *; omega) | (simp only [sm] at *; omega))
            have hcc : cn i = W := by rw [hii, hcnn]
            have hWk : min W 8 = cn i := by omega
            have hm1 := (hSm (cn i) (by omega) hcw).1
            have hm2 := (hSm (cn i) (by omega) hcw).2
            skip
            refine qv (cn i - 1) ⟨by (first | omega | (simp only [cst] at *; omega) | (simp only [sm] at *; omega)), by show cn i - 1 < O.ln (S (cn i)); rw [oln]; omega⟩ ?_
            cbv
            (repeat' (first
| (refine q1w (fun z hz => ?_); (try simp only at hz); cbv)
| (refine rqw ?_; cbv)
| (refine QC.tw ?_; cbv)
| (refine QC.tt ?_ ?_; (focus (simp only [decide_true, Bool.and_true, Bool.and_self] <;> fail)); cbv)
| (refine QC.ff ?_ ?_; (focus (simp only [decide_true, Bool.and_true, Bool.and_self, decide_false, Bool.false_and, reduceCtorEq, not_false_eq_true] <;> fail)); cbv)
| (refine QC.fw ?_; cbv)
| (refine QC.mk (fun hc => ?_) (fun hc => ?_) <;> (try dsimp only at hc) <;> cbv)
| (refine br_mk2 (fun hb => ?_) (fun hb => ?_) <;> (try subst hb) <;> cbv)))
            refine qv _ ⟨hm1, by simp⟩ ?_
            cbv
            (repeat' (first
| (refine q1w (fun z hz => ?_); (try simp only at hz); cbv)
| (refine rqw ?_; cbv)
| (refine QC.tw ?_; cbv)
| (refine QC.tt ?_ ?_; (focus (simp only [decide_true, Bool.and_true, Bool.and_self] <;> fail)); cbv)
| (refine QC.ff ?_ ?_; (focus (simp only [decide_true, Bool.and_true, Bool.and_self, decide_false, Bool.false_and, reduceCtorEq, not_false_eq_true] <;> fail)); cbv)
| (refine QC.fw ?_; cbv)
| (refine QC.mk (fun hc => ?_) (fun hc => ?_) <;> (try dsimp only at hc) <;> cbv)
| (refine br_mk2 (fun hb => ?_) (fun hb => ?_) <;> (try subst hb) <;> cbv)))
            refine Fin.mk ?_ rfl rfl
            rw [e1, e2, e3, hWk, ← hm2]
            show SV.tup [_, .lst (some 5) (O.st (S (cn i)) (cn i - 1) _), _] = _
            rw [ost]
            rfl
    · obtain ⟨e1, e2, e3⟩ := x2 rfl (htb0 rfl)
      refine Fin.mk ?_ rfl rfl
      rw [e1, e2, e3]
  · obtain ⟨e1, e2, e3⟩ := x1 rfl
    refine Fin.mk ?_ rfl rfl
    rw [e1, e2, e3]
end Go.Proofs.Ytjhicdoigllblaa
namespace Go.Proofs.Ytjhicdoigllblaa
set_option linter.unusedVariables false
set_option linter.unusedSimpArgs false
open Go.RowKit
set_option maxHeartbeats 16000000
def zeroV : SV := .agg [.int .i64 0, .int .u8 0, .nil, .int .u32 0, .int .i64 0, .int .i64 0]
def ackW (m : Int) (n : Nat) : Int := ((m.toNat &&& (allI n).toNat : Nat) : Int)
def ackD (w ak : Int) : Int := ((w.toNat ^^^ (w.toNat &&& ak.toNat) : Nat) : Int)
def ackO (w ak : Int) : Int := ((ak.toNat ||| w.toNat : Nat) : Int)
def ackS (s : Snd) (m : Int) : Snd :=
  let w := ackW m s.ps.length
  if w = 0 then { s with st := 3 }
  else { s with st := if ackO w s.ak = allI s.ps.length then 2 else s.st, ak := ackO w s.ak, rd := if ackD w s.ak = 0 then s.rd else 0, un := 0 }
def ackX (s : Snd) (b : Bool) (t m : Int) : SV × Int :=
  if b = false then (zeroV, 1) else if s.tag ≠ t then (zeroV, 9) else if s.st ≠ 1 then (s.v, 0) else ((ackS s m).v, 0)
theorem ackW_b (m : Int) (n : Nat) (hn : n ≤ 32) : 0 ≤ ackW m n ∧ ackW m n ≤ 4294967295 := by
  have := (allI_b hn).2
  have h := Nat.and_le_right (n := m.toNat) (m := (allI n).toNat)
  rw [ackW]; omega
theorem ackO_b (w ak : Int) (hw : 0 ≤ w ∧ w ≤ 4294967295) (ha : 0 ≤ ak ∧ ak ≤ 4294967295) : 0 ≤ ackO w ak ∧ ackO w ak ≤ 4294967295 := by
  have h := Nat.or_lt_two_pow (show ak.toNat < 2 ^ 32 by omega) (show w.toNat < 2 ^ 32 by omega)
  rw [ackO]; omega
theorem ack_c (st tag ak rd un : Int) (ps : List (List UInt8)) (R : List SV) (hR : R = rowsB ps) (hf : Snd.fits ⟨st, tag, ps, ak, rd, un⟩) (b : Bool) (hb : b = true ↔ VS ⟨st, tag, ps, ak, rd, un⟩)
    (t m : Int) (ht : 0 ≤ t ∧ t ≤ 255) (hm : 0 ≤ m ∧ m ≤ 4294967295) (X : SV) (e : Int) (hX : ackX ⟨st, tag, ps, ak, rd, un⟩ b t m = (X, e)) :
    Good 17 (pu [.agg [.int .i64 st, .int .u8 tag, .lst none R, .int .u32 ak, .int .i64 rd, .int .i64 un], .int .u8 t, .int .u32 m] (.tup [X, .int .i64 e])) := by
  have g1 := vsender_c st tag ak rd un ps R hR hf b hb
  have g2 := clonedPieces_c ps R hR hf.n hf.b
  have g3 : ∀ N : Int, N = ps.length → ps.length ≤ 32 → Good 57 (pu [.int .i64 N] (.int .u32 (allI ps.length))) := fun N hN hn => all_c ps.length N _ hN hn rfl
  skip
  have hRl : R.length = ps.length := by rw [hR, rowsB_len]
  have hfb := hf.b
  have hfn := hf.n
  have hak := hf.ak
  have hv := fun h : b = true => hb.1 h
  have hn32 : b = true → ps.length ≤ 32 := fun h => (hv h).n2
  have hWb := fun h : b = true => ackW_b m ps.length (hn32 h)
  obtain ⟨w, hw⟩ : ∃ w, w = ackW m ps.length := ⟨_, rfl⟩
  obtain ⟨d, hd⟩ : ∃ d, d = ackD w ak := ⟨_, rfl⟩
  obtain ⟨o, ho⟩ : ∃ o, o = ackO w ak := ⟨_, rfl⟩
  obtain ⟨A, hA⟩ : ∃ A, A = allI ps.length := ⟨_, rfl⟩
  have hAb := fun h : b = true => allI_b (hn32 h)
  have hob := fun h : 0 ≤ w ∧ w ≤ 4294967295 => ackO_b w ak h hf.ak
  rw [← hw] at hWb
  rw [← hA] at hAb
  rw [← ho] at hob
  have x1 : b = false → X = .agg [.int .i64 0, .int .u8 0, .nil, .int .u32 0, .int .i64 0, .int .i64 0] ∧ e = 1 := fun h => by
    unfold ackX at hX; rw [if_pos h] at hX; obtain ⟨a1, a2⟩ := Prod.mk.inj hX; exact ⟨a1.symm, a2.symm⟩
  have x2 : b = true → tag ≠ t → X = .agg [.int .i64 0, .int .u8 0, .nil, .int .u32 0, .int .i64 0, .int .i64 0] ∧ e = 9 := fun h h2 => by
    unfold ackX at hX; rw [if_neg (by rw [h]; simp), if_pos h2] at hX; obtain ⟨a1, a2⟩ := Prod.mk.inj hX; exact ⟨a1.symm, a2.symm⟩
  have x3 : b = true → ¬ tag ≠ t → st ≠ 1 → X = .agg [.int .i64 st, .int .u8 tag, .lst none R, .int .u32 ak, .int .i64 rd, .int .i64 un] ∧ e = 0 := fun h h2 h3 => by
    unfold ackX at hX; rw [if_neg (by rw [h]; simp), if_neg h2, if_pos h3] at hX; obtain ⟨a1, a2⟩ := Prod.mk.inj hX; exact ⟨by rw [← a1, hR]; rfl, a2.symm⟩
  have x4 : b = true → ¬ tag ≠ t → ¬ st ≠ 1 → w = 0 → X = .agg [.int .i64 3, .int .u8 tag, .lst none R, .int .u32 ak, .int .i64 rd, .int .i64 un] ∧ e = 0 := fun h h2 h3 h4 => by
    unfold ackX ackS at hX; rw [if_neg (by rw [h]; simp), if_neg h2, if_neg h3] at hX; obtain ⟨a1, a2⟩ := Prod.mk.inj hX
    refine ⟨?_, a2.symm⟩
    rw [← a1, hR, if_pos (by rw [← hw]; exact h4)]; rfl
  have x5 : b = true → ¬ tag ≠ t → ¬ st ≠ 1 → ¬ w = 0 → X = .agg [.int .i64 (if o = A then 2 else st), .int .u8 tag, .lst none R, .int .u32 o, .int .i64 (if d = 0 then rd else 0), .int .i64 0] ∧ e = 0 := fun h h2 h3 h4 => by
    unfold ackX ackS at hX; rw [if_neg (by rw [h]; simp), if_neg h2, if_neg h3] at hX; obtain ⟨a1, a2⟩ := Prod.mk.inj hX
    refine ⟨?_, a2.symm⟩
    rw [← a1, hR, if_neg (by rw [← hw]; exact h4), hA, ho, hd, hw]; rfl
  have hw : w = ((m.toNat &&& A.toNat : Nat) : Int) := by rw [hw, hA]; rfl
  have hd : d = ((w.toNat ^^^ (w.toNat &&& ak.toNat) : Nat) : Int) := hd
  have ho : o = ((ak.toNat ||| w.toNat : Nat) : Int) := ho
  clear hX hb hv
  rw [← hA] at g3
  refine Good.of Try.func17 rfl (by rfl) (by kernel_rfl) ?_
  cbv
  have hmk : True := trivial
  (repeat' (first
| (refine q1w (fun z hz => ?_); (try simp only at hz); cbv)
| (refine rqw ?_; cbv)
| (refine QC.tw ?_; cbv)
| (refine QC.tt ?_ ?_; (focus (simp only [decide_true, Bool.and_true, Bool.and_self] <;> fail)); cbv)
| (refine QC.ff ?_ ?_; (focus (simp only [decide_true, Bool.and_true, Bool.and_self, decide_false, Bool.false_and, reduceCtorEq, not_false_eq_true] <;> fail)); cbv)
| (refine QC.fw ?_; cbv)
| (refine QC.mk (fun hc => ?_) (fun hc => ?_) <;> (try dsimp only at hc) <;> cbv)
| (refine br_mk2 (fun hb => ?_) (fun hb => ?_) <;> (try subst hb) <;> cbv)))
  (refine callq (g1) rfl rfl ?_; cbv; (repeat' (first
| (refine q1w (fun z hz => ?_); (try simp only at hz); cbv)
| (refine rqw ?_; cbv)
| (refine QC.tw ?_; cbv)
| (refine QC.tt ?_ ?_; (focus (simp only [decide_true, Bool.and_true, Bool.and_self] <;> fail)); cbv)
| (refine QC.ff ?_ ?_; (focus (simp only [decide_true, Bool.and_true, Bool.and_self, decide_false, Bool.false_and, reduceCtorEq, not_false_eq_true] <;> fail)); cbv)
| (refine QC.fw ?_; cbv)
| (refine QC.mk (fun hc => ?_) (fun hc => ?_) <;> (try dsimp only at hc) <;> cbv)
| (refine br_mk2 (fun hb => ?_) (fun hb => ?_) <;> (try subst hb) <;> cbv))))
  · obtain ⟨e1, e2⟩ := x2 rfl hc
    refine Fin.mk ?_ rfl rfl
    rw [e1, e2]
  · have x3 := x3 rfl hc
    have x4 := x4 rfl hc
    have x5 := x5 rfl hc
    have hWb := hWb rfl
    have hAb := hAb rfl
    have hob := hob hWb
    have hn32 := hn32 rfl
    have hm0 : True := trivial
    clear x1 x2
    (refine callq (g2) rfl rfl ?_; cbv; (repeat' (first
| (refine q1w (fun z hz => ?_); (try simp only at hz); cbv)
| (refine rqw ?_; cbv)
| (refine QC.tw ?_; cbv)
| (refine QC.tt ?_ ?_; (focus (simp only [decide_true, Bool.and_true, Bool.and_self] <;> fail)); cbv)
| (refine QC.ff ?_ ?_; (focus (simp only [decide_true, Bool.and_true, Bool.and_self, decide_false, Bool.false_and, reduceCtorEq, not_false_eq_true] <;> fail)); cbv)
| (refine QC.fw ?_; cbv)
| (refine QC.mk (fun hc => ?_) (fun hc => ?_) <;> (try dsimp only at hc) <;> cbv)
| (refine br_mk2 (fun hb => ?_) (fun hb => ?_) <;> (try subst hb) <;> cbv))))
    · obtain ⟨e1, e2⟩ := x3 hc
      refine Fin.mk ?_ rfl rfl
      rw [e1, e2]
    · have x4 := x4 hc
      have x5 := x5 hc
      have g3 := g3 z (by (first | omega | (simp only [cst] at *; omega) | (simp only [sm] at *; omega))) hn32
      clear x3 g2 g1 hfb hR hn32
      (refine callq (g3) rfl rfl ?_; cbv; (repeat' (first
| (refine q1w (fun z hz => ?_); (try simp only at hz); cbv)
| (refine rqw ?_; cbv)
| (refine QC.tw ?_; cbv)
| (refine QC.tt ?_ ?_; (focus (simp only [decide_true, Bool.and_true, Bool.and_self] <;> fail)); cbv)
| (refine QC.ff ?_ ?_; (focus (simp only [decide_true, Bool.and_true, Bool.and_self, decide_false, Bool.false_and, reduceCtorEq, not_false_eq_true] <;> fail)); cbv)
| (refine QC.fw ?_; cbv)
| (refine QC.mk (fun hc => ?_) (fun hc => ?_) <;> (try dsimp only at hc) <;> cbv)
| (refine br_mk2 (fun hb => ?_) (fun hb => ?_) <;> (try subst hb) <;> cbv))))
      · obtain ⟨e1, e2⟩ := x4 (hw.trans (hz.symm.trans hc))
        refine Fin.mk ?_ rfl rfl
        rw [e1, e2]
      · skip
        rename_i zw hzw h1 zd hzd h2
        have ew : zw = w := hzw.trans hw.symm
        have ed : zd = d := hzd.trans (by rw [ew]; exact hd.symm)
        have eo : z = o := hz.trans (by rw [ew]; exact ho.symm)
        obtain ⟨e1, e2⟩ := x5 (fun h => h1 (ew.trans h))
        refine Fin.mk ?_ rfl rfl
        rw [e1, e2, if_pos (eo.symm.trans hc), if_neg (fun h => h2 (ed.trans h)), eo]
      · skip
        rename_i zw hzw h1 zd hzd h2
        have ew : zw = w := hzw.trans hw.symm
        have ed : zd = d := hzd.trans (by rw [ew]; exact hd.symm)
        have eo : z = o := hz.trans (by rw [ew]; exact ho.symm)
        obtain ⟨e1, e2⟩ := x5 (fun h => h1 (ew.trans h))
        refine Fin.mk ?_ rfl rfl
        rw [e1, e2, if_neg (fun h => hc (eo.trans h)), if_neg (fun h => h2 (ed.trans h)), eo]
      · skip
        rename_i zw hzw h1 zd hzd h2
        have ew : zw = w := hzw.trans hw.symm
        have ed : zd = d := hzd.trans (by rw [ew]; exact hd.symm)
        have eo : z = o := hz.trans (by rw [ew]; exact ho.symm)
        obtain ⟨e1, e2⟩ := x5 (fun h => h1 (ew.trans h))
        refine Fin.mk ?_ rfl rfl
        rw [e1, e2, if_pos (eo.symm.trans hc), if_pos (ed.symm.trans (Classical.not_not.1 h2)), eo]
      · skip
        rename_i zw hzw h1 zd hzd h2
        have ew : zw = w := hzw.trans hw.symm
        have ed : zd = d := hzd.trans (by rw [ew]; exact hd.symm)
        have eo : z = o := hz.trans (by rw [ew]; exact ho.symm)
        obtain ⟨e1, e2⟩ := x5 (fun h => h1 (ew.trans h))
        refine Fin.mk ?_ rfl rfl
        rw [e1, e2, if_neg (fun h => hc (eo.trans h)), if_pos (ed.symm.trans (Classical.not_not.1 h2)), eo]
  · obtain ⟨e1, e2⟩ := x1 rfl
    refine Fin.mk ?_ rfl rfl
    rw [e1, e2]
theorem rack_c (st tag ak rd un : Int) (ps : List (List UInt8)) (R : List SV) (hR : R = rowsB ps) (hf : Snd.fits ⟨st, tag, ps, ak, rd, un⟩) (b : Bool) (hb : b = true ↔ VS ⟨st, tag, ps, ak, rd, un⟩)
    (t m : Int) (ht : 0 ≤ t ∧ t ≤ 255) (hm : 0 ≤ m ∧ m ≤ 4294967295) (X : SV) (e : Int) (hX : ackX ⟨st, tag, ps, ak, rd, un⟩ b t m = (X, e)) :
    Good 18 (pu [.agg [.int .i64 st, .int .u8 tag, .lst none R, .int .u32 ak, .int .i64 rd, .int .i64 un], .int .u8 t, .int .u32 m] (.tup [X, .int .i64 e])) := by
  have g1 := rvsender_c st tag ak rd un ps R hR hf b hb
  have g2 := copied_c ps R hR hf.n hf.b
  have g3 : ∀ N : Int, N = ps.length → ps.length ≤ 32 → Good 58 (pu [.int .i64 N] (.int .u32 (allI ps.length))) := fun N hN hn => rall_c ps.length N _ hN hn rfl
  skip
  have hRl : R.length = ps.length := by rw [hR, rowsB_len]
  have hfb := hf.b
  have hfn := hf.n
  have hak := hf.ak
  have hv := fun h : b = true => hb.1 h
  have hn32 : b = true → ps.length ≤ 32 := fun h => (hv h).n2
  have hWb := fun h : b = true => ackW_b m ps.length (hn32 h)
  obtain ⟨w, hw⟩ : ∃ w, w = ackW m ps.length := ⟨_, rfl⟩
  obtain ⟨d, hd⟩ : ∃ d, d = ackD w ak := ⟨_, rfl⟩
  obtain ⟨o, ho⟩ : ∃ o, o = ackO w ak := ⟨_, rfl⟩
  obtain ⟨A, hA⟩ : ∃ A, A = allI ps.length := ⟨_, rfl⟩
  have hAb := fun h : b = true => allI_b (hn32 h)
  have hob := fun h : 0 ≤ w ∧ w ≤ 4294967295 => ackO_b w ak h hf.ak
  rw [← hw] at hWb
  rw [← hA] at hAb
  rw [← ho] at hob
  have x1 : b = false → X = .agg [.int .i64 0, .int .u8 0, .nil, .int .u32 0, .int .i64 0, .int .i64 0] ∧ e = 1 := fun h => by
    unfold ackX at hX; rw [if_pos h] at hX; obtain ⟨a1, a2⟩ := Prod.mk.inj hX; exact ⟨a1.symm, a2.symm⟩
  have x2 : b = true → tag ≠ t → X = .agg [.int .i64 0, .int .u8 0, .nil, .int .u32 0, .int .i64 0, .int .i64 0] ∧ e = 9 := fun h h2 => by
    unfold ackX at hX; rw [if_neg (by rw [h]; simp), if_pos h2] at hX; obtain ⟨a1, a2⟩ := Prod.mk.inj hX; exact ⟨a1.symm, a2.symm⟩
  have x3 : b = true → ¬ tag ≠ t → st ≠ 1 → X = .agg [.int .i64 st, .int .u8 tag, .lst none R, .int .u32 ak, .int .i64 rd, .int .i64 un] ∧ e = 0 := fun h h2 h3 => by
    unfold ackX at hX; rw [if_neg (by rw [h]; simp), if_neg h2, if_pos h3] at hX; obtain ⟨a1, a2⟩ := Prod.mk.inj hX; exact ⟨by rw [← a1, hR]; rfl, a2.symm⟩
  have x4 : b = true → ¬ tag ≠ t → ¬ st ≠ 1 → w = 0 → X = .agg [.int .i64 3, .int .u8 tag, .lst none R, .int .u32 ak, .int .i64 rd, .int .i64 un] ∧ e = 0 := fun h h2 h3 h4 => by
    unfold ackX ackS at hX; rw [if_neg (by rw [h]; simp), if_neg h2, if_neg h3] at hX; obtain ⟨a1, a2⟩ := Prod.mk.inj hX
    refine ⟨?_, a2.symm⟩
    rw [← a1, hR, if_pos (by rw [← hw]; exact h4)]; rfl
  have x5 : b = true → ¬ tag ≠ t → ¬ st ≠ 1 → ¬ w = 0 → X = .agg [.int .i64 (if o = A then 2 else st), .int .u8 tag, .lst none R, .int .u32 o, .int .i64 (if d = 0 then rd else 0), .int .i64 0] ∧ e = 0 := fun h h2 h3 h4 => by
    unfold ackX ackS at hX; rw [if_neg (by rw [h]; simp), if_neg h2, if_neg h3] at hX; obtain ⟨a1, a2⟩ := Prod.mk.inj hX
    refine ⟨?_, a2.symm⟩
    rw [← a1, hR, if_neg (by rw [← hw]; exact h4), hA, ho, hd, hw]; rfl
  have hw : w = ((m.toNat &&& A.toNat : Nat) : Int) := by rw [hw, hA]; rfl
  have hd : d = ((w.toNat ^^^ (w.toNat &&& ak.toNat) : Nat) : Int) := hd
  have ho : o = ((ak.toNat ||| w.toNat : Nat) : Int) := ho
  clear hX hb hv
  rw [← hA] at g3
  refine Good.of Try.func18 rfl (by rfl) (by kernel_rfl) ?_
  cbv
  have hmk : True := trivial
  (repeat' (first
| (refine q1w (fun z hz => ?_); (try simp only at hz); cbv)
| (refine rqw ?_; cbv)
| (refine QC.tw ?_; cbv)
| (refine QC.tt ?_ ?_; (focus (simp only [decide_true, Bool.and_true, Bool.and_self] <;> fail)); cbv)
| (refine QC.ff ?_ ?_; (focus (simp only [decide_true, Bool.and_true, Bool.and_self, decide_false, Bool.false_and, reduceCtorEq, not_false_eq_true] <;> fail)); cbv)
| (refine QC.fw ?_; cbv)
| (refine QC.mk (fun hc => ?_) (fun hc => ?_) <;> (try dsimp only at hc) <;> cbv)
| (refine br_mk2 (fun hb => ?_) (fun hb => ?_) <;> (try subst hb) <;> cbv)))
  (refine callq (g1) rfl rfl ?_; cbv; (repeat' (first
| (refine q1w (fun z hz => ?_); (try simp only at hz); cbv)
| (refine rqw ?_; cbv)
| (refine QC.tw ?_; cbv)
| (refine QC.tt ?_ ?_; (focus (simp only [decide_true, Bool.and_true, Bool.and_self] <;> fail)); cbv)
| (refine QC.ff ?_ ?_; (focus (simp only [decide_true, Bool.and_true, Bool.and_self, decide_false, Bool.false_and, reduceCtorEq, not_false_eq_true] <;> fail)); cbv)
| (refine QC.fw ?_; cbv)
| (refine QC.mk (fun hc => ?_) (fun hc => ?_) <;> (try dsimp only at hc) <;> cbv)
| (refine br_mk2 (fun hb => ?_) (fun hb => ?_) <;> (try subst hb) <;> cbv))))
  · obtain ⟨e1, e2⟩ := x2 rfl hc
    refine Fin.mk ?_ rfl rfl
    rw [e1, e2]
  · have x3 := x3 rfl hc
    have x4 := x4 rfl hc
    have x5 := x5 rfl hc
    have hWb := hWb rfl
    have hAb := hAb rfl
    have hob := hob hWb
    have hn32 := hn32 rfl
    have hm0 : True := trivial
    clear x1 x2
    (refine callq (g2) rfl rfl ?_; cbv; (repeat' (first
| (refine q1w (fun z hz => ?_); (try simp only at hz); cbv)
| (refine rqw ?_; cbv)
| (refine QC.tw ?_; cbv)
| (refine QC.tt ?_ ?_; (focus (simp only [decide_true, Bool.and_true, Bool.and_self] <;> fail)); cbv)
| (refine QC.ff ?_ ?_; (focus (simp only [decide_true, Bool.and_true, Bool.and_self, decide_false, Bool.false_and, reduceCtorEq, not_false_eq_true] <;> fail)); cbv)
| (refine QC.fw ?_; cbv)
| (refine QC.mk (fun hc => ?_) (fun hc => ?_) <;> (try dsimp only at hc) <;> cbv)
| (refine br_mk2 (fun hb => ?_) (fun hb => ?_) <;> (try subst hb) <;> cbv))))
    · obtain ⟨e1, e2⟩ := x3 hc
      refine Fin.mk ?_ rfl rfl
      rw [e1, e2]
    · have x4 := x4 hc
      have x5 := x5 hc
      have g3 := g3 z (by (first | omega | (simp only [cst] at *; omega) | (simp only [sm] at *; omega))) hn32
      clear x3 g2 g1 hfb hR hn32
      (refine callq (g3) rfl rfl ?_; cbv; (repeat' (first
| (refine q1w (fun z hz => ?_); (try simp only at hz); cbv)
| (refine rqw ?_; cbv)
| (refine QC.tw ?_; cbv)
| (refine QC.tt ?_ ?_; (focus (simp only [decide_true, Bool.and_true, Bool.and_self] <;> fail)); cbv)
| (refine QC.ff ?_ ?_; (focus (simp only [decide_true, Bool.and_true, Bool.and_self, decide_false, Bool.false_and, reduceCtorEq, not_false_eq_true] <;> fail)); cbv)
| (refine QC.fw ?_; cbv)
| (refine QC.mk (fun hc => ?_) (fun hc => ?_) <;> (try dsimp only at hc) <;> cbv)
| (refine br_mk2 (fun hb => ?_) (fun hb => ?_) <;> (try subst hb) <;> cbv))))
      · obtain ⟨e1, e2⟩ := x4 (hw.trans (hz.symm.trans hc))
        refine Fin.mk ?_ rfl rfl
        rw [e1, e2]
      · (refine callq (g3) rfl rfl ?_; cbv; (repeat' (first
| (refine q1w (fun z hz => ?_); (try simp only at hz); cbv)
| (refine rqw ?_; cbv)
| (refine QC.tw ?_; cbv)
| (refine QC.tt ?_ ?_; (focus (simp only [decide_true, Bool.and_true, Bool.and_self] <;> fail)); cbv)
| (refine QC.ff ?_ ?_; (focus (simp only [decide_true, Bool.and_true, Bool.and_self, decide_false, Bool.false_and, reduceCtorEq, not_false_eq_true] <;> fail)); cbv)
| (refine QC.fw ?_; cbv)
| (refine QC.mk (fun hc => ?_) (fun hc => ?_) <;> (try dsimp only at hc) <;> cbv)
| (refine br_mk2 (fun hb => ?_) (fun hb => ?_) <;> (try subst hb) <;> cbv))))
        · skip
          rename_i zw hzw h1 zd hzd h2
          have ew : zw = w := hzw.trans hw.symm
          have ed : zd = d := hzd.trans (by rw [ew]; exact hd.symm)
          have eo : z = o := hz.trans (by rw [ew]; exact ho.symm)
          obtain ⟨e1, e2⟩ := x5 (fun h => h1 (ew.trans h))
          refine Fin.mk ?_ rfl rfl
          rw [e1, e2, if_pos (eo.symm.trans hc), if_neg (fun h => h2 (ed.trans h)), eo]
        · skip
          rename_i zw hzw h1 zd hzd h2
          have ew : zw = w := hzw.trans hw.symm
          have ed : zd = d := hzd.trans (by rw [ew]; exact hd.symm)
          have eo : z = o := hz.trans (by rw [ew]; exact ho.symm)
          obtain ⟨e1, e2⟩ := x5 (fun h => h1 (ew.trans h))
          refine Fin.mk ?_ rfl rfl
          rw [e1, e2, if_neg (fun h => hc (eo.trans h)), if_neg (fun h => h2 (ed.trans h)), eo]
      · (refine callq (g3) rfl rfl ?_; cbv; (repeat' (first
| (refine q1w (fun z hz => ?_); (try simp only at hz); cbv)
| (refine rqw ?_; cbv)
| (refine QC.tw ?_; cbv)
| (refine QC.tt ?_ ?_; (focus (simp only [decide_true, Bool.and_true, Bool.and_self] <;> fail)); cbv)
| (refine QC.ff ?_ ?_; (focus (simp only [decide_true, Bool.and_true, Bool.and_self, decide_false, Bool.false_and, reduceCtorEq, not_false_eq_true] <;> fail)); cbv)
| (refine QC.fw ?_; cbv)
| (refine QC.mk (fun hc => ?_) (fun hc => ?_) <;> (try dsimp only at hc) <;> cbv)
| (refine br_mk2 (fun hb => ?_) (fun hb => ?_) <;> (try subst hb) <;> cbv))))
        · skip
          rename_i zw hzw h1 zd hzd h2
          have ew : zw = w := hzw.trans hw.symm
          have ed : zd = d := hzd.trans (by rw [ew]; exact hd.symm)
          have eo : z = o := hz.trans (by rw [ew]; exact ho.symm)
          obtain ⟨e1, e2⟩ := x5 (fun h => h1 (ew.trans h))
          refine Fin.mk ?_ rfl rfl
          rw [e1, e2, if_pos (eo.symm.trans hc), if_pos (ed.symm.trans (Classical.not_not.1 h2)), eo]
        · skip
          rename_i zw hzw h1 zd hzd h2
          have ew : zw = w := hzw.trans hw.symm
          have ed : zd = d := hzd.trans (by rw [ew]; exact hd.symm)
          have eo : z = o := hz.trans (by rw [ew]; exact ho.symm)
          obtain ⟨e1, e2⟩ := x5 (fun h => h1 (ew.trans h))
          refine Fin.mk ?_ rfl rfl
          rw [e1, e2, if_neg (fun h => hc (eo.trans h)), if_pos (ed.symm.trans (Classical.not_not.1 h2)), eo]
  · obtain ⟨e1, e2⟩ := x1 rfl
    refine Fin.mk ?_ rfl rfl
    rw [e1, e2]
end Go.Proofs.Ytjhicdoigllblaa
namespace Go.Proofs.Ytjhicdoigllblaa
set_option linter.unusedVariables false
set_option linter.unusedSimpArgs false
open Go.RowKit
set_option maxHeartbeats 2000000
set_option linter.unusedSimpArgs false
theorem appG (bs : List UInt8) (v : Int) (n : Nat) (X : List SV) (hX : X = u8l bs) : ∃ G : Nat → List SV, G 0 = u8l (bs ++ List.replicate n 0) ∧ (∀ i, (G i).length = bs.length + n) ∧ (∀ i, i < n → O.st (G i) (bs.length + i) (.int .u8 (v / 2 ^ (8 * (n - 1 - i)) % 256)) = G (i + 1)) ∧ G n = u8l (bs ++ bytesOf v n) := by
  refine ⟨fun i => u8l (appRow bs v n i), by simp [appRow], ?_, ?_, ?_⟩
  · intro i; simp [u8l, appRow, bytesOf_length]; omega
  · intro i hi
    rw [ost, ← digit_val, u8l_set, appRow_set _ _ _ _ hi]
  · simp only [appRow_full]
theorem append_c (bs : List UInt8) (X R : List SV) (v N : Int) (n : Nat) (hX : X = u8l bs) (hN : N = n) (hn : n ≤ 8) (hv : 0 ≤ v ∧ v < 18446744073709551616) (hl : bs.length ≤ 140737488352000) (hR : R = u8l (bs ++ bytesOf v n)) :
    Good 66 (nu [.lst none X, .int .u64 v, .int .i64 N] (.row 1) (.row none 5 R)) := by
  obtain ⟨G, G0, Gl, Gs, Gn⟩ := appG bs v n X hX
  have hl : X.length = bs.length := by rw [hX, u8l_len]
  refine Good.of Try.func66 rfl (by rfl) (by kernel_rfl) ?_
  cbv
  (repeat' (first
| (refine q1w (fun z hz => ?_); (try simp only at hz); cbv)
| (refine rqw ?_; cbv)
| (refine QC.tw ?_; cbv)
| (refine QC.tt ?_ ?_; (focus (simp only [decide_true, Bool.and_true, Bool.and_self] <;> fail)); cbv)
| (refine QC.ff ?_ ?_; (focus (simp only [decide_true, Bool.and_true, Bool.and_self, decide_false, Bool.false_and, reduceCtorEq, not_false_eq_true] <;> fail)); cbv)
| (refine QC.fw ?_; cbv)
| (refine QC.mk (fun hc => ?_) (fun hc => ?_) <;> (try dsimp only at hc) <;> cbv)
| (refine br_mk2 (fun hb => ?_) (fun hb => ?_) <;> (try subst hb) <;> cbv)))
  refine loopQ (A := Nat × Int) (fun p => p.2 = p.1 ∧ p.1 ≤ n) (fun p => n - p.1) (fun p => [(7, .row 7), (24, .int .i64 p.2)]) (fun p => [(7, .row none 5 (G p.1))]) (0, 0) ⟨rfl, Nat.zero_le _⟩ ?_ ?_
  · cbv
    refine ⟨?_, trivial⟩
    show _ = Blk.row none 5 (G 0)
    rw [G0]
    simp only [pcp, prp, pln, u8l_len, List.length_replicate, u8l_rep, List.take_zero, List.nil_append]
    rename_i z1 h1 z2 h2
    have e : z2.toNat = bs.length + n := by (first | omega | (simp only [cst] at *; omega) | (simp only [sm] at *; omega))
    rw [e, Nat.zero_add, hl, hX, Nat.min_eq_left (by omega), ← u8l_app]
    simp only [u8l_drop, u8l_take, List.drop_replicate]
    rw [List.take_of_length_le (by omega), Nat.add_sub_cancel_left]
  · intro ⟨i, j⟩ h
    have hj : j = (i : Int) := h.1
    have hi : i ≤ n := h.2
    clear h
    have hgl := Gl i
    cbv
    (repeat' (first
| (refine q1w (fun z hz => ?_); (try simp only at hz); cbv)
| (refine rqw ?_; cbv)
| (refine QC.tw ?_; cbv)
| (refine QC.tt ?_ ?_; (focus (simp only [decide_true, Bool.and_true, Bool.and_self] <;> fail)); cbv)
| (refine QC.ff ?_ ?_; (focus (simp only [decide_true, Bool.and_true, Bool.and_self, decide_false, Bool.false_and, reduceCtorEq, not_false_eq_true] <;> fail)); cbv)
| (refine QC.fw ?_; cbv)
| (refine QC.mk (fun hc => ?_) (fun hc => ?_) <;> (try dsimp only at hc) <;> cbv)
| (refine br_mk2 (fun hb => ?_) (fun hb => ?_) <;> (try subst hb) <;> cbv)))
    · have hjm : i < n := by (first | omega | (simp only [cst] at *; omega) | (simp only [sm] at *; omega))
      have hs := Gs i hjm
      generalize hq : bs.length + i = q at hs
      refine qv q (by (first | omega | (simp only [cst] at *; omega) | (simp only [sm] at *; omega))) ?_
      cbv
      (repeat' (first
| (refine q1w (fun z hz => ?_); (try simp only at hz); cbv)
| (refine rqw ?_; cbv)
| (refine QC.tw ?_; cbv)
| (refine QC.tt ?_ ?_; (focus (simp only [decide_true, Bool.and_true, Bool.and_self] <;> fail)); cbv)
| (refine QC.ff ?_ ?_; (focus (simp only [decide_true, Bool.and_true, Bool.and_self, decide_false, Bool.false_and, reduceCtorEq, not_false_eq_true] <;> fail)); cbv)
| (refine QC.fw ?_; cbv)
| (refine QC.mk (fun hc => ?_) (fun hc => ?_) <;> (try dsimp only at hc) <;> cbv)
| (refine br_mk2 (fun hb => ?_) (fun hb => ?_) <;> (try subst hb) <;> cbv)))
      rename_i z6 h6 z5 h5 z4 h4 z3 h3 z2 h2 z1 h1 z0 h0 z hz
      refine ⟨(i + 1, z), ⟨by (first | omega | (simp only [cst] at *; omega) | (simp only [sm] at *; omega)), by omega⟩, by (first | omega | (simp only [cst] at *; omega) | (simp only [sm] at *; omega)), ?_⟩
      cbv
      refine ⟨?_, trivial⟩
      show Blk.row none 5 (O.st (G i) q (.int .u8 _)) = .row none 5 (G (i + 1))
      rw [← hs]
      rename_i _ hz1
      rw [hz1, h0, show z1.toNat = 8 * (n - 1 - i) by (first | omega | (simp only [cst] at *; omega) | (simp only [sm] at *; omega))]
    · have e : i = n := by (first | omega | (simp only [cst] at *; omega) | (simp only [sm] at *; omega))
      refine ⟨rfl, ?_, rfl⟩
      show Blk.row none 5 (G i) = _
      rw [e, Gn, hR]
theorem append0_c (R : List SV) (v N : Int) (n : Nat) (hN : N = n) (hn : n ≤ 8) (hv : 0 ≤ v ∧ v < 18446744073709551616) (hR : R = u8l (bytesOf v n)) :
    Good 66 (nu [.nil, .int .u64 v, .int .i64 N] (.row 1) (.row none 5 R)) := by
  obtain ⟨G, G0, Gl, Gs, Gn⟩ := appG [] v n [] rfl
  refine Good.of Try.func66 rfl (by rfl) (by kernel_rfl) ?_
  cbv
  (repeat' (first
| (refine q1w (fun z hz => ?_); (try simp only at hz); cbv)
| (refine rqw ?_; cbv)
| (refine QC.tw ?_; cbv)
| (refine QC.tt ?_ ?_; (focus (simp only [decide_true, Bool.and_true, Bool.and_self] <;> fail)); cbv)
| (refine QC.ff ?_ ?_; (focus (simp only [decide_true, Bool.and_true, Bool.and_self, decide_false, Bool.false_and, reduceCtorEq, not_false_eq_true] <;> fail)); cbv)
| (refine QC.fw ?_; cbv)
| (refine QC.mk (fun hc => ?_) (fun hc => ?_) <;> (try dsimp only at hc) <;> cbv)
| (refine br_mk2 (fun hb => ?_) (fun hb => ?_) <;> (try subst hb) <;> cbv)))
  refine loopQ (A := Nat × Int) (fun p => p.2 = p.1 ∧ p.1 ≤ n) (fun p => n - p.1) (fun p => [(7, .row 7), (24, .int .i64 p.2)]) (fun p => [(7, .row none 5 (G p.1))]) (0, 0) ⟨rfl, Nat.zero_le _⟩ ?_ ?_
  · cbv
    refine ⟨?_, trivial⟩
    show _ = Blk.row none 5 (G 0)
    rw [G0]
    rename_i z2 h2
    have e : z2.toNat = n := by (first | omega | (simp only [cst] at *; omega) | (simp only [sm] at *; omega))
    simp only [pcp, prp, pln, List.length_replicate, List.length_nil, List.take_zero, List.nil_append, List.take_nil, Nat.min_self, Nat.zero_min, Nat.add_zero, List.drop_zero, e, u8l_rep]
  · intro ⟨i, j⟩ h
    have hj : j = (i : Int) := h.1
    have hi : i ≤ n := h.2
    clear h
    have hgl := Gl i
    cbv
    (repeat' (first
| (refine q1w (fun z hz => ?_); (try simp only at hz); cbv)
| (refine rqw ?_; cbv)
| (refine QC.tw ?_; cbv)
| (refine QC.tt ?_ ?_; (focus (simp only [decide_true, Bool.and_true, Bool.and_self] <;> fail)); cbv)
| (refine QC.ff ?_ ?_; (focus (simp only [decide_true, Bool.and_true, Bool.and_self, decide_false, Bool.false_and, reduceCtorEq, not_false_eq_true] <;> fail)); cbv)
| (refine QC.fw ?_; cbv)
| (refine QC.mk (fun hc => ?_) (fun hc => ?_) <;> (try dsimp only at hc) <;> cbv)
| (refine br_mk2 (fun hb => ?_) (fun hb => ?_) <;> (try subst hb) <;> cbv)))
    · have hjm : i < n := by (first | omega | (simp only [cst] at *; omega) | (simp only [sm] at *; omega))
      have hs := Gs i hjm
      rw [show [].length + i = i from Nat.zero_add i] at hs
      obtain ⟨q, hq⟩ : ∃ q, q = i := ⟨_, rfl⟩
      rw [← hq] at hs
      refine qv q (by (first | omega | (simp only [cst] at *; omega) | (simp only [sm] at *; omega))) ?_
      cbv
      (repeat' (first
| (refine q1w (fun z hz => ?_); (try simp only at hz); cbv)
| (refine rqw ?_; cbv)
| (refine QC.tw ?_; cbv)
| (refine QC.tt ?_ ?_; (focus (simp only [decide_true, Bool.and_true, Bool.and_self] <;> fail)); cbv)
| (refine QC.ff ?_ ?_; (focus (simp only [decide_true, Bool.and_true, Bool.and_self, decide_false, Bool.false_and, reduceCtorEq, not_false_eq_true] <;> fail)); cbv)
| (refine QC.fw ?_; cbv)
| (refine QC.mk (fun hc => ?_) (fun hc => ?_) <;> (try dsimp only at hc) <;> cbv)
| (refine br_mk2 (fun hb => ?_) (fun hb => ?_) <;> (try subst hb) <;> cbv)))
      rename_i z4 h4 z3 h3 z2 h2 z1 h1 z0 h0 z hz
      refine ⟨(i + 1, z), ⟨by (first | omega | (simp only [cst] at *; omega) | (simp only [sm] at *; omega)), by omega⟩, by (first | omega | (simp only [cst] at *; omega) | (simp only [sm] at *; omega)), ?_⟩
      cbv
      refine ⟨?_, trivial⟩
      show Blk.row none 5 (O.st (G i) q (.int .u8 _)) = .row none 5 (G (i + 1))
      rw [hq] at hs ⊢
      rw [← hs]
      rename_i _ hz1
      rw [hz1, h0, show z1.toNat = 8 * (n - 1 - i) by (first | omega | (simp only [cst] at *; omega) | (simp only [sm] at *; omega))]
    · have e : i = n := by (first | omega | (simp only [cst] at *; omega) | (simp only [sm] at *; omega))
      refine ⟨rfl, ?_, rfl⟩
      show Blk.row none 5 (G i) = _
      rw [e, Gn, hR]
      rfl

theorem beG (bs : List UInt8) (X : List SV) (hX : X = u8l bs) (a n : Nat) (h : a + n ≤ bs.length) : ∃ H Y : Nat → Int, H 0 = 0 ∧ (∀ i, 0 ≤ H i ∧ (i < 8 → H i < 72057594037927936)) ∧ (∀ i, 0 ≤ Y i ∧ Y i < 256) ∧ H n = be ((bs.drop a).take n) ∧
    (∀ i, i < n → H i * 256 + Y i = H (i + 1)) ∧ (∀ i, i < n → (O.sg X a n)[i]? = some (.int .u8 (Y i))) ∧ (O.sg X a n).length = n := by
  refine ⟨fun i => (be ((bs.drop a).take i) : Int), fun i => (bs.getD (a + i) 0).toNat, by simp [be], ?_, ?_, rfl, ?_, ?_, ?_⟩
  · intro i
    refine ⟨by dsimp only; omega, fun hi => ?_⟩
    have h1 := be_lt ((bs.drop a).take i)
    have h2 : 256 ^ ((bs.drop a).take i).length ≤ 256 ^ 7 := Nat.pow_le_pow_right (by omega) (by simp; omega)
    dsimp only
    omega
  · intro i; have := (bs.getD (a + i) 0).toNat_lt; dsimp only; omega
  · intro i hi
    dsimp only
    rw [take_snoc_u8 _ i (by simp; omega), be_snoc]
    simp [show a + i < bs.length by omega]
  · intro i hi
    rw [osg, hX, u8l_drop, u8l_take, u8l_at _ (by simp; omega)]
    simp [show a + i < bs.length by omega, hi]
  · rw [osg, hX]; simp [u8l]; omega
theorem or_i (x y a b z : Int) (hx : 0 ≤ x ∧ x < 72057594037927936) (hy : 0 ≤ y ∧ y < 256) (ha : a = x * 2 ^ Int.toNat 8 % 18446744073709551616) (hb : b = y % 18446744073709551616) (hz : z = ((a.toNat ||| b.toNat : Nat) : Int)) : z = x * 256 + y := by
  have e1 : (2 : Int) ^ Int.toNat 8 = 256 := rfl
  rw [e1] at ha
  have e2 : a.toNat = x.toNat * 256 := by omega
  have e3 : b = y := by omega
  rw [hz, e2, e3, or_byte _ _ (by omega)]
  omega
theorem uint_c (bs : List UInt8) (X : List SV) (A N r : Int) (a n : Nat) (hX : X = u8l bs) (hA : A = a) (hN : N = n) (h1 : 1 ≤ n) (hn : n ≤ 8) (hl : bs.length ≤ 140737488352000) (hb : a + n ≤ bs.length) (hr : r = be ((bs.drop a).take n)) :
    Good 64 (pu [.lst none X, .int .i64 A, .int .i64 N] (.tup [.int .u64 r, .bool true])) := by
  have hl : X.length = bs.length := by rw [hX, u8l_len]
  obtain ⟨H, Y, H0, Hb, HY, Hn, Hs, Hy, HL⟩ := beG bs X hX a n hb
  refine Good.of Try.func64 rfl (by rfl) (by kernel_rfl) ?_
  cbv
  (repeat' (first
| (refine q1w (fun z hz => ?_); (try simp only at hz); cbv)
| (refine rqw ?_; cbv)
| (refine QC.tw ?_; cbv)
| (refine QC.tt ?_ ?_; (focus (simp only [decide_true, Bool.and_true, Bool.and_self] <;> fail)); cbv)
| (refine QC.ff ?_ ?_; (focus (simp only [decide_true, Bool.and_true, Bool.and_self, decide_false, Bool.false_and, reduceCtorEq, not_false_eq_true] <;> fail)); cbv)
| (refine QC.fw ?_; cbv)
| (refine QC.mk (fun hc => ?_) (fun hc => ?_) <;> (try dsimp only at hc) <;> cbv)
| (refine br_mk2 (fun hb => ?_) (fun hb => ?_) <;> (try subst hb) <;> cbv)))
  rename_i z2 h2 z1 h1' z0 h0
  have e1 : (Classical.choice lo_ex).tn A = a := by rw [ptn]; (first | omega | (simp only [cst] at *; omega) | (simp only [sm] at *; omega))
  have e2 : (Classical.choice lo_ex).si z0 A = n := by rw [psi]; (first | omega | (simp only [cst] at *; omega) | (simp only [sm] at *; omega))
  have hsg : (Classical.choice lo_ex).sg X ((Classical.choice lo_ex).tn A) ((Classical.choice lo_ex).si z0 A) = O.sg X a n := by rw [e1, e2]; rfl
  have hzn : z = n := by
    rw [hz, hsg, oln, HL]
  rw [← hsg] at Hy
  refine loopQ (A := Nat × Int × Int) (fun p => p.2.1 = p.1 ∧ p.1 ≤ n ∧ p.2.2 = H p.1) (fun p => n - p.1) (fun p => [(8, .int .u64 p.2.2), (36, .int .i64 p.2.1)]) (fun p => []) (0, 0, 0) ⟨rfl, Nat.zero_le _, H0.symm⟩ ?_ ?_
  · cbv
  · intro ⟨i, j, x⟩ h
    have hj : j = (i : Int) := h.1
    have hi : i ≤ n := h.2.1
    have hx : x = H i := h.2.2
    clear h
    have hb1 := Hb i
    have hy1 := HY i
    cbv
    (repeat' (first
| (refine q1w (fun z hz => ?_); (try simp only at hz); cbv)
| (refine rqw ?_; cbv)
| (refine QC.tw ?_; cbv)
| (refine QC.tt ?_ ?_; (focus (simp only [decide_true, Bool.and_true, Bool.and_self] <;> fail)); cbv)
| (refine QC.ff ?_ ?_; (focus (simp only [decide_true, Bool.and_true, Bool.and_self, decide_false, Bool.false_and, reduceCtorEq, not_false_eq_true] <;> fail)); cbv)
| (refine QC.fw ?_; cbv)
| (refine QC.mk (fun hc => ?_) (fun hc => ?_) <;> (try dsimp only at hc) <;> cbv)
| (refine br_mk2 (fun hb => ?_) (fun hb => ?_) <;> (try subst hb) <;> cbv)))
    · have hjm : i < n := by (first | omega | (simp only [cst] at *; omega) | (simp only [sm] at *; omega))
      have hs := Hs i hjm
      have hb2 := hb1.2 (by omega)
      have hy2 := Hy i hjm
      generalize Y i = y at hy1 hs hy2
      refine qv (i, .int .u8 y) ⟨hj, hy2⟩ ?_
      cbv
      (repeat' (first
| (refine q1w (fun z hz => ?_); (try simp only at hz); cbv)
| (refine rqw ?_; cbv)
| (refine QC.tw ?_; cbv)
| (refine QC.tt ?_ ?_; (focus (simp only [decide_true, Bool.and_true, Bool.and_self] <;> fail)); cbv)
| (refine QC.ff ?_ ?_; (focus (simp only [decide_true, Bool.and_true, Bool.and_self, decide_false, Bool.false_and, reduceCtorEq, not_false_eq_true] <;> fail)); cbv)
| (refine QC.fw ?_; cbv)
| (refine QC.mk (fun hc => ?_) (fun hc => ?_) <;> (try dsimp only at hc) <;> cbv)
| (refine br_mk2 (fun hb => ?_) (fun hb => ?_) <;> (try subst hb) <;> cbv)))
      rename_i z3 h3 z4 h4 z5 h5
      have e := or_i x y z3 z4 z5 (by (first | omega | (simp only [cst] at *; omega) | (simp only [sm] at *; omega))) hy1 h3 h4 h5
      refine ⟨(i + 1, z, z5), ⟨by (first | omega | (simp only [cst] at *; omega) | (simp only [sm] at *; omega)), by omega, by (first | omega | (simp only [cst] at *; omega) | (simp only [sm] at *; omega))⟩, by (first | omega | (simp only [cst] at *; omega) | (simp only [sm] at *; omega)), ?_⟩
      cbv
    · have e : i = n := by (first | omega | (simp only [cst] at *; omega) | (simp only [sm] at *; omega))
      refine ⟨?_, rfl, rfl⟩
      rw [hx, hr, e, Hn]
end Go.Proofs.Ytjhicdoigllblaa
namespace Go.Proofs.Ytjhicdoigllblaa
set_option linter.unusedVariables false
set_option linter.unusedSimpArgs false
open Go.RowKit
set_option maxHeartbeats 2000000
theorem same_c (xs ys : List UInt8) (X Y : List SV) (r : Bool) (hX : X = u8l xs) (hY : Y = u8l ys) (hlx : xs.length ≤ 140737488352000) (hly : ys.length ≤ 140737488352000) (hr : r = decide (xs = ys)) :
    Good 28 (pu [.lst none X, .lst none Y] (.bool r)) := by
  have hl : X.length = xs.length := by rw [hX, u8l_len]
  have hl' : Y.length = ys.length := by rw [hY, u8l_len]
  have hx : ∀ i, i < xs.length → X[i]? = some (.int .u8 (xs.getD i 0).toNat) := fun i hi => by rw [hX]; exact u8l_at i hi
  have hy : ∀ i, i < ys.length → Y[i]? = some (.int .u8 (ys.getD i 0).toNat) := fun i hi => by rw [hY]; exact u8l_at i hi
  obtain ⟨F, hF⟩ : ∃ F : Nat → Int, ∀ i, F i = (xs.getD i 0).toNat := ⟨_, fun _ => rfl⟩
  obtain ⟨G, hG⟩ : ∃ G : Nat → Int, ∀ i, G i = (ys.getD i 0).toNat := ⟨_, fun _ => rfl⟩
  have key : ∀ i, xs.take i = ys.take i → i < xs.length → i < ys.length → F i = G i → xs.take (i + 1) = ys.take (i + 1) := by
    intro i h h1 h2 h3
    rw [take_snoc_u8 _ _ h1, take_snoc_u8 _ _ h2, h]
    rw [hF, hG] at h3
    have : (xs.getD i 0).toNat = (ys.getD i 0).toNat := by omega
    have := UInt8.toNat_inj.1 this
    simp only [List.getD, List.getElem?_eq_getElem h1, List.getElem?_eq_getElem h2, Option.getD_some] at this
    rw [this]
  have key2 : ∀ i, ¬ F i = G i → xs ≠ ys := by
    intro i h e; subst e; rw [hF, hG] at h; exact h rfl
  simp only [← hF] at hx
  simp only [← hG] at hy
  refine Good.of Try.func28 rfl (by rfl) (by kernel_rfl) ?_
  cbv
  (repeat' (first
| (refine q1w (fun z hz => ?_); (try simp only at hz); cbv)
| (refine rqw ?_; cbv)
| (refine QC.tw ?_; cbv)
| (refine QC.tt ?_ ?_; (focus (simp only [decide_true, Bool.and_true, Bool.and_self] <;> fail)); cbv)
| (refine QC.ff ?_ ?_; (focus (simp only [decide_true, Bool.and_true, Bool.and_self, decide_false, Bool.false_and, reduceCtorEq, not_false_eq_true] <;> fail)); cbv)
| (refine QC.fw ?_; cbv)
| (refine QC.mk (fun hc => ?_) (fun hc => ?_) <;> (try dsimp only at hc) <;> cbv)
| (refine br_mk2 (fun hb => ?_) (fun hb => ?_) <;> (try subst hb) <;> cbv)))
  · have e : ¬ xs.length = ys.length := by (first | omega | (simp only [cst] at *; omega) | (simp only [sm] at *; omega))
    have e2 : ¬ xs = ys := fun h => e (by rw [h])
    refine ⟨?_, rfl, rfl⟩
    rw [hr, decide_eq_false e2]
  · have e : xs.length = ys.length := by (first | omega | (simp only [cst] at *; omega) | (simp only [sm] at *; omega))
    refine loopQ (A := Nat × Int) (fun p => p.2 = p.1 ∧ p.1 ≤ xs.length ∧ xs.take p.1 = ys.take p.1) (fun p => xs.length - p.1) (fun p => [(5, .int .i64 p.2)]) (fun p => []) (0, 0) ⟨rfl, Nat.zero_le _, rfl⟩ ?_ ?_
    · cbv
    · intro ⟨i, j⟩ h
      have hj : j = (i : Int) := h.1
      have hi : i ≤ xs.length := h.2.1
      have ht : xs.take i = ys.take i := h.2.2
      clear h
      have h1 := hx i
      have h2 := hy i
      have h3 := key i ht
      have h4 := key2 i
      cbv
      (repeat' (first
| (refine q1w (fun z hz => ?_); (try simp only at hz); cbv)
| (refine rqw ?_; cbv)
| (refine QC.tw ?_; cbv)
| (refine QC.tt ?_ ?_; (focus (simp only [decide_true, Bool.and_true, Bool.and_self] <;> fail)); cbv)
| (refine QC.ff ?_ ?_; (focus (simp only [decide_true, Bool.and_true, Bool.and_self, decide_false, Bool.false_and, reduceCtorEq, not_false_eq_true] <;> fail)); cbv)
| (refine QC.fw ?_; cbv)
| (refine QC.mk (fun hc => ?_) (fun hc => ?_) <;> (try dsimp only at hc) <;> cbv)
| (refine br_mk2 (fun hb => ?_) (fun hb => ?_) <;> (try subst hb) <;> cbv)))
      · have hi2 : i < xs.length := by (first | omega | (simp only [cst] at *; omega) | (simp only [sm] at *; omega))
        have h3 := h3 hi2 (by omega)
        have h1 := h1 hi2
        have h2 := h2 (by omega)
        generalize F i = x at h1 h3 h4
        generalize G i = y at h2 h3 h4
        refine qv (i, .int .u8 x) ⟨hj, h1⟩ ?_
        cbv
        (repeat' (first
| (refine q1w (fun z hz => ?_); (try simp only at hz); cbv)
| (refine rqw ?_; cbv)
| (refine QC.tw ?_; cbv)
| (refine QC.tt ?_ ?_; (focus (simp only [decide_true, Bool.and_true, Bool.and_self] <;> fail)); cbv)
| (refine QC.ff ?_ ?_; (focus (simp only [decide_true, Bool.and_true, Bool.and_self, decide_false, Bool.false_and, reduceCtorEq, not_false_eq_true] <;> fail)); cbv)
| (refine QC.fw ?_; cbv)
| (refine QC.mk (fun hc => ?_) (fun hc => ?_) <;> (try dsimp only at hc) <;> cbv)
| (refine br_mk2 (fun hb => ?_) (fun hb => ?_) <;> (try subst hb) <;> cbv)))
        refine qv (i, .int .u8 y) ⟨hj, h2⟩ ?_
        cbv
        (repeat' (first
| (refine q1w (fun z hz => ?_); (try simp only at hz); cbv)
| (refine rqw ?_; cbv)
| (refine QC.tw ?_; cbv)
| (refine QC.tt ?_ ?_; (focus (simp only [decide_true, Bool.and_true, Bool.and_self] <;> fail)); cbv)
| (refine QC.ff ?_ ?_; (focus (simp only [decide_true, Bool.and_true, Bool.and_self, decide_false, Bool.false_and, reduceCtorEq, not_false_eq_true] <;> fail)); cbv)
| (refine QC.fw ?_; cbv)
| (refine QC.mk (fun hc => ?_) (fun hc => ?_) <;> (try dsimp only at hc) <;> cbv)
| (refine br_mk2 (fun hb => ?_) (fun hb => ?_) <;> (try subst hb) <;> cbv)))
        · refine ⟨?_, rfl, rfl⟩
          rw [hr, decide_eq_false (h4 hc)]
        · refine ⟨(i + 1, z), ⟨by (first | omega | (simp only [cst] at *; omega) | (simp only [sm] at *; omega)), by omega, h3 (by omega)⟩, by (first | omega | (simp only [cst] at *; omega) | (simp only [sm] at *; omega)), ?_⟩
          cbv
      · have e2 : i = xs.length := by (first | omega | (simp only [cst] at *; omega) | (simp only [sm] at *; omega))
        refine ⟨?_, rfl, rfl⟩
        rw [e2, List.take_length, e, List.take_length] at ht
        rw [hr, decide_eq_true ht]
end Go.Proofs.Ytjhicdoigllblaa
namespace Go.Proofs.Ytjhicdoigllblaa
set_option linter.unusedVariables false
set_option linter.unusedSimpArgs false
open Go.RowKit
set_option maxHeartbeats 8000000
noncomputable def vs (s : Snd) : Bool := @decide (VS s) (Classical.propDecidable _)
theorem vs_iff (s : Snd) : vs s = true ↔ VS s := by rw [vs]; exact @decide_eq_true_iff _ (Classical.propDecidable _)
def zS : Snd := ⟨0, 0, [], 0, 0, 0⟩
abbrev Snd.w (s : Snd) (R : List SV) : SV := .agg [.int .i64 s.st, .int .u8 s.tag, .lst none R, .int .u32 s.ak, .int .i64 s.rd, .int .i64 s.un]
def begP (b : List UInt8) (tag room : Int) : Snd × Int :=
  if room ≤ 4 then (zS, 2) else if b.length = 0 ∨ 32 ≤ ((b.length : Int) - 1) / (room - 4) then (zS, 3)
  else (⟨1, tag, chk (room - 4).toNat b (nPc b.length (room - 4).toNat), 0, 0, 0⟩, 0)
noncomputable def nextP (s : Snd) (now : Int) : Snd × List Pce × Int :=
  if vs s = false then (zS, [], 1)
  else if now < 0 ∨ 1099511627776 < now then (zS, [], 2)
  else if s.st ≠ 1 ∨ now < s.un then (s, [], 0)
  else if s.rd = 8 then ({ s with st := 3 }, [], 0)
  else ({ s with rd := s.rd + 1, un := min (now + 8) 1099511627776 }, mark (pre s.tag s.ps s.ak (min (opn s.ak s.ps.length).length 8)), 0)
noncomputable def ackP (s : Snd) (t m : Int) : Snd × Int :=
  if vs s = false then (zS, 1) else if s.tag ≠ t then (zS, 9) else if s.st ≠ 1 then (s, 0) else (ackS s m, 0)
theorem wk_zero : Wk (.agg [.int .i64 0, .int .u8 0, .nil, .int .u32 0, .int .i64 0, .int .i64 0]) zS.v :=
  .agg ⟨.rfl' _, .rfl' _, .nil _, .rfl' _, .rfl' _, .rfl' _, trivial⟩
theorem beg_wk (b : List UInt8) (tag room : Int) : ∃ X, begX b tag room = (X, (begP b tag room).2) ∧ Wk X (begP b tag room).1.v := by
  unfold begX begP
  split
  · exact ⟨_, rfl, wk_zero⟩
  split
  · exact ⟨_, rfl, wk_zero⟩
  · exact ⟨_, rfl, .rfl' _⟩
theorem next_wk (s : Snd) (now : Int) : ∃ X, nextX s (vs s) now = (X, (nextP s now).2.1, (nextP s now).2.2) ∧ Wk X (nextP s now).1.v := by
  unfold nextX nextP
  split
  · exact ⟨_, rfl, wk_zero⟩
  split
  · exact ⟨_, rfl, wk_zero⟩
  split
  · exact ⟨_, rfl, .rfl' _⟩
  split
  · exact ⟨_, rfl, .rfl' _⟩
  · exact ⟨_, rfl, .rfl' _⟩
theorem ack_wk (s : Snd) (t m : Int) : ∃ X, ackX s (vs s) t m = (X, (ackP s t m).2) ∧ Wk X (ackP s t m).1.v := by
  unfold ackX ackP
  split
  · exact ⟨_, rfl, wk_zero⟩
  split
  · exact ⟨_, rfl, wk_zero⟩
  split
  · exact ⟨_, rfl, .rfl' _⟩
  · exact ⟨_, rfl, .rfl' _⟩
theorem begin_p (b : List UInt8) (B : List SV) (hB : B = u8l b) (hb : b.length ≤ 140737488351232) (tag room : Int) (hr : -9223372036854775808 ≤ room ∧ room ≤ 9223372036854775807) (s : Snd) (R : List SV) (hR : R = rowsB s.ps) (e : Int) (hX : begP b tag room = (s, e)) :
    Good 24 (pu [.lst none B, .int .u8 tag, .int .i64 room] (.tup [s.w R, .int .i64 e])) := by
  obtain ⟨X, h1, h2⟩ := beg_wk b tag room
  rw [hX] at h1 h2
  exact (begin_c b B hB hb tag room hr X e h1).res (.tup ⟨by rw [hR]; exact h2, .rfl' _, trivial⟩)
theorem rbegin_p (b : List UInt8) (B : List SV) (hB : B = u8l b) (hb : b.length ≤ 140737488351232) (tag room : Int) (hr : -9223372036854775808 ≤ room ∧ room ≤ 9223372036854775807) (s : Snd) (R : List SV) (hR : R = rowsB s.ps) (e : Int) (hX : begP b tag room = (s, e)) :
    Good 25 (pu [.lst none B, .int .u8 tag, .int .i64 room] (.tup [s.w R, .int .i64 e])) := by
  obtain ⟨X, h1, h2⟩ := beg_wk b tag room
  rw [hX] at h1 h2
  exact (rbegin_c b B hB hb tag room hr X e h1).res (.tup ⟨by rw [hR]; exact h2, .rfl' _, trivial⟩)
theorem next_p (s : Snd) (R : List SV) (hR : R = rowsB s.ps) (hf : s.fits) (now : Int) (hnow : -9223372036854775808 ≤ now ∧ now ≤ 9223372036854775807) (s' : Snd) (R' : List SV) (hR' : R' = rowsB s'.ps) (l : List Pce) (L : List SV) (hL : L = pcL l) (e : Int) (hX : nextP s now = (s', l, e)) :
    Good 15 (pu [s.w R, .int .i64 now] (.tup [s'.w R', .lst (some 5) L, .int .i64 e])) := by
  obtain ⟨X, h1, h2⟩ := next_wk s now
  rw [hX] at h1 h2
  exact (nx_c _ _ _ _ _ _ R hR hf _ (vs_iff s) now hnow X l L hL e h1).res (.tup ⟨by rw [hR']; exact h2, .rfl' _, .rfl' _, trivial⟩)
theorem rnext_p (s : Snd) (R : List SV) (hR : R = rowsB s.ps) (hf : s.fits) (now : Int) (hnow : -9223372036854775808 ≤ now ∧ now ≤ 9223372036854775807) (s' : Snd) (R' : List SV) (hR' : R' = rowsB s'.ps) (l : List Pce) (L : List SV) (hL : L = pcL l) (e : Int) (hX : nextP s now = (s', l, e)) :
    Good 16 (pu [s.w R, .int .i64 now] (.tup [s'.w R', .lst (some 5) L, .int .i64 e])) := by
  obtain ⟨X, h1, h2⟩ := next_wk s now
  rw [hX] at h1 h2
  exact (rnx_c _ _ _ _ _ _ R hR hf _ (vs_iff s) now hnow X l L hL e h1).res (.tup ⟨by rw [hR']; exact h2, .rfl' _, .rfl' _, trivial⟩)
theorem ack_p (s : Snd) (R : List SV) (hR : R = rowsB s.ps) (hf : s.fits) (t m : Int) (ht : 0 ≤ t ∧ t ≤ 255) (hm : 0 ≤ m ∧ m ≤ 4294967295) (s' : Snd) (R' : List SV) (hR' : R' = rowsB s'.ps) (e : Int) (hX : ackP s t m = (s', e)) :
    Good 17 (pu [s.w R, .int .u8 t, .int .u32 m] (.tup [s'.w R', .int .i64 e])) := by
  obtain ⟨X, h1, h2⟩ := ack_wk s t m
  rw [hX] at h1 h2
  exact (ack_c _ _ _ _ _ _ R hR hf _ (vs_iff s) t m ht hm X e h1).res (.tup ⟨by rw [hR']; exact h2, .rfl' _, trivial⟩)
theorem rack_p (s : Snd) (R : List SV) (hR : R = rowsB s.ps) (hf : s.fits) (t m : Int) (ht : 0 ≤ t ∧ t ≤ 255) (hm : 0 ≤ m ∧ m ≤ 4294967295) (s' : Snd) (R' : List SV) (hR' : R' = rowsB s'.ps) (e : Int) (hX : ackP s t m = (s', e)) :
    Good 18 (pu [s.w R, .int .u8 t, .int .u32 m] (.tup [s'.w R', .int .i64 e])) := by
  obtain ⟨X, h1, h2⟩ := ack_wk s t m
  rw [hX] at h1 h2
  exact (rack_c _ _ _ _ _ _ R hR hf _ (vs_iff s) t m ht hm X e h1).res (.tup ⟨by rw [hR']; exact h2, .rfl' _, trivial⟩)
theorem zS_fits : zS.fits := ⟨by decide, by decide, by decide, by decide, by decide, by decide, fun p hp => by cases hp⟩
theorem next_fits (s : Snd) (now : Int) (hf : s.fits) : (nextP s now).1.fits := by
  unfold nextP
  split
  · exact zS_fits
  rename_i hv
  have v := (vs_iff s).1 (by simpa using hv)
  split
  · exact zS_fits
  split
  · exact hf
  split
  · exact ⟨by dsimp only; omega, hf.tag, hf.ak, hf.rd, hf.un, hf.n, hf.b⟩
  · exact ⟨hf.st, hf.tag, hf.ak, by have := v.r1; have := v.r2; dsimp only; omega, by dsimp only; omega, hf.n, hf.b⟩
theorem ack_fits (s : Snd) (t m : Int) (hf : s.fits) : (ackP s t m).1.fits := by
  unfold ackP
  split
  · exact zS_fits
  rename_i hv
  have v := (vs_iff s).1 (by simpa using hv)
  split
  · exact zS_fits
  split
  · exact hf
  · rw [ackS]
    dsimp only
    split
    · exact ⟨by dsimp only; omega, hf.tag, hf.ak, hf.rd, hf.un, hf.n, hf.b⟩
    · exact ⟨by dsimp only; have := hf.st; split <;> omega, hf.tag, ackO_b _ _ (ackW_b _ _ v.n2) hf.ak, by dsimp only; have := hf.rd; split <;> omega, by dsimp only; omega, hf.n, hf.b⟩
theorem beg_fits (b : List UInt8) (tag room : Int) (ht : 0 ≤ tag ∧ tag ≤ 255) (hb : b.length ≤ 140737488351232) : (begP b tag room).1.fits := by
  unfold begP
  split
  · exact zS_fits
  split
  · exact zS_fits
  · rename_i h1 h2
    refine ⟨by dsimp only; omega, ht, by dsimp only; omega, by dsimp only; omega, by dsimp only; omega, ?_, ?_⟩
    · dsimp only
      rw [chk_len, nPc]
      have : (b.length - 1) / (room - 4).toNat < 32 := by
        have h3 : ((b.length : Int) - 1) / (room - 4) = (((b.length - 1) / (room - 4).toNat : Nat) : Int) := by
          rw [Int.natCast_ediv]
          congr 1 <;> omega
        omega
      omega
    · intro p hp
      simp only [chk, List.mem_map] at hp
      obtain ⟨i, _, rfl⟩ := hp
      rw [List.length_take, List.length_drop]
      omega
end Go.Proofs.Ytjhicdoigllblaa
