/- Code: the evaluator of a whole body, its law, and how a contract is proved by it. -/
import Derived.Test.YtopalajoinkgkaaAny
namespace Go.Proofs.Ytopalajoinkgkaa
open Go.RowKit
variable {P : Program} {T : Nat → Option TI} {G : Nat → List SV → SV → Prop}

structure Ks where
  n : St → Prop
  r : St → Prop
  e : Nat → St → Prop

/-- What is so of s is so of s'. -/
structure Sub (T : Nat → Option TI) (s s' : St) : Prop where
  h : ∀ N w0 X a w ρ, Rep T N w0 X s a w ρ → ∃ ρ', Rep T N w0 X s' a w ρ'
theorem Sub.refl (s : St) : Sub T s s := ⟨fun _ _ _ _ _ ρ h => ⟨ρ, h⟩⟩
theorem Sub.trans {s s' s'' : St} (h : Sub T s s') (g : Sub T s' s'') : Sub T s s'' := ⟨fun N w0 X a w ρ hr => by
  obtain ⟨ρ', hr'⟩ := h.h N w0 X a w ρ hr
  exact g.h N w0 X a w ρ' hr'⟩

structure LoopQ (T : Nat → Option TI) (F : St → Ks → Prop) (s : St) (K : Ks) : Prop where
  h : ∃ (A : Type) (I : A → Prop) (μ : A → Nat) (f : A → St) (R : St → St → Prop), (∀ s s', R s s' → Sub T s s') ∧ (∃ i, I i ∧ R s (f i)) ∧ ∀ i, I i → F (f i) ⟨fun s' => ∃ j, I j ∧ μ j < μ i ∧ R s' (f j), K.r, K.e⟩

def swp (T : Nat → Option TI) (G : Nat → List SV → SV → Prop) : Code → St → Ks → Prop
  | .skip, s, K => K.n s
  | .ret, s, K => K.r s
  | .region _ ops false, s, K => opsG T G ⟨[], false⟩ ops ops.toList s K.n
  | .region _ ops true, s, K => drawG T G ops s K.n
  | .seq a b, s, K => swp T G a s ⟨fun s => swp T G b s K, K.r, K.e⟩
  | .cond c a b, s, K => (match s.ev c with
    | .bool t => br t (fun _ => swp T G a s K) (fun _ => swp T G b s K)
    | _ => False)
  | .block id c, s, K => swp T G c s ⟨K.n, K.r, fun i s => if Nat.beq i id then K.n s else K.e i s⟩
  | .exit id, s, K => K.e id s
  | .loop c, s, K => LoopQ T (fun s K => swp T G c s K) s K
  | _, _, _ => False

def codeOk : Code → Bool
  | .region _ ops true => regOk ops
  | .seq a b => codeOk a && codeOk b
  | .cond _ a b => codeOk a && codeOk b
  | .block _ c => codeOk c
  | .loop c => codeOk c
  | _ => true

theorem wp_loop_ix {c : Code} {A : Type} {Q : Exit → Act → World → Prop} (I : A → Act → World → Prop) (μ : A → Nat)
    (round : ∀ i a w, I i a w → c.wp P (Exit.then (fun a' w' => ∃ j, I j a' w' ∧ μ j < μ i) Q) a w) : ∀ i a w, I i a w → (Code.loop c).wp P Q a w := by
  intro i a w hI b k cs
  have key : ∀ n i a w, μ i = n → I i a w → ∃ e a' w', Q e a' w' ∧ Arrives P (lone (b.at a (.code c :: .inLoop c :: k)) cs w) b k cs e a' w' := by
    intro n
    induction n using Nat.strongRecOn with
    | _ n ih =>
      intro i a w hn hI
      obtain ⟨e, a₁, w₁, hq, harr⟩ := round i a w hI b (.inLoop c :: k) cs
      cases e with
      | normal =>
        obtain ⟨j, hI₁, hlt⟩ := hq
        obtain ⟨e₂, a₂, w₂, hq₂, harr₂⟩ := ih (μ j) (hn ▸ hlt) j a₁ w₁ rfl hI₁
        exact ⟨e₂, a₂, w₂, hq₂, .of_steps (Steps.trans harr (.one step_inLoop)) harr₂⟩
      | exit id => exact ⟨_, a₁, w₁, hq, .pass (x := .inLoop c) rfl (fun _ _ => .inl (by simp)) harr⟩
      | goto l => exact ⟨_, a₁, w₁, hq, .pass (x := .inLoop c) rfl (fun _ _ => .inl (by simp)) harr⟩
      | ret => exact ⟨_, a₁, w₁, hq, .pass (x := .inLoop c) rfl (fun _ _ => .inl (by simp)) harr⟩
      | panic ch => exact ⟨_, a₁, w₁, hq, .pass (x := .inLoop c) rfl (fun _ _ => .inl (by simp)) harr⟩
      | outgrown => exact ⟨_, a₁, w₁, hq, .pass (x := .inLoop c) rfl (fun _ _ => .inl (by simp)) harr⟩
  obtain ⟨e, a', w', hq, harr⟩ := key _ i a w rfl hI
  exact ⟨e, a', w', hq, .of_steps (.one step_loop) harr⟩

theorem swp_sound (tab : Tab P T) (hG : ∀ f as r, G f as r → ACall P f as r) (hmix : P.follows .mixedOrders = true) {N : Nat} {w0 : World} {X : Nat → Prop} : ∀ (c : Code) (s : St) (K : Ks) (Q : Exit → Act → World → Prop) (a : Act) (w : World) (ρ : Env),
    codeOk c = true → swp T G c s K → Rep T N w0 X s a w ρ → (∀ s a w ρ, K.n s → Rep T N w0 X s a w ρ → Q .normal a w) → (∀ s a w ρ, K.r s → Rep T N w0 X s a w ρ → Q .ret a w) →
    (∀ i s a w ρ, K.e i s → Rep T N w0 X s a w ρ → Q (.exit i) a w) → c.wp P Q a w := by
  intro c
  induction c with
  | skip => intro s K Q a w ρ _ h hr hn _ _; exact wp_skip (hn s a w ρ h hr)
  | ret => intro s K Q a w ρ _ h hr _ hret _; exact wp_ret (hret s a w ρ h hr)
  | region id ops draw =>
    intro s K Q a w ρ hok h hr hn _ _
    cases draw
    · exact reg_seq tab hG h hr hn
    · exact reg_draw tab hG hmix hok h hr hn
  | seq x y ihx ihy =>
    intro s K Q a w ρ hok h hr hn hret he
    simp only [codeOk, Bool.and_eq_true] at hok
    exact wp_seq (ihx s _ _ a w ρ hok.1 h hr (fun s a w ρ h hr => ihy s K Q a w ρ hok.2 h hr hn hret he) hret he)
  | cond c x y ihx ihy =>
    intro s K Q a w ρ hok h hr hn hret he
    simp only [codeOk, Bool.and_eq_true] at hok
    simp only [swp] at h
    have hev := hr.ev c
    split at h
    · rename_i t ht
      rw [ht, Den.bool_iff] at hev
      cases t
      · exact wp_cond hev (ihy s K Q a w ρ hok.2 h hr hn hret he)
      · exact wp_cond hev (ihx s K Q a w ρ hok.1 h hr hn hret he)
    · exact h.elim
  | block id c ih =>
    intro s K Q a w ρ hok h hr hn hret he
    refine wp_block (ih s _ _ a w ρ hok h hr hn hret (fun i s a w ρ h hr => ?_))
    simp only [Exit.inBlock]
    by_cases hi : i = id
    · subst hi
      rw [if_pos rfl]
      simp at h
      exact hn s a w ρ h hr
    · rw [if_neg hi]
      have hb : Nat.beq i id = false := by
        cases hb : Nat.beq i id
        · rfl
        · exact absurd (Nat.eq_of_beq_eq_true hb) hi
      have h' : (if Nat.beq i id = true then K.n s else K.e i s) := h
      rw [hb] at h'
      exact he i s a w ρ h' hr
  | exit id => intro s K Q a w ρ _ h hr _ _ he; exact wp_exit (he id s a w ρ h hr)
  | loop c ih =>
    intro s K Q a w ρ hok h hr hn hret he
    obtain ⟨A, I, μ, f, R, hR, ⟨i, hI, hs⟩, hround⟩ := h.h
    obtain ⟨ρ', hr'⟩ := (hR _ _ hs).h _ _ _ _ _ _ hr
    refine wp_loop_ix (fun i a w => I i ∧ ∃ ρ, Rep T N w0 X (f i) a w ρ) μ (fun i a w ⟨hI, ρ, hr⟩ => ?_) i a w ⟨hI, ρ', hr'⟩
    refine ih (f i) _ _ a w ρ hok (hround i hI) hr (fun s a w ρ h hr => ?_) hret he
    obtain ⟨j, hj, hlt, hsub⟩ := h
    obtain ⟨ρ'', hr''⟩ := (hR _ _ hsub).h _ _ _ _ _ _ hr
    exact ⟨j, ⟨hj, ρ'', hr''⟩, hlt⟩
  | rangeFunc f ps as b ih1 ih2 => intro s K Q a w ρ _ h; exact h.elim
  | scope c ih => intro s K Q a w ρ _ h; exact h.elim
  | label l => intro s K Q a w ρ _ h; exact h.elim
  | goto l => intro s K Q a w ρ _ h; exact h.elim
  | refuse y => intro s K Q a w ρ _ h; exact h.elim

/-! ### Results -/
def retOne (T : Nat → Option TI) (s : St) (t : Nat) : ResultVar → Option SV
  | .tmp k => view T s.mem t (getN .any s.slots k)
  | .cell k ty => (match getN .any s.slots k with
    | .ptr r o => (match getN .no s.mem r with
      | .chunk t' y => if Nat.beq o 0 && Nat.beq t' ty then view T s.mem t y else none
      | _ => none)
    | _ => none)
def retL (T : Nat → Option TI) (s : St) : List Nat → List ResultVar → Option (List SV)
  | t :: ts, v :: vs => (match retOne T s t v, retL T s ts vs with
    | some x, some xs => some (x :: xs)
    | _, _ => none)
  | [], [] => some []
  | _, _ => none
def packR : List SV → SV
  | [x] => x
  | l => .tup l
structure Fin (x : SV) (r : Unit → SV) : Prop where
  h : x = r ()
def retQ (T : Nat → Option TI) (ts : List Nat) (vs : List ResultVar) (s : St) (r : Unit → SV) : Prop :=
  match retL T s ts vs with
  | some xs => Fin (packR xs) r
  | none => False

def resSem (a : Act) (v : ResultVar) : Sem Value := match v with
  | .tmp t => pure (a.tmps.getD t undef)
  | .cell k ty => do loadVar ty (← asAddr (a.tmps.getD k undef))

theorem retOne_ok (tab : Tab P T) {N : Nat} {w0 : World} {X : Nat → Prop} {s : St} {a : Act} {w : World} {ρ : Env} (h : Rep T N w0 X s a w ρ) {t : Nat} {v : ResultVar} {x : SV} (hx : retOne T s t v = some x) :
    ∃ u, (resSem a v).run P w = .ok u w ∧ Den w X noEnv x u := by
  cases v with
  | tmp k => exact ⟨_, rfl, view_den0 h.m (fun b h => h) hx (h.slot k)⟩
  | cell k ty =>
    simp only [retOne] at hx
    cases hs : getN SV.any s.slots k with
    | ptr r o =>
      simp only [hs] at hx
      cases hm : getN Blk.no s.mem r with
      | chunk t' y =>
        simp only [hm] at hx
        split at hx
        · rename_i hc
          simp only [Bool.and_eq_true] at hc
          have h0 : o = 0 := Nat.eq_of_beq_eq_true hc.1
          have h1 : t' = ty := Nat.eq_of_beq_eq_true hc.2
          subst h0; subst h1
          have hb := h.m.blk r
          rw [hm] at hb
          obtain ⟨i', b, us, tt, e1, e2, e3, e4, e5, e6, e7⟩ := hb
          have hd := h.slot k
          rw [hs] at hd
          simp only [resSem]
          generalize a.tmps.getD k undef = q at hd
          cases hd with
          | ptr _ _ _ b' hb' =>
            have := hb' _ e2
            simp only [Value.pointer.injEq, Option.some.injEq, Addr.mk.injEq, and_true] at this
            subst this
            refine ⟨_, ?_, view_den0 h.m (fun b h => h) hx e7⟩
            have := run_load_at (P := P) (tab.tys.ok t' i' e1) (tab.sz.one t' i' e1) w b 0 us.toList (by rw [Array.length_toList, e5]; exact Nat.le_refl _) (fun j u hu => by rw [Nat.zero_add, cell_of_row w b j us tt (0, 0) e4]; simpa using hu)
            simpa [Instr.loadAt, Instr.sureAddr, asAddr] using this
        · cases hx
      | _ => simp only [hm] at hx; cases hx
    | _ => simp only [hs] at hx; cases hx

theorem retL_ok (tab : Tab P T) {N : Nat} {w0 : World} {X : Nat → Prop} {s : St} {a : Act} {w : World} {ρ : Env} (h : Rep T N w0 X s a w ρ) : ∀ (ts : List Nat) (vs : List ResultVar) (xs : List SV), retL T s ts vs = some xs →
    ∃ us : List Value, (vs.mapM (resSem a)).run P w = Result.ok us w ∧ DenL w X noEnv xs us
  | [], [], xs, hx => by
    simp only [retL] at hx
    injection hx with hx; subst hx
    exact ⟨[], rfl, rfl, fun i x u h => by simp at h⟩
  | t :: ts, [], xs, hx => by simp [retL] at hx
  | [], v :: vs, xs, hx => by simp [retL] at hx
  | t :: ts, v :: vs, xs, hx => by
    simp only [retL] at hx
    cases h1 : retOne T s t v with
    | none => rw [h1] at hx; cases hx
    | some x =>
      cases h2 : retL T s ts vs with
      | none => rw [h1, h2] at hx; cases hx
      | some ys =>
        rw [h1, h2] at hx
        injection hx with hx; subst hx
        obtain ⟨u, r1, d1⟩ := retOne_ok tab h h1
        obtain ⟨us, r2, d2⟩ := retL_ok tab h ts vs ys h2
        refine ⟨u :: us, ?_, by simp [d2.1], fun i x' u' hx' hu' => ?_⟩
        · rw [List.mapM_cons, Sem.run_bind, r1, Result.andThen_ok, Sem.run_bind, r2, Result.andThen_ok]
          rfl
        · cases i with
          | zero => simp at hx' hu'; subst hx'; subst hu'; exact d1
          | succ i => exact d2.2 i x' u' (by simpa using hx') (by simpa using hu')

theorem ret_ok (tab : Tab P T) {N : Nat} {w0 : World} {X : Nat → Prop} {s : St} {a : Act} {w : World} {ρ : Env} (h : Rep T N w0 X s a w ρ) {fn : Func} {r : Unit → SV} (hq : retQ T fn.resultTypes.toList fn.results.toList s r) :
    ∃ v, (results fn a.tmps).run P w = .ok v w ∧ Den w X noEnv (r ()) v := by
  unfold retQ at hq
  cases hx : retL T s fn.resultTypes.toList fn.results.toList with
  | none => rw [hx] at hq; exact hq.elim
  | some xs =>
    rw [hx] at hq
    have hq := hq.h
    obtain ⟨us, hr, hd⟩ := retL_ok tab h _ _ _ hx
    rw [← hq]
    have hm : (fn.results.mapM (resSem a)).run P w = .ok us.toArray w := by
      rw [Array.mapM_eq_mapM_toList, Sem.run_map, hr]
      rfl
    have hres : (results fn a.tmps).run P w = .ok (if h : us.toArray.size = 1 then us.toArray[0] else .tuple us.toArray) w := by
      unfold results
      rw [Sem.run_bind]
      refine (congrArg (fun r => Result.andThen r _) hm).trans ?_
      rfl
    refine ⟨_, hres, ?_⟩
    by_cases h1 : us.length = 1
    · obtain ⟨u, rfl⟩ := List.length_eq_one_iff.1 h1
      have hxl : xs.length = 1 := by rw [hd.1]; rfl
      obtain ⟨x, rfl⟩ := List.length_eq_one_iff.1 hxl
      simp only [packR]
      have := hd.2 0 x u rfl rfl
      simpa using this
    · have hp : packR xs = .tup xs := by
        have : xs.length ≠ 1 := by rw [hd.1]; exact h1
        match xs, this with
        | [], _ => rfl
        | [x], h => exact absurd rfl h
        | x :: y :: l, _ => rfl
      rw [hp, dif_neg (by simpa using h1)]
      exact Den.tup_iff.2 ⟨us, rfl, hd⟩

/-! ### A contract -/
def start (n : Nat) (args : List SV) : St := ⟨args ++ List.replicate (n - args.length) .any, List.replicate n .no⟩

theorem contract (tab : Tab P T) (hG : ∀ f as r, G f as r → ACall P f as r) (hmix : P.follows .mixedOrders = true) {f : FuncId} {fn : Func} {c : Code} {args : List SV} {r : SV} (hf : P.funcs[f]? = some fn) (hb : fn.body = some c)
    (hn : (fn.name == "runtime.NumGoroutine") = false) (hok : codeOk c = true)
    (h : swp T G c (start fn.ntmps args) ⟨fun s => retQ T fn.resultTypes.toList fn.results.toList s (fun _ => r), fun s => retQ T fn.resultTypes.toList fn.results.toList s (fun _ => r), fun _ _ => False⟩) : ACall P f args r := by
  refine ⟨⟨fn, hf, by rw [hb]; rfl, hn⟩, fun w X vs hX hd => ?_⟩
  refine calls_of_wp hf hb ?_
  have hrep : Rep T w.heap.size w X (start fn.ntmps args) { tmps := ⟨vs⟩ ++ Array.replicate (fn.ntmps - (⟨vs⟩ : Array Value).size) undef, defers := [] } w noEnv := by
    have hno : ∀ r, getN Blk.no (List.replicate fn.ntmps Blk.no) r = .no := by
      intro r
      rw [getN_eq, List.getElem?_replicate]
      split <;> rfl
    have hforb : ∀ b, Forb X (start fn.ntmps args).mem noEnv b ↔ X b := by
      intro b
      constructor
      · rintro (h | ⟨q, v, h1, h2, h3⟩)
        · exact h
        · simp only [start, hno] at h1
          cases h1
      · exact .inl
    refine ⟨⟨hX, Below.refl _ _, Nat.le_refl _, fun r => ?_, fun r r' v v' b h1 => ?_⟩, rfl, ?_, fun t => ?_⟩
    · simp only [start, hno]; rfl
    · simp only [start, hno] at h1; cases h1
    · simp only [start, Array.size_append, List.size_toArray, Array.size_replicate, List.length_append, List.length_replicate, hd.1]
    · have hden : ∀ x v, Den w X noEnv x v → Den w (Forb X (start fn.ntmps args).mem noEnv) noEnv x v := fun x v h => h.mono (Nat.le_refl _) (fun b _ h => ⟨fun hf => h ((hforb b).1 hf), rfl⟩)
      refine hden _ _ ?_
      simp only [start]
      rw [getN_eq]
      by_cases ht : t < args.length
      · have ht' : t < vs.length := by rw [← hd.1]; exact ht
        rw [List.getElem?_append_left ht, List.getElem?_eq_getElem ht]
        have : ((⟨vs⟩ : Array Value) ++ Array.replicate (fn.ntmps - (⟨vs⟩ : Array Value).size) undef).getD t undef = vs[t] := by
          simp [Array.getElem?_append, ht']
        rw [this]
        exact hd.2 t _ _ (List.getElem?_eq_getElem ht) (List.getElem?_eq_getElem ht')
      · rw [List.getElem?_append_right (by omega), List.getElem?_replicate]
        split <;> exact .any _ _
  refine swp_sound tab hG hmix c _ _ _ _ w noEnv hok h hrep (fun s a w' ρ hq hr => ?_) (fun s a w' ρ hq hr => ?_) (fun i s a w' ρ hq => hq.elim)
  · obtain ⟨v, h1, h2⟩ := ret_ok tab hr hq
    exact ⟨hr.defers, v, h1, v, rfl, h2, hr.m.below⟩
  · obtain ⟨v, h1, h2⟩ := ret_ok tab hr hq
    exact ⟨hr.defers, v, h1, v, rfl, h2, hr.m.below⟩

/-! ### Loops: what a round may write is forgotten, then said anew -/
def dstsL : List Oper → List Nat
  | [] => []
  | o :: l => (match o.dst with | some d => d :: dstsL l | none => dstsL l)
def assignedC : Code → List Nat
  | .region _ ops _ => dstsL ops.toList
  | .seq a b => assignedC a ++ assignedC b
  | .cond _ a b => assignedC a ++ assignedC b
  | .block _ c => assignedC c
  | .loop c => assignedC c
  | _ => []
def killN {A : Type} (x : A) : List Nat → List A → List A
  | [], l => l
  | d :: ds, l => killN x ds (setN x l d)
def putNs {A : Type} : List (Nat × A) → List A → List A
  | [], l => l
  | (d, x) :: ds, l => putNs ds (setN x l d)
def loopSt (c : Code) (s : St) (u : List (Nat × SV)) (v : List (Nat × Blk)) : St :=
  ⟨putNs u (killN .any (assignedC c) s.slots), putNs v (killN .no (assignedC c) s.mem)⟩

def WeakS : List SV → List SV → Prop
  | [], [] => True
  | _ :: xs, .any :: ys => WeakS xs ys
  | x :: xs, y :: ys => x = y ∧ WeakS xs ys
  | _, _ => False
def WeakM : List Blk → List Blk → Prop
  | [], [] => True
  | _ :: xs, .no :: ys => WeakM xs ys
  | x :: xs, y :: ys => x = y ∧ WeakM xs ys
  | _, _ => False
def WeakSt (s s' : St) : Prop := WeakS s.slots s'.slots ∧ WeakM s.mem s'.mem

theorem WeakS.get : ∀ {l l' : List SV}, WeakS l l' → l.length = l'.length ∧ ∀ t, getN SV.any l' t = .any ∨ getN SV.any l' t = getN SV.any l t
  | [], [], _ => ⟨rfl, fun t => .inl rfl⟩
  | [], y :: ys, h => by cases y <;> simp [WeakS] at h
  | x :: xs, [], h => by simp [WeakS] at h
  | x :: xs, y :: ys, h => by
    have : (y = .any ∨ y = x) ∧ WeakS xs ys := by
      cases y <;> first | exact ⟨.inl rfl, h⟩ | exact ⟨.inr h.1.symm, h.2⟩
    obtain ⟨h1, h2⟩ := this
    obtain ⟨h3, h4⟩ := WeakS.get h2
    refine ⟨by simp [h3], fun t => ?_⟩
    cases t with
    | zero => simpa [getN] using h1
    | succ t => simpa [getN] using h4 t
theorem WeakM.get : ∀ {l l' : List Blk}, WeakM l l' → l.length = l'.length ∧ ∀ t, getN Blk.no l' t = .no ∨ getN Blk.no l' t = getN Blk.no l t
  | [], [], _ => ⟨rfl, fun t => .inl rfl⟩
  | [], y :: ys, h => by cases y <;> simp [WeakM] at h
  | x :: xs, [], h => by simp [WeakM] at h
  | x :: xs, y :: ys, h => by
    have : (y = .no ∨ y = x) ∧ WeakM xs ys := by
      cases y <;> first | exact ⟨.inl rfl, h⟩ | exact ⟨.inr h.1.symm, h.2⟩
    obtain ⟨h1, h2⟩ := this
    obtain ⟨h3, h4⟩ := WeakM.get h2
    refine ⟨by simp [h3], fun t => ?_⟩
    cases t with
    | zero => simpa [getN] using h1
    | succ t => simpa [getN] using h4 t

theorem weak_sub {s s' : St} (h : WeakSt s s') : Sub T s s' := ⟨fun N w0 X a w ρ hr => by
  obtain ⟨h1, h2⟩ := WeakS.get h.1
  obtain ⟨h3, h4⟩ := WeakM.get h.2
  have env : ∀ r, (match getN Blk.no s'.mem r with | .no => none | _ => ρ r) = none ∨ (match getN Blk.no s'.mem r with | .no => none | _ => ρ r) = ρ r := by
    intro r
    cases getN Blk.no s'.mem r <;> first | exact .inl rfl | exact .inr rfl
  let ρ' : Env := fun r => match getN Blk.no s'.mem r with | .no => none | _ => ρ r
  have hown : ∀ b, owned s'.mem ρ' b → owned s.mem ρ b := by
    rintro b ⟨r, v, g1, g2, g3⟩
    rcases h4 r with e | e
    · rw [e] at g1; cases g1
    · refine ⟨r, v, by rw [← e]; exact g1, ?_, g3⟩
      rcases env r with e' | e'
      · rw [show ρ' r = none from e'] at g2; cases g2
      · rw [show ρ' r = ρ r from e'] at g2; exact g2
  have hden : ∀ x v, Den w (Forb X s.mem ρ) ρ x v → Den w (Forb X s'.mem ρ') ρ' x v := fun x v hd =>
    (hd.mono (Nat.le_refl _) (fun b _ hb => ⟨fun hf => hb (hf.imp id (hown b)), rfl⟩)).env fun r => by
      rcases env r with e | e
      · exact .inl e
      · exact .inr (.inl e)
  refine ⟨ρ', ⟨⟨hr.m.low, hr.m.below, hr.m.szN, fun r => ?_, fun r r' v v' b g1 g2 g3 g4 g5 g6 => ?_⟩, hr.defers, by rw [hr.size, h1], fun t => ?_⟩⟩
  · rcases h4 r with e | e
    · rw [e]
      show ρ' r = none
      simp only [ρ', e]
    · have hb := hr.m.blk r
      cases hB : getN Blk.no s'.mem r with
      | no => show ρ' r = none; simp only [ρ', hB]
      | _ =>
        have e2 : ρ' r = ρ r := by simp only [ρ', hB]
        rw [← e, hB] at hb
        rw [e2]
        refine BlkRep.lift (w := w) (Y := Forb X s.mem ρ) (ρ := ρ) (d := none) ⟨fun q => ?_, Nat.le_refl _, fun b _ hf => ⟨fun hf' => hf (hf'.imp id (hown b)), rfl⟩⟩ (fun _ h => by cases h) (fun _ _ _ _ _ => rfl) hb
        rcases env q with e | e
        · exact .inl e
        · exact .inr (.inl e)
  · have k1 : getN Blk.no s'.mem r = getN Blk.no s.mem r := (h4 r).resolve_left (fun e => by rw [e] at g1; cases g1)
    have k2 : getN Blk.no s'.mem r' = getN Blk.no s.mem r' := (h4 r').resolve_left (fun e => by rw [e] at g2; cases g2)
    have k3 : ρ' r = ρ r := (env r).resolve_left (fun e => by rw [show ρ' r = none from e] at g3; cases g3)
    have k4 : ρ' r' = ρ r' := (env r').resolve_left (fun e => by rw [show ρ' r' = none from e] at g4; cases g4)
    rw [k1] at g1
    rw [k2] at g2
    rw [k3] at g3
    rw [k4] at g4
    exact hr.m.inj r r' v v' b g1 g2 g3 g4 g5 g6
  · rcases h2 t with e | e
    · rw [e]; exact .any _ _
    · rw [e]; exact hden _ _ (hr.slot t)⟩

theorem loopQ {c : Code} {s : St} {K : Ks} {A : Type} (I : A → Prop) (μ : A → Nat) (u : A → List (Nat × SV)) (v : A → List (Nat × Blk)) (i0 : A) (h0 : I i0) (hs : WeakSt s (loopSt c s (u i0) (v i0)))
    (hr : ∀ i, I i → swp T G c (loopSt c s (u i) (v i)) ⟨fun s' => ∃ j, I j ∧ μ j < μ i ∧ WeakSt s' (loopSt c s (u j) (v j)), K.r, K.e⟩) : LoopQ T (fun s K => swp T G c s K) s K := by
  exact ⟨⟨A, I, μ, fun i => loopSt c s (u i) (v i), WeakSt, fun _ _ h => weak_sub h, ⟨i0, h0, hs⟩, fun i hi => hr i hi⟩⟩
end Go.Proofs.Ytopalajoinkgkaa
