/- The law of calls and of literals of slices. -/
import Derived.Test.YtopalajoinkgkaaRw
namespace Go.Proofs.Ytopalajoinkgkaa
open Go.RowKit
variable {P : Program} {T : Nat → Option TI} {G : Nat → List SV → SV → Prop}

theorem takeL {w : World} {Y : Nat → Prop} {ρ : Env} {sh : Option Nat} {l : List SV} {b cap' a n : Nat} {us : List Value} (hb : b < w.heap.size) (hx : ¬ Y b) (hc : n ≤ cap') (hu : ∀ (j : Nat) (u : Value), us[j]? = some u → w.cell? ⟨b, j, none⟩ = some u) (hl : l.length * wid sh ≤ us.length)
    (h : ∀ (i : Nat) (h1 : i < l.length), Den w Y noEnv l[i] (valAt sh us i)) (han : a + n ≤ l.length) : Den w Y ρ (.lst sh (takeN (dropN l a) n)) (.slice (some ⟨b, a * wid sh, none⟩) n cap') := by
  rw [takeN_eq, dropN_eq]
  have hlen : ((l.drop a).take n).length = n := by simp; omega
  have hm : (a + n) * wid sh ≤ us.length := Nat.le_trans (Nat.mul_le_mul_right _ han) hl
  have hm' : a * wid sh + n * wid sh ≤ us.length := by rw [← Nat.add_mul]; exact hm
  have := Den.lst (w := w) (X := Y) ρ sh ((l.drop a).take n) b (a * wid sh) cap' ((us.drop (a * wid sh)).take (n * wid sh)) hb hx (by omega) (fun j u hj => ?_) (by rw [hlen]; simp; omega) (fun i h1 => ?_)
  · rw [hlen] at this
    exact this
  · rw [List.getElem?_take] at hj
    split at hj
    · exact hu _ u (by simpa using hj)
    · cases hj
  · have hi : i < n := by omega
    have e : ((l.drop a).take n)[i] = l[a + i] := by simp
    rw [e]
    have hd := h (a + i) (by omega)
    have hq : i * wid sh + wid sh ≤ n * wid sh := by rw [← Nat.succ_mul]; exact Nat.mul_le_mul_right _ hi
    have hq2 : (a + i) * wid sh = a * wid sh + i * wid sh := Nat.add_mul _ _ _
    have : valAt sh ((us.drop (a * wid sh)).take (n * wid sh)) i = valAt sh us (a + i) := by
      rw [valAt_seg sh us (a + i) (by omega), valAt_seg sh _ i (by simp; omega)]
      congr 1
      apply List.ext_getElem?
      intro j
      simp only [List.getElem?_take, List.getElem?_drop]
      by_cases hj : j < wid sh
      · rw [if_pos hj, if_pos hj, if_pos (by omega)]
        congr 1
        omega
      · rw [if_neg hj, if_neg hj]
    rw [this]
    exact hd

/-- What a callee sees, and what a call gives back, where the call's own memory is not forbidden. -/
theorem view_den0 {N : Nat} {w0 w : World} {X : Nat → Prop} {mem : List Blk} {ρ : Env} (m : MRep T N w0 w X mem ρ) {Z : Nat → Prop} (hZ : ∀ b, Z b → X b) {t : Nat} {x y : SV} {v : Value} (hv : view T mem t x = some y) (hd : Den w (Forb X mem ρ) ρ x v) :
    Den w Z noEnv y v := by
  have hk : ∀ b, b < w.heap.size → ¬ Forb X mem ρ b → ¬ Z b ∧ w.heap[b]? = w.heap[b]? := fun b _ h2 => ⟨fun h => h2 (.inl (hZ b h)), rfl⟩
  have weak : ∀ {x v}, Den w (Forb X mem ρ) ρ x v → Den w Z ρ x v := fun h => h.mono (Nat.le_refl _) hk
  have weak' : ∀ {ρ' x v}, Den w (Forb X mem ρ) ρ' x v → Den w Z ρ' x v := fun h => h.mono (Nat.le_refl _) hk
  have own : ∀ b, N ≤ b → ¬ Z b := fun b hb h => by have := m.low b (hZ b h); omega
  unfold view at hv
  split at hv
  · rename_i r
    cases hd with
    | row _ _ ad n c hrow =>
      have hb := m.blk r
      split at hv
      · rename_i sh el l hm
        injection hv with hv; subst hv
        rw [hm] at hb
        obtain ⟨rv, e1, hb⟩ := hb
        have e2 := hrow _ e1
        subst e2
        rcases hb with ⟨e3, rfl⟩ | ⟨b, cap, cur, e3, h3, h4, h5, h6, h7, h8⟩
        · injection e3 with e3 e4 e5
          subst e4
          exact .lst0 _ _ _ _
        · simp only [Value.slice.injEq] at e3
          obtain ⟨rfl, rfl, rfl⟩ := e3
          have hle : l.length * wid sh ≤ cur.toList.length := by
            have := Nat.mul_le_mul_right (wid sh) h5
            rw [Array.length_toList (xs := cur)]
            omega
          refine .lst _ sh l b 0 c (cur.toList.take (l.length * wid sh)) (heap_lt h4) (own b h3) h5 (fun j u hj => ?_) (by rw [List.length_take]; omega) (fun i hi => ?_)
          · rw [List.getElem?_take] at hj
            split at hj
            · rw [Nat.zero_add, cell_of_row w b j cur el (0, 0) h4]
              simpa using hj
            · cases hj
          · have hq : i * wid sh + wid sh ≤ l.length * wid sh := by rw [← Nat.succ_mul]; exact Nat.mul_le_mul_right _ hi
            have hd := weak' (h8 i hi)
            have : valAt sh (cur.toList.take (l.length * wid sh)) i = valAt sh cur.toList i := by
              rw [valAt_seg sh cur.toList i (by omega), valAt_seg sh _ i (by rw [List.length_take]; omega)]
              congr 1
              apply List.ext_getElem?
              intro j
              simp only [List.getElem?_take, List.getElem?_drop]
              by_cases hj : j < wid sh
              · rw [if_pos hj, if_pos hj, if_pos (by omega)]
              · rw [if_neg hj, if_neg hj]
            rw [this]
            exact hd
      · rename_i sh l hm
        injection hv with hv; subst hv
        rw [hm] at hb
        obtain ⟨rv, e1, hb⟩ := hb
        have e2 := hrow _ e1
        subst e2
        exact weak' hb
      · cases hv
  · rename_i r sh a n
    cases hd with
    | rsl _ _ _ _ _ b c hnc hrow =>
      have hb := m.blk r
      split at hv
      · rename_i sh' el l hm
        split at hv
        · rename_i hs
          have hs := shEq_eq hs
          subst hs
          injection hv with hv; subst hv
          rw [hm] at hb
          obtain ⟨rv, e1, hb⟩ := hb
          obtain ⟨len, cap, e2, han⟩ := hrow _ e1
          subst e2
          rcases hb with ⟨e3, _⟩ | ⟨b', cap', cur, e3, h3, h4, h5, h6, h7, h8⟩
          · cases e3
          · simp only [Value.slice.injEq, Option.some.injEq, Addr.mk.injEq, and_true] at e3
            obtain ⟨rfl, rfl, rfl⟩ := e3
            have hle : l.length * wid sh ≤ cur.toList.length := by
              have := Nat.mul_le_mul_right (wid sh) h5
              rw [Array.length_toList (xs := cur)]
              omega
            exact takeL (heap_lt h4) (own b h3) hnc (fun j u hj => by rw [cell_of_row w b j cur el (0, 0) h4]; simpa using hj) hle (fun i hi => weak' (h8 i hi)) han
        · cases hv
      · cases hv
  · split at hv
    · rename_i hdat
      injection hv with hv; subst hv
      exact normNil_den ((weak hd).data hdat)
    · cases hv

/-- What a callee sees of what is not a live row. -/
theorem view_denY {N : Nat} {w0 w : World} {X : Nat → Prop} {mem : List Blk} {ρ : Env} (m : MRep T N w0 w X mem ρ) {t : Nat} {x y : SV} {v : Value} (hv : view T mem t x = some y) (hl : lends mem [x] = false) (hd : Den w (Forb X mem ρ) ρ x v) :
    Den w (Forb X mem ρ) noEnv y v := by
  unfold view at hv
  split at hv
  · rename_i r
    cases hd with
    | row _ _ ad n c hrow =>
      have hb := m.blk r
      split at hv
      · rename_i sh el l hm
        simp [lends, hm] at hl
      · rename_i sh l hm
        injection hv with hv; subst hv
        rw [hm] at hb
        obtain ⟨rv, e1, hb⟩ := hb
        have e2 := hrow _ e1
        subst e2
        exact hb
      · cases hv
  · simp [lends] at hl
  · split at hv
    · rename_i hdat
      injection hv with hv; subst hv
      exact normNil_den (hd.data hdat)
    · cases hv

theorem lends_cons {mem : List Blk} {x : SV} {l : List SV} (h : lends mem (x :: l) = false) : lends mem [x] = false ∧ lends mem l = false := by
  cases x <;> simp only [lends] at h ⊢ <;> first | exact ⟨trivial, h⟩ | (cases h; done) | exact ⟨rfl, h⟩ | skip
  generalize getN Blk.no mem _ = bk at *
  cases bk <;> simp_all

theorem views_den {N : Nat} {w0 w : World} {X : Nat → Prop} {mem : List Blk} {ρ : Env} (m : MRep T N w0 w X mem ρ) (Y : Nat → Prop) : ∀ (ts : List Nat) (xs ys : List SV) (vs : List Value), views T mem ts xs = some ys → xs.length = vs.length →
    (∀ (i : Nat) (x : SV) (v : Value), xs[i]? = some x → vs[i]? = some v → Den w (Forb X mem ρ) ρ x v) →
    (∀ (t : Nat) (x y : SV) (v : Value), x ∈ xs → view T mem t x = some y → Den w (Forb X mem ρ) ρ x v → Den w Y noEnv y v) → DenL w Y noEnv ys vs
  | [], [], ys, vs, h, hl, _, _ => by
    simp only [views] at h
    injection h with h; subst h
    cases vs with
    | nil => exact ⟨rfl, fun i x u hx => by simp at hx⟩
    | cons => simp at hl
  | [], _ :: _, _, _, h, _, _, _ => by simp [views] at h
  | _ :: _, [], _, _, h, _, _, _ => by simp [views] at h
  | t :: ts, x :: xs, ys, vs, h, hl, hd, hv => by
    simp only [views] at h
    split at h
    · rename_i y ys' h1 h2
      injection h with h; subst h
      cases vs with
      | nil => simp at hl
      | cons v vs =>
        have ih := views_den m Y ts xs ys' vs h2 (by simpa using hl) (fun i x v hx hv => hd (i + 1) x v hx hv) (fun t x y v hx => hv t x y v (by simp [hx]))
        refine ⟨by simp [ih.1], fun i a u ha hu => ?_⟩
        cases i with
        | zero =>
          simp at ha hu
          subst ha; subst hu
          exact hv t x _ _ (by simp) h1 (hd 0 _ _ rfl rfl)
        | succ i => exact ih.2 i a u (by simpa using ha) (by simpa using hu)
    · cases h

theorem run_callFunc {f : FuncId} {fn : Func} (hf : P.funcs[f]? = some fn) (hb : fn.body.isSome = true) (hn : (fn.name == "runtime.NumGoroutine") = false) (args : Array Value) (w : World) :
    (callFunc f args).run P w = .ok (.enter f args) w := by
  have hb' : fn.body.isNone = false := by cases h : fn.body <;> simp_all
  simp only [callFunc, Sem.run_bind, run_program, Result.andThen_ok, hf, hn, hb', Bool.false_eq_true, if_false, Sem.run_pure]

theorem exec_call {o : Oper} {f : FuncId} {as : Array Operand} {ats : Array TypeId} {a : Act} (hop : o.op = .call { callee := .value (.func f), args := as, argTypes := ats }) : execOp a.eval o = callFunc f (as.map a.eval) := by
  have ef : a.eval (.func f) = .func (.func f) #[] #[] := rfl
  unfold execOp
  simp [hop, resolve, Deferred.ofValue, invoke, ef]

theorem callG_ok (hG : ∀ f as r, G f as r → ACall P f as r) {o : Oper} {cl : Call} {f : Nat} (hc : cl.callee = .value (.func f)) (ho : o.op = .call cl) {e : Operand → SV} {mem : List Blk} {κ : SV → Prop} (h : rval T G (.call cl) e mem κ) :
    ∃ v, κ v ∧ Ok P T o e mem v mem := by
  obtain ⟨cal, args, ats⟩ := cl
  simp only at hc
  subst hc
  simp only [rval] at h
  split at h <;> try exact h.elim
  rename_i as has
  obtain ⟨r, hg, hdr, hfl, hκ⟩ := h.h
  refine ⟨r, hκ, ⟨fun a N w0 w X ρ m hd K Q hK => ?_⟩⟩
  have ac := hG _ _ _ hg
  obtain ⟨fn, hf, hb, hn⟩ := ac.fn
  unfold Oper.wp
  rw [exec_call (f := f) (ats := ats) (as := args) ho, run_callFunc hf hb hn]
  have hden : ∀ (i : Nat) (x : SV) (v : Value), (args.toList.map e)[i]? = some x → (args.toList.map a.eval)[i]? = some v → Den w (Forb X mem ρ) ρ x v := by
    intro i x v hx hv
    simp only [List.getElem?_map, Option.map_eq_some_iff] at hx hv
    obtain ⟨y, hy, rfl⟩ := hx
    obtain ⟨y', hy', rfl⟩ := hv
    rw [hy] at hy'
    injection hy' with hy'
    subst hy'
    refine hd y ?_
    rw [ho]
    simp only [Op.operands, Call.operands]
    have : y ∈ args := by simpa using List.mem_of_getElem? hy
    simp [this]
  have fin : ∀ (Y : Nat → Prop), (∀ b, Y b → b < w.heap.size) → DenL w Y noEnv as (args.toList.map a.eval) → (∀ (w' : World) v, Below w.heap.size w w' → Den w' Y noEnv r v → Den w' (Forb X mem ρ) ρ r v) →
      o.upon P a K Q (.ok (.enter f (args.map a.eval)) w) := by
    intro Y hY hL hY'
    have hcall := ac.h w Y (args.toList.map a.eval) hY hL
    have e1 : (⟨args.toList.map a.eval⟩ : Array Value) = args.map a.eval := by apply Array.ext'; simp
    rw [e1] at hcall
    rw [Oper.upon_enter]
    refine hcall.mono fun en w' hh => ?_
    obtain ⟨v, rfl, hd', hbel⟩ := hh
    exact hK v w' ρ (m.grow hbel) (hY' w' v hbel hd') ⟨fun _ => .inr (.inl rfl), hbel.size, fun b h1 h2 => ⟨h2, hbel.block b h1⟩⟩
  cases hlend : lends mem (args.toList.map e) with
  | true =>
    refine fin (fun _ => False) (fun b h => h.elim) (views_den m _ _ _ _ _ has (by simp) hden (fun t x y v _ h1 h2 => view_den0 m (fun b h => h.elim) h1 h2)) (fun w' v _ h => h.flat (hfl hlend))
  | false =>
    refine fin (Forb X mem ρ) (fun b h => m.forb_lt h) (views_den m _ _ _ _ _ has (by simp) hden (fun t x y v hx h1 h2 => view_denY m h1 ?_ h2)) (fun w' v _ h => h.env fun q => .inr (.inr (dataR_noref hdr q)))
    have : ∀ l, lends mem l = false → x ∈ l → lends mem [x] = false := by
      intro l
      induction l with
      | nil => intro _ hx; simp at hx
      | cons y l ih =>
        intro hl hx
        obtain ⟨h1, h2⟩ := lends_cons hl
        rcases List.mem_cons.1 hx with rfl | hx
        · exact h1
        · exact ih h2 hx
    exact this _ hlend hx

theorem data_atom {y : SV} (h : dataB y = true) (hn : ∀ m, y ≠ .agg m) : atomB y = true := by
  cases y with
  | agg m => exact absurd rfl (hn m)
  | _ => exact plain_atom h

/-- Parts laid one behind the other. -/
theorem fill_seq (size : Nat) : ∀ (vs : List Value) (k : Nat) (A : Array Value), (∀ v ∈ vs, v.cells.size = size) → (k + vs.length) * size ≤ A.size →
    ∃ R : Array Value, Instr.fill (fun i => some (i * size, size)) A ((vs.zipIdx k).map fun p => (p.2, p.1)) = some R ∧ R.size = A.size ∧ (∀ j : Nat, j < k * size → R[j]? = A[j]?) ∧
      ∀ (i : Nat) (v : Value), vs[i]? = some v → ∀ j : Nat, j < size → R[(k + i) * size + j]? = v.cells[j]?
  | [], k, A, _, _ => ⟨A, by simp [Instr.fill], rfl, fun _ _ => rfl, fun i v h => by simp at h⟩
  | v :: vs, k, A, hv, hA => by
    have h1 := hv v (by simp)
    have e0 : (k + 1) * size ≤ (k + (v :: vs).length) * size := Nat.mul_le_mul_right _ (by simp only [List.length_cons]; omega)
    have e1 : (k + 1) * size = k * size + size := Nat.succ_mul _ _
    have hl : k * size + 0 + v.cells.toList.length ≤ A.size := by rw [Array.length_toList, h1]; omega
    obtain ⟨g1, g2⟩ := fold_set v.cells.toList 0 (k * size) A hl
    have e : v.cells.zipIdx.foldl (fun (cs : Array Value) (p : Value × Nat) => cs.setIfInBounds (k * size + p.2) p.1) A = (v.cells.toList.zipIdx 0).foldl (fun (cs : Array Value) (p : Value × Nat) => cs.setIfInBounds (k * size + p.2) p.1) A := by
      rw [← Array.foldl_toList, Array.toList_zipIdx]
    obtain ⟨R, r1, r2, r3, r4⟩ := fill_seq size vs (k + 1) (v.cells.zipIdx.foldl (fun (cs : Array Value) (p : Value × Nat) => cs.setIfInBounds (k * size + p.2) p.1) A) (fun u hu => hv u (by simp [hu])) (by
      rw [e, g1]
      have : (k + 1 + vs.length) * size = (k + (v :: vs).length) * size := by congr 1; simp; omega
      omega)
    refine ⟨R, ?_, by rw [r2, e, g1], fun j hj => ?_, fun i u hu j hj => ?_⟩
    · simp only [List.zipIdx_cons, List.map_cons, Instr.fill]
      rw [if_neg (by simp [h1]; omega)]
      exact r1
    · rw [r3 j (by omega), e, g2 j, if_neg (by omega)]
    · cases i with
      | zero =>
        simp at hu
        subst hu
        rw [Nat.add_zero, r3 _ (by omega), e, g2, if_pos (by rw [Array.length_toList, h1]; omega)]
        simp
      | succ i =>
        have := r4 i u (by simpa using hu) j hj
        rw [← this, show k + (i + 1) = k + 1 + i by omega]

theorem litL_some {j : TI} {e : Operand → SV} : ∀ (ps : List (Nat × Operand)) (k : Nat) (l : List SV), litL j e k ps = some l → l = ps.map (fun p => e p.2) ∧ ps = ((ps.map (·.2)).zipIdx k).map (fun p => (p.2, p.1)) ∧
    ∀ p ∈ ps, dataB (e p.2) = true ∧ (∃ xs, cellsA (e p.2) = some xs ∧ xs.length = j.size) ∧ ((∃ m, e p.2 = .agg m) ↔ ∃ n, j.shape = some n)
  | [], k, l, h => by
    simp only [litL] at h
    injection h with h; subst h
    simp
  | (i, x) :: ps, k, l, h => by
    simp only [litL] at h
    split at h
    · rename_i hc
      simp only [Bool.and_eq_true, litOk] at hc
      obtain ⟨h1, ⟨h2, h3⟩, h4⟩ := hc
      have h1 : i = k := Nat.eq_of_beq_eq_true h1
      subst h1
      cases hl' : litL j e (i + 1) ps with
      | none => rw [hl'] at h; cases h
      | some l' =>
        rw [hl'] at h
        injection h with h; subst h
        obtain ⟨i1, i2, i3⟩ := litL_some ps (i + 1) l' hl'
        refine ⟨by simp [i1], by simp only [List.map_cons, List.zipIdx_cons]; rw [← i2], fun p hp => ?_⟩
        rcases List.mem_cons.1 hp with rfl | hp
        · refine ⟨h2, ?_, ?_⟩
          · cases hxs : cellsA (e x) with
            | some xs => rw [hxs] at h3; exact ⟨xs, rfl, Nat.eq_of_beq_eq_true h3⟩
            | none => rw [hxs] at h3; cases h3
          · constructor
            · rintro ⟨m, hm⟩
              rw [hm] at h4
              cases hs : j.shape with
              | none => rw [hs] at h4; cases h4
              | some n => exact ⟨n, rfl⟩
            · rintro ⟨n, hn⟩
              rw [hn] at h4
              cases hx : e x with
              | agg m => exact ⟨m, rfl⟩
              | _ => rw [hx] at h4; cases h4
        · exact i3 p hp
    · cases h

theorem lit_ok (tys : Types P T) (sz : Sizes T) {o : Oper} {t n : Nat} {ps : Array (Nat × Operand)} (ho : o.op = .buildSlice t n ps) {e : Operand → SV} {mem : List Blk} {κ : SV → Prop} (h : rval T G (.buildSlice t n ps) e mem κ) :
    ∃ v, κ v ∧ Ok P T o e mem v mem := by
  simp only [rval] at h
  split at h <;> try exact h.elim
  rename_i i ht
  split at h <;> try exact h.elim
  rename_i el hk
  split at h <;> try exact h.elim
  rename_i j he
  split at h <;> try exact h.elim
  rename_i hc
  simp only [Bool.and_eq_true, Bool.not_eq_true'] at hc
  obtain ⟨⟨c1, c2⟩, c3⟩ := hc
  have c1 : ps.toList.length = n := Nat.eq_of_beq_eq_true c1
  have c2 : n * j.size ≤ 16777216 := Nat.le_of_ble_eq_true c2
  have c3 : j.size ≠ 0 := by intro h0; rw [h0] at c3; simp at c3
  split at h <;> try exact h.elim
  rename_i l hl
  obtain ⟨l1, l2, l3⟩ := litL_some ps.toList 0 l hl
  have tok := tys.ok t i ht
  have tj := tys.ok el j he
  have hw := TI.wid_size (sz.one _ _ he)
  refine ⟨_, h, .of_run fun a N w0 w X ρ m hd => ?_⟩
  have hop : ∀ p ∈ ps.toList, Den w (Forb X mem ρ) ρ (e p.2) (a.eval p.2) := by
    intro p hp
    refine hd p.2 ?_
    rw [ho]
    simp only [Op.operands]
    exact List.mem_toArray.2 (List.mem_map.2 ⟨p, hp, rfl⟩)
  obtain ⟨z, hz, _, hzs, hz1, _⟩ := tj.zero_run
  have hvs : ∀ v ∈ ps.toList.map (fun p => a.eval p.2), v.cells.size = j.size := by
    intro v hv
    obtain ⟨p, hp, rfl⟩ := List.mem_map.1 hv
    obtain ⟨_, ⟨xs, hx, hxl⟩, _⟩ := l3 p hp
    have := (cellsA_den hx (hop p hp)).1.1
    rw [hxl] at this
    rw [this, Array.length_toList]
  have hsz0 : ((Array.range (n * j.size)).map (z.cells[· % z.cells.size]!)).size = n * j.size := by simp
  obtain ⟨R, r1, r2, _, r4⟩ := fill_seq j.size (ps.toList.map fun p => a.eval p.2) 0 ((Array.range (n * j.size)).map (z.cells[· % z.cells.size]!)) hvs (by rw [hsz0, List.length_map, c1, Nat.zero_add]; exact Nat.le_refl _)
  have hparts : (ps.map fun (x : Nat × Operand) => (x.1, a.eval x.2)).toList = ((ps.toList.map fun p => a.eval p.2).zipIdx 0).map (fun p => (p.2, p.1)) := by
    rw [Array.toList_map]
    conv => lhs; rw [l2]
    simp only [List.map_map, List.zipIdx_map]
    rfl
  refine ⟨.slice (some ⟨w.heap.size, 0, none⟩) n n, { w with heap := w.heap.push (.cells R el) }, ?_, ?_, ?_⟩
  · rw [← hparts] at r1
    have hn0 : ¬ n * j.size > 2 ^ 24 := by omega
    simp only [execOp, ho, Instr.buildSlice, Sem.run_bind, run_underlying (tok.und_slice hk), Result.andThen_ok, tj.sizeOf, if_neg hn0]
    by_cases h0 : n * j.size = 0
    · have e3 : ∀ (f g : Nat → Value), (Array.range (n * j.size)).map f = (Array.range (n * j.size)).map g := fun f g => by rw [h0]; simp
      rw [e3 _ ((#[] : Array Value)[· % (#[] : Array Value).size]!)] at r1
      simp only [if_pos h0, Sem.run_bind, Sem.run_pure, Result.andThen_ok, r1, newRow, run_newObj]
    · simp only [if_neg h0, Sem.run_bind, Sem.run_pure, Result.andThen_ok, hz, r1, newRow, run_newObj]
  · have hlen : l.length = n := by rw [l1, List.length_map, c1]
    have hRs : R.toList.length = l.length * wid j.shape := by rw [Array.length_toList, r2, hsz0, hlen, ← hw]
    have := Den.lst (w := { w with heap := w.heap.push (.cells R el) }) (X := Forb X mem ρ) ρ j.shape l w.heap.size 0 n R.toList (by simp) (fun hf => by have := m.forb_lt hf; omega) (by omega)
      (fun q u hu => by rw [Nat.zero_add, cell_of_row _ w.heap.size q R el (0, 0) (by simp)]; simpa using hu) hRs (fun q hq => ?_)
    · rw [hlen] at this
      exact this
    · have hq' : q < ps.toList.length := by rw [c1, ← hlen]; exact hq
      have hmem : ps.toList[q] ∈ ps.toList := List.getElem_mem hq'
      have hlq : l[q] = e (ps.toList[q]).2 := by
        have : l[q]? = some (e (ps.toList[q]).2) := by rw [l1, List.getElem?_map, List.getElem?_eq_getElem hq']; rfl
        rw [List.getElem?_eq_getElem hq] at this
        injection this
      obtain ⟨d1, ⟨xs, hx, hxl⟩, d3⟩ := l3 _ hmem
      have hden := hop _ hmem
      have hget := r4 q (a.eval (ps.toList[q]).2) (by rw [List.getElem?_map, List.getElem?_eq_getElem hq']; rfl)
      have hseg : ∀ k, k < j.size → R[q * j.size + k]? = (a.eval (ps.toList[q]).2).cells[k]? := fun k hk' => by have := hget k hk'; rw [Nat.zero_add] at this; exact this
      have hcs := hvs (a.eval (ps.toList[q]).2) (List.mem_map.2 ⟨_, hmem, rfl⟩)
      have : valAt j.shape R.toList q = a.eval (ps.toList[q]).2 := by
        cases hs : j.shape with
        | none =>
          have h1 : j.size = 1 := by rw [hw, hs]; rfl
          have hna : ∀ m, e (ps.toList[q]).2 ≠ .agg m := fun m hm => by obtain ⟨n', hn'⟩ := d3.1 ⟨m, hm⟩; rw [hs] at hn'; cases hn'
          have hat : atomB (e (ps.toList[q]).2) = true := data_atom d1 hna
          have h0 := hseg 0 (by omega)
          rw [one_cells (hden.one hat), h1] at h0
          simp only [valAt]
          simp at h0
          simp [h0]
        | some n' =>
          have h1 : j.size = n' := by rw [hw, hs]; rfl
          obtain ⟨mm, hmm⟩ := d3.2 ⟨n', hs⟩
          rw [hmm] at hden
          obtain ⟨cs, hev, hcs'⟩ := Den.agg_iff.1 hden
          rw [hev] at hseg hcs ⊢
          simp only [Value.cells, List.size_toArray] at hcs
          simp only [valAt]
          congr 2
          apply List.ext_getElem?
          intro k
          rw [List.getElem?_take, List.getElem?_drop]
          by_cases hk' : k < n'
          · rw [if_pos hk']
            have := hseg k (by omega)
            rw [h1] at this
            simpa [Value.cells] using this
          · rw [if_neg hk', List.getElem?_eq_none (by omega)]
      rw [hlq, this]
      refine (hden.data d1).mono (by simp) (fun b h1 h2 => ⟨h2, ?_⟩)
      show (w.heap.push _)[b]? = _
      rw [Array.getElem?_push, if_neg (by omega)]
  · exact (Below.refl _ _).alloc (Nat.le_refl _) _

theorem rval_ok (tys : Types P T) (sz : Sizes T) (hG : ∀ f as r, G f as r → ACall P f as r) {o : Oper} {e : Operand → SV} {mem : List Blk} {κ : SV → Prop} (h : rval T G o.op e mem κ) : ∃ v, κ v ∧ Ok P T o e mem v mem := by
  generalize ho : o.op = op at h
  cases op
  case load t x => exact load_ok tys sz ho h
  case indexAddr t x ix => exact idx_ok tys sz ho h
  case buildSlice t n ps => exact lit_ok tys sz ho h
  case call c =>
    cases hc : c.callee with
    | value f =>
      cases f with
      | func f => exact callG_ok hG hc ho h
      | _ => simp only [rval, hc] at h
    | builtin b =>
      cases b
      case len => exact len_ok tys hc ho h
      all_goals simp only [rval, hc] at h
    | invoke r s => simp only [rval, hc] at h
  all_goals exact h.elim
end Go.Proofs.Ytopalajoinkgkaa
