/- The law of the evaluator of operations that read, of literals of slices, and of calls. -/
import Derived.Test.YtligbjbkecmecaaDoorRv
namespace Go.Proofs.YtligbjbkecmecaaDoor
set_option linter.unusedVariables false
set_option linter.unusedSimpArgs false
open Go.RowKit
variable {P : Program} {T : Nat → Option TI}

/-- A part of a struct's cells, loaded. -/
theorem load_part (tys : Types P T) (sz : Sizes T) {t : Nat} {i : TI} (ht : T t = some i) {w : World} {Y : Nat → Prop} {ρ : Env} {l : List SV} {us : List Value} (hd : DenL w Y ρ l us) {o : Nat} (ho : o + i.size ≤ l.length)
    (b o' : Nat) (hc : ∀ j u, us[j]? = some u → w.cell? ⟨b, o' + j, none⟩ = some u) :
    ∃ u, (Instr.loadAt t (.pointer (some ⟨b, o' + o, none⟩))).run P w = .ok u w ∧ Den w Y ρ (partS i l o) u := by
  refine ⟨_, run_load_at (tys.ok t i ht) (sz.one t i ht) w b (o' + o) (us.drop o) (by have := hd.1; rw [List.length_drop]; omega) (fun j u hu => ?_), partS_den hd ho (sz.one t i ht)⟩
  rw [Nat.add_assoc]
  exact hc (o + j) u (by simpa using hu)

theorem loadE_ok (tys : Types P T) (sz : Sizes T) {t : Nat} {i : TI} (ht : T t = some i) {sh : Option Nat} {y : SV} {o : Nat} {κ : SV → Prop} (h : loadE i sh y o κ) :
    ∃ x, κ x ∧ ∀ (w : World) (Y : Nat → Prop) (ρ ρ' : Env) (us : List Value) (b o' : Nat), us.length = wid sh → Den w Y ρ' y (valAt sh us 0) → (∀ (j : Nat) (u : Value), us[j]? = some u → w.cell? ⟨b, o' + j, none⟩ = some u) →
      ∃ u, (Instr.loadAt t (.pointer (some ⟨b, o' + o, none⟩))).run P w = .ok u w ∧ Den w Y ρ x u := by
  unfold loadE at h
  split at h
  case isFalse => exact h.elim
  rename_i hdat
  split at h
  · rename_i hc
    simp only [Bool.and_eq_true] at hc
    have h0 : o = 0 := Nat.eq_of_beq_eq_true hc.1
    have hs := shEq_eq hc.2
    refine ⟨y, h, fun w Y ρ ρ' us b o' hl hd hcell => ⟨_, ?_, hd.data hdat⟩⟩
    subst h0; subst hs
    rw [Nat.add_zero]
    exact run_load_at (tys.ok t i ht) (sz.one t i ht) w b o' us (by rw [hl, ← TI.wid_size (sz.one t i ht)]; exact Nat.le_refl _) hcell
  · split at h <;> try exact h.elim
    rename_i l n
    split at h
    · rename_i hlen
      refine ⟨_, h, fun w Y ρ ρ' us b o' hl hd hcell => ?_⟩
      have hd := hd.data (ρ' := ρ) hdat
      rw [valAt_some_full (by simp only [wid] at hl; omega)] at hd
      obtain ⟨cs, e, hd⟩ := Den.agg_iff.1 hd
      injection e with e
      injection e with e
      subst e
      exact load_part tys sz ht hd hlen b o' hcell
    · exact h.elim

theorem run_index_slice (tys : Types P T) {t el : Nat} {i j : TI} (ht : T t = some i) (hk : i.kind = .slice el) (he : T el = some j) (k : IntKind) (b off len cap q : Nat) (hq : q < len) (w : World) :
    (Instr.indexAt t (.slice (some ⟨b, off, none⟩) len cap) (.int k (q : Int))).run P w = .ok (.pointer (some ⟨b, off + q * j.size, none⟩)) w := by
  have hu := (tys.ok t i ht).und_slice hk
  have hs := (tys.ok el j he).sizeOf w
  simp only [Instr.indexAt, asIntOf, Sem.run_bind, Sem.run_pure, Result.andThen_ok, run_underlying hu]
  rw [if_pos ⟨by omega, by omega⟩]
  simp [hs, addr_add]

/-- A reading operation, resolved. -/
structure RdOk (P : Program) (T : Nat → Option TI) (o : Oper) (e : Operand → SV) (μ : Nat → Blk) (x : SV) : Prop where
  h : ∀ (mem : Mem), Sees μ mem → ∀ (a : Act) (N : Nat → Prop) (w0 w : World) (X : Nat → Prop) (ρ : Env), MRep T N w0 w X mem ρ → (∀ y ∈ o.op.operands, Den w (Forb X mem ρ) ρ (e y) (a.eval y)) →
    ∃ u, (execOp a.eval o).run P w = .ok (.value u) w ∧ Den w (Forb X mem ρ) ρ x u

theorem load_ok (tys : Types P T) (sz : Sizes T) {o : Oper} {t : Nat} {x : Operand} (ho : o.op = .load t x) {e : Operand → SV} {μ : Nat → Blk} {κ : SV → Prop} (h : rval T (.load t x) e μ κ) : ∃ v, κ v ∧ RdOk P T o e μ v := by
  have key : ∀ v, (∀ (mem : Mem), Sees μ mem → ∀ (a : Act) (N : Nat → Prop) (w0 w : World) (X : Nat → Prop) (ρ : Env), MRep T N w0 w X mem ρ → Den w (Forb X mem ρ) ρ (e x) (a.eval x) →
      ∃ u, (Instr.loadAt t (a.eval x)).run P w = .ok u w ∧ Den w (Forb X mem ρ) ρ v u) → RdOk P T o e μ v := by
    intro v hv
    refine ⟨fun mem hμ a N w0 w X ρ m hd => ?_⟩
    obtain ⟨u, hr, hd'⟩ := hv mem hμ a N w0 w X ρ m (hd x (by simp [ho, Op.operands]))
    exact ⟨u, by simp only [execOp, ho, Sem.run_bind, hr, Result.andThen_ok, Sem.run_pure], hd'⟩
  simp only [rval] at h
  cases ht : T t with
  | none => simp only [ht] at h
  | some i =>
    simp only [ht] at h
    split at h <;> try exact h.elim
    · rename_i r off hx
      split at h <;> try exact h.elim
      rename_i t' y hm
      have base : ∀ (mem : Mem), Sees μ mem → ∀ (a : Act) (N : Nat → Prop) (w0 w : World) (X : Nat → Prop) (ρ : Env), MRep T N w0 w X mem ρ → Den w (Forb X mem ρ) ρ (e x) (a.eval x) →
          ∃ i' b us, T t' = some i' ∧ us.length = i'.size ∧ (∀ u ∈ us, u.oneCell' = true) ∧ Den w (Forb X mem ρ) ρ y (valAt i'.shape us 0) ∧ a.eval x = .pointer (some ⟨b, off, none⟩) ∧ ∀ (j : Nat) (u : Value), us[j]? = some u → w.cell? ⟨b, j, none⟩ = some u := by
        intro mem hμ a N w0 w X ρ m hd
        have hb := hμ.blk m r
        rw [hm] at hb
        obtain ⟨i', b, us, ty, h1, h2, h3, h4, h5, h7, h6⟩ := hb.resolve_left (by simp)
        rw [hx] at hd
        generalize hev : a.eval x = v at hd
        cases hd with
        | ptr _ _ _ b' hb' =>
          have := hb' _ h2
          simp only [Value.pointer.injEq, Option.some.injEq, Addr.mk.injEq, and_true] at this
          subst this
          exact ⟨i', b, us.toList, h1, by simpa using h5, h7, h6, rfl, fun j u hu => by rw [cell_of_row w b j us ty (0, 0) h4]; simpa using hu⟩
      split at h
      · rename_i hc
        simp only [Bool.and_eq_true] at hc
        have h0 : off = 0 := Nat.eq_of_beq_eq_true hc.1
        have h1 : t' = t := Nat.eq_of_beq_eq_true hc.2
        refine ⟨y, h, key y fun mem hμ a N w0 w X ρ m hd => ?_⟩
        obtain ⟨i', b, us, e1, e2, e3, e4, e5, e6⟩ := base mem hμ a N w0 w X ρ m hd
        subst h0; subst h1
        rw [ht] at e1
        injection e1 with e1
        subst e1
        rw [e5]
        exact ⟨_, run_load_at (tys.ok t' i ht) (sz.one t' i ht) w b 0 us (by omega) (fun j u hu => by rw [Nat.zero_add]; exact e6 j u hu), e4⟩
      · split at h <;> try exact h.elim
        rename_i l
        split at h
        · rename_i hlen
          refine ⟨_, h, key _ fun mem hμ a N w0 w X ρ m hd => ?_⟩
          obtain ⟨i', b, us, e1, e2, e3, e4, e5, e6⟩ := base mem hμ a N w0 w X ρ m hd
          have hd' : DenL w (Forb X mem ρ) ρ l us := by
            cases hs : i'.shape with
            | none =>
              rw [hs] at e4
              obtain ⟨cs, e7, _⟩ := Den.agg_iff.1 e4
              simp only [valAt] at e7
              cases hu : us[0]? with
              | none => rw [hu] at e7; simp [undef] at e7
              | some u =>
                rw [hu] at e7
                have := e3 u (List.mem_of_getElem? hu)
                simp only [Option.getD_some] at e7
                rw [e7] at this
                simp [Value.oneCell'] at this
            | some n =>
              rw [hs] at e4
              have hn : n = i'.size := by
                have := TI.wid_size (sz.one _ _ e1)
                rw [hs] at this
                exact this.symm
              rw [valAt_some_full (by omega)] at e4
              obtain ⟨cs, e7, hcs⟩ := Den.agg_iff.1 e4
              injection e7 with e7
              injection e7 with e7
              subst e7
              exact hcs
          rw [e5]
          have := load_part tys sz ht hd' hlen b 0 (fun j u hu => by rw [Nat.zero_add]; exact e6 j u hu)
          rw [Nat.zero_add] at this
          exact this
        · exact h.elim
    · rename_i sh y off hx
      obtain ⟨v, hκ, hv⟩ := loadE_ok tys sz ht h
      refine ⟨v, hκ, key v fun mem hμ a N w0 w X ρ m hd => ?_⟩
      rw [hx] at hd
      generalize hev : a.eval x = q at hd
      cases hd with
      | eptr _ _ _ _ b o us hb hx' hu hl hy => exact hv w _ ρ _ us b o hl hy hu
    · rename_i r sh j off hx
      split at h <;> try exact h.elim
      rename_i l hm
      obtain ⟨y, hy, h⟩ := h.h
      obtain ⟨v, hκ, hv⟩ := loadE_ok tys sz ht h
      refine ⟨v, hκ, key v fun mem hμ a N w0 w X ρ m hd => ?_⟩
      obtain ⟨rv, e1, ad, cp, rfl, h2, h3⟩ := listB_den hμ m hm
      rw [hx] at hd
      generalize hev : a.eval x = q at hd
      obtain ⟨hj, rfl⟩ := List.getElem?_eq_some_iff.1 hy
      rcases h3 with rfl | ⟨b, o1, us, rfl, g1, g2, g3, g6, g4, g5⟩
      · simp at hj
      · cases hd with
        | rptr _ _ _ _ _ b' o' hb' =>
          obtain ⟨len, cap', e2⟩ := hb' _ e1
          simp only [Value.slice.injEq, Option.some.injEq, Addr.mk.injEq, and_true] at e2
          obtain ⟨⟨rfl, rfl⟩, _, _⟩ := e2
          have hle : j * wid sh + wid sh ≤ us.length := by
            rw [g3, ← Nat.succ_mul]
            exact Nat.mul_le_mul_right _ (by omega)
          refine hv w _ ρ noEnv ((us.drop (j * wid sh)).take (wid sh)) b (o1 + j * wid sh) (by simp; omega) ?_ (fun k u hu => ?_)
          · rw [← valAt_seg _ _ _ hle]
            exact g5 j hj
          · rw [List.getElem?_take] at hu
            split at hu
            · rw [Nat.add_assoc]
              exact g4 _ u (by simpa using hu)
            · cases hu
    · rename_i y hx
      split at h <;> try exact h.elim
      rename_i hsh
      refine ⟨y, h, key y fun mem hμ a N w0 w X ρ m hd => ?_⟩
      rw [hx] at hd
      generalize hev : a.eval x = q at hd
      cases hd with
      | cel _ _ b o1 u hb hx' hu hy =>
        have hsz : i.size = 1 := by
          have := TI.wid_size (sz.one t i ht)
          rw [hsh] at this
          exact this
        have := run_load_at (P := P) (tys.ok t i ht) (sz.one t i ht) w b o1 [u] (by simp [hsz]) (fun j u' hj => by
          cases j with
          | zero => simp at hj; subst hj; exact hu
          | succ j => simp at hj)
        refine ⟨_, this, ?_⟩
        rw [hsh]
        simpa [valAt] using hy

theorem idx_ok (tys : Types P T) (sz : Sizes T) {o : Oper} {t : Nat} {x ix : Operand} (ho : o.op = .indexAddr t x ix) {e : Operand → SV} {μ : Nat → Blk} {κ : SV → Prop} (h : rval T (.indexAddr t x ix) e μ κ) : ∃ v, κ v ∧ RdOk P T o e μ v := by
  have key : ∀ v, (∀ (mem : Mem), Sees μ mem → ∀ (a : Act) (N : Nat → Prop) (w0 w : World) (X : Nat → Prop) (ρ : Env), MRep T N w0 w X mem ρ → Den w (Forb X mem ρ) ρ (e x) (a.eval x) → Den w (Forb X mem ρ) ρ (e ix) (a.eval ix) →
      ∃ u, (Instr.indexAt t (a.eval x) (a.eval ix)).run P w = .ok u w ∧ Den w (Forb X mem ρ) ρ v u) → RdOk P T o e μ v := by
    intro v hv
    refine ⟨fun mem hμ a N w0 w X ρ m hd => ?_⟩
    obtain ⟨u, hr, hd'⟩ := hv mem hμ a N w0 w X ρ m (hd x (by simp [ho, Op.operands])) (hd ix (by simp [ho, Op.operands]))
    exact ⟨u, by simp only [execOp, ho, Sem.run_bind, hr, Result.andThen_ok, Sem.run_pure], hd'⟩
  simp only [rval] at h
  cases ht : T t with
  | none => simp only [ht] at h
  | some i =>
    simp only [ht] at h
    simp only [O.hln] at h
    split at h <;> try exact h.elim
    rotate_left
    · rename_i n el hk
      split at h <;> try exact h.elim
      rename_i j k m he hix
      have run : ∀ (w : World) (b o : Nat) (q : Nat), q < n → (Instr.indexAt t (.pointer (some ⟨b, o, none⟩)) (.int k (q : Int))).run P w = .ok (.pointer (some ⟨b, o + q * j.size, none⟩)) w := by
        intro w b o q hq
        have hu := (tys.ok t i ht).und_array hk
        have hs := (tys.ok el j he).sizeOf w
        simp only [Instr.indexAt, asIntOf, Sem.run_bind, Sem.run_pure, Result.andThen_ok, run_underlying hu, Instr.sureAddr]
        rw [if_pos ⟨by omega, by omega⟩]
        simp [hs, addr_add]
      split at h <;> try exact h.elim
      · rename_i r o hx
        obtain ⟨q, ⟨hn, hq⟩, h⟩ := h.h
        refine ⟨_, h, key _ fun mem hμ a N w0 w X ρ m hd hdi => ?_⟩
        rw [hx] at hd
        rw [hix, Den.int_iff] at hdi
        rw [hdi, hn]
        generalize a.eval x = v at hd
        cases hd with
        | ptr _ _ _ b hb => exact ⟨_, run w b o q hq, .ptr _ _ _ b hb⟩
      · rename_i s y o hx
        obtain ⟨q, ⟨hn, hq⟩, h⟩ := h.h
        refine ⟨_, h, key _ fun mem hμ a N w0 w X ρ m hd hdi => ?_⟩
        rw [hx] at hd
        rw [hix, Den.int_iff] at hdi
        rw [hdi, hn]
        generalize a.eval x = v at hd
        cases hd with
        | eptr _ _ _ _ b o1 us g1 g2 g3 g4 g5 => exact ⟨_, run w b (o1 + o) q hq, by rw [Nat.add_assoc]; exact .eptr _ _ _ _ b o1 us g1 g2 g3 g4 g5⟩
      · rename_i r s i' o hx
        obtain ⟨q, ⟨hn, hq⟩, h⟩ := h.h
        refine ⟨_, h, key _ fun mem hμ a N w0 w X ρ m hd hdi => ?_⟩
        rw [hx] at hd
        rw [hix, Den.int_iff] at hdi
        rw [hdi, hn]
        generalize a.eval x = v at hd
        cases hd with
        | rptr _ _ _ _ _ b o1 hb => exact ⟨_, run w b (o1 + i' * wid s + o) q hq, by rw [Nat.add_assoc]; exact .rptr _ _ _ _ _ b o1 hb⟩
    rename_i el hk
    split at h <;> try exact h.elim
    rename_i j k n he hix
    have hw := TI.wid_size (sz.one _ _ he)
    split at h <;> try exact h.elim
    rename_i l hl
    -- an element of a list that nobody writes
    have onList : (live μ (e x) = true → False) → ∀ (q : Nat) (y : SV), n = (q : Int) → l[q]? = some y → RdOk P T o e μ (.eptr j.shape y 0) := by
      intro hlive q y hn hy
      refine key _ fun mem hμ a N w0 w X ρ m hd hdi => ?_
      obtain ⟨ad, c, h1, h2, h3⟩ := listOf_den hμ m hl hd
      rw [hix, Den.int_iff] at hdi
      rw [hdi, hn, h1]
      obtain ⟨hq, rfl⟩ := List.getElem?_eq_some_iff.1 hy
      rcases h3 with rfl | ⟨b, off, us, rfl, g1, g2, g3, g6, g4, g5⟩
      · simp at hq
      · have hx : ¬ Forb X mem ρ b := g2.resolve_right fun h => hlive h.2
        refine ⟨_, run_index_slice tys ht hk he k b off l.length c q hq w, ?_⟩
        have hle : q * wid j.shape + wid j.shape ≤ us.length := by
          rw [g3, ← Nat.succ_mul]
          exact Nat.mul_le_mul_right _ (by omega)
        have := Den.eptr (w := w) (X := Forb X mem ρ) ρ j.shape l[q] 0 b (off + q * wid j.shape) ((us.drop (q * wid j.shape)).take (wid j.shape)) g1 hx (fun k u hu' => ?_) (by simp; omega) (by rw [← valAt_seg _ _ _ hle]; exact g5 q hq)
        · rw [hw]
          exact this
        · rw [List.getElem?_take] at hu'
          split at hu'
          · rw [Nat.add_assoc]
            exact g4 _ u (by simpa using hu')
          · cases hu'
    have onRow : ∀ (r a0 : Nat), (∀ (mem : Mem), Sees μ mem → ∀ (a : Act) (N : Nat → Prop) (w0 w : World) (X : Nat → Prop) (ρ : Env), MRep T N w0 w X mem ρ → Den w (Forb X mem ρ) ρ (e x) (a.eval x) → ∀ ad c, a.eval x = .slice ad l.length c → l ≠ [] → ∃ b o len cap, ρ r = some (.slice (some ⟨b, o, none⟩) len cap) ∧ ad = some ⟨b, o + a0 * wid j.shape, none⟩) →
        ∀ (q : Nat), n = (q : Int) → q < l.length → RdOk P T o e μ (.rptr r j.shape (a0 + q) 0) := by
      intro r a0 hr q hn hq
      refine key _ fun mem hμ a N w0 w X ρ m hd hdi => ?_
      obtain ⟨ad, c, h1, h2, h3⟩ := listOf_den hμ m hl hd
      rw [hix, Den.int_iff] at hdi
      have hne : l ≠ [] := by rintro rfl; simp at hq
      obtain ⟨b, o1, len, cap, e1, e2⟩ := hr mem hμ a N w0 w X ρ m hd ad c h1 hne
      rw [hdi, hn, h1, e2]
      refine ⟨_, run_index_slice tys ht hk he k b _ l.length c q hq w, ?_⟩
      have := Den.rptr (w := w) (X := Forb X mem ρ) ρ r j.shape (a0 + q) 0 b o1 (fun v hv => by rw [e1] at hv; injection hv with hv; subst hv; exact ⟨_, _, rfl⟩)
      rw [Nat.add_zero, Nat.add_mul, ← Nat.add_assoc] at this
      rw [hw]
      exact this
    cases hx : e x with
    | row r =>
      simp only [hx] at h hl
      cases hm : μ r with
      | row sh' el' l' =>
        simp only [hm] at h
        obtain ⟨q, ⟨hn, hq⟩, h⟩ := h.h
        have := onRow r 0 (fun mem hμ a N w0 w X ρ m hd ad c h1 hne => by
          simp only [listOf] at hl
          obtain ⟨rv, e1, ad', cp, rfl, g2, g3⟩ := listB_den hμ m hl
          rw [hx] at hd
          generalize a.eval x = v at hd h1
          cases hd with
          | row _ _ a' n' c' hrow =>
            have e2 := hrow _ e1
            rcases g3 with rfl | ⟨b, off, us, rfl, _⟩
            · exact absurd rfl hne
            · simp only [Value.slice.injEq] at e2 h1
              obtain ⟨rfl, rfl, rfl⟩ := e2
              obtain ⟨rfl, _, rfl⟩ := h1
              exact ⟨b, off, _, _, e1, by simp⟩) q hn hq
        rw [Nat.zero_add] at this
        exact ⟨_, h, this⟩
      | frz sh' l' =>
        simp only [hm] at h
        obtain ⟨⟨q, y⟩, ⟨hn, hy⟩, h⟩ := h.h
        exact ⟨_, h, onList (by rw [hx]; simp [live, hm, liveB]) q y hn hy⟩
      | _ => rw [listOf, hm] at hl; simp [listB] at hl
    | rsl r s a0 n0 c0 =>
      simp only [hx] at h hl
      obtain ⟨q, ⟨hn, hq⟩, h⟩ := h.h
      refine ⟨_, h, onRow r a0 (fun mem hμ a N w0 w X ρ m hd ad c h1 hne => ?_) q hn hq⟩
      simp only [listOf] at hl
      split at hl
      case isFalse => cases hl
      rename_i hs
      have hs := shEq_eq hs
      subst hs
      split at hl
      case h_2 => cases hl
      rename_i l' hl'
      injection hl with hl
      rw [O.hsg] at hl
      obtain ⟨rv, e1, ad', cp, rfl, g2, g3⟩ := listB_den hμ m hl'
      rw [hx] at hd
      generalize a.eval x = v at hd h1
      cases hd with
      | rsl _ _ _ _ _ _ x cc hc hr =>
        obtain ⟨x0, len, cap, e3, e4, e5, _, _, e6⟩ := ((hr _ e1).resolve_right (by rintro ⟨_, h, _⟩; cases h))
        injection e3 with e3 e7 e8
        subst e3; subst e7; subst e8
        injection h1 with h1 h9 h10
        subst h1; subst h10
        rcases e6 with e6 | ⟨b, off, rfl, rfl⟩
        · exfalso
          apply hne
          obtain rfl : n0 = 0 := by omega
          rw [← hl]
          simp
        · exact ⟨b, off, _, _, e1, rfl⟩
    | lst s l' =>
      simp only [hx] at h
      obtain ⟨⟨q, y⟩, ⟨hn, hy⟩, h⟩ := h.h
      exact ⟨_, h, onList (by rw [hx]; simp [live]) q y hn hy⟩
    | nil =>
      simp only [hx] at h
      obtain ⟨⟨q, y⟩, ⟨hn, hy⟩, h⟩ := h.h
      exact ⟨_, h, onList (by rw [hx]; simp [live]) q y hn hy⟩
    | _ => rw [hx] at hl; simp [listOf] at hl

theorem len_ok (tys : Types P T) {o : Oper} {cl : Call} (hc : cl.callee = .builtin .len) (ho : o.op = .call cl) {e : Operand → SV} {μ : Nat → Blk} {κ : SV → Prop} (h : rval T (.call cl) e μ κ) : ∃ v, κ v ∧ RdOk P T o e μ v := by
  obtain ⟨cal, args, ats⟩ := cl
  simp only at hc
  subst hc
  simp only [rval] at h
  split at h <;> try exact h.elim
  rename_i t x hat har
  obtain rfl : args = #[x] := by apply Array.ext'; simpa using har
  obtain rfl : ats = #[t] := by apply Array.ext'; simpa using hat
  have key : ∀ v, (∀ (mem : Mem), Sees μ mem → ∀ (a : Act) (N : Nat → Prop) (w0 w : World) (X : Nat → Prop) (ρ : Env), MRep T N w0 w X mem ρ → Den w (Forb X mem ρ) ρ (e x) (a.eval x) →
      ∃ u, (Builtin.len_ #[t] o.type #[a.eval x]).run P w = .ok u w ∧ Den w (Forb X mem ρ) ρ v u) → RdOk P T o e μ v := by
    intro v hv
    refine ⟨fun mem hμ a N w0 w X ρ m hd => ?_⟩
    obtain ⟨u, hr, hd'⟩ := hv mem hμ a N w0 w X ρ m (hd x (by simp [ho, Op.operands, Call.operands]))
    refine ⟨u, ?_, hd'⟩
    simp [execOp, ho, resolve, invoke, builtin, hr]
  cases ht : T t with
  | none => simp only [ht] at h
  | some i =>
    simp only [ht] at h
    have tok := tys.ok t i ht
    simp only [O.hln] at h
    have go : ∀ el, i.kind = .slice el → ∀ (sh : Option Nat) (y : SV) (l : List SV), e x = y → listOf μ sh y = some l → RdOk P T o e μ (.int .i64 l.length) := by
      intro el hk sh y l hy hl
      refine key _ fun mem hμ a N w0 w X ρ m hd => ?_
      rw [hy] at hd
      obtain ⟨ad, c, h1, h2, h3⟩ := listOf_den hμ m hl hd
      rw [h1]
      exact ⟨_, by simp [Builtin.len_, goInt, run_underlying (tok.und_slice hk)], .int _ _ _⟩
    split at h <;> try exact h.elim
    · rename_i el hk
      split at h <;> try exact h.elim
      rename_i j hj
      split at h
      · rename_i hx'
        exact ⟨_, h, go el hk none .nil [] hx' rfl⟩
      · rename_i r s a n c hx'
        split at h <;> try exact h.elim
        rename_i l hl
        refine ⟨_, h.h.2 _ rfl, key _ fun mem hμ ac N w0 w X ρ m hd => ?_⟩
        rw [hx'] at hd
        generalize ac.eval x = v at hd
        cases hd with
        | rsl => exact ⟨_, by simp [Builtin.len_, goInt, run_underlying (tok.und_slice hk)], .int _ _ _⟩
      · rename_i y' hn1 hn2
        split at h <;> try exact h.elim
        rename_i l hl
        exact ⟨_, h.h.2 _ rfl, go el hk _ _ l rfl hl⟩
    · rename_i s hk hx
      refine ⟨_, h.h.2 _ rfl, key _ fun mem hμ a N w0 w X ρ m hd => ?_⟩
      rw [hx, Den.str_iff] at hd
      rw [hd]
      exact ⟨_, by simp [Builtin.len_, goInt, run_underlying (tok.und_string hk)], .int _ _ _⟩

theorem rval_ok (tys : Types P T) (sz : Sizes T) {o : Oper} {e : Operand → SV} {μ : Nat → Blk} {κ : SV → Prop} (h : rval T o.op e μ κ) : ∃ v, κ v ∧ RdOk P T o e μ v := by
  generalize ho : o.op = op at h
  cases op
  case load t x => exact load_ok tys sz ho h
  case indexAddr t x ix => exact idx_ok tys sz ho h
  case call c =>
    cases hc : c.callee with
    | builtin b =>
      cases b
      case len => exact len_ok tys hc ho h
      all_goals simp only [rval, hc] at h
    | _ => simp only [rval, hc] at h
  all_goals exact h.elim
end Go.Proofs.YtligbjbkecmecaaDoor
