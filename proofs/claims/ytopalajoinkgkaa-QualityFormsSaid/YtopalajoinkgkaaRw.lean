/- The law of the evaluator of operations that read, of literals of slices, and of calls. -/
import Derived.Test.YtopalajoinkgkaaRv
namespace Go.Proofs.Ytopalajoinkgkaa
open Go.RowKit
variable {P : Program} {T : Nat → Option TI} {G : Nat → List SV → SV → Prop}

theorem valAt_some_full {n : Nat} {us : List Value} (h : us.length ≤ n) : valAt (some n) us 0 = .agg ⟨us⟩ := by
  simp only [valAt, Nat.zero_mul, List.drop_zero]
  rw [List.take_of_length_le h]

theorem valAt_seg (sh : Option Nat) (us : List Value) (q : Nat) (h : q * wid sh + wid sh ≤ us.length) : valAt sh us q = valAt sh ((us.drop (q * wid sh)).take (wid sh)) 0 := by
  cases sh with
  | none => simp only [wid, Nat.mul_one] at *; simp [valAt]
  | some n => simp only [wid] at *; simp [valAt, List.take_take]

/-- A part of a struct's cells, loaded. -/
theorem load_part (tys : Types P T) (sz : Sizes T) {t : Nat} {i : TI} (ht : T t = some i) {w : World} {Y : Nat → Prop} {ρ : Env} {l : List SV} {us : List Value} (hd : DenL w Y ρ l us) {o : Nat} (ho : o + i.size ≤ l.length)
    (b o' : Nat) (hc : ∀ j u, us[j]? = some u → w.cell? ⟨b, o' + j, none⟩ = some u) :
    ∃ u, (Instr.loadAt t (.pointer (some ⟨b, o' + o, none⟩))).run P w = .ok u w ∧ Den w Y ρ (partS i l o) u := by
  refine ⟨_, run_load_at (tys.ok t i ht) (sz.one t i ht) w b (o' + o) (us.drop o) (by have := hd.1; rw [List.length_drop]; omega) (fun j u hu => ?_), partS_den hd ho (sz.one t i ht)⟩
  rw [Nat.add_assoc]
  exact hc (o + j) u (by simpa using hu)

theorem loadE_ok (tys : Types P T) (sz : Sizes T) {t : Nat} {i : TI} (ht : T t = some i) {sh : Option Nat} {y : SV} {o : Nat} {κ : SV → Prop} (h : loadE i sh y o κ) :
    ∃ x, κ x ∧ ∀ (w : World) (Y : Nat → Prop) (ρ ρ' : Env) (us : List Value) (b o' : Nat), us.length = wid sh → Den w Y ρ' y (valAt sh us 0) → (∀ (j : Nat) (u : Value), us[j]? = some u → w.cell? ⟨b, o' + j, none⟩ = some u) →
      ∃ u, (Instr.loadAt t (.pointer (some ⟨b, o' + o, none⟩))).run P w = .ok u w ∧ Den w Y ρ x u := by
  unfold loadE at h
  split at h
  case isFalse => exact h.elim
  rename_i hdat
  split at h
  · rename_i hc
    simp only [Bool.and_eq_true] at hc
    have h0 : o = 0 := Nat.eq_of_beq_eq_true hc.1
    have hs := shEq_eq hc.2
    refine ⟨y, h, fun w Y ρ ρ' us b o' hl hd hcell => ⟨_, ?_, hd.data hdat⟩⟩
    subst h0; subst hs
    rw [Nat.add_zero]
    exact run_load_at (tys.ok t i ht) (sz.one t i ht) w b o' us (by rw [hl, ← TI.wid_size (sz.one t i ht)]; exact Nat.le_refl _) hcell
  · split at h <;> try exact h.elim
    rename_i l n
    split at h
    · rename_i hlen
      refine ⟨_, h, fun w Y ρ ρ' us b o' hl hd hcell => ?_⟩
      have hd := hd.data (ρ' := ρ) hdat
      rw [valAt_some_full (by simp only [wid] at hl; omega)] at hd
      obtain ⟨cs, e, hd⟩ := Den.agg_iff.1 hd
      injection e with e
      injection e with e
      subst e
      exact load_part tys sz ht hd hlen b o' hcell
    · exact h.elim

theorem run_index_slice (tys : Types P T) {t el : Nat} {i j : TI} (ht : T t = some i) (hk : i.kind = .slice el) (he : T el = some j) (k : IntKind) (b off len cap q : Nat) (hq : q < len) (w : World) :
    (Instr.indexAt t (.slice (some ⟨b, off, none⟩) len cap) (.int k (q : Int))).run P w = .ok (.pointer (some ⟨b, off + q * j.size, none⟩)) w := by
  have hu := (tys.ok t i ht).und_slice hk
  have hs := (tys.ok el j he).sizeOf w
  simp only [Instr.indexAt, asIntOf, Sem.run_bind, Sem.run_pure, Result.andThen_ok, run_underlying hu]
  rw [if_pos ⟨by omega, by omega⟩]
  simp [hs, addr_add]

theorem load_ok (tys : Types P T) (sz : Sizes T) {o : Oper} {t : Nat} {x : Operand} (ho : o.op = .load t x) {e : Operand → SV} {mem : List Blk} {κ : SV → Prop} (h : rval T G (.load t x) e mem κ) : ∃ v, κ v ∧ Ok P T o e mem v mem := by
  have key : ∀ v, (∀ (a : Act) (N : Nat) (w0 w : World) (X : Nat → Prop) (ρ : Env), MRep T N w0 w X mem ρ → Den w (Forb X mem ρ) ρ (e x) (a.eval x) →
      ∃ u, (Instr.loadAt t (a.eval x)).run P w = .ok u w ∧ Den w (Forb X mem ρ) ρ v u) → Ok P T o e mem v mem := by
    intro v hv
    refine .of_run fun a N w0 w X ρ m hd => ?_
    obtain ⟨u, hr, hd'⟩ := hv a N w0 w X ρ m (hd x (by simp [ho, Op.operands]))
    exact ⟨u, w, by simp only [execOp, ho, Sem.run_bind, hr, Result.andThen_ok, Sem.run_pure], hd', Below.refl _ _⟩
  simp only [rval] at h
  cases ht : T t with
  | none => simp only [ht] at h
  | some i =>
    simp only [ht] at h
    split at h <;> try exact h.elim
    · rename_i r off hx
      split at h <;> try exact h.elim
      rename_i t' y hm
      have base : ∀ (a : Act) (N : Nat) (w0 w : World) (X : Nat → Prop) (ρ : Env), MRep T N w0 w X mem ρ → Den w (Forb X mem ρ) ρ (e x) (a.eval x) →
          ∃ i' b us, T t' = some i' ∧ us.length = i'.size ∧ (∀ u ∈ us, u.oneCell' = true) ∧ Den w (Forb X mem ρ) ρ y (valAt i'.shape us 0) ∧ a.eval x = .pointer (some ⟨b, off, none⟩) ∧ ∀ (j : Nat) (u : Value), us[j]? = some u → w.cell? ⟨b, j, none⟩ = some u := by
        intro a N w0 w X ρ m hd
        have hb := m.blk r
        rw [hm] at hb
        obtain ⟨i', b, us, ty, h1, h2, h3, h4, h5, h7, h6⟩ := hb
        rw [hx] at hd
        generalize hev : a.eval x = v at hd
        cases hd with
        | ptr _ _ _ b' hb' =>
          have := hb' _ h2
          simp only [Value.pointer.injEq, Option.some.injEq, Addr.mk.injEq, and_true] at this
          subst this
          exact ⟨i', b, us.toList, h1, by simpa using h5, h7, h6, rfl, fun j u hu => by rw [cell_of_row w b j us ty (0, 0) h4]; simpa using hu⟩
      split at h
      · rename_i hc
        simp only [Bool.and_eq_true] at hc
        have h0 : off = 0 := Nat.eq_of_beq_eq_true hc.1
        have h1 : t' = t := Nat.eq_of_beq_eq_true hc.2
        refine ⟨y, h, key y fun a N w0 w X ρ m hd => ?_⟩
        obtain ⟨i', b, us, e1, e2, e3, e4, e5, e6⟩ := base a N w0 w X ρ m hd
        subst h0; subst h1
        rw [ht] at e1
        injection e1 with e1
        subst e1
        rw [e5]
        exact ⟨_, run_load_at (tys.ok t' i ht) (sz.one t' i ht) w b 0 us (by omega) (fun j u hu => by rw [Nat.zero_add]; exact e6 j u hu), e4⟩
      · split at h <;> try exact h.elim
        rename_i l
        split at h
        · rename_i hlen
          refine ⟨_, h, key _ fun a N w0 w X ρ m hd => ?_⟩
          obtain ⟨i', b, us, e1, e2, e3, e4, e5, e6⟩ := base a N w0 w X ρ m hd
          have hd' : DenL w (Forb X mem ρ) ρ l us := by
            cases hs : i'.shape with
            | none =>
              rw [hs] at e4
              obtain ⟨cs, e7, _⟩ := Den.agg_iff.1 e4
              simp only [valAt] at e7
              cases hu : us[0]? with
              | none => rw [hu] at e7; simp [undef] at e7
              | some u =>
                rw [hu] at e7
                have := e3 u (List.mem_of_getElem? hu)
                simp only [Option.getD_some] at e7
                rw [e7] at this
                simp [Value.oneCell'] at this
            | some n =>
              rw [hs] at e4
              have hn : n = i'.size := by
                have := TI.wid_size (sz.one _ _ e1)
                rw [hs] at this
                exact this.symm
              rw [valAt_some_full (by omega)] at e4
              obtain ⟨cs, e7, hcs⟩ := Den.agg_iff.1 e4
              injection e7 with e7
              injection e7 with e7
              subst e7
              exact hcs
          rw [e5]
          have := load_part tys sz ht hd' hlen b 0 (fun j u hu => by rw [Nat.zero_add]; exact e6 j u hu)
          rw [Nat.zero_add] at this
          exact this
        · exact h.elim
    · rename_i sh y off hx
      obtain ⟨v, hκ, hv⟩ := loadE_ok tys sz ht h
      refine ⟨v, hκ, key v fun a N w0 w X ρ m hd => ?_⟩
      rw [hx] at hd
      generalize hev : a.eval x = q at hd
      cases hd with
      | eptr _ _ _ _ b o us hb hx' hu hl hy => exact hv w _ ρ _ us b o hl hy hu
    · rename_i r sh j off hx
      split at h <;> try exact h.elim
      rename_i sh' el l hm
      split at h <;> try exact h.elim
      rename_i hs
      have hs := shEq_eq hs
      subst hs
      obtain ⟨y, hy, h⟩ := h.h
      obtain ⟨v, hκ, hv⟩ := loadE_ok tys sz ht h
      refine ⟨v, hκ, key v fun a N w0 w X ρ m hd => ?_⟩
      have hb := m.blk r
      rw [hm] at hb
      obtain ⟨rv, e1, hb⟩ := hb
      rw [hx] at hd
      generalize hev : a.eval x = q at hd
      obtain ⟨hj, rfl⟩ := List.getElem?_eq_some_iff.1 hy
      rcases hb with ⟨_, rfl⟩ | ⟨b, cap, cur, rfl, h3, h4, h5, h6, h7, h8⟩
      · simp at hj
      · cases hd with
        | rptr _ _ _ _ _ b' hb' =>
          obtain ⟨len, cap', e2⟩ := hb' _ e1
          simp only [Value.slice.injEq, Option.some.injEq, Addr.mk.injEq, and_true] at e2
          obtain ⟨rfl, _, _⟩ := e2
          have hle : j * wid sh + wid sh ≤ cur.size := by
            rw [h7, ← Nat.succ_mul]
            exact Nat.mul_le_mul_right _ (by omega)
          refine hv w _ ρ noEnv ((cur.toList.drop (j * wid sh)).take (wid sh)) b (j * wid sh) (by simp; omega) ?_ (fun k u hu => ?_)
          · rw [← valAt_seg _ _ _ (by rw [Array.length_toList]; exact hle)]
            exact h8 j hj
          · rw [List.getElem?_take] at hu
            split at hu
            · rw [cell_of_row w b _ cur el (0, 0) h4]
              simpa using hu
            · cases hu

theorem idx_ok (tys : Types P T) (sz : Sizes T) {o : Oper} {t : Nat} {x ix : Operand} (ho : o.op = .indexAddr t x ix) {e : Operand → SV} {mem : List Blk} {κ : SV → Prop} (h : rval T G (.indexAddr t x ix) e mem κ) : ∃ v, κ v ∧ Ok P T o e mem v mem := by
  have key : ∀ v, (∀ (a : Act) (N : Nat) (w0 w : World) (X : Nat → Prop) (ρ : Env), MRep T N w0 w X mem ρ → Den w (Forb X mem ρ) ρ (e x) (a.eval x) → Den w (Forb X mem ρ) ρ (e ix) (a.eval ix) →
      ∃ u, (Instr.indexAt t (a.eval x) (a.eval ix)).run P w = .ok u w ∧ Den w (Forb X mem ρ) ρ v u) → Ok P T o e mem v mem := by
    intro v hv
    refine .of_run fun a N w0 w X ρ m hd => ?_
    obtain ⟨u, hr, hd'⟩ := hv a N w0 w X ρ m (hd x (by simp [ho, Op.operands])) (hd ix (by simp [ho, Op.operands]))
    exact ⟨u, w, by simp only [execOp, ho, Sem.run_bind, hr, Result.andThen_ok, Sem.run_pure], hd', Below.refl _ _⟩
  simp only [rval] at h
  cases ht : T t with
  | none => simp only [ht] at h
  | some i =>
    simp only [ht] at h
    split at h <;> try exact h.elim
    rename_i el hk
    split at h <;> try exact h.elim
    rename_i j he
    have onList : ∀ (sh : Option Nat) (l : List SV) (k : IntKind) (n : Int) (q : Nat) (y : SV), shEq sh j.shape = true → n = (q : Int) → l[q]? = some y →
        ∀ (w : World) (Y : Nat → Prop) (ρ ρ' : Env) (v iv : Value), Den w Y ρ' (.lst sh l) v → iv = .int k n → ∃ u, (Instr.indexAt t v iv).run P w = .ok u w ∧ Den w Y ρ (.eptr sh y 0) u := by
      intro sh l k n q y hs hn hy w Y ρ ρ' v iv hd hiv
      have hs := shEq_eq hs
      have hw := TI.wid_size (sz.one _ _ he)
      subst hiv; subst hn
      obtain ⟨hq, rfl⟩ := List.getElem?_eq_some_iff.1 hy
      cases hd with
      | lst0 => simp at hq
      | lst _ _ _ b off cap us hb hx hc hu hl hden =>
        refine ⟨_, run_index_slice tys ht hk he k b off l.length cap q hq w, ?_⟩
        have hle : q * wid sh + wid sh ≤ us.length := by
          rw [hl, ← Nat.succ_mul]
          exact Nat.mul_le_mul_right _ (by omega)
        have := Den.eptr (w := w) (X := Y) ρ sh l[q] 0 b (off + q * wid sh) ((us.drop (q * wid sh)).take (wid sh)) hb hx (fun k u hu' => ?_) (by simp; omega) (by rw [← valAt_seg _ _ _ hle]; exact hden q hq)
        · rw [hw, ← hs]
          exact this
        · rw [List.getElem?_take] at hu'
          split at hu'
          · rw [Nat.add_assoc]
            exact hu _ u (by simpa using hu')
          · cases hu'
    split at h <;> try exact h.elim
    · rename_i sh l k n hx hix
      split at h <;> try exact h.elim
      rename_i hs
      obtain ⟨⟨q, y⟩, ⟨hn, hy⟩, h⟩ := h.h
      refine ⟨_, h, key _ fun a N w0 w X ρ m hd hdi => ?_⟩
      rw [hx] at hd
      rw [hix, Den.int_iff] at hdi
      exact onList sh l k n q y hs hn hy w _ ρ ρ _ _ hd hdi
    · rename_i r k n hx hix
      split at h <;> try exact h.elim
      · rename_i sh el' l hm
        split at h <;> try exact h.elim
        rename_i hs
        have hs := shEq_eq hs
        obtain ⟨q, ⟨hn, hq⟩, h⟩ := h.h
        refine ⟨_, h, key _ fun a N w0 w X ρ m hd hdi => ?_⟩
        have hw := TI.wid_size (sz.one _ _ he)
        have hb := m.blk r
        rw [hm] at hb
        obtain ⟨rv, e1, hb⟩ := hb
        rw [hx] at hd
        rw [hix, Den.int_iff] at hdi
        rw [hdi, hn]
        generalize a.eval x = v at hd
        rcases hb with ⟨_, rfl⟩ | ⟨b, cap, cur, rfl, h3, h4, h5, h6, h7, h8⟩
        · simp at hq
        · cases hd with
          | row _ _ ad n' c hrow =>
            have e2 := hrow _ e1
            simp only [Value.slice.injEq] at e2
            obtain ⟨rfl, rfl, rfl⟩ := e2
            refine ⟨_, run_index_slice tys ht hk he k b 0 l.length _ q hq w, ?_⟩
            rw [hw, ← hs, Nat.zero_add]
            have := Den.rptr (w := w) (X := Forb X mem ρ) ρ r sh q 0 b (fun v hv => by rw [e1] at hv; injection hv with hv; subst hv; exact ⟨_, _, rfl⟩)
            rw [Nat.add_zero] at this
            exact this
      · rename_i sh l hm
        split at h <;> try exact h.elim
        rename_i hs
        obtain ⟨⟨q, y⟩, ⟨hn, hy⟩, h⟩ := h.h
        refine ⟨_, h, key _ fun a N w0 w X ρ m hd hdi => ?_⟩
        have hb := m.blk r
        rw [hm] at hb
        obtain ⟨rv, e1, hb⟩ := hb
        rw [hx] at hd
        rw [hix, Den.int_iff] at hdi
        generalize a.eval x = v at hd
        cases hd with
        | row _ _ ad n' c hrow =>
          have e2 := hrow _ e1
          subst e2
          exact onList sh l k n q y hs hn hy w _ ρ noEnv _ _ hb hdi

theorem len_ok (tys : Types P T) {o : Oper} {cl : Call} (hc : cl.callee = .builtin .len) (ho : o.op = .call cl) {e : Operand → SV} {mem : List Blk} {κ : SV → Prop} (h : rval T G (.call cl) e mem κ) : ∃ v, κ v ∧ Ok P T o e mem v mem := by
  obtain ⟨cal, args, ats⟩ := cl
  simp only at hc
  subst hc
  simp only [rval] at h
  split at h <;> try exact h.elim
  rename_i t x hat har
  obtain rfl : args = #[x] := by apply Array.ext'; simpa using har
  obtain rfl : ats = #[t] := by apply Array.ext'; simpa using hat
  have key : ∀ v, (∀ (a : Act) (N : Nat) (w0 w : World) (X : Nat → Prop) (ρ : Env), MRep T N w0 w X mem ρ → Den w (Forb X mem ρ) ρ (e x) (a.eval x) →
      ∃ u, (Builtin.len_ #[t] o.type #[a.eval x]).run P w = .ok u w ∧ Den w (Forb X mem ρ) ρ v u) → Ok P T o e mem v mem := by
    intro v hv
    refine .of_run fun a N w0 w X ρ m hd => ?_
    obtain ⟨u, hr, hd'⟩ := hv a N w0 w X ρ m (hd x (by simp [ho, Op.operands, Call.operands]))
    refine ⟨u, w, ?_, hd', Below.refl _ _⟩
    simp [execOp, ho, resolve, invoke, builtin, hr]
  cases ht : T t with
  | none => simp only [ht] at h
  | some i =>
    simp only [ht] at h
    have tok := tys.ok t i ht
    split at h <;> try exact h.elim
    · rename_i el sh l hk hx
      refine ⟨_, h.h.2 _ rfl, key _ fun a N w0 w X ρ m hd => ?_⟩
      rw [hx] at hd
      generalize a.eval x = v at hd
      cases hd with
      | lst0 => exact ⟨_, by simp [Builtin.len_, goInt, run_underlying (tok.und_slice hk)], .int _ _ _⟩
      | lst => exact ⟨_, by simp [Builtin.len_, goInt, run_underlying (tok.und_slice hk)], .int _ _ _⟩
    · rename_i el hk hx
      refine ⟨_, h, key _ fun a N w0 w X ρ m hd => ?_⟩
      rw [hx] at hd
      generalize a.eval x = v at hd
      cases hd with
      | nil => exact ⟨_, by simp [Builtin.len_, goInt, run_underlying (tok.und_slice hk)], .int _ _ _⟩
    · rename_i el r hk hx
      split at h <;> try exact h.elim
      · rename_i sh el' l hm
        refine ⟨_, h.h.2 _ rfl, key _ fun a N w0 w X ρ m hd => ?_⟩
        have hb := m.blk r
        rw [hm] at hb
        obtain ⟨rv, e1, hb⟩ := hb
        rw [hx] at hd
        generalize a.eval x = v at hd
        cases hd with
        | row _ _ ad n' c hrow =>
          have e2 := hrow _ e1
          have hn : n' = l.length := by
            rcases hb with ⟨rfl, rfl⟩ | ⟨b, cap, cur, rfl, _⟩
            · simp at e2; simp; omega
            · simp at e2; omega
          subst hn
          exact ⟨_, by simp [Builtin.len_, goInt, run_underlying (tok.und_slice hk)], .int _ _ _⟩
      · rename_i sh l hm
        refine ⟨_, h.h.2 _ rfl, key _ fun a N w0 w X ρ m hd => ?_⟩
        have hb := m.blk r
        rw [hm] at hb
        obtain ⟨rv, e1, hb⟩ := hb
        rw [hx] at hd
        generalize a.eval x = v at hd
        cases hd with
        | row _ _ ad n' c hrow =>
          have e2 := hrow _ e1
          have hn : n' = l.length := by
            subst e2
            cases hb <;> rfl
          subst hn
          exact ⟨_, by simp [Builtin.len_, goInt, run_underlying (tok.und_slice hk)], .int _ _ _⟩
    · rename_i s hk hx
      refine ⟨_, h.h.2 _ rfl, key _ fun a N w0 w X ρ m hd => ?_⟩
      rw [hx, Den.str_iff] at hd
      rw [hd]
      exact ⟨_, by simp [Builtin.len_, goInt, run_underlying (tok.und_string hk)], .int _ _ _⟩
end Go.Proofs.Ytopalajoinkgkaa
