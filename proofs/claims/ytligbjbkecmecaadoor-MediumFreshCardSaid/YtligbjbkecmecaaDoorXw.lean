/- A row with one element that is another row of the call's own: how it is read, how it comes to be, how it becomes a plain row again. -/
import Derived.Test.YtligbjbkecmecaaDoorWh
namespace Go.Proofs.YtligbjbkecmecaaDoor
set_option linter.unusedVariables false
set_option linter.unusedSimpArgs false
open Go.RowKit
variable {P : Program} {T : Nat → Option TI}

/-- Two ways to go on; the proof chooses. -/
structure Chz (a b : Unit → Prop) : Prop where
  h : a () ∨ b ()
theorem chA {a b : Unit → Prop} (h : a ()) : Chz a b := ⟨.inl h⟩
theorem chB {a b : Unit → Prop} (h : b ()) : Chz a b := ⟨.inr h⟩

def isRowx : Blk → Bool
  | .rowx _ _ _ _ => true
  | _ => false
def isChk : Blk → Bool
  | .chunk _ _ => true
  | _ => false
def isRow1 : Blk → Bool
  | .row none _ _ => true
  | _ => false
def isRow : Blk → Bool
  | .row _ _ _ => true
  | _ => false
/-- Does the operation look at such a row? -/
def isX (op : Op) (e : Operand → SV) (μ : Nat → Blk) : Bool :=
  match op with
  | .load _ x => (match e x with | .rptr r _ _ _ => isRowx (μ r) | _ => false)
  | .indexAddr _ x _ => (match e x with | .row r => isRowx (μ r) | .rsl r _ _ _ _ => isChk (μ r) | _ => false)
  | _ => false
def xval (T : Nat → Option TI) (op : Op) (e : Operand → SV) (μ : Nat → Blk) (κ : SV → Prop) : Prop :=
  match op with
  | .load t x => (match T t with
    | some i => (match e x with
      | .rptr r sh j o => (match μ r with
        | .rowx _ _ i0 y => if shEq none sh && Nat.beq o 0 && shEq none i.shape then Rq (fun _ => j = i0) (fun _ => κ y) else False
        | _ => False)
      | _ => False)
    | none => False)
  | .indexAddr t x ix => (match T t with
    | some i => (match i.kind with
      | .slice el => (match T el, e x, e ix with
        | some j, .row r, .int _ n => (match μ r with
          | .rowx _ l _ _ => if shEq none j.shape then QV (fun (q : Nat) => n = (q : Int) ∧ q < O.ln l) (fun q => κ (.rptr r none q 0)) else False
          | _ => False)
        | some j, .rsl r none o0 m _, .int _ n => (match μ r with
          | .chunk _ _ => if shEq none j.shape then QV (fun (q : Nat) => n = (q : Int) ∧ q < m) (fun q => κ (.ptr r (o0 + q))) else False
          | _ => False)
        | _, _, _ => False)
      | _ => False)
    | none => False)
  | _ => False
/-- The operations that read, such rows among what is read. -/
def rvalX (T : Nat → Option TI) (op : Op) (e : Operand → SV) (μ : Nat → Blk) (κ : SV → Prop) : Prop := if isX op e μ then xval T op e μ κ else rval T op e μ κ

theorem Sees.rowxAt {μ : Nat → Blk} {mem : Mem} (hμ : Sees μ mem) {N : Nat → Prop} {w0 w : World} {X : Nat → Prop} {ρ : Env} (m : MRep T N w0 w X mem ρ) {r e i : Nat} {l : List SV} {x : SV} (h : μ r = .rowx e l i x) :
    getM mem r = .rowx e l i x ∧ BlkRep T N w (Forb X mem ρ) ρ (.rowx e l i x) (ρ r) := by
  have hg := hμ.row h (by simp)
  have hb := m.blk r
  rw [hg] at hb
  exact ⟨hg, hb⟩

theorem xval_ok (tys : Types P T) (sz : Sizes T) {o : Oper} {e : Operand → SV} {μ : Nat → Blk} {κ : SV → Prop} (h : xval T o.op e μ κ) : ∃ v, κ v ∧ RdOk P T o e μ v := by
  generalize ho : o.op = op at h
  cases op
  case load t x =>
    simp only [xval] at h
    split at h <;> try exact h.elim
    rename_i i ht
    split at h <;> try exact h.elim
    rename_i r sh j off hx
    split at h <;> try exact h.elim
    rename_i el l i0 y hm
    split at h <;> try exact h.elim
    rename_i hc
    simp only [Bool.and_eq_true] at hc
    have hs := shEq_eq hc.1.1
    have h0 : off = 0 := Nat.eq_of_beq_eq_true hc.1.2
    have hi := shEq_eq hc.2
    subst hs; subst h0
    obtain ⟨hj, h⟩ := h
    subst hj
    have tok := tys.ok t i ht
    refine ⟨_, h, ⟨fun mem hμ a N w0 w X ρ m hd => ?_⟩⟩
    obtain ⟨hg, b, off, cap, cur, e1, hN, hh, h5, h6, h7, h0, h9, hil, h8, hy⟩ := hμ.rowxAt m hm
    have hdx := hd x (by simp [ho, Op.operands])
    rw [hx] at hdx
    have hcl : cur.toList.length = cur.size := Array.length_toList
    have h1 : i.size = 1 := by rw [TI.wid_size (sz.one t i ht), ← hi]; rfl
    generalize hq : a.eval x = q at hdx
    cases hdx with
    | rptr _ _ _ _ _ b' o' hb' =>
      obtain ⟨len, cap', e2⟩ := hb' _ e1
      simp only [Value.slice.injEq, Option.some.injEq, Addr.mk.injEq, and_true] at e2
      obtain ⟨⟨rfl, rfl⟩, _, _⟩ := e2
      have hv : valAt none (cur.toList.drop off) j = (cur.toList[off + j]?).getD undef := by simp [valAt]
      refine ⟨_, ?_, hy⟩
      have := run_load_at (P := P) tok (sz.one t i ht) w b (off + j) [(cur.toList[off + j]?).getD undef] (by rw [h1]; simp) (fun k u hu => by
        match k, hu with
        | 0, hu =>
          simp at hu
          rw [cell_of_row w b (off + j + 0) cur el (0, 0) hh]
          have hlt : off + j < cur.size := by omega
          simp [hlt] at hu ⊢
          exact hu)
      rw [← hi] at this
      simp only [execOp, ho, Sem.run_bind, hq]
      simp only [wid, Nat.mul_one, Nat.add_zero]
      rw [this]
      rw [hv]
      simp [valAt]
  case indexAddr t x ix =>
    simp only [xval] at h
    split at h <;> try exact h.elim
    rename_i i ht
    split at h <;> try exact h.elim
    rename_i el hk
    split at h <;> try exact h.elim
    · rename_i j r k n hel hx hix
      split at h <;> try exact h.elim
      rename_i e' l i0 y hm
      split at h <;> try exact h.elim
      rename_i hc
      have hj := shEq_eq hc
      obtain ⟨q, ⟨hn, hq⟩, h⟩ := h.h
      rw [O.hln] at hq
      refine ⟨_, h, ⟨fun mem hμ a N w0 w X ρ m hd => ?_⟩⟩
      obtain ⟨hg, b, off, cap, cur, e1, hN, hh, h5, h6, h7, h0, h9, hil, h8, hy⟩ := hμ.rowxAt m hm
      have hdx := hd x (by simp [ho, Op.operands])
      have hdi := hd ix (by simp [ho, Op.operands])
      rw [hx] at hdx
      rw [hix, Den.int_iff] at hdi
      have h1 : j.size = 1 := by rw [TI.wid_size (sz.one el j hel), ← hj]; rfl
      generalize hqx : a.eval x = v at hdx
      cases hdx with
      | row _ _ a' n' c' hrow =>
        have e2 := hrow _ e1
        simp only [Value.slice.injEq] at e2
        obtain ⟨rfl, rfl, rfl⟩ := e2
        have hr := run_index_slice tys ht hk hel k b off l.length cap q hq w
        refine ⟨.pointer (some ⟨b, off + q * j.size, none⟩), ?_, ?_⟩
        · simp only [execOp, ho, Sem.run_bind, hqx, hdi, hn, hr, Result.andThen_ok, Sem.run_pure]
        · have := Den.rptr (w := w) (X := Forb X mem ρ) ρ r none q 0 b off (fun v hv => by rw [e1] at hv; injection hv with hv; subst hv; exact ⟨_, _, rfl⟩)
          rw [h1]
          simpa [wid] using this
    · rename_i j r o0 m' c' k n hel hx hix
      split at h <;> try exact h.elim
      rename_i t' y hm
      split at h <;> try exact h.elim
      rename_i hc
      have hj := shEq_eq hc
      obtain ⟨q, ⟨hn, hq⟩, h⟩ := h.h
      refine ⟨_, h, ⟨fun mem hμ a N w0 w X ρ m hd => ?_⟩⟩
      have hg := hμ.row hm (by simp)
      have hb := m.blk r
      rw [hg] at hb
      obtain ⟨i', b, us, ty, g1, g2, g3, g4, g5, g6, g7⟩ := hb
      have hdx := hd x (by simp [ho, Op.operands])
      have hdi := hd ix (by simp [ho, Op.operands])
      rw [hx] at hdx
      rw [hix, Den.int_iff] at hdi
      have h1 : j.size = 1 := by rw [TI.wid_size (sz.one el j hel), ← hj]; rfl
      generalize hqx : a.eval x = v at hdx
      cases hdx with
      | rsl _ _ _ _ _ _ x0 cc hcc hr =>
        obtain ⟨b', e1, _, e2, _⟩ := (hr _ g2).resolve_left (by rintro ⟨_, _, _, e, _⟩; cases e)
        simp only [Value.pointer.injEq, Option.some.injEq, Addr.mk.injEq, and_true] at e1
        subst e1
        have e2 := e2.resolve_left (by omega)
        subst e2
        have hr := run_index_slice tys ht hk hel k b o0 m' cc q hq w
        refine ⟨.pointer (some ⟨b, o0 + q * j.size, none⟩), ?_, ?_⟩
        · simp only [execOp, ho, Sem.run_bind, hqx, hdi, hn, hr, Result.andThen_ok, Sem.run_pure]
        · rw [h1, Nat.mul_one]
          exact .ptr _ r _ b fun q' hq' => by rw [g2] at hq'; injection hq' with hq'; exact hq'.symm
  all_goals exact h.elim

theorem rvalX_ok (tys : Types P T) (sz : Sizes T) {o : Oper} {e : Operand → SV} {μ : Nat → Blk} {κ : SV → Prop} (h : rvalX T o.op e μ κ) : ∃ v, κ v ∧ RdOk P T o e μ v := by
  unfold rvalX at h
  split at h
  · exact xval_ok tys sz h
  · exact rval_ok tys sz h

/-! ### A row put into a row, and still to be written -/
def canX (op : Op) (e : Operand → SV) (μ : Nat → Blk) : Bool :=
  match op with
  | .store _ x v => (match e x, e v with
    | .rptr r none _ 0, .row q => isRow1 (μ r) && isRow (μ q) && !(Nat.beq r q)
    | _, _ => false)
  | _ => false
def xst (T : Nat → Option TI) (op : Op) (e : Operand → SV) (μ : Nat → Blk) (κ : SV → List (Nat × Blk) → Prop) : Prop :=
  match op with
  | .store t x v => (match T t with
    | some i => (match e x, e v with
      | .rptr r none j 0, .row q => (match μ r with
        | .row none el l => if shEq none i.shape && isRow (μ q) && !(Nat.beq r q) then Rq (fun _ => j < O.ln l) (fun _ => κ .any [(r, .rowx el l j (.row q))]) else False
        | _ => False)
      | _, _ => False)
    | none => False)
  | _ => False
def wvalX (T : Nat → Option TI) (d : Option Nat) (op : Op) (e : Operand → SV) (μ : Nat → Blk) (κ : SV → List (Nat × Blk) → Prop) : Prop :=
  if canX op e μ then Chz (fun _ => wval T d op e μ κ) (fun _ => xst T op e μ κ) else wval T d op e μ κ

theorem xst_ok (tys : Types P T) (sz : Sizes T) {o : Oper} {t : Nat} {x vo : Operand} (ho : o.op = .store t x vo) {e : Operand → SV} {μ : Nat → Blk} {κ : SV → List (Nat × Blk) → Prop} (h : xst T (.store t x vo) e μ κ) :
    ∃ y U, κ y U ∧ (∀ q b, (q, b) ∈ U → (μ q).own = true) ∧ Eff P T o e μ y U none := by
  simp only [xst] at h
  split at h <;> try exact h.elim
  rename_i i ht
  split at h <;> try exact h.elim
  rename_i r j q hx hv
  split at h <;> try exact h.elim
  rename_i el l hm
  split at h <;> try exact h.elim
  rename_i hc
  simp only [Bool.and_eq_true, Bool.not_eq_true'] at hc
  have hi := shEq_eq hc.1.1
  have hrq : r ≠ q := by intro e; have := hc.2; simp [e] at this
  obtain ⟨hj, h⟩ := h
  rw [O.hln] at hj
  refine ⟨_, _, h, fun q' b hq => by simp at hq; rw [hq.1, hm]; rfl, ?_⟩
  have tok := tys.ok t i ht
  have h1 : i.size = 1 := by rw [TI.wid_size (sz.one t i ht), ← hi]; rfl
  refine .of_run fun mem hμ _ a N w0 w X ρ m hd => ?_
  obtain ⟨v, hv0, hg, hcase⟩ := hμ.rowAt m hm
  have hdv := hd vo (by simp [ho, Op.operands])
  have hdx := hd x (by simp [ho, Op.operands])
  rw [hx] at hdx
  rw [hv] at hdv
  rcases hcase with ⟨a0, rfl, rfl⟩ | ⟨b, o1, cap, cur, rfl, hN, hh, h5, h6, h7, h0, h9, h8⟩
  · simp at hj
  have hcl : cur.toList.length = cur.size := Array.length_toList
  simp only [wid, Nat.mul_one] at h7
  have hev : a.eval x = .pointer (some ⟨b, o1 + j, none⟩) := by
    generalize hq : a.eval x = q at hdx
    cases hdx with
    | rptr _ _ _ _ _ b' o' hb' =>
      obtain ⟨len, cap', e2⟩ := hb' _ hv0
      simp only [Value.slice.injEq, Option.some.injEq, Addr.mk.injEq, and_true] at e2
      obtain ⟨⟨rfl, rfl⟩, _, _⟩ := e2
      simp [wid]
  obtain ⟨ad, n', c', hsl⟩ : ∃ ad n c, a.eval vo = .slice ad n c := by
    generalize a.eval vo = z at hdv
    cases hdv with
    | row _ _ a' n' c' _ => exact ⟨_, _, _, rfl⟩
  have hcell : (a.eval vo).cells = #[a.eval vo] := by rw [hsl]; rfl
  have c1 : (a.eval vo).cells.size = i.size := by rw [hcell, h1]; rfl
  have c2 : ∀ u ∈ (a.eval vo).cells.toList, u.oneCell' = true := by intro u hu; rw [hcell] at hu; simp at hu; subst hu; rw [hsl]; rfl
  have hs := run_store_at tok w b (o1 + j) cur el hh (a.eval vo) c1 c2 (by omega)
  rw [hcell] at hs
  have hone : (#[a.eval vo] : Array Value).toList = [a.eval vo] := rfl
  rw [hone] at hs
  have hfit : o1 + j + [a.eval vo].length ≤ cur.toList.length := by simp; omega
  generalize hnl : cur.toList.take (o1 + j) ++ [a.eval vo] ++ cur.toList.drop (o1 + j + [a.eval vo].length) = nl at hs
  have hget : ∀ k, nl[k]? = if k = o1 + j then some (a.eval vo) else cur.toList[k]? := by
    intro k
    rw [← hnl, splice_get hfit]
    by_cases hk : k = o1 + j
    · subst hk
      rw [if_pos (by simp), if_pos rfl]; simp
    · rw [if_neg (by simp; omega), if_neg hk]
  have hlen : nl.length = cur.size := by rw [← hnl, splice_len hfit, hcl]
  obtain ⟨m', t'⟩ := m.update (w' := w.setRow b nl.toArray) (B := .rowx el l j (.row q)) hv0 (by rw [hg]; rfl) (b := b) (by simp only [vblock]; rw [if_neg (by omega)]) ⟨rfl, rfl, rfl, by simp [World.setRow], fun k hk => setRow_other w b k _ (by omega)⟩ (fun k hk => setRow_other w b k _ hk) (fun tn => by
    refine ⟨b, o1, cap, nl.toArray, rfl, hN, setRow_heap w b cur _ el (0, 0) hh, h5, h6, by simp [hlen]; omega, h0, fun u hu => ?_, hj, fun k hk hkj => ?_, ?_⟩
    · have hu' : u ∈ nl := by simpa using hu
      rw [← hnl] at hu'
      simp only [List.mem_append] at hu'
      rcases hu' with (hu | hu) | hu
      · exact h9 u (List.mem_of_mem_take hu)
      · exact c2 u (by rw [hcell]; simpa using hu)
      · exact h9 u (List.mem_of_mem_drop hu)
    · have : valAt none (nl.toArray.toList.drop o1) k = valAt none (cur.toList.drop o1) k := by
        simp only [valAt, List.getElem?_drop]
        rw [hget, if_neg (by omega)]
      rw [this]
      exact (h8 k hk).mono tn.size tn.keep
    · have : valAt none (nl.toArray.toList.drop o1) j = a.eval vo := by
        simp only [valAt, List.getElem?_drop]
        rw [hget, if_pos rfl]
        rfl
      rw [this]
      exact tn.den (fun _ h => by cases h) hdv)
  refine ⟨_, undef, _, ρ, ?_, .inr ⟨rfl, rfl⟩, m', .any _ _, t'⟩
  simp only [execOp, ho, hev, Sem.run_bind]
  rw [hs]
  simp only [Result.andThen_ok, Sem.run_pure]

theorem storeX_ok (tys : Types P T) (sz : Sizes T) {o : Oper} {t : Nat} {x vo : Operand} (ho : o.op = .store t x vo) {d : Option Nat} {e : Operand → SV} {μ : Nat → Blk} {κ : SV → List (Nat × Blk) → Prop} (h : wvalX T d (.store t x vo) e μ κ) :
    ∃ y U, κ y U ∧ (∀ q b, (q, b) ∈ U → (μ q).own = true) ∧ Eff P T o e μ y U none := by
  unfold wvalX at h
  split at h
  · rcases h.h with h | h
    · exact store_ok tys sz ho h
    · exact xst_ok tys sz ho h
  · exact store_ok tys sz ho h

/-! ### Such a row, made a plain one -/
theorem MRep.unX {N : Nat → Prop} {w0 w : World} {X : Nat → Prop} {mem : Mem} {ρ : Env} (m : MRep T N w0 w X mem ρ) {r e i q : Nat} {l : List SV} (hr : getM mem r = .rowx e l i (.row q)) {sh : Option Nat} {e2 : Nat} {k : List SV} (hq : getM mem q = .row sh e2 k) :
    MRep T N w0 w X (setM (.row none e (setL l i (.lst sh k))) (setM (.frz sh k) mem q) r) ρ ∧ Turn w (Forb X mem ρ) ρ w (Forb X (setM (.row none e (setL l i (.lst sh k))) (setM (.frz sh k) mem q) r) ρ) ρ none := by
  obtain ⟨m1, t1⟩ := m.freeze hq
  have hrq : r ≠ q := by rintro rfl; rw [hr] at hq; cases hq
  have hr1 : getM (setM (.frz sh k) mem q) r = .rowx e l i (.row q) := by rw [getM_setM, if_neg hrq]; exact hr
  have hq1 : getM (setM (.frz sh k) mem q) q = .frz sh k := by rw [getM_setM, if_pos rfl]
  have hb := m1.blk r
  have hc := m1.blk q
  rw [hr1] at hb
  rw [hq1] at hc
  generalize setM (.frz sh k) mem q = mem1 at *
  obtain ⟨b, off, cap, cur, h1, h3, h4, h5, h6, h7, h0, h9, hi, h8, hx⟩ := hb
  obtain ⟨v, g1, g2⟩ := hc
  have hv0 : vblock (.slice (some ⟨b, off, none⟩) l.length cap) = some b := by simp only [vblock]; rw [if_neg (by omega)]
  have main := m1.step (mem' := setM (.row none e (setL l i (.lst sh k))) mem1 r) (fun p => p = r) none (.refl _ _) (fun p hp => ⟨by rw [getM_setM, if_neg hp], rfl⟩) (fun p _ => .inr (.inl rfl)) (fun p hp => by cases hp) (fun k _ => .inl rfl)
    (fun p u c hp h1' h2 h3' => by subst hp; exact .inr ⟨p, u, rfl, by rw [hr1]; rfl, h2, h3'⟩) (fun p p' _ _ _ h1 h2 _ _ _ _ _ _ => by rw [h1, h2]) (fun ht p hp => by
      subst hp
      rw [getM_setM, if_pos rfl, h1]
      refine ⟨_, rfl, .inr ⟨b, off, cap, cur, by rw [setL_length], h3, h4, by rw [setL_length]; exact h5, h6, by simpa [wid] using h7, h0, h9, fun j hj => ?_⟩⟩
      rw [setL_length] at hj
      rw [setL_get]
      by_cases hji : i = j
      · subst hji
        rw [if_pos rfl]
        have hden : Den w (Forb X mem1 ρ) ρ (.row q) (valAt none (cur.toList.drop off) i) := hx
        have hv : valAt none (cur.toList.drop off) i = v := by
          generalize valAt none (cur.toList.drop off) i = z at hden
          cases hden with
          | row _ _ a' n' c' hrow => exact (hrow _ g1).symm
        rw [hv]
        exact g2.mono ht.size ht.keep
      · rw [if_neg hji]
        exact (h8 j hj (fun e => hji e.symm)).mono ht.size ht.keep)
  exact ⟨main.1, t1.trans main.2⟩
end Go.Proofs.YtligbjbkecmecaaDoor
