/- The operations that make or write the call's own memory. -/
import Derived.Test.YtopalajoinkgkaaRx
namespace Go.Proofs.Ytopalajoinkgkaa
open Go.RowKit
variable {P : Program} {T : Nat → Option TI} {G : Nat → List SV → SV → Prop}

def bNoref (d : Nat) : Blk → Bool
  | .chunk _ x => noref d x
  | _ => true
def memNoref (d : Nat) : List Blk → Bool
  | [] => true
  | b :: l => bNoref d b && memNoref d l
theorem memNoref_get {d : Nat} : ∀ {l : List Blk}, memNoref d l = true → ∀ r, bNoref d (getN .no l r) = true
  | [], _, r => by simp [getN, bNoref]
  | b :: l, h, 0 => by simp [memNoref] at h; simpa [getN] using h.1
  | b :: l, h, r + 1 => by simp [memNoref] at h; simpa [getN] using memNoref_get h.2 r

theorem getN_setN {A : Type} (d v : A) : ∀ (l : List A) (i j : Nat), i < l.length → getN d (setN v l i) j = if j = i then v else getN d l j
  | [], i, j, h => by simp at h
  | a :: l, 0, 0, _ => by simp [setN, getN]
  | a :: l, 0, j + 1, _ => by simp [setN, getN]
  | a :: l, i + 1, 0, _ => by simp [setN, getN]
  | a :: l, i + 1, j + 1, h => by simp [setN, getN, getN_setN d v l i j (by simpa using h)]
theorem setN_length {A : Type} (v : A) (l : List A) (i : Nat) : (setN v l i).length = l.length := by rw [setN_eq]; simp

theorem BlkRep.lift {N : Nat} {w w' : World} {Y Y' : Nat → Prop} {ρ ρ' : Env} {d : Option Nat} (t : Turn w Y ρ w' Y' ρ' d) {B : Blk} {o : Option Value} (hn : ∀ r, d = some r → bNoref r B = true)
    (hb : ∀ v b, o = some v → vblock v = some b → B.own = true → w'.heap[b]? = w.heap[b]?) (h : BlkRep T N w Y ρ B o) : BlkRep T N w' Y' ρ' B o := by
  cases B with
  | no => exact h
  | frz sh l =>
    obtain ⟨v, h1, h2⟩ := h
    exact ⟨v, h1, h2.mono t.size t.keep⟩
  | chunk ty x =>
    obtain ⟨i, b, us, tt, h1, h2, h3, h4, h5, h6, h7⟩ := h
    exact ⟨i, b, us, tt, h1, h2, h3, by rw [hb _ b h2 rfl rfl]; exact h4, h5, h6, t.den (fun r hr => hn r hr) h7⟩
  | row sh e l =>
    obtain ⟨v, h1, h2⟩ := h
    refine ⟨v, h1, ?_⟩
    rcases h2 with h2 | ⟨b, cap, cur, h2, h3, h4, h5, h6, h7, h8⟩
    · exact .inl h2
    · exact .inr ⟨b, cap, cur, h2, h3, by rw [hb _ b h1 (by rw [h2]; rfl) rfl]; exact h4, h5, h6, h7, fun i h => (h8 i h).mono t.size t.keep⟩

def upd (ρ : Env) (d : Nat) (v : Value) : Env := fun r => if r = d then some v else ρ r

/-- A new resource, in a new block. -/
theorem MRep.create {N : Nat} {w0 w w' : World} {X : Nat → Prop} {mem : List Blk} {ρ : Env} (m : MRep T N w0 w X mem ρ) {d : Nat} (hd : d < mem.length) (hno : getN Blk.no mem d = .no) (hnr : memNoref d mem = true)
    {B : Blk} {v : Value} (hv : vblock v = some w.heap.size) (hsz : w'.heap.size = w.heap.size + 1) (hbel : Below w.heap.size w w')
    (hB : BlkRep T N w' (Forb X (setN B mem d) (upd ρ d v)) (upd ρ d v) B (some v)) :
    MRep T N w0 w' X (setN B mem d) (upd ρ d v) ∧ Turn w (Forb X mem ρ) ρ w' (Forb X (setN B mem d) (upd ρ d v)) (upd ρ d v) (some d) := by
  have hρd : ρ d = none := by have := m.blk d; rw [hno] at this; exact this
  have hown : ∀ b, owned (setN B mem d) (upd ρ d v) b → owned mem ρ b ∨ b = w.heap.size := by
    rintro b ⟨r, u, h1, h2, h3⟩
    rw [getN_setN _ _ _ _ _ hd] at h1
    by_cases hr : r = d
    · subst hr
      simp only [upd, if_true] at h2
      injection h2 with h2
      subst h2
      rw [hv] at h3
      injection h3 with h3
      exact .inr h3.symm
    · rw [if_neg hr] at h1
      simp only [upd, if_neg hr] at h2
      exact .inl ⟨r, u, h1, h2, h3⟩
  have ht : Turn w (Forb X mem ρ) ρ w' (Forb X (setN B mem d) (upd ρ d v)) (upd ρ d v) (some d) := by
    refine ⟨fun r => ?_, by omega, fun b h1 h2 => ⟨fun hf => ?_, hbel.block b h1⟩⟩
    · by_cases hr : r = d
      · exact .inr (.inr (by rw [hr]))
      · exact .inr (.inl (by simp [upd, hr]))
    · rcases hf with hf | hf
      · exact h2 (.inl hf)
      · rcases hown b hf with hf | hf
        · exact h2 (.inr hf)
        · omega
  refine ⟨⟨m.low, m.below.trans (hbel.mono m.szN), by have := m.szN; omega, fun r => ?_, fun r r' u u' b h1 h2 h3 h4 h5 h6 => ?_⟩, ht⟩
  · by_cases hr : r = d
    · subst hr
      rw [getN_setN _ _ _ _ _ hd, if_pos rfl]
      simp only [upd, if_true]
      exact hB
    · rw [getN_setN _ _ _ _ _ hd, if_neg hr]
      have := (m.blk r).lift ht (fun q hq => by injection hq with hq; subst hq; exact memNoref_get hnr r) (fun u b h1 h2 h3 => hbel.block b (m.owned_lt ⟨r, u, h3, h1, h2⟩).2)
      simpa [upd, hr] using this
  · rw [getN_setN _ _ _ _ _ hd] at h1 h2
    by_cases hr : r = d <;> by_cases hr' : r' = d
    · rw [hr, hr']
    · subst hr
      simp only [upd, if_true] at h3
      simp only [upd, if_neg hr'] at h4
      rw [if_neg hr'] at h2
      injection h3 with h3
      subst h3
      rw [hv] at h5
      injection h5 with h5
      have := (m.owned_lt ⟨r', u', h2, h4, h6⟩).2
      omega
    · subst hr'
      simp only [upd, if_true] at h4
      simp only [upd, if_neg hr] at h3
      rw [if_neg hr] at h1
      injection h4 with h4
      subst h4
      rw [hv] at h6
      injection h6 with h6
      have := (m.owned_lt ⟨r, u, h1, h3, h5⟩).2
      omega
    · rw [if_neg hr] at h1
      rw [if_neg hr'] at h2
      simp only [upd, if_neg hr] at h3
      simp only [upd, if_neg hr'] at h4
      exact m.inj r r' u u' b h1 h2 h3 h4 h5 h6

/-- A resource's content turned, in its block. -/
theorem MRep.update {N : Nat} {w0 w w' : World} {X : Nat → Prop} {mem : List Blk} {ρ : Env} (m : MRep T N w0 w X mem ρ) {r : Nat} (hr : r < mem.length) {v : Value} (hv : ρ r = some v) (ho : (getN Blk.no mem r).own = true)
    {b : Nat} (hb : vblock v = some b) (hsz : w'.heap.size = w.heap.size) (hbel : Below b w w') (hoth : ∀ k, k ≠ b → w'.heap[k]? = w.heap[k]?) {B : Blk} (hBo : B.own = true)
    (hB : Turn w (Forb X mem ρ) ρ w' (Forb X (setN B mem r) ρ) ρ none → BlkRep T N w' (Forb X (setN B mem r) ρ) ρ B (some v)) :
    MRep T N w0 w' X (setN B mem r) ρ ∧ Turn w (Forb X mem ρ) ρ w' (Forb X (setN B mem r) ρ) ρ none := by
  have hbo : owned mem ρ b := ⟨r, v, ho, hv, hb⟩
  have hown : ∀ c, owned (setN B mem r) ρ c ↔ owned mem ρ c := by
    intro c
    constructor
    · rintro ⟨q, u, h1, h2, h3⟩
      rw [getN_setN _ _ _ _ _ hr] at h1
      by_cases hq : q = r
      · subst hq; exact ⟨q, u, ho, h2, h3⟩
      · rw [if_neg hq] at h1; exact ⟨q, u, h1, h2, h3⟩
    · rintro ⟨q, u, h1, h2, h3⟩
      refine ⟨q, u, ?_, h2, h3⟩
      rw [getN_setN _ _ _ _ _ hr]
      by_cases hq : q = r
      · rw [if_pos hq]; exact hBo
      · rw [if_neg hq]; exact h1
  have ht : Turn w (Forb X mem ρ) ρ w' (Forb X (setN B mem r) ρ) ρ none := by
    refine ⟨fun q => .inr (.inl rfl), by omega, fun c h1 h2 => ⟨fun hf => ?_, hoth c (fun e => by subst e; exact h2 (.inr hbo))⟩⟩
    rcases hf with hf | hf
    · exact h2 (.inl hf)
    · exact h2 (.inr ((hown c).1 hf))
  refine ⟨⟨m.low, m.below.trans (hbel.mono (m.owned_lt hbo).1), by rw [hsz]; exact m.szN, fun q => ?_, fun q q' u u' c h1 h2 h3 h4 h5 h6 => ?_⟩, ht⟩
  · rw [getN_setN _ _ _ _ _ hr]
    by_cases hq : q = r
    · subst hq; rw [if_pos rfl, hv]; exact hB ht
    · rw [if_neg hq]
      refine (m.blk q).lift ht (fun _ h => by cases h) (fun u c h1 h2 h3 => hoth c (fun e => ?_))
      subst e
      exact hq (m.inj q r u v c h3 ho h1 hv h2 hb)
  · rw [getN_setN _ _ _ _ _ hr] at h1 h2
    refine m.inj q q' u u' c ?_ ?_ h3 h4 h5 h6
    · by_cases hq : q = r
      · rw [hq]; exact ho
      · rw [if_neg hq] at h1; exact h1
    · by_cases hq : q' = r
      · rw [hq]; exact ho
      · rw [if_neg hq] at h2; exact h2

/-- A value that a variable of this type may hold. -/
def chunkOk (i : TI) (y : SV) : Bool :=
  (match cellsA y with | some xs => Nat.beq xs.length i.size | none => false) && (match y, i.shape with | .agg _, some _ => true | .agg _, none => false | _, none => true | _, _ => false)

theorem chunk_den {w : World} {Y : Nat → Prop} {ρ : Env} {i : TI} {y : SV} {v : Value} (h1 : i.kind.aggB = false → i.size = 1) (h : chunkOk i y = true) (hd : Den w Y ρ y v) :
    v.cells.size = i.size ∧ (∀ u ∈ v.cells.toList, u.oneCell' = true) ∧ valAt i.shape v.cells.toList 0 = v := by
  unfold chunkOk at h
  simp only [Bool.and_eq_true] at h
  obtain ⟨h2, h3⟩ := h
  cases hc : cellsA y with
  | none => rw [hc] at h2; cases h2
  | some xs =>
    rw [hc] at h2
    have hx := Nat.eq_of_beq_eq_true h2
    obtain ⟨c1, c2⟩ := cellsA_den hc hd
    have hs : v.cells.size = i.size := by rw [← hx, c1.1, Array.length_toList]
    refine ⟨hs, c2, ?_⟩
    have hw := TI.wid_size h1
    cases hsh : i.shape with
    | none =>
      rw [hsh] at h3 hw
      have hat : atomB y = true := by
        cases y with
        | agg l => cases h3
        | _ => simp only [cellsA] at hc; split at hc <;> first | assumption | cases hc
      have := one_cells (hd.one hat)
      rw [this]
      rfl
    | some n =>
      rw [hsh] at h3 hw
      cases y with
      | agg l =>
        obtain ⟨cs, rfl, _⟩ := Den.agg_iff.1 hd
        simp only [Value.cells, List.size_toArray] at hs ⊢
        rw [valAt_some_full (by simp only [wid] at hw; omega)]
      | _ => cases h3

def cval (T : Nat → Option TI) (d : Nat) (op : Op) (e : Operand → SV) (κ : SV → Blk → Prop) : Prop :=
  match op with
  | .box t x => (match T t with | some i => if chunkOk i (normNil T t (e x)) then κ (.ptr d 0) (.chunk t (normNil T t (e x))) else False | none => False)
  | .alloc t => (match T t with | some i => if chunkOk i i.zero then κ (.ptr d 0) (.chunk t i.zero) else False | none => False)
  | _ => False

/-- A making operation, resolved. -/
structure COk (P : Program) (T : Nat → Option TI) (o : Oper) (d : Nat) (e : Operand → SV) (x : SV) (B : Blk) : Prop where
  h : ∀ (a : Act) (N : Nat) (w0 w : World) (X : Nat → Prop) (mem : List Blk) (ρ : Env), MRep T N w0 w X mem ρ → d < mem.length → getN Blk.no mem d = .no → memNoref d mem = true →
    (∀ y ∈ o.op.operands, noref d (e y) = true) → (∀ y ∈ o.op.operands, Den w (Forb X mem ρ) ρ (e y) (a.eval y)) →
    ∃ u w' ρ', (execOp a.eval o).run P w = .ok (.value u) w' ∧ MRep T N w0 w' X (setN B mem d) ρ' ∧ Den w' (Forb X (setN B mem d) ρ') ρ' x u ∧ Turn w (Forb X mem ρ) ρ w' (Forb X (setN B mem d) ρ') ρ' (some d)

theorem noref_norm {d t : Nat} {x : SV} (h : noref d x = true) : noref d (normNil T t x) = true := by
  unfold normNil
  split
  · repeat' split
    all_goals rfl
  · exact h

theorem new_chunk (sz : Sizes T) {d t : Nat} {i : TI} (ht : T t = some i) {y : SV} (hc : chunkOk i y = true) (hz : noref d y = true) {N : Nat} {w0 w : World} {X : Nat → Prop} {mem : List Blk} {ρ : Env} (m : MRep T N w0 w X mem ρ)
    (hd : d < mem.length) (hno : getN Blk.no mem d = .no) (hnr : memNoref d mem = true) {v : Value} (hv : Den w (Forb X mem ρ) ρ y v) :
    let w' := w.alloc (.cells v.cells t)
    ∃ ρ', MRep T N w0 w' X (setN (.chunk t y) mem d) ρ' ∧ Den w' (Forb X (setN (.chunk t y) mem d) ρ') ρ' (.ptr d 0) (.pointer (some ⟨w.heap.size, 0, none⟩)) ∧
      Turn w (Forb X mem ρ) ρ w' (Forb X (setN (.chunk t y) mem d) ρ') ρ' (some d) := by
  intro w'
  obtain ⟨c1, c2, c3⟩ := chunk_den (sz.one t i ht) hc hv
  have hbel : Below w.heap.size w w' := (Below.refl _ _).alloc (Nat.le_refl _) _
  have hown : ∀ b, b < w.heap.size → ¬ Forb X mem ρ b → ¬ Forb X (setN (.chunk t y) mem d) (upd ρ d (.pointer (some ⟨w.heap.size, 0, none⟩))) b ∧ w'.heap[b]? = w.heap[b]? := by
    intro b h1 h2
    refine ⟨fun hf => ?_, hbel.block b h1⟩
    rcases hf with hf | ⟨r, u, h3, h4, h5⟩
    · exact h2 (.inl hf)
    · rw [getN_setN _ _ _ _ _ hd] at h3
      by_cases hr : r = d
      · subst hr
        simp only [upd, if_true] at h4
        injection h4 with h4
        subst h4
        simp only [vblock] at h5
        injection h5 with h5
        omega
      · rw [if_neg hr] at h3
        simp only [upd, if_neg hr] at h4
        exact h2 (.inr ⟨r, u, h3, h4, h5⟩)
  obtain ⟨m', t'⟩ := m.create (w' := w') hd hno hnr (B := .chunk t y) (v := .pointer (some ⟨w.heap.size, 0, none⟩)) rfl (by show (w.heap.push _).size = _; simp) hbel
    ⟨i, w.heap.size, v.cells, t, ht, rfl, m.szN, heap_alloc_new w _, c1, c2, by
      rw [c3]
      refine (hv.mono hbel.size hown).env fun r => ?_
      by_cases hr : r = d
      · subst hr; exact .inr (.inr hz)
      · exact .inr (.inl (by simp [upd, hr]))⟩
  refine ⟨_, m', .ptr _ d 0 w.heap.size (fun q hq => ?_), t'⟩
  simp only [upd, if_true] at hq
  injection hq with hq
  exact hq.symm

theorem cval_ok (tys : Types P T) (sz : Sizes T) (hz0 : ∀ t i, T t = some i → ∀ d, noref d i.zero = true) {o : Oper} {d : Nat} {e : Operand → SV} {κ : SV → Blk → Prop} (h : cval T d o.op e κ) : ∃ x B, κ x B ∧ COk P T o d e x B := by
  generalize ho : o.op = op at h
  cases op
  case box t x =>
    simp only [cval] at h
    split at h <;> try exact h.elim
    rename_i i ht
    split at h <;> try exact h.elim
    rename_i hc
    refine ⟨_, _, h, ⟨fun a N w0 w X mem ρ m hd hno hnr hn hden => ?_⟩⟩
    have hx := normNil_den (T := T) (t := t) (hden x (by simp [ho, Op.operands]))
    obtain ⟨ρ', m', d', t'⟩ := new_chunk sz ht hc (noref_norm (hn x (by simp [ho, Op.operands]))) m hd hno hnr hx
    refine ⟨_, _, ρ', ?_, m', d', t'⟩
    simp only [execOp, ho, Instr.box, newVar, newRow, Sem.run_bind, run_newObj, Result.andThen_ok, Sem.run_pure]
    rfl
  case alloc t =>
    simp only [cval] at h
    split at h <;> try exact h.elim
    rename_i i ht
    split at h <;> try exact h.elim
    rename_i hc
    refine ⟨_, _, h, ⟨fun a N w0 w X mem ρ m hd hno hnr hn hden => ?_⟩⟩
    obtain ⟨z, hz, h2, _⟩ := (tys.ok t i ht).zero_run
    have hx : Den w (Forb X mem ρ) ρ i.zero z := by rw [h2]; exact ofValue_den _ _ _ _
    obtain ⟨ρ', m', d', t'⟩ := new_chunk sz ht hc (hz0 t i ht d) m hd hno hnr hx
    refine ⟨_, _, ρ', ?_, m', d', t'⟩
    simp only [execOp, ho, Instr.alloc, hz, newVar, newRow, Sem.run_bind, run_newObj, Result.andThen_ok, Sem.run_pure]
    rfl
  all_goals exact h.elim

def wblk (T : Nat → Option TI) (op : Op) (e : Operand → SV) (mem : List Blk) (κ : Nat → Blk → Prop) : Prop :=
  match op with
  | .store t x v => (match T t with
    | some i => (match e x with
      | .ptr r o => (match getN .no mem r with
        | .chunk t' y => if Nat.beq o 0 && Nat.beq t' t && chunkOk i (normNil T t (e v)) then κ r (.chunk t (normNil T t (e v))) else (match y with
          | .agg l => (match cellsA (normNil T t (e v)) with
            | some ys => if Nat.beq ys.length i.size && Nat.ble (o + ys.length) l.length then κ r (.chunk t' (.agg (putCells l o ys))) else False
            | none => False)
          | _ => False)
        | _ => False)
      | _ => False)
    | none => False)
  | _ => False
def wval (T : Nat → Option TI) (op : Op) (e : Operand → SV) (mem : List Blk) (κ : SV → List Blk → Prop) : Prop := wblk T op e mem (fun r b => κ .any (setN b mem r))

theorem wblk_det {T : Nat → Option TI} {op : Op} {e : Operand → SV} {mem : List Blk} {κ : Nat → Blk → Prop} (h : wblk T op e mem κ) : ∃ r b, κ r b ∧ wblk T op e mem (fun r' b' => r' = r ∧ b' = b) ∧ ∃ y ∈ op.operands, noref r (e y) = false := by
  cases op
  case store t x v =>
    simp only [wblk] at h ⊢
    cases ht : T t with
    | none => simp only [ht] at h
    | some i =>
      simp only [ht] at h ⊢
      cases hx : e x with
      | ptr r o =>
        simp only [hx] at h ⊢
        have hm : ∃ y ∈ (Op.store t x v).operands, noref r (e y) = false := ⟨x, by simp [Op.operands], by rw [hx]; simp [noref]⟩
        cases hg : getN Blk.no mem r with
        | chunk t' y =>
          simp only [hg] at h ⊢
          split at h
          · rename_i hc
            exact ⟨_, _, h, by rw [if_pos hc]; exact ⟨rfl, rfl⟩, hm⟩
          · rename_i hc
            cases y with
            | agg l =>
              simp only at h
              cases hcell : cellsA (normNil T t (e v)) with
              | none => simp only [hcell] at h
              | some ys =>
                simp only [hcell] at h
                split at h
                · rename_i hc2
                  exact ⟨_, _, h, by simp only [if_neg hc, if_pos hc2]; exact ⟨trivial, trivial⟩, hm⟩
                · exact h.elim
            | _ => exact h.elim
        | _ => simp only [hg] at h
      | _ => simp only [hx] at h
  all_goals exact h.elim
theorem wblk_mono {T : Nat → Option TI} {op : Op} {e : Operand → SV} {mem : List Blk} {κ κ' : Nat → Blk → Prop} (h : wblk T op e mem κ) (g : ∀ r b, κ r b → κ' r b) : wblk T op e mem κ' := by
  cases op
  case store t x v =>
    simp only [wblk] at h ⊢
    repeat' split at h
    all_goals first
      | exact h.elim
      | (simp_all; done)
      | (simp only [*]; try simp only [if_true]; first | exact g _ _ h | (split <;> simp_all))
  all_goals exact h.elim
theorem wblk_mem {T : Nat → Option TI} {op : Op} {e : Operand → SV} {m m' : List Blk} (h : ∀ r, (∃ y ∈ op.operands, noref r (e y) = false) → getN Blk.no m r = getN Blk.no m' r) {κ : Nat → Blk → Prop} (hv : wblk T op e m κ) : wblk T op e m' κ := by
  cases op
  case store t x v =>
    simp only [wblk] at hv ⊢
    cases ht : T t with
    | none => simp only [ht] at hv
    | some i =>
      simp only [ht] at hv ⊢
      cases hx : e x with
      | ptr r o =>
        simp only [hx] at hv ⊢
        rw [← h r ⟨x, by simp [Op.operands], by rw [hx]; simp [noref]⟩]
        exact hv
      | _ => simp only [hx] at hv
  all_goals exact hv.elim

theorem mem_lt {mem : List Blk} {r : Nat} {B : Blk} (h : getN Blk.no mem r = B) (hB : B ≠ .no) : r < mem.length := by
  rcases Nat.lt_or_ge r mem.length with h' | h'
  · exact h'
  · rw [getN_eq, List.getElem?_eq_none h'] at h; exact absurd h.symm hB

theorem run_store_at {t : Nat} {i : TI} (tok : TOk P t i) (w : World) (b o : Nat) (cur : Array Value) (ty : TypeId) (hg : w.heap[b]? = some (.cells cur ty (0, 0))) (v : Value) (hv : v.cells.size = i.size) (h1 : ∀ u ∈ v.cells.toList, u.oneCell' = true) (hl : o + i.size ≤ cur.size) :
    (Instr.storeAt t (.pointer (some ⟨b, o, none⟩)) v).run P w = .ok () (w.setRow b (cur.toList.take o ++ v.cells.toList ++ cur.toList.drop (o + v.cells.toList.length)).toArray) := by
  have hst := run_storeCells_at P b o ty v.cells.toList 0 cur w hg (by simp; omega) h1
  simp only [Nat.add_zero] at hst
  simp only [Instr.storeAt, Instr.sureAddr, Sem.run_bind, Sem.run_pure, Result.andThen_ok, storeVar, tok.sizeOf]
  rw [if_neg (by omega)]
  exact hst

theorem store_ok (tys : Types P T) (sz : Sizes T) {o : Oper} {t : Nat} {x vo : Operand} (ho : o.op = .store t x vo) {e : Operand → SV} {mem : List Blk} {κ : SV → List Blk → Prop} (h : wval T (.store t x vo) e mem κ) : ∃ y mem', κ y mem' ∧ Ok P T o e mem y mem' := by
  simp only [wval, wblk] at h
  split at h <;> try exact h.elim
  rename_i i ht
  split at h <;> try exact h.elim
  rename_i r off hx
  split at h <;> try exact h.elim
  rename_i t' y hm
  have hr := mem_lt hm (by simp)
  have tok := tys.ok t i ht
  have base : ∀ (a : Act) (N : Nat) (w0 w : World) (X : Nat → Prop) (ρ : Env), MRep T N w0 w X mem ρ → (∀ y ∈ o.op.operands, Den w (Forb X mem ρ) ρ (e y) (a.eval y)) →
      ∃ i' b us ty, T t' = some i' ∧ ρ r = some (.pointer (some ⟨b, 0, none⟩)) ∧ N ≤ b ∧ w.heap[b]? = some (.cells us ty (0, 0)) ∧ us.size = i'.size ∧ (∀ u ∈ us.toList, u.oneCell' = true) ∧ Den w (Forb X mem ρ) ρ y (valAt i'.shape us.toList 0) ∧
        a.eval x = .pointer (some ⟨b, off, none⟩) ∧ Den w (Forb X mem ρ) ρ (normNil T t (e vo)) (a.eval vo) := by
    intro a N w0 w X ρ m hd
    have hb := m.blk r
    rw [hm] at hb
    obtain ⟨i', b, us, ty, h1, h2, h3, h4, h5, h7, h6⟩ := hb
    have hdx := hd x (by simp [ho, Op.operands])
    rw [hx] at hdx
    generalize hev : a.eval x = v at hdx
    cases hdx with
    | ptr _ _ _ b' hb' =>
      have := hb' _ h2
      simp only [Value.pointer.injEq, Option.some.injEq, Addr.mk.injEq, and_true] at this
      subst this
      exact ⟨i', b, us, ty, h1, h2, h3, h4, h5, h7, h6, rfl, normNil_den (hd vo (by simp [ho, Op.operands]))⟩
  have fin : ∀ (a : Act) (N : Nat) (w0 w : World) (X : Nat → Prop) (ρ : Env) (m : MRep T N w0 w X mem ρ) (b : Nat) (us new : Array Value) (ty : TypeId) (B : Blk), ρ r = some (.pointer (some ⟨b, 0, none⟩)) → N ≤ b → w.heap[b]? = some (.cells us ty (0, 0)) → B.own = true →
      (execOp a.eval o).run P w = .ok .skip (w.setRow b new) →
      (Turn w (Forb X mem ρ) ρ (w.setRow b new) (Forb X (setN B mem r) ρ) ρ none → BlkRep T N (w.setRow b new) (Forb X (setN B mem r) ρ) ρ B (some (.pointer (some ⟨b, 0, none⟩)))) →
      ∀ (K : Act → World → Prop) (Q : Exit → Act → World → Prop),
        (∀ u w' ρ', MRep T N w0 w' X (setN B mem r) ρ' → Den w' (Forb X (setN B mem r) ρ') ρ' .any u → Turn w (Forb X mem ρ) ρ w' (Forb X (setN B mem r) ρ') ρ' none → K (a.put o.dst u) w') → o.wp P a w K Q := by
    intro a N w0 w X ρ m b us new ty B hρ hN hg hBo hr' hB K Q hK
    obtain ⟨m', t'⟩ := m.update hr hρ (by rw [hm]; rfl) (b := b) rfl (w' := w.setRow b new) (by simp [World.setRow]) ⟨rfl, rfl, rfl, by simp [World.setRow], fun k hk => setRow_other w b k new (by omega)⟩ (fun k hk => setRow_other w b k new hk) hBo hB
    unfold Oper.wp
    rw [hr']
    exact hK undef _ ρ m' (.any _ _) t'
  split at h
  · rename_i hc
    simp only [Bool.and_eq_true] at hc
    have h0 : off = 0 := Nat.eq_of_beq_eq_true hc.1.1
    have h1 : t' = t := Nat.eq_of_beq_eq_true hc.1.2
    subst h0; subst h1
    refine ⟨_, _, h, ⟨fun a N w0 w X ρ m hd K Q hK => ?_⟩⟩
    obtain ⟨i', b, us, ty, e1, e2, e3, e4, e5, e6, e7, e8, e9⟩ := base a N w0 w X ρ m hd
    rw [ht] at e1
    injection e1 with e1
    subst e1
    obtain ⟨c1, c2, c3⟩ := chunk_den (sz.one t' i ht) hc.2 e9
    have hs := run_store_at tok w b 0 us ty e4 (a.eval vo) c1 c2 (by omega)
    refine fin a N w0 w X ρ m b us (us.toList.take 0 ++ (a.eval vo).cells.toList ++ us.toList.drop (0 + (a.eval vo).cells.toList.length)).toArray ty _ e2 e3 e4 rfl (by simp only [execOp, ho, e8, Sem.run_bind, hs, Result.andThen_ok, Sem.run_pure]) (fun tn => ?_) K Q hK
    have hnew : (us.toList.take 0 ++ (a.eval vo).cells.toList ++ us.toList.drop (0 + (a.eval vo).cells.toList.length)) = (a.eval vo).cells.toList := by
      rw [List.drop_of_length_le (by simp; omega)]
      simp
    rw [hnew] at tn ⊢
    exact ⟨i, b, _, ty, ht, rfl, e3, setRow_heap w b us _ ty (0, 0) e4, by simpa using c1, by simpa using c2, by
      have : valAt i.shape ((a.eval vo).cells.toList.toArray).toList 0 = a.eval vo := by simpa using c3
      rw [this]
      exact tn.den (fun _ hr => by cases hr) e9⟩
  · split at h <;> try exact h.elim
    rename_i l
    split at h <;> try exact h.elim
    rename_i ys hys
    split at h <;> try exact h.elim
    rename_i hc
    simp only [Bool.and_eq_true] at hc
    have hl1 := Nat.eq_of_beq_eq_true hc.1
    have hl2 := Nat.le_of_ble_eq_true hc.2
    refine ⟨_, _, h, ⟨fun a N w0 w X ρ m hd K Q hK => ?_⟩⟩
    obtain ⟨i', b, us, ty, e1, e2, e3, e4, e5, e6, e7, e8, e9⟩ := base a N w0 w X ρ m hd
    obtain ⟨c1, c2⟩ := cellsA_den hys e9
    have hvs : (a.eval vo).cells.size = i.size := by rw [← hl1, c1.1, Array.length_toList]
    have hsh : ∃ n, i'.shape = some n := by
      cases hs : i'.shape with
      | some n => exact ⟨n, rfl⟩
      | none =>
        rw [hs] at e7
        obtain ⟨cs, e10, _⟩ := Den.agg_iff.1 e7
        simp only [valAt] at e10
        cases hu : us.toList[0]? with
        | none => rw [hu] at e10; simp [undef] at e10
        | some u =>
          rw [hu] at e10
          have := e6 u (List.mem_of_getElem? hu)
          simp only [Option.getD_some] at e10
          rw [e10] at this
          simp [Value.oneCell'] at this
    obtain ⟨n, hn⟩ := hsh
    have hn' : n = i'.size := by
      have := TI.wid_size (sz.one _ _ e1)
      rw [hn] at this
      exact this.symm
    rw [hn, valAt_some_full (by rw [Array.length_toList]; omega)] at e7
    obtain ⟨cs, e10, hcs⟩ := Den.agg_iff.1 e7
    injection e10 with e10
    injection e10 with e10
    subst e10
    have hul : us.size = l.length := by rw [← Array.length_toList, ← hcs.1]
    have hs := run_store_at tok w b off us ty e4 (a.eval vo) hvs c2 (by omega)
    refine fin a N w0 w X ρ m b us (us.toList.take off ++ (a.eval vo).cells.toList ++ us.toList.drop (off + (a.eval vo).cells.toList.length)).toArray ty _ e2 e3 e4 rfl (by simp only [execOp, ho, e8, Sem.run_bind, hs, Result.andThen_ok, Sem.run_pure]) (fun tn => ?_) K Q hK
    have hgt : ∀ k : Nat, (us.toList.take off ++ (a.eval vo).cells.toList ++ us.toList.drop (off + (a.eval vo).cells.toList.length))[k]? = if off ≤ k ∧ k < off + ys.length then (a.eval vo).cells.toList[k - off]? else us.toList[k]? := by
      intro k
      have hcl : (a.eval vo).cells.toList.length = ys.length := c1.1.symm
      by_cases hk : k < off
      · rw [if_neg (by omega), List.append_assoc, List.getElem?_append_left (by simp; omega), List.getElem?_take, if_pos hk]
      · by_cases hk2 : k < off + ys.length
        · rw [if_pos (by omega), List.append_assoc, List.getElem?_append_right (by simp; omega), List.getElem?_append_left (by simp; omega)]
          congr 1
          simp
          omega
        · rw [if_neg (by omega), List.getElem?_append_right (by simp; omega), List.getElem?_drop]
          congr 1
          simp
          omega
    have hlen : (us.toList.take off ++ (a.eval vo).cells.toList ++ us.toList.drop (off + (a.eval vo).cells.toList.length)).length = us.size := by
      have hcl : (a.eval vo).cells.toList.length = ys.length := c1.1.symm
      simp only [List.length_append, List.length_take, List.length_drop, Array.length_toList]
      simp only [Array.length_toList] at hcl
      omega
    refine ⟨i', b, _, ty, e1, rfl, e3, setRow_heap w b us _ ty (0, 0) e4, by simp only [List.size_toArray]; rw [hlen, e5], fun u hu => ?_, ?_⟩
    · simp only [List.mem_append] at hu
      rcases hu with (hu | hu) | hu
      · exact e6 u (List.mem_of_mem_take hu)
      · exact c2 u hu
      · exact e6 u (List.mem_of_mem_drop hu)
    · rw [hn, valAt_some_full (by rw [hlen]; omega)]
      refine Den.agg_iff.2 ⟨_, rfl, ⟨by rw [putCells_length, hlen, hul], fun k z u hz hu => ?_⟩⟩
      rw [putCells_get _ _ _ _ hl2] at hz
      rw [hgt k] at hu
      split at hz
      · rename_i hk
        rw [if_pos hk] at hu
        exact tn.den (fun _ hr => by cases hr) (c1.2 _ _ _ hz hu)
      · rename_i hk
        rw [if_neg hk] at hu
        exact tn.den (fun _ hr => by cases hr) (hcs.2 _ _ _ hz hu)
end Go.Proofs.Ytopalajoinkgkaa
