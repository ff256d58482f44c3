/- The operations that write: stores, append, copy. -/
import Derived.Test.YtligbjbkecmecaaDoorWg
namespace Go.Proofs.YtligbjbkecmecaaDoor
set_option linter.unusedVariables false
set_option linter.unusedSimpArgs false
open Go.RowKit
variable {P : Program} {T : Nat → Option TI}

/-- What is read off a slice or a string. -/
noncomputable def srcOf (μ : Nat → Blk) (sh : Option Nat) (x : SV) : Option (List SV) :=
  match x with
  | .str s => (match sh with | none => some (O.by' s) | _ => none)
  | x => listOf μ sh x
def isSrc (d : Option TI) : Bool := match d with
  | some i => (match i.kind with | .slice _ => true | .string => true | _ => false)
  | none => false
/-- The base of an append: a row that is given up, and what it reads as. -/
noncomputable def baseOf (μ : Nat → Blk) (sh : Option Nat) (el : Nat) (x : SV) : Option (Option Nat × List SV) :=
  match x with
  | .nil => some (none, [])
  | .rsl q s2 a n _ => (match μ q with | .row s e l => if shEq s sh && Nat.beq e el && shEq s2 sh then some (some q, O.sg l a n) else none | _ => none)
  | .row q => (match μ q with | .row s e l => if shEq s sh && Nat.beq e el then some (some q, l) else none | _ => none)
  | _ => none

/-- The content of a row of which the element i is written. -/
def setL (l : List SV) (i : Nat) (y : SV) : List SV := l.set i y

/-- One list behind the other. -/
noncomputable def apL (l ys : List SV) : List SV := match l with | [] => ys | l => O.ap l ys
theorem apL_eq (l ys : List SV) : apL l ys = l ++ ys := by unfold apL; split <;> simp [O.hap]
theorem O.st_eq (l : List SV) (i : Nat) (y : SV) : O.st l i y = setL l i y := O.hst l i y
/-- The operations that write; d is their slot. -/
def allIntB : List SV → Bool
  | [] => true
  | x :: l => (match x with | .int _ _ => allIntB l | _ => false)
theorem allIntB_get : ∀ {l : List SV}, allIntB l = true → ∀ (i : Nat) (x : SV), l[i]? = some x → ∃ k n, x = .int k n
  | [], _, i, x, h => by simp at h
  | y :: l, hl, i, x, h => by
    cases y <;> simp only [allIntB] at hl <;> first | cases hl; done | skip
    cases i with
    | zero => simp at h; exact ⟨_, _, h.symm⟩
    | succ i => exact allIntB_get hl i x (by simpa using h)

def wval (T : Nat → Option TI) (d : Option Nat) (op : Op) (e : Operand → SV) (μ : Nat → Blk) (κ : SV → List (Nat × Blk) → Prop) : Prop :=
  match op with
  | .store t x v => (match T t with
    | some i => (match e x with
      | .ptr r o => (match μ r with
        | .chunk t' y => if Nat.beq o 0 && Nat.beq t' t && chunkOk i (normNil T t (e v)) then κ .any [(r, .chunk t (normNil T t (e v)))] else (match y with
          | .agg l => (match cellsA (normNil T t (e v)) with
            | some ys => if Nat.beq ys.length i.size && Nat.ble (o + ys.length) l.length then κ .any [(r, .chunk t' (.agg (putCells l o ys)))] else False
            | none => False)
          | _ => False)
        | _ => False)
      | .rptr r sh j o => (match μ r with
        | .row s el l => if shEq s sh && noref r (e v) then (match view T μ t (e v) with
          | some y => if Nat.beq o 0 && shEq sh i.shape && chunkOk i y then Rq (fun _ => j < O.ln l) (fun _ => κ .any (frzU μ (rids (e v)) ++ [(r, .row s el (O.st l j y))]))
            else (match cellsA y with
              | some ys => if Nat.beq ys.length i.size then QV (fun (c : List SV) => l[j]? = some (.agg c) ∧ o + ys.length ≤ c.length) (fun c => κ .any (frzU μ (rids (e v)) ++ [(r, .row s el (O.st l j (.agg (putCells c o ys))))])) else False
              | none => False)
          | none => False) else False
        | _ => False)
      | _ => False)
    | none => False)
  | .call c => (match c.callee, c.argTypes.toList, c.args.toList, d with
    | .builtin .append, [t, t2], [s, x], some d => (match T t with
      | some i => (match i.kind with
        | .slice el => (match T el with
          | some j => if isSrc (T t2) && !(Nat.beq j.size 0) && !(Nat.beq j.bytes 0) then (match baseOf μ j.shape el (e s), srcOf μ j.shape (e x) with
            | some (q, l), some ys => Rq (fun _ => ((O.ln l : Int) + (O.ln ys : Int)) * (j.bytes : Int) ≤ 140737488355328) (fun _ => κ (.row d) ((match q with | some q => [(q, .no)] | none => []) ++ [(d, .row j.shape el (apL l ys))]))
            | _, _ => False) else False
          | none => False)
        | _ => False)
      | none => False)
    | .builtin .copy, [t, t2], [s, x], _ => (match T t with
      | some i => (match i.kind with
        | .slice el => (match T el with
          | some j => if isSrc (T t2) && !(Nat.beq j.size 0) then (match srcOf μ j.shape (e x), e s with
            | some ys, .row q => (match μ q with
              | .row s' el' l => if shEq s' j.shape then Q1 (fun _ => True) (fun z => z = min (O.ln ys : Int) (O.ln l : Int)) (fun z => κ (.int .i64 z) [(q, .row s' el' (O.cp l 0 (O.ln l) ys))]) else False
              | _ => False)
            | some ys, .rsl q s' a n _ => (match μ q with
              | .chunk t' (.agg l) => if shEq s' none && shEq none j.shape && allIntB ys then Rq (fun _ => a + n ≤ l.length) (fun _ => Q1 (fun _ => True) (fun z => z = min (O.ln ys : Int) (n : Int)) (fun z => κ (.int .i64 z) [(q, .chunk t' (.agg (O.cp l a n ys)))])) else False
              | .row s'' el' l => if shEq s' j.shape && shEq s'' j.shape then Rq (fun _ => a + n ≤ O.ln l) (fun _ => Q1 (fun _ => True) (fun z => z = min (O.ln ys : Int) (n : Int)) (fun z => κ (.int .i64 z) [(q, .row s'' el' (O.cp l a n ys))])) else False
              | _ => False)
            | _, _ => False) else False
          | none => False)
        | _ => False)
      | none => False)
    | _, _, _, _ => False)
  | _ => False

theorem run_store_at {t : Nat} {i : TI} (tok : TOk P t i) (w : World) (b o : Nat) (cur : Array Value) (ty : TypeId) (hg : w.heap[b]? = some (.cells cur ty (0, 0))) (v : Value) (hv : v.cells.size = i.size) (h1 : ∀ u ∈ v.cells.toList, u.oneCell' = true) (hl : o + i.size ≤ cur.size) :
    (Instr.storeAt t (.pointer (some ⟨b, o, none⟩)) v).run P w = .ok () (w.setRow b (cur.toList.take o ++ v.cells.toList ++ cur.toList.drop (o + v.cells.toList.length)).toArray) := by
  have hst := run_storeCells_at P b o ty v.cells.toList 0 cur w hg (by simp; omega) h1
  simp only [Nat.add_zero] at hst
  simp only [Instr.storeAt, Instr.sureAddr, Sem.run_bind, Sem.run_pure, Result.andThen_ok, storeVar, tok.sizeOf]
  rw [if_neg (by omega)]
  exact hst

/-- A splice of a list, looked at. -/
theorem splice_get {us vs : List Value} {off : Nat} (h : off + vs.length ≤ us.length) (k : Nat) : (us.take off ++ vs ++ us.drop (off + vs.length))[k]? = if off ≤ k ∧ k < off + vs.length then vs[k - off]? else us[k]? := by
  by_cases hk : k < off
  · rw [if_neg (by omega), List.append_assoc, List.getElem?_append_left (by simp; omega), List.getElem?_take, if_pos hk]
  · by_cases hk2 : k < off + vs.length
    · rw [if_pos (by omega), List.append_assoc, List.getElem?_append_right (by simp; omega), List.getElem?_append_left (by simp; omega)]
      congr 1
      simp
      omega
    · rw [if_neg (by omega), List.getElem?_append_right (by simp; omega), List.getElem?_drop]
      congr 1
      simp
      omega
theorem splice_len {us vs : List Value} {off : Nat} (h : off + vs.length ≤ us.length) : (us.take off ++ vs ++ us.drop (off + vs.length)).length = us.length := by
  simp only [List.length_append, List.length_take, List.length_drop]
  omega
theorem valAt_ext {sh : Option Nat} {us vs : List Value} {i : Nat} (hu : i * wid sh + wid sh ≤ us.length) (hv : i * wid sh + wid sh ≤ vs.length) (h : ∀ k, i * wid sh ≤ k → k < i * wid sh + wid sh → us[k]? = vs[k]?) : valAt sh us i = valAt sh vs i := by
  rw [valAt_seg _ _ _ hu, valAt_seg _ _ _ hv]
  congr 1
  apply List.ext_getElem?
  intro k
  rw [List.getElem?_take, List.getElem?_take, List.getElem?_drop, List.getElem?_drop]
  split
  · exact h _ (by omega) (by omega)
  · rfl
theorem valAt_ext0 {sh : Option Nat} {us vs : List Value} {i : Nat} (hu : i * wid sh + wid sh ≤ us.length) (hv : wid sh ≤ vs.length) (h : ∀ k, k < wid sh → us[i * wid sh + k]? = vs[k]?) : valAt sh us i = valAt sh vs 0 := by
  rw [valAt_seg _ _ _ hu, valAt_seg sh vs 0 (by omega)]
  congr 1
  apply List.ext_getElem?
  intro k
  rw [List.getElem?_take, List.getElem?_take, List.getElem?_drop, List.getElem?_drop]
  split
  · rename_i hk
    rw [h k hk, Nat.zero_mul, Nat.zero_add]
  · rfl

/-- A part of a row's cells written: the row's new content. -/
theorem row_write {N : Nat → Prop} {w0 w : World} {X : Nat → Prop} {mem : Mem} {ρ : Env} (m : MRep T N w0 w X mem ρ) {r : Nat} {sh : Option Nat} {el : Nat} {l l' : List SV} (hr : getM mem r = .row sh el l) (hl' : l'.length = l.length)
    {b off cap : Nat} {cur : Array Value} (hρ : ρ r = some (.slice (some ⟨b, off, none⟩) l.length cap)) (hN : N b) (hg : w.heap[b]? = some (.cells cur el (0, 0))) (h5 : l.length ≤ cap) (h6 : cap ≤ maxLen) (h7 : off + cap * wid sh ≤ cur.size) (h0 : 0 < cap)
    (h9 : ∀ u ∈ cur.toList, u.oneCell' = true) (at' : Nat) (vs : List Value) (hat : at' + vs.length ≤ cur.size) (hv1 : ∀ u ∈ vs, u.oneCell' = true)
    (hden : ∀ (i : Nat) (h : i < l'.length), Den w (Forb X mem ρ) noEnv l'[i] (valAt sh ((cur.toList.take at' ++ vs ++ cur.toList.drop (at' + vs.length)).drop off) i)) :
    MRep T N w0 (w.setRow b (cur.toList.take at' ++ vs ++ cur.toList.drop (at' + vs.length)).toArray) X (setM (.row sh el l') mem r) ρ ∧
      Turn w (Forb X mem ρ) ρ (w.setRow b (cur.toList.take at' ++ vs ++ cur.toList.drop (at' + vs.length)).toArray) (Forb X (setM (.row sh el l') mem r) ρ) ρ none := by
  refine m.update (w' := w.setRow b (cur.toList.take at' ++ vs ++ cur.toList.drop (at' + vs.length)).toArray) hρ (by rw [hr]; rfl) (b := b) (by simp only [vblock]; rw [if_neg (by omega)]) ⟨rfl, rfl, rfl, by simp [World.setRow], fun k hk => setRow_other w b k _ (by omega)⟩ (fun k hk => setRow_other w b k _ hk) (fun tn => ?_)
  refine ⟨_, rfl, .inr ⟨b, off, cap, _, by rw [hl'], hN, setRow_heap w b cur _ el (0, 0) hg, by omega, h6, ?_, h0, fun u hu => ?_, fun i hi => ?_⟩⟩
  · simp only [List.size_toArray]
    rw [splice_len (by rw [Array.length_toList]; exact hat), Array.length_toList]
    exact h7
  · simp only [List.mem_append] at hu
    rcases hu with (hu | hu) | hu
    · exact h9 u (List.mem_of_mem_take hu)
    · exact hv1 u hu
    · exact h9 u (List.mem_of_mem_drop hu)
  · exact (hden i hi).mono tn.size tn.keep

theorem Sees.row {μ : Nat → Blk} {mem : Mem} (hμ : Sees μ mem) {r : Nat} {B : Blk} (h : μ r = B) (hB : B ≠ .no) : getM mem r = B := by
  rcases hμ r with g | g
  · exact absurd (h.symm.trans g) hB
  · rw [← g]; exact h

theorem store_chunk_ok (tys : Types P T) (sz : Sizes T) {o : Oper} {t : Nat} {x vo : Operand} (ho : o.op = .store t x vo) {e : Operand → SV} {μ : Nat → Blk} {i : TI} (ht : T t = some i) {r off : Nat} (hx : e x = .ptr r off) {t' : Nat} {y : SV} (hm : μ r = .chunk t' y)
    {κ : SV → List (Nat × Blk) → Prop} (h : if Nat.beq off 0 && Nat.beq t' t && chunkOk i (normNil T t (e vo)) then κ .any [(r, .chunk t (normNil T t (e vo)))] else (match (generalizing := false) y with
          | .agg l => (match cellsA (normNil T t (e vo)) with
            | some ys => if Nat.beq ys.length i.size && Nat.ble (off + ys.length) l.length then κ .any [(r, .chunk t' (.agg (putCells l off ys)))] else False
            | none => False)
          | _ => False)) :
    ∃ B, κ .any [(r, B)] ∧ Eff P T o e μ .any [(r, B)] none := by
  have tok := tys.ok t i ht
  have base : ∀ (mem : Mem), Sees μ mem → ∀ (a : Act) (N : Nat → Prop) (w0 w : World) (X : Nat → Prop) (ρ : Env), MRep T N w0 w X mem ρ → (∀ y ∈ o.op.operands, Den w (Forb X mem ρ) ρ (e y) (a.eval y)) →
      ∃ i' b us ty, T t' = some i' ∧ ρ r = some (.pointer (some ⟨b, 0, none⟩)) ∧ N b ∧ w.heap[b]? = some (.cells us ty (0, 0)) ∧ us.size = i'.size ∧ (∀ u ∈ us.toList, u.oneCell' = true) ∧ Den w (Forb X mem ρ) ρ y (valAt i'.shape us.toList 0) ∧
        a.eval x = .pointer (some ⟨b, off, none⟩) ∧ Den w (Forb X mem ρ) ρ (normNil T t (e vo)) (a.eval vo) := by
    intro mem hμ a N w0 w X ρ m hd
    have hb := hμ.blk m r
    rw [hm] at hb
    obtain ⟨i', b, us, ty, h1, h2, h3, h4, h5, h7, h6⟩ := hb.resolve_left (by simp)
    have hdx := hd x (by simp [ho, Op.operands])
    rw [hx] at hdx
    generalize hev : a.eval x = v at hdx
    cases hdx with
    | ptr _ _ _ b' hb' =>
      have := hb' _ h2
      simp only [Value.pointer.injEq, Option.some.injEq, Addr.mk.injEq, and_true] at this
      subst this
      exact ⟨i', b, us, ty, h1, h2, h3, h4, h5, h7, h6, rfl, normNil_den (hd vo (by simp [ho, Op.operands]))⟩
  have fin : ∀ (mem : Mem), Sees μ mem → ∀ (a : Act) (N : Nat → Prop) (w0 w : World) (X : Nat → Prop) (ρ : Env) (m : MRep T N w0 w X mem ρ) (b : Nat) (us new : Array Value) (ty : TypeId) (B : Blk), ρ r = some (.pointer (some ⟨b, 0, none⟩)) → N b → w.heap[b]? = some (.cells us ty (0, 0)) →
      (execOp a.eval o).run P w = .ok .skip (w.setRow b new) →
      (Turn w (Forb X mem ρ) ρ (w.setRow b new) (Forb X (setM B mem r) ρ) ρ none → BlkRep T N (w.setRow b new) (Forb X (setM B mem r) ρ) ρ B (some (.pointer (some ⟨b, 0, none⟩)))) →
      ∃ r' u w' ρ', (execOp a.eval o).run P w = .ok r' w' ∧ (r' = .value u ∨ (r' = .skip ∧ SV.any = .any)) ∧ MRep T N w0 w' X (appU [(r, B)] mem) ρ' ∧ Den w' (Forb X (appU [(r, B)] mem) ρ') ρ' .any u ∧ Turn w (Forb X mem ρ) ρ w' (Forb X (appU [(r, B)] mem) ρ') ρ' none := by
    intro mem hμ a N w0 w X ρ m b us new ty B hρ hN hg hr' hB
    obtain ⟨m', t'⟩ := m.update hρ (by rw [hμ.row hm (by simp)]; rfl) (b := b) rfl (w' := w.setRow b new) ⟨rfl, rfl, rfl, by simp [World.setRow], fun k hk => setRow_other w b k new (by omega)⟩ (fun k hk => setRow_other w b k new hk) hB
    exact ⟨_, undef, _, ρ, hr', .inr ⟨rfl, rfl⟩, m', .any _ _, t'⟩
  split at h
  · rename_i hc
    simp only [Bool.and_eq_true] at hc
    have h0 : off = 0 := Nat.eq_of_beq_eq_true hc.1.1
    have h1 : t' = t := Nat.eq_of_beq_eq_true hc.1.2
    subst h0; subst h1
    refine ⟨_, h, .of_run fun mem hμ _ a N w0 w X ρ m hd => ?_⟩
    obtain ⟨i', b, us, ty, e1, e2, e3, e4, e5, e6, e7, e8, e9⟩ := base mem hμ a N w0 w X ρ m hd
    rw [ht] at e1
    injection e1 with e1
    subst e1
    obtain ⟨c1, c2, c3⟩ := chunk_den (sz.one t' i ht) hc.2 e9
    have hs := run_store_at tok w b 0 us ty e4 (a.eval vo) c1 c2 (by omega)
    refine fin mem hμ a N w0 w X ρ m b us (us.toList.take 0 ++ (a.eval vo).cells.toList ++ us.toList.drop (0 + (a.eval vo).cells.toList.length)).toArray ty _ e2 e3 e4 (by simp only [execOp, ho, e8, Sem.run_bind, hs, Result.andThen_ok, Sem.run_pure]) (fun tn => ?_)
    have hnew : (us.toList.take 0 ++ (a.eval vo).cells.toList ++ us.toList.drop (0 + (a.eval vo).cells.toList.length)) = (a.eval vo).cells.toList := by
      rw [List.drop_of_length_le (by simp; omega)]
      simp
    rw [hnew] at tn ⊢
    exact ⟨i, b, _, ty, ht, rfl, e3, setRow_heap w b us _ ty (0, 0) e4, by simpa using c1, by simpa using c2, by
      have : valAt i.shape ((a.eval vo).cells.toList.toArray).toList 0 = a.eval vo := by simpa using c3
      rw [this]
      exact tn.den (fun _ hr => by cases hr) e9⟩
  · split at h <;> try exact h.elim
    rename_i l
    split at h <;> try exact h.elim
    rename_i ys hys
    split at h <;> try exact h.elim
    rename_i hc
    simp only [Bool.and_eq_true] at hc
    have hl1 := Nat.eq_of_beq_eq_true hc.1
    have hl2 := Nat.le_of_ble_eq_true hc.2
    refine ⟨_, h, .of_run fun mem hμ _ a N w0 w X ρ m hd => ?_⟩
    obtain ⟨i', b, us, ty, e1, e2, e3, e4, e5, e6, e7, e8, e9⟩ := base mem hμ a N w0 w X ρ m hd
    obtain ⟨c1, c2⟩ := cellsA_den hys e9
    have hvs : (a.eval vo).cells.size = i.size := by rw [← hl1, c1.1, Array.length_toList]
    have hsh : ∃ n, i'.shape = some n := by
      cases hs : i'.shape with
      | some n => exact ⟨n, rfl⟩
      | none =>
        rw [hs] at e7
        obtain ⟨cs, e10, _⟩ := Den.agg_iff.1 e7
        simp only [valAt] at e10
        cases hu : us.toList[0]? with
        | none => rw [hu] at e10; simp [undef] at e10
        | some u =>
          rw [hu] at e10
          have := e6 u (List.mem_of_getElem? hu)
          simp only [Option.getD_some] at e10
          rw [e10] at this
          simp [Value.oneCell'] at this
    obtain ⟨n, hn⟩ := hsh
    have hn' : n = i'.size := by
      have := TI.wid_size (sz.one _ _ e1)
      rw [hn] at this
      exact this.symm
    rw [hn, valAt_some_full (by rw [Array.length_toList]; omega)] at e7
    obtain ⟨cs, e10, hcs⟩ := Den.agg_iff.1 e7
    injection e10 with e10
    injection e10 with e10
    subst e10
    have hul : us.size = l.length := by rw [← Array.length_toList, ← hcs.1]
    have hcl : (a.eval vo).cells.toList.length = ys.length := c1.1.symm
    have hfit : off + (a.eval vo).cells.toList.length ≤ us.toList.length := by rw [hcl, Array.length_toList (xs := us)]; omega
    have hs := run_store_at tok w b off us ty e4 (a.eval vo) hvs c2 (by omega)
    refine fin mem hμ a N w0 w X ρ m b us (us.toList.take off ++ (a.eval vo).cells.toList ++ us.toList.drop (off + (a.eval vo).cells.toList.length)).toArray ty _ e2 e3 e4 (by simp only [execOp, ho, e8, Sem.run_bind, hs, Result.andThen_ok, Sem.run_pure]) (fun tn => ?_)
    have hlen := splice_len hfit
    refine ⟨i', b, _, ty, e1, rfl, e3, setRow_heap w b us _ ty (0, 0) e4, by simp only [List.size_toArray]; rw [hlen, Array.length_toList, e5], fun u hu => ?_, ?_⟩
    · simp only [List.mem_append] at hu
      rcases hu with (hu | hu) | hu
      · exact e6 u (List.mem_of_mem_take hu)
      · exact c2 u hu
      · exact e6 u (List.mem_of_mem_drop hu)
    · rw [hn, valAt_some_full (by rw [hlen, Array.length_toList]; omega)]
      refine Den.agg_iff.2 ⟨_, rfl, ⟨by rw [putCells_length, hlen, Array.length_toList (xs := us), hul], fun k z u hz hu => ?_⟩⟩
      rw [putCells_get _ _ _ _ hl2] at hz
      rw [splice_get hfit, hcl] at hu
      split at hz
      · rename_i hk
        rw [if_pos hk] at hu
        exact tn.den (fun _ hr => by cases hr) (c1.2 _ _ _ hz hu)
      · rename_i hk
        rw [if_neg hk] at hu
        exact tn.den (fun _ hr => by cases hr) (hcs.2 _ _ _ hz hu)

/-- A row's value and its block. -/
theorem Sees.rowAt {μ : Nat → Blk} {mem : Mem} (hμ : Sees μ mem) {N : Nat → Prop} {w0 w : World} {X : Nat → Prop} {ρ : Env} (m : MRep T N w0 w X mem ρ) {r : Nat} {sh : Option Nat} {el : Nat} {l : List SV} (h : μ r = .row sh el l) :
    ∃ v, ρ r = some v ∧ getM mem r = .row sh el l ∧ ((∃ a, v = .slice a 0 0 ∧ l = []) ∨ ∃ b off cap cur, v = .slice (some ⟨b, off, none⟩) l.length cap ∧ N b ∧ w.heap[b]? = some (.cells cur el (0, 0)) ∧
      l.length ≤ cap ∧ cap ≤ maxLen ∧ off + cap * wid sh ≤ cur.size ∧ 0 < cap ∧ (∀ u ∈ cur.toList, u.oneCell' = true) ∧ ∀ (i : Nat) (h : i < l.length), Den w (Forb X mem ρ) noEnv l[i] (valAt sh (cur.toList.drop off) i)) := by
  have hg := hμ.row h (by simp)
  have hb := m.blk r
  rw [hg] at hb
  obtain ⟨v, h1, h2⟩ := hb
  exact ⟨v, h1, hg, h2⟩

theorem Den.noEnv_env {w : World} {X : Nat → Prop} {ρ : Env} {x : SV} {v : Value} (h : Den w X noEnv x v) (hd : dataB x = true) : Den w X ρ x v := h.data hd

theorem store_row_ok (tys : Types P T) {o : Oper} {t : Nat} {x vo : Operand} (ho : o.op = .store t x vo) {e : Operand → SV} {μ : Nat → Blk} {i : TI} (ht : T t = some i) {r off j : Nat} {sh s : Option Nat} (hx : e x = .rptr r sh j off) {el : Nat} {l : List SV} (hm : μ r = .row s el l)
    (hs : s = sh) (hnr : noref r (e vo) = true) {y : SV} (hy : view T μ t (e vo) = some y) {l' : List SV} (hl' : l'.length = l.length)
    (hnew : ∀ (w : World) (Y : Nat → Prop) (us : List Value) (v : Value), Den w Y noEnv y v → us.length = l.length * wid sh → (∀ u ∈ us, u.oneCell' = true) → (∀ (i : Nat) (h : i < l.length), Den w Y noEnv l[i] (valAt sh us i)) →
      j < l.length ∧ v.cells.size = i.size ∧ (∀ u ∈ v.cells.toList, u.oneCell' = true) ∧ off + i.size ≤ wid sh ∧
      ∀ (us' : List Value), us'.length = us.length → (∀ k, us'[k]? = if j * wid sh + off ≤ k ∧ k < j * wid sh + off + i.size then v.cells.toList[k - (j * wid sh + off)]? else us[k]?) → ∀ (i : Nat) (h : i < l'.length), Den w Y noEnv l'[i] (valAt sh us' i)) :
    Eff P T o e μ .any (frzU μ (rids (e vo)) ++ [(r, .row s el l')]) none := by
  subst hs
  have tok := tys.ok t i ht
  refine .of_run fun mem hμ _ a N w0 w X ρ m hd => ?_
  have fz := freeze_ids hμ m (rids (e vo))
  have hr1 : r ∉ rids (e vo) := fun hr => by rw [rids_noref hr] at hnr; cases hnr
  obtain ⟨v, hv, hg, hcase⟩ := hμ.rowAt m hm
  have hg' : getM (appU (frzU μ (rids (e vo))) mem) r = .row s el l := by
    rcases fz.old r with h | h
    · rw [h]; exact hg
    · exact absurd h.1 hr1
  have hden := fz.view (T := T) (t := t) (fun r h => h) hy (hd vo (by simp [ho, Op.operands]))
  have hdx := hd x (by simp [ho, Op.operands])
  rw [hx] at hdx
  rcases hcase with ⟨a0, rfl, rfl⟩ | ⟨b, o1, cap, cur, rfl, hN, hh, h5, h6, h7, h0, h9, h8⟩
  · exfalso
    have := (hnew w _ [] (a.eval vo) hden (by simp) (by simp) (fun i h => by simp at h)).1
    simp at this
  have hcl : cur.toList.length = cur.size := Array.length_toList
  have hle5 : l.length * wid s ≤ cap * wid s := Nat.mul_le_mul_right _ h5
  obtain ⟨hj, c1, c2, hoff, hres⟩ := hnew w _ ((cur.toList.drop o1).take (l.length * wid s)) (a.eval vo) hden (by rw [List.length_take, List.length_drop]; omega) (fun u hu => h9 u (List.mem_of_mem_drop (List.mem_of_mem_take hu))) (fun i hi => by
    rw [valAt_take s _ l.length i hi (by rw [List.length_drop]; omega)]
    exact (h8 i hi).mono fz.t.size fz.t.keep)
  have hlej : j * wid s + wid s ≤ l.length * wid s := by rw [← Nat.succ_mul]; exact Nat.mul_le_mul_right _ hj
  have hvl : (a.eval vo).cells.toList.length = i.size := by rw [Array.length_toList, c1]
  have hev : a.eval x = .pointer (some ⟨b, o1 + j * wid s + off, none⟩) := by
    generalize hq : a.eval x = q at hdx
    cases hdx with
    | rptr _ _ _ _ _ b' o' hb' =>
      obtain ⟨len, cap', e2⟩ := hb' _ hv
      simp only [Value.slice.injEq, Option.some.injEq, Addr.mk.injEq, and_true] at e2
      obtain ⟨⟨rfl, rfl⟩, _, _⟩ := e2
      rfl
  have hs := run_store_at tok w b (o1 + j * wid s + off) cur el hh (a.eval vo) c1 c2 (by omega)
  have hfit : o1 + j * wid s + off + (a.eval vo).cells.toList.length ≤ cur.toList.length := by omega
  obtain ⟨m', t'⟩ := row_write (l' := l') fz.m hg' hl' hv hN hh h5 h6 h7 h0 h9 (o1 + j * wid s + off) (a.eval vo).cells.toList (by omega) c2 (fun k hk => by
    have := hres (((cur.toList.take (o1 + j * wid s + off) ++ (a.eval vo).cells.toList ++ cur.toList.drop (o1 + j * wid s + off + (a.eval vo).cells.toList.length)).drop o1).take (l.length * wid s)) (by
      rw [List.length_take, List.length_drop, splice_len hfit, List.length_take, List.length_drop]) (fun q => by
      rw [List.getElem?_take, List.getElem?_drop, splice_get hfit, List.getElem?_take, List.getElem?_drop, hvl]
      by_cases hq : q < l.length * wid s
      · rw [if_pos hq, if_pos hq]
        by_cases hq2 : j * wid s + off ≤ q ∧ q < j * wid s + off + i.size
        · rw [if_pos (by omega), if_pos hq2]
          congr 1
          omega
        · rw [if_neg (by omega), if_neg hq2]
      · rw [if_neg hq, if_neg hq, if_neg (by omega)]) k hk
    rw [valAt_take s _ l.length k (by omega) (by rw [List.length_drop, splice_len hfit]; omega)] at this
    exact this)
  refine ⟨_, undef, _, ρ, ?_, .inr ⟨rfl, rfl⟩, by rw [appU_append]; exact m', .any _ _, by rw [appU_append]; exact fz.t.trans t'⟩
  simp only [execOp, ho, hev, Sem.run_bind, hs, Result.andThen_ok, Sem.run_pure]

theorem setL_length (l : List SV) (i : Nat) (y : SV) : (setL l i y).length = l.length := by simp [setL]
theorem setL_get (l : List SV) (j : Nat) (y : SV) (i : Nat) (h : i < (setL l j y).length) : (setL l j y)[i] = if j = i then y else l[i]'(by simpa [setL] using h) := by
  simp only [setL, List.getElem_set]

/-- A whole element written. -/
theorem elem_write (sz : Sizes T) {t : Nat} {i : TI} (ht : T t = some i) {sh : Option Nat} (hsh : sh = i.shape) {y : SV} (hc : chunkOk i y = true) {l : List SV} {j : Nat} (hj : j < l.length) (w : World) (Y : Nat → Prop) (us : List Value) (v : Value) (hd : Den w Y noEnv y v)
    (hus : us.length = l.length * wid sh) (hl : ∀ (i : Nat) (h : i < l.length), Den w Y noEnv l[i] (valAt sh us i)) :
    j < l.length ∧ v.cells.size = i.size ∧ (∀ u ∈ v.cells.toList, u.oneCell' = true) ∧ 0 + i.size ≤ wid sh ∧
      ∀ (us' : List Value), us'.length = us.length → (∀ k, us'[k]? = if j * wid sh + 0 ≤ k ∧ k < j * wid sh + 0 + i.size then v.cells.toList[k - (j * wid sh + 0)]? else us[k]?) → ∀ (q : Nat) (h : q < (setL l j y).length), Den w Y noEnv (setL l j y)[q] (valAt sh us' q) := by
  obtain ⟨c1, c2, c3⟩ := chunk_den (sz.one t i ht) hc hd
  have hw := TI.wid_size (sz.one t i ht)
  rw [← hsh] at hw
  refine ⟨hj, c1, c2, by omega, fun us' hl' hg q hq => ?_⟩
  have hq' : q < l.length := by rwa [setL_length] at hq
  have hle : q * wid sh + wid sh ≤ us'.length := by rw [hl', hus, ← Nat.succ_mul]; exact Nat.mul_le_mul_right _ hq'
  have hvl : v.cells.toList.length = i.size := by rw [Array.length_toList, c1]
  rw [setL_get]
  by_cases hjq : j = q
  · subst hjq
    rw [if_pos rfl, valAt_ext0 hle (vs := v.cells.toList) (by omega) (fun k hk => by rw [hg, if_pos (by omega)]; congr 1; omega), hsh, c3]
    exact hd
  · rw [if_neg hjq]
    have hsep : q * wid sh + wid sh ≤ j * wid sh ∨ j * wid sh + wid sh ≤ q * wid sh := by
      rcases Nat.lt_or_gt_of_ne hjq with h | h
      · right; rw [← Nat.succ_mul]; exact Nat.mul_le_mul_right _ h
      · left; rw [← Nat.succ_mul]; exact Nat.mul_le_mul_right _ h
    rw [valAt_ext hle (vs := us) (by omega) (fun k h1 h2 => by rw [hg, if_neg (by omega)])]
    exact hl q hq'
/-- A part of an element written. -/
theorem part_write {sh : Option Nat} {n : Nat} {y : SV} {ys c : List SV} (hys : cellsA y = some ys) (hn : ys.length = n) {l : List SV} {j off : Nat} (hlj : l[j]? = some (.agg c)) (hoc : off + ys.length ≤ c.length) (w : World) (Y : Nat → Prop) (us : List Value) (v : Value) (hd : Den w Y noEnv y v)
    (hus : us.length = l.length * wid sh) (hl : ∀ (i : Nat) (h : i < l.length), Den w Y noEnv l[i] (valAt sh us i)) (hone : ∀ u ∈ us, u.oneCell' = true) :
    j < l.length ∧ v.cells.size = n ∧ (∀ u ∈ v.cells.toList, u.oneCell' = true) ∧ off + n ≤ wid sh ∧
      ∀ (us' : List Value), us'.length = us.length → (∀ k, us'[k]? = if j * wid sh + off ≤ k ∧ k < j * wid sh + off + n then v.cells.toList[k - (j * wid sh + off)]? else us[k]?) → ∀ (q : Nat) (h : q < (setL l j (.agg (putCells c off ys))).length), Den w Y noEnv (setL l j (.agg (putCells c off ys)))[q] (valAt sh us' q) := by
  obtain ⟨hj, hlj'⟩ := List.getElem?_eq_some_iff.1 hlj
  obtain ⟨k1, k2⟩ := cellsA_den hys hd
  have hvl : v.cells.toList.length = n := by rw [← k1.1, hn]
  have hdj := hl j hj
  rw [hlj'] at hdj
  obtain ⟨cs, hcs, hdc⟩ := Den.agg_iff.1 hdj
  have hlej : j * wid sh + wid sh ≤ us.length := by rw [hus, ← Nat.succ_mul]; exact Nat.mul_le_mul_right _ hj
  have hsome : ∃ m, sh = some m := by
    cases sh with
    | some m => exact ⟨m, rfl⟩
    | none =>
      simp only [valAt] at hcs
      have hlt : j < us.length := by simp [wid] at hlej; omega
      rw [List.getElem?_eq_getElem hlt] at hcs
      have := hone _ (List.getElem_mem hlt)
      simp only [Option.getD_some] at hcs
      rw [hcs] at this
      simp [Value.oneCell'] at this
  obtain ⟨m, rfl⟩ := hsome
  simp only [wid] at *
  have hcs' : cs = (us.drop (j * m)).take m := by
    simp only [valAt] at hcs
    injection hcs with hcs
    injection hcs with hcs
    exact hcs.symm
  have hcl : c.length = m := by rw [hdc.1, hcs', List.length_take, List.length_drop]; omega
  refine ⟨hj, by rw [← Array.length_toList]; exact hvl, k2, by omega, fun us' hl' hg q hq => ?_⟩
  have hq' : q < l.length := by rwa [setL_length] at hq
  have hle : q * m + m ≤ us'.length := by rw [hl', hus, ← Nat.succ_mul]; exact Nat.mul_le_mul_right _ hq'
  rw [setL_get]
  have hgi : ∀ k, j * m + off ≤ k → k < j * m + off + n → us'[k]? = v.cells.toList[k - (j * m + off)]? := fun k a b => (hg k).trans (if_pos ⟨a, b⟩)
  have hgo : ∀ k, ¬ (j * m + off ≤ k ∧ k < j * m + off + n) → us'[k]? = us[k]? := fun k a => (hg k).trans (if_neg a)
  by_cases hjq : j = q
  · subst hjq
    rw [if_pos rfl]
    refine Den.agg_iff.2 ⟨_, rfl, ⟨by rw [putCells_length, hcl, List.length_take, List.length_drop]; omega, fun k z u hz hu => ?_⟩⟩
    rw [putCells_get _ _ _ _ hoc] at hz
    rw [List.getElem?_take, List.getElem?_drop] at hu
    split at hu
    case isFalse => cases hu
    rename_i hk
    split at hz
    · rename_i hk2
      rw [hgi _ (by omega) (by omega)] at hu
      exact k1.2 (k - off) z u hz (by rw [← hu]; congr 1; omega)
    · rename_i hk2
      rw [hgo _ (by omega)] at hu
      refine hdc.2 k z u hz ?_
      rw [hcs', List.getElem?_take, if_pos hk, List.getElem?_drop]
      exact hu
  · rw [if_neg hjq]
    have hsep : q * m + m ≤ j * m ∨ j * m + m ≤ q * m := by
      rcases Nat.lt_or_gt_of_ne hjq with h | h
      · right; rw [← Nat.succ_mul]; exact Nat.mul_le_mul_right _ h
      · left; rw [← Nat.succ_mul]; exact Nat.mul_le_mul_right _ h
    rw [valAt_ext (sh := some m) hle (vs := us) (by simp only [wid]; omega) (fun k h1 h2 => by simp only [wid] at h1 h2; exact hgo k (by omega))]
    exact hl q hq'

theorem src_den {μ : Nat → Blk} {mem : Mem} (hμ : Sees μ mem) {N : Nat → Prop} {w0 w : World} {X : Nat → Prop} {ρ : Env} (m : MRep T N w0 w X mem ρ) {sh : Option Nat} {x : SV} {ys : List SV} (h : srcOf μ sh x = some ys) {v : Value} (hd : Den w (Forb X mem ρ) ρ x v) :
    Src P w (Forb X mem ρ) sh ys v := by
  cases x with
  | str s =>
    simp only [srcOf] at h
    cases sh with
    | none => injection h with h; subst h; rw [Den.str_iff.1 hd, O.by_eq]; exact .of_string s
    | some _ => cases h
  | _ => exact .of_slice (listOf_den hμ m (by simpa only [srcOf] using h) hd)

theorem isSrc_und (tys : Types P T) {t : Nat} (h : isSrc (T t) = true) : ∃ d, P.underlying t = some d ∧ (d = .string ∨ ∃ e, d = .slice e) := by
  unfold isSrc at h
  cases ht : T t with
  | none => rw [ht] at h; cases h
  | some i =>
    rw [ht] at h
    simp only at h
    cases hk : i.kind with
    | slice e => exact ⟨_, (tys.ok t i ht).und_slice hk, .inr ⟨e, rfl⟩⟩
    | string => exact ⟨_, (tys.ok t i ht).und_string hk, .inl rfl⟩
    | _ => rw [hk] at h; cases h

/-- A row's cells behind an append, as a row of the memory. -/
theorem rowAt_rep {w w' : World} {Y Y' : Nat → Prop} {N : Nat → Prop} {e : TypeId} {sh : Option Nat} {v : Value} {l ys : List SV} {cs us : List Value} {old : Option Nat} {sz : Nat} (h : RowAt w' e sh v (l.length + ys.length) (cs ++ us) old sz)
    (hN : ∀ b, (sz ≤ b ∨ old = some b) → N b) (hc : cs.length = l.length * wid sh) (hu : us.length = ys.length * wid sh) (hs : w.heap.size ≤ w'.heap.size) (hk : ∀ b, b < w.heap.size → ¬ Y b → ¬ Y' b ∧ w'.heap[b]? = w.heap[b]?)
    (hcd : ∀ (i : Nat) (h : i < l.length), Den w Y noEnv l[i] (valAt sh cs i)) (hud : ∀ (i : Nat) (h : i < ys.length), Den w Y noEnv ys[i] (valAt sh us i)) (T : Nat → Option TI) (ρ : Env) :
    BlkRep T N w' Y' ρ (.row sh e (l ++ ys)) (some v) := by
  refine ⟨v, rfl, ?_⟩
  rcases h with ⟨a, rfl, h1, h2⟩ | ⟨b, off, cap, cur, rfl, h1, h2, h3, h4, h5, h6, h7, h8⟩
  · exact .inl ⟨a, rfl, List.eq_nil_of_length_eq_zero (by rw [List.length_append]; omega)⟩
  · have hcl : cur.toList.length = cur.size := Array.length_toList
    have hle : (l.length + ys.length) * wid sh ≤ cap * wid sh := Nat.mul_le_mul_right _ h3
    have hm : (l.length + ys.length) * wid sh = l.length * wid sh + ys.length * wid sh := Nat.add_mul _ _ _
    refine .inr ⟨b, off, cap, cur, by rw [List.length_append], hN b h1, h2, by rw [List.length_append]; exact h3, h4, h5, h6, h7, fun i hi => ?_⟩
    rw [List.length_append] at hi
    have hi1 : i * wid sh + wid sh ≤ (l.length + ys.length) * wid sh := by rw [← Nat.succ_mul]; exact Nat.mul_le_mul_right _ hi
    rw [← valAt_take sh (cur.toList.drop off) (l.length + ys.length) i hi (by rw [List.length_drop]; omega), h8]
    by_cases hil : i < l.length
    · have hi2 : i * wid sh + wid sh ≤ l.length * wid sh := by rw [← Nat.succ_mul]; exact Nat.mul_le_mul_right _ hil
      rw [List.getElem_append_left hil, valAt_ext (vs := cs) (by rw [List.length_append]; omega) (by omega) (fun k _ hk => List.getElem?_append_left (by omega))]
      exact (hcd i hil).mono hs hk
    · rw [List.getElem_append_right (by omega)]
      have hj : i - l.length < ys.length := by omega
      have hi3 : (i - l.length) * wid sh + wid sh ≤ ys.length * wid sh := by rw [← Nat.succ_mul]; exact Nat.mul_le_mul_right _ hj
      have hi4 : i * wid sh = l.length * wid sh + (i - l.length) * wid sh := by rw [← Nat.add_mul]; congr 1; omega
      have : valAt sh (cs ++ us) i = valAt sh us (i - l.length) := by
        rw [valAt_seg sh (cs ++ us) i (by rw [List.length_append]; omega), valAt_seg sh us _ (by omega)]
        congr 1
        apply List.ext_getElem?
        intro k
        rw [List.getElem?_take, List.getElem?_take, List.getElem?_drop, List.getElem?_drop]
        split
        · rw [List.getElem?_append_right (by omega)]
          congr 1
          omega
        · rfl
      rw [this]
      exact (hud _ hj).mono hs hk

theorem append_ok (tys : Types P T) (sz : Sizes T) {o : Oper} {cl : Call} (hc : cl.callee = .builtin .append) (ho : o.op = .call cl) {d : Nat} {e : Operand → SV} {μ : Nat → Blk} {κ : SV → List (Nat × Blk) → Prop} (h : wval T (some d) (.call cl) e μ κ) :
    ∃ x U, κ x U ∧ (∀ q b, (q, b) ∈ U → q = d ∨ (μ q).own = true) ∧ Eff P T o e μ x U (some d) := by
  obtain ⟨cal, args, ats⟩ := cl
  simp only at hc
  subst hc
  simp only [wval, O.hln, apL_eq, O.st_eq, O.hcp] at h
  split at h <;> try exact h.elim
  case h_2 => cases ‹Callee.builtin Builtin.append = Callee.builtin Builtin.copy›
  rename_i t t2 s x dd _ hat har hdd
  injection hdd with hdd
  subst hdd
  obtain rfl : args = #[s, x] := by apply Array.ext'; simpa using har
  obtain rfl : ats = #[t, t2] := by apply Array.ext'; simpa using hat
  split at h <;> try exact h.elim
  rename_i i ht
  split at h <;> try exact h.elim
  rename_i el hk
  split at h <;> try exact h.elim
  rename_i j hj
  split at h <;> try exact h.elim
  rename_i hck
  simp only [Bool.and_eq_true, Bool.not_eq_true'] at hck
  split at h <;> try exact h.elim
  rename_i q l ys hbase hsrc
  obtain ⟨hlen, h⟩ := h
  have ti := tys.ok t i ht
  have tj := tys.ok el j hj
  have hw := TI.wid_size (sz.one _ _ hj)
  have hpos : 0 < wid j.shape := by
    rcases Nat.eq_zero_or_pos (wid j.shape) with h0 | h0
    · rw [hw, h0] at hck; simp at hck
    · exact h0
  have hbp : 0 < j.bytes := by
    rcases Nat.eq_zero_or_pos j.bytes with h0 | h0
    · rw [h0] at hck; simp at hck
    · exact h0
  have hlen' : (l.length + ys.length) * j.bytes ≤ 140737488355328 := by
    have : (((l.length + ys.length) * j.bytes : Nat) : Int) ≤ 140737488355328 := by rw [Int.natCast_mul, Int.natCast_add]; exact hlen
    omega
  have hmax : l.length + ys.length ≤ maxLen := by
    have : l.length + ys.length ≤ (l.length + ys.length) * j.bytes := Nat.le_mul_of_pos_right _ hbp
    simp only [maxLen]; omega
  obtain ⟨ji, j1, j2, j3⟩ := tj.inf
  obtain ⟨z, z1, z2, z3, z4, z5⟩ := tj.zero
  have hz : ji.zero = some z := by rw [j1] at z1; simpa using z1
  obtain ⟨d2, hd2, hd2'⟩ := isSrc_und tys hck.1.1
  have hexec : ∀ (a : Act), execOp a.eval o = (do let v ← Builtin.append_ #[t, t2] o.type #[a.eval s, a.eval x]; pure (.value v)) := by
    intro a
    simp [execOp, ho, resolve, invoke, builtin]
  -- the row behind the append
  have go : ∀ (mem : Mem), Sees μ mem → ∀ (a : Act) (N : Nat → Prop) (w0 w : World) (X : Nat → Prop) (ρ : Env), MRep T N w0 w X mem ρ → (∀ y ∈ o.op.operands, Den w (Forb X mem ρ) ρ (e y) (a.eval y)) →
      ∀ (old : Option Nat) (cs : List Value), RowAt w el j.shape (a.eval s) l.length cs old w.heap.size → cs.length = l.length * wid j.shape → (∀ (i : Nat) (h : i < l.length), Den w (Forb X mem ρ) noEnv l[i] (valAt j.shape cs i)) → (∀ b, old = some b → N b) →
      ∃ v' w' us, (execOp a.eval o).run P w = .ok (.value v') w' ∧ BelowW N w w' ∧ (∀ k, k < w.heap.size → old ≠ some k → w'.heap[k]? = w.heap[k]?) ∧ RowAt w' el j.shape v' (l.length + ys.length) (cs ++ us) old w.heap.size ∧
        us.length = ys.length * wid j.shape ∧ (∀ (i : Nat) (h : i < ys.length), Den w (Forb X mem ρ) noEnv ys[i] (valAt j.shape us i)) := by
    intro mem hμ a N w0 w X ρ m hd old cs hrow hcl hcd hold
    obtain ⟨us, u1, u2, u3, u4, u5⟩ := (src_den (P := P) hμ m hsrc (hd x (by simp [ho, Op.operands, Call.operands]))).h
    obtain ⟨v', w', hr, g1, g2, g3, g4, g5, g6⟩ := run_append_row w t t2 o.type el d2 ji z j.shape (ti.und_slice hk) hd2 hd2' j1 hz (by rw [j2, hw]) (by rw [z3, j2]) z4 hpos (a.eval s) l.length ys.length cs us old hrow (a.eval x) u2 u1 u4
      (fun w' hw' => by have := u5 w' ys.length hw' (Nat.le_refl _); rwa [List.take_of_length_le (by rw [u1]; exact Nat.le_refl _)] at this) (by rw [j3]; exact hlen') hmax
    refine ⟨v', w', us, by rw [hexec]; simp [hr], ⟨g1, g2, g3, g4, fun k hk hN => g5 k hk (fun e => hN (hold k e))⟩, g5, g6, u1, u3⟩
  have hB : ∀ (v' : Value) (w' : World) (cs us : List Value) (old : Option Nat) (sz : Nat), RowAt w' el j.shape v' (l.length + ys.length) (cs ++ us) old sz → ∀ b, vblock v' = some b → (sz ≤ b ∨ old = some b) ∧ b < w'.heap.size := by
    intro v' w' cs us old sz hrow b hb
    rcases hrow with ⟨a, rfl, _⟩ | ⟨b', off, cap, cur, rfl, k1, k2, _⟩
    · cases a <;> simp [vblock] at hb
    · simp only [vblock] at hb
      split at hb
      · cases hb
      · injection hb with hb; subst hb; exact ⟨k1, heap_lt k2⟩
  cases hs : e s with
  | nil =>
    rw [hs] at hbase
    simp only [baseOf] at hbase
    injection hbase with hbase
    injection hbase with hq hl
    subst hq; subst hl
    refine ⟨_, _, h, (fun q b hq => by simp at hq; exact .inl hq.1), .of_run fun mem hμ hcr a N w0 w X ρ m hd => ?_⟩
    obtain ⟨hno, hnr, _⟩ := hcr d rfl
    have hds := hd s (by simp [ho, Op.operands, Call.operands])
    rw [hs] at hds
    have hrow : RowAt w el j.shape (a.eval s) ([] : List SV).length [] none w.heap.size := by
      generalize a.eval s = v at hds
      cases hds
      exact .inl ⟨none, rfl, rfl, rfl⟩
    obtain ⟨v', w', us, hr, hbel, hkeep, hrow', u1, u3⟩ := go mem hμ a N w0 w X ρ m hd none [] hrow (by simp) (fun i h => by simp at h) (fun b h => by cases h)
    have hbel' : Below w.heap.size w w' := ⟨hbel.os, hbel.tape, hbel.output, hbel.size, fun k hk => hkeep k hk (by simp)⟩
    obtain ⟨m', t'⟩ := m.create (w' := w') hno hnr (B := .row j.shape el ([] ++ ys)) (v := v') (fun b hb => by
      obtain ⟨k1, k2⟩ := hB v' w' [] us none _ hrow' b hb
      exact ⟨k1.resolve_right (by simp), k2⟩) hbel' (fun tn => rowAt_rep (l := []) hrow' (fun b hb => m.szN b (hb.resolve_right (by simp))) (by simp) u1 hbel.size tn.keep (fun i h => by simp at h) u3 T _)
    refine ⟨_, v', w', _, hr, .inl rfl, m', ?_, t'⟩
    rcases hrow' with ⟨a', rfl, _⟩ | ⟨b', off, cap, cur, rfl, _⟩
    · exact .row _ d _ _ _ fun q hq => by simp only [upd, if_true] at hq; injection hq with hq; exact hq.symm
    · exact .row _ d _ _ _ fun q hq => by simp only [upd, if_true] at hq; injection hq with hq; exact hq.symm
  | row q0 =>
    rw [hs] at hbase
    simp only [baseOf] at hbase
    cases hm : μ q0 with
    | row s' e' l' =>
      rw [hm] at hbase
      simp only at hbase
      split at hbase
      case isFalse => cases hbase
      rename_i hse
      simp only [Bool.and_eq_true] at hse
      have hs1 := shEq_eq hse.1
      have hs2 : e' = el := Nat.eq_of_beq_eq_true hse.2
      injection hbase with hbase
      injection hbase with hq hl
      subst hq; subst hl; subst hs1; subst hs2
      refine ⟨_, _, h, (fun q b hq => by
        simp only [List.singleton_append, List.mem_cons, Prod.mk.injEq, List.not_mem_nil, or_false] at hq
        rcases hq with hq | hq
        · rw [hq.1]; exact .inr (by rw [hm]; rfl)
        · exact .inl hq.1), .of_run fun mem hμ hcr a N w0 w X ρ m hd => ?_⟩
      obtain ⟨hno, hnr, hnrefs⟩ := hcr d rfl
      have hqd : q0 ≠ d := by
        have := hnrefs s (by simp [ho, Op.operands, Call.operands])
        rw [hs] at this
        rintro rfl
        simp [noref] at this
      have hds := hd s (by simp [ho, Op.operands, Call.operands])
      rw [hs] at hds
      obtain ⟨v, hv, hg, hcase⟩ := hμ.rowAt m hm
      have hev : a.eval s = v := by
        generalize a.eval s = v' at hds
        cases hds with
        | row _ _ _ _ _ hr => exact (hr _ hv).symm
      have hrow : ∃ cs, RowAt w e' j.shape (a.eval s) l'.length cs (vblock v) w.heap.size ∧ cs.length = l'.length * wid j.shape ∧ (∀ (i : Nat) (h : i < l'.length), Den w (Forb X mem ρ) noEnv l'[i] (valAt j.shape cs i)) ∧ (∀ b, vblock v = some b → N b) := by
        rw [hev]
        rcases hcase with ⟨a0, rfl, rfl⟩ | ⟨b, off, cap, cur, rfl, k1, k2, k3, k4, k5, k6, k7, k8⟩
        · exact ⟨[], .inl ⟨a0, rfl, rfl, rfl⟩, by simp, (fun i h => by simp at h), fun b hb => by cases a0 <;> simp [vblock] at hb⟩
        · have hcl : cur.toList.length = cur.size := Array.length_toList
          have hle : l'.length * wid j.shape ≤ cap * wid j.shape := Nat.mul_le_mul_right _ k3
          have hvb : vblock (.slice (some ⟨b, off, none⟩) l'.length cap) = some b := by simp only [vblock]; rw [if_neg (by omega)]
          refine ⟨(cur.toList.drop off).take (l'.length * wid j.shape), .inr ⟨b, off, cap, cur, rfl, .inr hvb, k2, k3, k4, k5, k6, k7, rfl⟩, by rw [List.length_take, List.length_drop]; omega, fun i hi => ?_, fun b' hb' => ?_⟩
          · rw [valAt_take _ _ l'.length i hi (by rw [List.length_drop]; omega)]
            exact k8 i hi
          · rw [hvb] at hb'; injection hb' with hb'; rw [← hb']; exact k1
      obtain ⟨cs, hrow, hcl, hcd, hold⟩ := hrow
      obtain ⟨v', w', us, hr, hbel, hkeep, hrow', u1, u3⟩ := go mem hμ a N w0 w X ρ m hd (vblock v) cs hrow hcl hcd hold
      obtain ⟨m', t'⟩ := m.move (q := q0) (d := d) (w' := w') (by rw [hg]; rfl) hv hqd hno hnr (B := .row j.shape e' (l' ++ ys)) (v := v') hbel (fun b hb hne => hkeep b hb hne) (fun b hb => by
        obtain ⟨k1, k2⟩ := hB v' w' cs us _ _ hrow' b hb
        rcases k1 with k1 | k1
        · exact .inl ⟨k1, k2⟩
        · exact .inr k1) (fun tn => rowAt_rep hrow' (fun b hb => hb.elim (m.szN b) (hold b)) hcl u1 hbel.size tn.keep hcd u3 T _)
      refine ⟨_, v', w', _, hr, .inl rfl, m', ?_, t'⟩
      rcases hrow' with ⟨a', rfl, _⟩ | ⟨b', off, cap, cur, rfl, _⟩
      · exact .row _ d _ _ _ fun q hq => by simp only [if_true] at hq; injection hq with hq; exact hq.symm
      · exact .row _ d _ _ _ fun q hq => by simp only [if_true] at hq; injection hq with hq; exact hq.symm
    | _ => rw [hm] at hbase; cases hbase
  | rsl q0 s2 ra rn rc =>
    rw [hs] at hbase
    simp only [baseOf] at hbase
    cases hm : μ q0 with
    | row s' e' l' =>
      rw [hm] at hbase
      simp only at hbase
      split at hbase
      case isFalse => cases hbase
      rename_i hse
      simp only [Bool.and_eq_true] at hse
      have hs1 := shEq_eq hse.1.1
      have hs2 : e' = el := Nat.eq_of_beq_eq_true hse.1.2
      have hs3 := shEq_eq hse.2
      injection hbase with hbase
      injection hbase with hq hl
      subst hq; subst hl; subst hs1; subst hs2; subst hs3
      refine ⟨_, _, h, (fun q b hq => by
        simp only [List.singleton_append, List.mem_cons, Prod.mk.injEq, List.not_mem_nil, or_false] at hq
        rcases hq with hq | hq
        · rw [hq.1]; exact .inr (by rw [hm]; rfl)
        · exact .inl hq.1), .of_run fun mem hμ hcr a N w0 w X ρ m hd => ?_⟩
      obtain ⟨hno, hnr, hnrefs⟩ := hcr d rfl
      have hqd : q0 ≠ d := by
        have := hnrefs s (by simp [ho, Op.operands, Call.operands])
        rw [hs] at this
        rintro rfl
        simp [noref] at this
      have hds := hd s (by simp [ho, Op.operands, Call.operands])
      rw [hs] at hds
      obtain ⟨v, hv, hg, hcase⟩ := hμ.rowAt m hm
      have hrow : ∃ cs old, RowAt w e' j.shape (a.eval s) (O.sg l' ra rn).length cs old w.heap.size ∧ cs.length = (O.sg l' ra rn).length * wid j.shape ∧ (∀ (i : Nat) (h : i < (O.sg l' ra rn).length), Den w (Forb X mem ρ) noEnv (O.sg l' ra rn)[i] (valAt j.shape cs i)) ∧ (old = none ∨ old = vblock v) ∧ (∀ b, old = some b → N b) := by
        have hsg : ∀ L, O.sg l' ra rn = L → ∃ cs old, RowAt w e' j.shape (a.eval s) L.length cs old w.heap.size ∧ cs.length = L.length * wid j.shape ∧ (∀ (i : Nat) (h : i < L.length), Den w (Forb X mem ρ) noEnv L[i] (valAt j.shape cs i)) ∧ (old = none ∨ old = vblock v) ∧ (∀ b, old = some b → N b) := by
          intro L hL
          rw [O.hsg] at hL
          subst hL
          generalize hva : a.eval s = va at hds
          cases hds with
          | rsl _ _ _ _ _ _ x cc hcc hr =>
            obtain ⟨x0, len, cap0, e1, e2, e3, _, _, e6⟩ := (hr _ hv).resolve_right (by rintro ⟨_, h, _⟩; rcases hcase with ⟨_, rfl, _⟩ | ⟨_, _, _, _, rfl, _⟩ <;> cases h)
            rcases hcase with ⟨a0, rfl, rfl⟩ | ⟨b, off, cap, cur, rfl, k1, k2, k3, k4, k5, k6, k7, k8⟩
            · injection e1 with _ e4 e5
              subst e4; subst e5
              obtain rfl : cc = 0 := by omega
              obtain rfl : rn = 0 := by omega
              exact ⟨[], none, .inl ⟨x, by simp, by simp, by simp⟩, by simp, (fun i h => by simp at h), .inl rfl, fun b hb => by cases hb⟩
            · injection e1 with e1 e4 e5
              subst e4; subst e5
              have hll : ((l'.drop ra).take rn).length = rn := by rw [List.length_take, List.length_drop]; omega
              by_cases hc0 : cc = 0
              · subst hc0
                obtain rfl : rn = 0 := by omega
                exact ⟨[], none, .inl ⟨x, by simp, by simp, by simp⟩, by simp, (fun i h => by simp at h), .inl rfl, fun b hb => by cases hb⟩
              · rcases e6 with e6 | ⟨b', off', e6, rfl⟩
                · exact absurd e6 hc0
                · rw [← e1] at e6
                  simp only [Option.some.injEq, Addr.mk.injEq, and_true] at e6
                  obtain ⟨rfl, rfl⟩ := e6
                  have hcl : cur.toList.length = cur.size := Array.length_toList
                  have hm1 : (ra + cc) * wid j.shape ≤ cap * wid j.shape := Nat.mul_le_mul_right _ e3
                  have hm2 : (ra + cc) * wid j.shape = ra * wid j.shape + cc * wid j.shape := Nat.add_mul _ _ _
                  have hm3 : rn * wid j.shape ≤ cc * wid j.shape := Nat.mul_le_mul_right _ hcc
                  have hvb : vblock (.slice (some ⟨b, off, none⟩) l'.length cap) = some b := by simp only [vblock]; rw [if_neg (by omega)]
                  refine ⟨(cur.toList.drop (off + ra * wid j.shape)).take (rn * wid j.shape), some b, .inr ⟨b, off + ra * wid j.shape, cc, cur, by rw [hll], .inr rfl, k2, by rw [hll]; exact hcc, by omega, by omega, by omega, k7, by rw [hll]⟩, by rw [List.length_take, List.length_drop, hll]; omega, fun i hi => ?_, .inr hvb.symm, fun b' hb' => by injection hb' with hb'; rw [← hb']; exact k1⟩
                  rw [hll] at hi
                  have hi1 : i * wid j.shape + wid j.shape ≤ rn * wid j.shape := by rw [← Nat.succ_mul]; exact Nat.mul_le_mul_right _ hi
                  rw [valAt_take _ _ rn i hi (by rw [List.length_drop]; omega), ← List.drop_drop, valAt_dropN]
                  have := k8 (ra + i) (by omega)
                  simpa using this
        exact hsg _ rfl
      obtain ⟨cs, old, hrow, hcl, hcd, hov, hold⟩ := hrow
      obtain ⟨v', w', us, hr, hbel, hkeep, hrow', u1, u3⟩ := go mem hμ a N w0 w X ρ m hd old cs hrow hcl hcd hold
      have hon : ∀ b, old = some b → vblock v = some b := fun b hb => by
        rcases hov with g | g
        · rw [g] at hb; cases hb
        · rw [← g]; exact hb
      obtain ⟨m', t'⟩ := m.move (q := q0) (d := d) (w' := w') (by rw [hg]; rfl) hv hqd hno hnr (B := .row j.shape e' (O.sg l' ra rn ++ ys)) (v := v') hbel (fun b hb hne => hkeep b hb (fun e => hne (hon b e))) (fun b hb => by
        obtain ⟨k1, k2⟩ := hB v' w' cs us _ _ hrow' b hb
        rcases k1 with k1 | k1
        · exact .inl ⟨k1, k2⟩
        · exact .inr (hon b k1)) (fun tn => rowAt_rep hrow' (fun b hb => hb.elim (m.szN b) (hold b)) hcl u1 hbel.size tn.keep hcd u3 T _)
      refine ⟨_, v', w', _, hr, .inl rfl, m', ?_, t'⟩
      rcases hrow' with ⟨a', rfl, _⟩ | ⟨b', off, cap, cur, rfl, _⟩
      · exact .row _ d _ _ _ fun q hq => by simp only [if_true] at hq; injection hq with hq; exact hq.symm
      · exact .row _ d _ _ _ fun q hq => by simp only [if_true] at hq; injection hq with hq; exact hq.symm
    | _ => rw [hm] at hbase; cases hbase
  | _ => rw [hs] at hbase; simp [baseOf] at hbase

theorem copy_core (tys : Types P T) (sz : Sizes T) {o : Oper} {t t2 : TypeId} {s x : Operand} (ho : o.op = .call ⟨.builtin .copy, #[s, x], #[t, t2]⟩) {e : Operand → SV} {μ : Nat → Blk} {i j : TI} {el : Nat} (ht : T t = some i) (hk : i.kind = .slice el) (hj : T el = some j) (hpos : j.size ≠ 0)
    {ys : List SV} (hsrc : srcOf μ j.shape (e x) = some ys) {q a n el' : Nat} {l : List SV} (hm : μ q = .row j.shape el' l) (han : a + n ≤ l.length)
    (hdst : ∀ (w : World) (X : Nat → Prop) (ρ : Env) (v v0 : Value), Den w X ρ (e s) v → ρ q = some v0 → ((∃ a, v0 = .slice a 0 0 ∧ l = []) ∨ ∃ b off c, v0 = .slice (some ⟨b, off, none⟩) l.length c) → ∃ ad c, v = .slice ad n c ∧ (n = 0 ∨ ∃ b off L c', v0 = .slice (some ⟨b, off, none⟩) L c' ∧ ad = some ⟨b, off + a * wid j.shape, none⟩)) :
    Eff P T o e μ (.int .i64 (min (ys.length : Int) (n : Int))) [(q, .row j.shape el' (l.take a ++ ys.take n ++ l.drop (a + min ys.length n)))] none := by
  have ti := tys.ok t i ht
  have tj := tys.ok el j hj
  have hw := TI.wid_size (sz.one _ _ hj)
  obtain ⟨ji, j1, j2, j3⟩ := tj.inf
  refine .of_run fun mem hμ _ ac N w0 w X ρ m hd => ?_
  obtain ⟨us, u1, u2, u3, u4, u5⟩ := (src_den (P := P) hμ m hsrc (hd x (by simp [ho, Op.operands, Call.operands]))).h
  obtain ⟨v, hv, hg, hcase⟩ := hμ.rowAt m hm
  obtain ⟨ad, c, hev, hdst⟩ := hdst w _ ρ _ v (hd s (by simp [ho, Op.operands, Call.operands])) hv (by
    rcases hcase with ⟨a0, rfl, rfl⟩ | ⟨b, off, cap, cur, rfl, _⟩
    · exact .inl ⟨a0, rfl, rfl⟩
    · exact .inr ⟨_, _, _, rfl⟩)
  have hexec : execOp ac.eval o = (do let v ← Builtin.copy_ #[t, t2] o.type #[ac.eval s, ac.eval x]; pure (.value v)) := by
    simp [execOp, ho, resolve, invoke, builtin]
  have hk0 : ∀ (k : Nat), min ys.length n = 0 → l.take a ++ ys.take n ++ l.drop (a + min ys.length n) = l := by
    intro _ h0
    rw [h0]
    have : ys.take n = [] := by
      apply List.eq_nil_of_length_eq_zero
      rw [List.length_take]
      omega
    rw [this, List.append_nil, Nat.add_zero, List.take_append_drop]
  have hwp : 0 < wid j.shape := by omega
  have hkint : ((min ys.length n : Nat) : Int) = min (ys.length : Int) (n : Int) := by omega
  by_cases h0 : n = 0
  · have hmin : min ys.length n = 0 := by omega
    have hr := run_copy_no (P := P) w t t2 o.type el ji (wid j.shape) (ti.und_slice hk) j1 (by rw [j2, hw]) ad c (ac.eval x) ys.length u4 (by have := u5 w 0 rfl (Nat.zero_le _); simpa using this)
    have hs : ∀ q', getM (setM (.row j.shape el' (l.take a ++ ys.take n ++ l.drop (a + min ys.length n))) mem q) q' = getM mem q' := by
      intro q'
      rw [getM_setM]
      split
      · rename_i hq; rw [hq, hg, hk0 0 hmin]
      · rfl
    refine ⟨_, .int .i64 0, w, ρ, ?_, .inl rfl, m.congr hs, ?_, ?_⟩
    · rw [hexec, hev, h0]
      simp [hr, goInt]
    · rw [← hkint, hmin]; exact .int _ _ _
    · show Turn w _ ρ w (Forb X (setM _ mem q) ρ) ρ none
      rw [forb_congr hs]
      exact Turn.refl _ _ _ _
  · obtain ⟨b, off, L, c', hv0, rfl⟩ := hdst.resolve_left h0
    subst hv0
    rcases hcase with ⟨a0, hc1, rfl⟩ | ⟨b', off', cap, cur, hc1, k1, k2, k3, k4, k5, k6, k7, k8⟩
    · simp at han; omega
    · injection hc1 with hc1 hc2 hc3
      simp only [Option.some.injEq, Addr.mk.injEq, and_true] at hc1
      obtain ⟨rfl, rfl⟩ := hc1
      subst hc2; subst hc3
      have hcl : cur.toList.length = cur.size := Array.length_toList
      have hle : l.length * wid j.shape ≤ c' * wid j.shape := Nat.mul_le_mul_right _ k3
      have hle2 : (a + n) * wid j.shape ≤ l.length * wid j.shape := Nat.mul_le_mul_right _ han
      have hle3 : (a + min ys.length n) * wid j.shape ≤ (a + n) * wid j.shape := Nat.mul_le_mul_right _ (by omega)
      have hle4 : min ys.length n * wid j.shape ≤ ys.length * wid j.shape := Nat.mul_le_mul_right _ (by omega)
      have hadd : (a + min ys.length n) * wid j.shape = a * wid j.shape + min ys.length n * wid j.shape := Nat.add_mul _ _ _
      have hnl : (us.take (min ys.length n * wid j.shape)).length = min ys.length n * wid j.shape := by rw [List.length_take]; omega
      have hfit : off + a * wid j.shape + (us.take (min ys.length n * wid j.shape)).length ≤ cur.toList.length := by omega
      have hr := run_copy_into (P := P) w t t2 o.type el ji (wid j.shape) (ti.und_slice hk) j1 (by rw [j2, hw]) b (off + a * wid j.shape) n c cur el' k2 (ac.eval x) ys.length (us.take (min ys.length n * wid j.shape))
        (fun u hu => u2 u (List.mem_of_mem_take hu)) u4 (u5 w (Nat.min ys.length n) rfl (Nat.min_le_left _ _)) (by omega)
      have hll : (l.take a ++ ys.take n ++ l.drop (a + min ys.length n)).length = l.length := by
        simp only [List.length_append, List.length_take, List.length_drop]
        omega
      obtain ⟨m', t'⟩ := row_write (l' := l.take a ++ ys.take n ++ l.drop (a + min ys.length n)) m hg hll hv k1 k2 k3 k4 k5 k6 k7 (off + a * wid j.shape) (us.take (min ys.length n * wid j.shape)) (by omega) (fun u hu => u2 u (List.mem_of_mem_take hu)) (fun k hk => by
        have hk' : k < l.length := by omega
        have hkl : k * wid j.shape + wid j.shape ≤ l.length * wid j.shape := by rw [← Nat.succ_mul]; exact Nat.mul_le_mul_right _ hk'
        have hlen : ((cur.toList.take (off + a * wid j.shape) ++ us.take (min ys.length n * wid j.shape) ++ cur.toList.drop (off + a * wid j.shape + (us.take (min ys.length n * wid j.shape)).length)).drop off).length = cur.size - off := by
          rw [List.length_drop, splice_len hfit, hcl]
        have hgetl : (l.take a ++ ys.take n ++ l.drop (a + min ys.length n))[k]? = if a ≤ k ∧ k < a + min ys.length n then ys[k - a]? else l[k]? := by
          by_cases c1 : k < a
          · rw [if_neg (by omega), List.append_assoc, List.getElem?_append_left (by rw [List.length_take]; omega), List.getElem?_take, if_pos c1]
          · by_cases c2 : k < a + min ys.length n
            · rw [if_pos (by omega), List.append_assoc, List.getElem?_append_right (by rw [List.length_take]; omega), List.getElem?_append_left (by rw [List.length_take, List.length_take]; omega), List.getElem?_take, if_pos (by rw [List.length_take]; omega)]
              congr 1
              rw [List.length_take]
              omega
            · rw [if_neg (by omega), List.getElem?_append_right (by rw [List.length_append, List.length_take, List.length_take]; omega), List.getElem?_drop]
              congr 1
              rw [List.length_append, List.length_take, List.length_take]
              omega
        rw [List.getElem?_eq_getElem hk] at hgetl
        split at hgetl
        · rename_i hin
          have hky : k - a < ys.length := by omega
          rw [List.getElem?_eq_getElem hky] at hgetl
          injection hgetl with hgetl
          rw [hgetl]
          have e1 : (k - a) * wid j.shape + wid j.shape ≤ min ys.length n * wid j.shape := by rw [← Nat.succ_mul]; exact Nat.mul_le_mul_right _ (by omega)
          have e2 : k * wid j.shape = a * wid j.shape + (k - a) * wid j.shape := by rw [← Nat.add_mul]; congr 1; omega
          have : valAt j.shape ((cur.toList.take (off + a * wid j.shape) ++ us.take (min ys.length n * wid j.shape) ++ cur.toList.drop (off + a * wid j.shape + (us.take (min ys.length n * wid j.shape)).length)).drop off) k = valAt j.shape us (k - a) := by
            rw [valAt_seg _ _ k (by omega), valAt_seg j.shape us (k - a) (by omega)]
            congr 1
            apply List.ext_getElem?
            intro p
            rw [List.getElem?_take, List.getElem?_take]
            split
            · rw [List.getElem?_drop, List.getElem?_drop, List.getElem?_drop, splice_get hfit, if_pos (by omega), List.getElem?_take, if_pos (by omega)]
              congr 1
              omega
            · rfl
          rw [this]
          exact u3 _ hky
        · rename_i hin
          rw [List.getElem?_eq_getElem hk'] at hgetl
          injection hgetl with hgetl
          rw [hgetl]
          have e1 : k < a → k * wid j.shape + wid j.shape ≤ a * wid j.shape := fun h => by rw [← Nat.succ_mul]; exact Nat.mul_le_mul_right _ h
          have e2 : ¬ k < a → (a + min ys.length n) * wid j.shape ≤ k * wid j.shape := fun h => Nat.mul_le_mul_right _ (by omega)
          rw [valAt_ext (vs := cur.toList.drop off) (by omega) (by rw [List.length_drop]; omega) (fun p h1 h2 => by
            rw [List.getElem?_drop, List.getElem?_drop, splice_get hfit, if_neg]
            by_cases c1 : k < a
            · have := e1 c1; omega
            · have := e2 c1; omega)]
          exact k8 k hk')
      refine ⟨_, .int .i64 (min (ys.length : Int) (n : Int)), _, ρ, ?_, .inl rfl, m', .int _ _ _, t'⟩
      rw [hexec, hev]
      simp only [Sem.run_bind, hr, Result.andThen_ok, Sem.run_pure, goInt]
      rw [← hkint]

theorem splice_list {A : Type} {l ys : List A} {a n k : Nat} (h : a + n ≤ l.length) : (l.take a ++ ys.take n ++ l.drop (a + min ys.length n))[k]? = if a ≤ k ∧ k < a + min ys.length n then ys[k - a]? else l[k]? := by
  by_cases c1 : k < a
  · rw [if_neg (by omega), List.append_assoc, List.getElem?_append_left (by rw [List.length_take]; omega), List.getElem?_take, if_pos c1]
  · by_cases c2 : k < a + min ys.length n
    · rw [if_pos (by omega), List.append_assoc, List.getElem?_append_right (by rw [List.length_take]; omega), List.getElem?_append_left (by rw [List.length_take, List.length_take]; omega), List.getElem?_take, if_pos (by rw [List.length_take]; omega)]
      congr 1
      rw [List.length_take]
      omega
    · rw [if_neg (by omega), List.getElem?_append_right (by rw [List.length_append, List.length_take, List.length_take]; omega), List.getElem?_drop]
      congr 1
      rw [List.length_append, List.length_take, List.length_take]
      omega
theorem copy_chunk (tys : Types P T) (sz : Sizes T) {o : Oper} {t t2 : TypeId} {s x : Operand} (ho : o.op = .call ⟨.builtin .copy, #[s, x], #[t, t2]⟩) {e : Operand → SV} {μ : Nat → Blk} {i j : TI} {el : Nat} (ht : T t = some i) (hk : i.kind = .slice el) (hj : T el = some j) (hsh : none = j.shape)
    {ys : List SV} (hsrc : srcOf μ j.shape (e x) = some ys) (hys : allIntB ys = true) {q a n t' : Nat} {c : Option Nat} {l : List SV} (hs : e s = .rsl q none a n c) (hm : μ q = .chunk t' (.agg l)) (han : a + n ≤ l.length) :
    Eff P T o e μ (.int .i64 (min (ys.length : Int) (n : Int))) [(q, .chunk t' (.agg (l.take a ++ ys.take n ++ l.drop (a + min ys.length n))))] none := by
  have ti := tys.ok t i ht
  have tj := tys.ok el j hj
  have hw := TI.wid_size (sz.one _ _ hj)
  obtain ⟨ji, j1, j2, j3⟩ := tj.inf
  rw [← hsh] at hw hsrc
  refine .of_run fun mem hμ _ ac N w0 w X ρ m hd => ?_
  obtain ⟨us, u1, u2, u3, u4, u5⟩ := (src_den (P := P) hμ m hsrc (hd x (by simp [ho, Op.operands, Call.operands]))).h
  have hg := hμ.row hm (by simp)
  have hb := m.blk q
  rw [hg] at hb
  obtain ⟨i', b, vs, ty, e1, e2, e3, e4, e5, e6, e7⟩ := hb
  have hds := hd s (by simp [ho, Op.operands, Call.operands])
  rw [hs] at hds
  have hexec : execOp ac.eval o = (do let v ← Builtin.copy_ #[t, t2] o.type #[ac.eval s, ac.eval x]; pure (.value v)) := by
    simp [execOp, ho, resolve, invoke, builtin]
  have hkint : ((min ys.length n : Nat) : Int) = min (ys.length : Int) (n : Int) := by omega
  -- the variable's cells
  have hsp : ∃ p, i'.shape = some p := by
    cases hs : i'.shape with
    | some n => exact ⟨n, rfl⟩
    | none =>
      rw [hs] at e7
      obtain ⟨cs, e10, _⟩ := Den.agg_iff.1 e7
      simp only [valAt] at e10
      cases hu : vs.toList[0]? with
      | none => rw [hu] at e10; simp [undef] at e10
      | some u =>
        rw [hu] at e10
        have := e6 u (List.mem_of_getElem? hu)
        simp only [Option.getD_some] at e10
        rw [e10] at this
        simp [Value.oneCell'] at this
  obtain ⟨p, hp⟩ := hsp
  have hp' : p = i'.size := by
    have := TI.wid_size (sz.one _ _ e1)
    rw [hp] at this
    exact this.symm
  rw [hp, valAt_some_full (by rw [Array.length_toList]; omega)] at e7
  obtain ⟨cs, e10, hcs⟩ := Den.agg_iff.1 e7
  injection e10 with e10
  injection e10 with e10
  subst e10
  have hvl : l.length = vs.toList.length := hcs.1
  simp only [wid, Nat.mul_one] at u1 u5 hw
  generalize hvs : ac.eval s = v at hds hexec
  cases hds with
  | rsl _ _ _ _ _ _ ad cc hcc hr =>
    obtain ⟨b', q1, _, q3, _⟩ := (hr _ e2).resolve_left (by rintro ⟨_, _, _, h, _⟩; cases h)
    simp only [Value.pointer.injEq, Option.some.injEq, Addr.mk.injEq, and_true] at q1
    subst q1
    by_cases h0 : n = 0
    · have hmin : min ys.length n = 0 := by omega
      have hrn := run_copy_no (P := P) w t t2 o.type el ji 1 (ti.und_slice hk) j1 (by rw [j2, hw]) ad cc (ac.eval x) ys.length u4 (by have := u5 w 0 rfl (Nat.zero_le _); simpa [wid] using this)
      have hl' : l.take a ++ ys.take n ++ l.drop (a + min ys.length n) = l := by
        rw [hmin, h0]; simp
      have hsm : ∀ q', getM (setM (.chunk t' (.agg (l.take a ++ ys.take n ++ l.drop (a + min ys.length n)))) mem q) q' = getM mem q' := by
        intro q'
        rw [getM_setM]
        split
        · rename_i hq; rw [hq, hg, hl']
        · rfl
      refine ⟨_, .int .i64 0, w, ρ, ?_, .inl rfl, m.congr hsm, ?_, ?_⟩
      · rw [hexec, h0]
        simp [hrn, goInt]
      · rw [← hkint, hmin]; exact .int _ _ _
      · show Turn w _ ρ w (Forb X (setM _ mem q) ρ) ρ none
        rw [forb_congr hsm]
        exact Turn.refl _ _ _ _
    · have q3 := q3.resolve_left (by omega)
      subst q3
      have hnl : (us.take (min ys.length n)).length = min ys.length n := by rw [List.length_take]; omega
      have hfit : a + (us.take (min ys.length n)).length ≤ vs.toList.length := by omega
      have hrn := run_copy_into (P := P) w t t2 o.type el ji 1 (ti.und_slice hk) j1 (by rw [j2, hw]) b a n cc vs ty e4 (ac.eval x) ys.length (us.take (min ys.length n))
        (fun u hu => u2 u (List.mem_of_mem_take hu)) u4 (by have := u5 w (Nat.min ys.length n) rfl (Nat.min_le_left _ _); simpa [wid] using this) (by rw [← Array.length_toList]; exact hfit)
      obtain ⟨m', t'⟩ := m.update e2 (by rw [hg]; rfl) (b := b) rfl (w' := w.setRow b (vs.toList.take a ++ us.take (min ys.length n) ++ vs.toList.drop (a + (us.take (min ys.length n)).length)).toArray)
        ⟨rfl, rfl, rfl, by simp [World.setRow], fun k hk => setRow_other w b k _ (by omega)⟩ (fun k hk => setRow_other w b k _ hk) (B := .chunk t' (.agg (l.take a ++ ys.take n ++ l.drop (a + min ys.length n)))) (fun tn => by
          refine ⟨i', b, _, ty, e1, rfl, e3, setRow_heap w b vs _ ty (0, 0) e4, ?_, fun u hu => ?_, ?_⟩
          · simp only [List.size_toArray]
            rw [splice_len hfit, Array.length_toList, e5]
          · simp only [List.mem_append] at hu
            rcases hu with (hu | hu) | hu
            · exact e6 u (List.mem_of_mem_take hu)
            · exact u2 u (List.mem_of_mem_take hu)
            · exact e6 u (List.mem_of_mem_drop hu)
          · rw [hp, valAt_some_full (by simp only; rw [splice_len hfit, Array.length_toList]; omega)]
            refine Den.agg_iff.2 ⟨_, rfl, ?_, fun k y u hy hu => ?_⟩
            · simp only; rw [splice_len hfit, ← hvl]
              simp only [List.length_append, List.length_take, List.length_drop]
              omega
            · rw [splice_list han] at hy
              simp only at hu
              rw [splice_get hfit, hnl] at hu
              split at hy
              · rename_i hin
                rw [if_pos hin, List.getElem?_take, if_pos (by omega)] at hu
                obtain ⟨kk, z, rfl⟩ := allIntB_get hys _ _ hy
                have hlt : k - a < ys.length := by omega
                have := u3 _ hlt
                rw [List.getElem?_eq_getElem hlt] at hy
                injection hy with hy
                rw [hy, Den.int_iff] at this
                simp only [valAt, hu, Option.getD_some] at this
                rw [this]; exact .int _ _ _
              · rename_i hin
                rw [if_neg hin] at hu
                exact tn.den (fun _ hr => by cases hr) (hcs.2 k y u hy hu))
      refine ⟨_, .int .i64 (min (ys.length : Int) (n : Int)), _, ρ, ?_, .inl rfl, m', .int _ _ _, t'⟩
      rw [hexec]
      simp only [Sem.run_bind, hrn, Result.andThen_ok, Sem.run_pure, goInt]
      rw [← hkint]

theorem store_ok (tys : Types P T) (sz : Sizes T) {o : Oper} {t : Nat} {x vo : Operand} (ho : o.op = .store t x vo) {d : Option Nat} {e : Operand → SV} {μ : Nat → Blk} {κ : SV → List (Nat × Blk) → Prop} (h : wval T d (.store t x vo) e μ κ) :
    ∃ y U, κ y U ∧ (∀ q b, (q, b) ∈ U → (μ q).own = true) ∧ Eff P T o e μ y U none := by
  simp only [wval, O.hln, apL_eq, O.st_eq, O.hcp] at h
  split at h <;> try exact h.elim
  rename_i i ht
  split at h <;> try exact h.elim
  · rename_i r off hx
    split at h <;> try exact h.elim
    rename_i t' y hm
    obtain ⟨B, h1, h2⟩ := store_chunk_ok (P := P) tys sz ho ht hx hm h
    exact ⟨_, _, h1, (fun q b hq => by simp at hq; rw [hq.1, hm]; rfl), h2⟩
  · rename_i r sh j off hx
    split at h <;> try exact h.elim
    rename_i s el l hm
    split at h <;> try exact h.elim
    rename_i hc
    simp only [Bool.and_eq_true] at hc
    have hs := shEq_eq hc.1
    split at h <;> try exact h.elim
    rename_i y hy
    have hown : ∀ l' q b, (q, b) ∈ frzU μ (rids (e vo)) ++ [(r, Blk.row s el l')] → (μ q).own = true := by
      intro l' q b hq
      rcases List.mem_append.1 hq with hq | hq
      · obtain ⟨_, sh, e', k, g, _⟩ := frzU_mem hq
        rw [g]; rfl
      · simp at hq; rw [hq.1, hm]; rfl
    split at h
    · rename_i hc2
      simp only [Bool.and_eq_true] at hc2
      have h0 : off = 0 := Nat.eq_of_beq_eq_true hc2.1.1
      subst h0
      obtain ⟨hj, h⟩ := h
      exact ⟨_, _, h, hown _, store_row_ok tys ho ht hx hm hs hc.2 hy (setL_length _ _ _) (fun w Y us v hd hus _ hl => elem_write sz ht (shEq_eq hc2.1.2) hc2.2 hj w Y us v hd hus hl)⟩
    · split at h <;> try exact h.elim
      rename_i ys hys
      split at h <;> try exact h.elim
      rename_i hlen
      have hlen := Nat.eq_of_beq_eq_true hlen
      obtain ⟨c, ⟨hc3, hc4⟩, h⟩ := h.h
      exact ⟨_, _, h, hown _, store_row_ok tys ho ht hx hm hs hc.2 hy (setL_length _ _ _) (fun w Y us v hd hus hone hl => part_write hys hlen hc3 hc4 w Y us v hd hus hl hone)⟩

theorem copy_ok (tys : Types P T) (sz : Sizes T) {o : Oper} {cl : Call} (hc : cl.callee = .builtin .copy) (ho : o.op = .call cl) {d : Option Nat} {e : Operand → SV} {μ : Nat → Blk} {κ : SV → List (Nat × Blk) → Prop} (h : wval T d (.call cl) e μ κ) :
    ∃ y U, κ y U ∧ (∀ q b, (q, b) ∈ U → (μ q).own = true) ∧ Eff P T o e μ y U none := by
  obtain ⟨cal, args, ats⟩ := cl
  simp only at hc
  subst hc
  simp only [wval, O.hln, apL_eq, O.st_eq, O.hcp] at h
  split at h <;> try exact h.elim
  case h_1 => cases ‹Callee.builtin Builtin.copy = Callee.builtin Builtin.append›
  rename_i t t2 s x _ hat har
  obtain rfl : args = #[s, x] := by apply Array.ext'; simpa using har
  obtain rfl : ats = #[t, t2] := by apply Array.ext'; simpa using hat
  split at h <;> try exact h.elim
  rename_i i ht
  split at h <;> try exact h.elim
  rename_i el hk
  split at h <;> try exact h.elim
  rename_i j hj
  split at h <;> try exact h.elim
  rename_i hck
  simp only [Bool.and_eq_true, Bool.not_eq_true'] at hck
  have hpos : j.size ≠ 0 := by intro h0; rw [h0] at hck; simp at hck
  split at h <;> try exact h.elim
  · rename_i ys q hsrc hs
    split at h <;> try exact h.elim
    rename_i s' el' l hm
    split at h <;> try exact h.elim
    rename_i hsh
    have hsh := shEq_eq hsh
    subst hsh
    refine ⟨_, _, h.h.2 _ rfl, (fun q' b hq => by simp at hq; rw [hq.1, hm]; rfl), ?_⟩
    have := copy_core (P := P) tys sz ho ht hk hj hpos hsrc (a := 0) (n := l.length) hm (by omega) (fun w X ρ v v0 hd hv hsl => by
      rw [hs] at hd
      cases hd with
      | row _ _ a' n' c' hr =>
        have := hr _ hv
        rcases hsl with ⟨a0, rfl, rfl⟩ | ⟨b, off, c, rfl⟩
        · injection this with e1 e2 e3
          subst e1; subst e2; subst e3
          exact ⟨_, _, rfl, .inl rfl⟩
        · injection this with e1 e2 e3
          subst e1; subst e2; subst e3
          exact ⟨_, _, rfl, .inr ⟨b, off, _, _, rfl, by simp⟩⟩)
    exact this
  · rename_i ys q s' a n c hsrc hs
    split at h <;> try exact h.elim
    · rename_i t' l hm
      split at h <;> try exact h.elim
      rename_i hsh
      simp only [Bool.and_eq_true] at hsh
      have hs1 := shEq_eq hsh.1.1
      have hs2 := shEq_eq hsh.1.2
      subst hs1
      obtain ⟨han, h⟩ := h
      exact ⟨_, _, h.h.2 _ rfl, (fun q' b hq => by simp at hq; rw [hq.1, hm]; rfl), copy_chunk (P := P) tys sz ho ht hk hj hs2 hsrc hsh.2 hs hm han⟩
    rename_i s'' el' l hm
    split at h <;> try exact h.elim
    rename_i hsh
    simp only [Bool.and_eq_true] at hsh
    have hs1 := shEq_eq hsh.1
    have hs2 := shEq_eq hsh.2
    subst hs1; subst hs2
    obtain ⟨han, h⟩ := h
    refine ⟨_, _, h.h.2 _ rfl, (fun q' b hq => by simp at hq; rw [hq.1, hm]; rfl), ?_⟩
    exact copy_core (P := P) tys sz ho ht hk hj hpos hsrc hm han (fun w X ρ v v0 hd hv hcs => by
      rw [hs] at hd
      cases hd with
      | rsl _ _ _ _ _ _ x cc hcc hr =>
        obtain ⟨x0, len, cap, rfl, e2, e3, _, _, e6⟩ := (hr _ hv).resolve_right (by rintro ⟨_, h, _⟩; rcases hcs with ⟨_, rfl, _⟩ | ⟨_, _, _, rfl⟩ <;> cases h)
        refine ⟨_, _, rfl, ?_⟩
        rcases e6 with e6 | ⟨b, off, rfl, rfl⟩
        · exact .inl (by omega)
        · exact .inr ⟨b, off, _, _, rfl, rfl⟩)
end Go.Proofs.YtligbjbkecmecaaDoor
