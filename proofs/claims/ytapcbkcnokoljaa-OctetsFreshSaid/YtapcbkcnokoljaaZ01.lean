/- Texts put together: Wh Xw Ri Rc Rd Xo Xp Reg. -/
import Derived.Test.YtapcbkcnokoljaaZ00
import Derived.Laws.Slices
import Derived.Laws.BytesString
import Derived.Laws.BytesArg
import Derived.Conc.EntryLaws
import Derived.Laws.RangeAny
import Derived.Laws.IdiomStrings
import Derived.DeepKeys3
namespace Go.Proofs.Ytapcbkcnokoljaa
set_option linter.unusedVariables false
set_option linter.unusedSimpArgs false
open Go.RowKit
variable {P : Program} {T : Nat → Option TI}

noncomputable def srcOf (μ : Nat → Blk) (sh : Option Nat) (x : SV) : Option (List SV) :=
  match x with
  | .str s => (match sh with | none => some (O.by' s) | _ => none)
  | x => listOf μ sh x
def isSrc (d : Option TI) : Bool := match d with
  | some i => (match i.kind with | .slice _ => true | .string => true | _ => false)
  | none => false
noncomputable def baseOf (μ : Nat → Blk) (sh : Option Nat) (el : Nat) (x : SV) : Option (Option Nat × List SV) :=
  match x with
  | .nil => some (none, [])
  | .rsl q s2 a n _ => (match μ q with | .row s e l => if shEq s sh && Nat.beq e el && shEq s2 sh then some (some q, O.sg l a n) else none | _ => none)
  | .row q => (match μ q with | .row s e l => if shEq s sh && Nat.beq e el then some (some q, l) else none | _ => none)
  | _ => none

def setL (l : List SV) (i : Nat) (y : SV) : List SV := l.set i y

noncomputable def apL (l ys : List SV) : List SV := match l with | [] => ys | l => O.ap l ys
theorem apL_eq (l ys : List SV) : apL l ys = l ++ ys := by unfold apL; split <;> simp [O.hap]
theorem O.st_eq (l : List SV) (i : Nat) (y : SV) : O.st l i y = setL l i y := O.hst l i y
def wval (T : Nat → Option TI) (d : Option Nat) (op : Op) (e : Operand → SV) (μ : Nat → Blk) (κ : SV → List (Nat × Blk) → Prop) : Prop :=
  match op with
  | .store t x v => (match T t with
    | some i => (match e x with
      | .ptr r o => (match μ r with
        | .chunk t' y => if Nat.beq o 0 && Nat.beq t' t && chunkOk i (normNil T t (e v)) then κ .any [(r, .chunk t (normNil T t (e v)))] else (match y with
          | .agg l => (match cellsA (normNil T t (e v)) with
            | some ys => if Nat.beq ys.length i.size && Nat.ble (o + ys.length) l.length then κ .any [(r, .chunk t' (.agg (putCells l o ys)))] else False
            | none => False)
          | _ => False)
        | _ => False)
      | .rptr r sh j o => (match μ r with
        | .row s el l => if shEq s sh && noref r (e v) then (match view T μ t (e v) with
          | some y => if Nat.beq o 0 && shEq sh i.shape && chunkOk i y then Rq (fun _ => j < O.ln l) (fun _ => κ .any (frzU μ (rids (e v)) ++ [(r, .row s el (O.st l j y))]))
            else (match cellsA y with
              | some ys => if Nat.beq ys.length i.size then QV (fun (c : List SV) => l[j]? = some (.agg c) ∧ o + ys.length ≤ c.length) (fun c => κ .any (frzU μ (rids (e v)) ++ [(r, .row s el (O.st l j (.agg (putCells c o ys))))])) else False
              | none => False)
          | none => False) else False
        | _ => False)
      | _ => False)
    | none => False)
  | .call c => (match c.callee, c.argTypes.toList, c.args.toList, d with
    | .builtin .append, [t, t2], [s, x], some d => (match T t with
      | some i => (match i.kind with
        | .slice el => (match T el with
          | some j => if isSrc (T t2) && !(Nat.beq j.size 0) && !(Nat.beq j.bytes 0) then (match baseOf μ j.shape el (e s), srcOf μ j.shape (e x) with
            | some (q, l), some ys => Rq (fun _ => ((O.ln l : Int) + (O.ln ys : Int)) * (j.bytes : Int) ≤ 140737488355328) (fun _ => κ (.row d) ((match q with | some q => [(q, .no)] | none => []) ++ [(d, .row j.shape el (apL l ys))]))
            | _, _ => False) else False
          | none => False)
        | _ => False)
      | none => False)
    | .builtin .copy, [t, t2], [s, x], _ => (match T t with
      | some i => (match i.kind with
        | .slice el => (match T el with
          | some j => if isSrc (T t2) && !(Nat.beq j.size 0) then (match srcOf μ j.shape (e x), e s with
            | some ys, .row q => (match μ q with
              | .row s' el' l => if shEq s' j.shape then Q1 (fun _ => True) (fun z => z = min (O.ln ys : Int) (O.ln l : Int)) (fun z => κ (.int .i64 z) [(q, .row s' el' (O.cp l 0 (O.ln l) ys))]) else False
              | _ => False)
            | some ys, .rsl q s' a n _ => (match μ q with
              | .row s'' el' l => if shEq s' j.shape && shEq s'' j.shape then Rq (fun _ => a + n ≤ O.ln l) (fun _ => Q1 (fun _ => True) (fun z => z = min (O.ln ys : Int) (n : Int)) (fun z => κ (.int .i64 z) [(q, .row s'' el' (O.cp l a n ys))])) else False
              | _ => False)
            | _, _ => False) else False
          | none => False)
        | _ => False)
      | none => False)
    | _, _, _, _ => False)
  | _ => False

theorem run_store_at {t : Nat} {i : TI} (tok : TOk P t i) (w : World) (b o : Nat) (cur : Array Value) (ty : TypeId) (hg : w.heap[b]? = some (.cells cur ty (0, 0))) (v : Value) (hv : v.cells.size = i.size) (h1 : ∀ u ∈ v.cells.toList, u.oneCell' = true) (hl : o + i.size ≤ cur.size) :
    (Instr.storeAt t (.pointer (some ⟨b, o, none⟩)) v).run P w = .ok () (w.setRow b (cur.toList.take o ++ v.cells.toList ++ cur.toList.drop (o + v.cells.toList.length)).toArray) := by
  have hst := run_storeCells_at P b o ty v.cells.toList 0 cur w hg (by simp; omega) h1
  simp only [Nat.add_zero] at hst
  simp only [Instr.storeAt, Instr.sureAddr, Sem.run_bind, Sem.run_pure, Result.andThen_ok, storeVar, tok.sizeOf]
  rw [if_neg (by omega)]
  exact hst

theorem splice_get {us vs : List Value} {off : Nat} (h : off + vs.length ≤ us.length) (k : Nat) : (us.take off ++ vs ++ us.drop (off + vs.length))[k]? = if off ≤ k ∧ k < off + vs.length then vs[k - off]? else us[k]? := by
  by_cases hk : k < off
  · rw [if_neg (by omega), List.append_assoc, List.getElem?_append_left (by simp; omega), List.getElem?_take, if_pos hk]
  · by_cases hk2 : k < off + vs.length
    · rw [if_pos (by omega), List.append_assoc, List.getElem?_append_right (by simp; omega), List.getElem?_append_left (by simp; omega)]
      congr 1
      simp
      omega
    · rw [if_neg (by omega), List.getElem?_append_right (by simp; omega), List.getElem?_drop]
      congr 1
      simp
      omega
theorem splice_len {us vs : List Value} {off : Nat} (h : off + vs.length ≤ us.length) : (us.take off ++ vs ++ us.drop (off + vs.length)).length = us.length := by
  simp only [List.length_append, List.length_take, List.length_drop]
  omega
theorem valAt_ext {sh : Option Nat} {us vs : List Value} {i : Nat} (hu : i * wid sh + wid sh ≤ us.length) (hv : i * wid sh + wid sh ≤ vs.length) (h : ∀ k, i * wid sh ≤ k → k < i * wid sh + wid sh → us[k]? = vs[k]?) : valAt sh us i = valAt sh vs i := by
  rw [valAt_seg _ _ _ hu, valAt_seg _ _ _ hv]
  congr 1
  apply List.ext_getElem?
  intro k
  rw [List.getElem?_take, List.getElem?_take, List.getElem?_drop, List.getElem?_drop]
  split
  · exact h _ (by omega) (by omega)
  · rfl
theorem valAt_ext0 {sh : Option Nat} {us vs : List Value} {i : Nat} (hu : i * wid sh + wid sh ≤ us.length) (hv : wid sh ≤ vs.length) (h : ∀ k, k < wid sh → us[i * wid sh + k]? = vs[k]?) : valAt sh us i = valAt sh vs 0 := by
  rw [valAt_seg _ _ _ hu, valAt_seg sh vs 0 (by omega)]
  congr 1
  apply List.ext_getElem?
  intro k
  rw [List.getElem?_take, List.getElem?_take, List.getElem?_drop, List.getElem?_drop]
  split
  · rename_i hk
    rw [h k hk, Nat.zero_mul, Nat.zero_add]
  · rfl

theorem row_write {N : Nat → Prop} {w0 w : World} {X : Nat → Prop} {mem : Mem} {ρ : Env} (m : MRep T N w0 w X mem ρ) {r : Nat} {sh : Option Nat} {el : Nat} {l l' : List SV} (hr : getM mem r = .row sh el l) (hl' : l'.length = l.length)
    {b off cap : Nat} {cur : Array Value} (hρ : ρ r = some (.slice (some ⟨b, off, none⟩) l.length cap)) (hN : N b) (hg : w.heap[b]? = some (.cells cur el (0, 0))) (h5 : l.length ≤ cap) (h6 : cap ≤ maxLen) (h7 : off + cap * wid sh ≤ cur.size) (h0 : 0 < cap)
    (h9 : ∀ u ∈ cur.toList, u.oneCell' = true) (at' : Nat) (vs : List Value) (hat : at' + vs.length ≤ cur.size) (hv1 : ∀ u ∈ vs, u.oneCell' = true)
    (hden : ∀ (i : Nat) (h : i < l'.length), Den w (Forb X mem ρ) noEnv l'[i] (valAt sh ((cur.toList.take at' ++ vs ++ cur.toList.drop (at' + vs.length)).drop off) i)) :
    MRep T N w0 (w.setRow b (cur.toList.take at' ++ vs ++ cur.toList.drop (at' + vs.length)).toArray) X (setM (.row sh el l') mem r) ρ ∧
      Turn w (Forb X mem ρ) ρ (w.setRow b (cur.toList.take at' ++ vs ++ cur.toList.drop (at' + vs.length)).toArray) (Forb X (setM (.row sh el l') mem r) ρ) ρ none := by
  refine m.update (w' := w.setRow b (cur.toList.take at' ++ vs ++ cur.toList.drop (at' + vs.length)).toArray) hρ (by rw [hr]; rfl) (b := b) (by simp only [vblock]; rw [if_neg (by omega)]) ⟨rfl, rfl, rfl, by simp [World.setRow], fun k hk => setRow_other w b k _ (by omega)⟩ (fun k hk => setRow_other w b k _ hk) (fun tn => ?_)
  refine ⟨_, rfl, .inr ⟨b, off, cap, _, by rw [hl'], hN, setRow_heap w b cur _ el (0, 0) hg, by omega, h6, ?_, h0, fun u hu => ?_, fun i hi => ?_⟩⟩
  · simp only [List.size_toArray]
    rw [splice_len (by rw [Array.length_toList]; exact hat), Array.length_toList]
    exact h7
  · simp only [List.mem_append] at hu
    rcases hu with (hu | hu) | hu
    · exact h9 u (List.mem_of_mem_take hu)
    · exact hv1 u hu
    · exact h9 u (List.mem_of_mem_drop hu)
  · exact (hden i hi).mono tn.size tn.keep

theorem Sees.row {μ : Nat → Blk} {mem : Mem} (hμ : Sees μ mem) {r : Nat} {B : Blk} (h : μ r = B) (hB : B ≠ .no) : getM mem r = B := by
  rcases hμ r with g | g
  · exact absurd (h.symm.trans g) hB
  · rw [← g]; exact h

theorem store_chunk_ok (tys : Types P T) (sz : Sizes T) {o : Oper} {t : Nat} {x vo : Operand} (ho : o.op = .store t x vo) {e : Operand → SV} {μ : Nat → Blk} {i : TI} (ht : T t = some i) {r off : Nat} (hx : e x = .ptr r off) {t' : Nat} {y : SV} (hm : μ r = .chunk t' y)
    {κ : SV → List (Nat × Blk) → Prop} (h : if Nat.beq off 0 && Nat.beq t' t && chunkOk i (normNil T t (e vo)) then κ .any [(r, .chunk t (normNil T t (e vo)))] else (match (generalizing := false) y with
          | .agg l => (match cellsA (normNil T t (e vo)) with
            | some ys => if Nat.beq ys.length i.size && Nat.ble (off + ys.length) l.length then κ .any [(r, .chunk t' (.agg (putCells l off ys)))] else False
            | none => False)
          | _ => False)) :
    ∃ B, κ .any [(r, B)] ∧ Eff P T o e μ .any [(r, B)] none := by
  have tok := tys.ok t i ht
  have base : ∀ (mem : Mem), Sees μ mem → ∀ (a : Act) (N : Nat → Prop) (w0 w : World) (X : Nat → Prop) (ρ : Env), MRep T N w0 w X mem ρ → (∀ y ∈ o.op.operands, Den w (Forb X mem ρ) ρ (e y) (a.eval y)) →
      ∃ i' b us ty, T t' = some i' ∧ ρ r = some (.pointer (some ⟨b, 0, none⟩)) ∧ N b ∧ w.heap[b]? = some (.cells us ty (0, 0)) ∧ us.size = i'.size ∧ (∀ u ∈ us.toList, u.oneCell' = true) ∧ Den w (Forb X mem ρ) ρ y (valAt i'.shape us.toList 0) ∧
        a.eval x = .pointer (some ⟨b, off, none⟩) ∧ Den w (Forb X mem ρ) ρ (normNil T t (e vo)) (a.eval vo) := by
    intro mem hμ a N w0 w X ρ m hd
    have hb := hμ.blk m r
    rw [hm] at hb
    obtain ⟨i', b, us, ty, h1, h2, h3, h4, h5, h7, h6⟩ := hb.resolve_left (by simp)
    have hdx := hd x (by simp [ho, Op.operands])
    rw [hx] at hdx
    generalize hev : a.eval x = v at hdx
    cases hdx with
    | ptr _ _ _ b' hb' =>
      have := hb' _ h2
      simp only [Value.pointer.injEq, Option.some.injEq, Addr.mk.injEq, and_true] at this
      subst this
      exact ⟨i', b, us, ty, h1, h2, h3, h4, h5, h7, h6, rfl, normNil_den (hd vo (by simp [ho, Op.operands]))⟩
  have fin : ∀ (mem : Mem), Sees μ mem → ∀ (a : Act) (N : Nat → Prop) (w0 w : World) (X : Nat → Prop) (ρ : Env) (m : MRep T N w0 w X mem ρ) (b : Nat) (us new : Array Value) (ty : TypeId) (B : Blk), ρ r = some (.pointer (some ⟨b, 0, none⟩)) → N b → w.heap[b]? = some (.cells us ty (0, 0)) →
      (execOp a.eval o).run P w = .ok .skip (w.setRow b new) →
      (Turn w (Forb X mem ρ) ρ (w.setRow b new) (Forb X (setM B mem r) ρ) ρ none → BlkRep T N (w.setRow b new) (Forb X (setM B mem r) ρ) ρ B (some (.pointer (some ⟨b, 0, none⟩)))) →
      ∃ r' u w' ρ', (execOp a.eval o).run P w = .ok r' w' ∧ (r' = .value u ∨ (r' = .skip ∧ SV.any = .any)) ∧ MRep T N w0 w' X (appU [(r, B)] mem) ρ' ∧ Den w' (Forb X (appU [(r, B)] mem) ρ') ρ' .any u ∧ Turn w (Forb X mem ρ) ρ w' (Forb X (appU [(r, B)] mem) ρ') ρ' none := by
    intro mem hμ a N w0 w X ρ m b us new ty B hρ hN hg hr' hB
    obtain ⟨m', t'⟩ := m.update hρ (by rw [hμ.row hm (by simp)]; rfl) (b := b) rfl (w' := w.setRow b new) ⟨rfl, rfl, rfl, by simp [World.setRow], fun k hk => setRow_other w b k new (by omega)⟩ (fun k hk => setRow_other w b k new hk) hB
    exact ⟨_, undef, _, ρ, hr', .inr ⟨rfl, rfl⟩, m', .any _ _, t'⟩
  split at h
  · rename_i hc
    simp only [Bool.and_eq_true] at hc
    have h0 : off = 0 := Nat.eq_of_beq_eq_true hc.1.1
    have h1 : t' = t := Nat.eq_of_beq_eq_true hc.1.2
    subst h0; subst h1
    refine ⟨_, h, .of_run fun mem hμ _ a N w0 w X ρ m hd => ?_⟩
    obtain ⟨i', b, us, ty, e1, e2, e3, e4, e5, e6, e7, e8, e9⟩ := base mem hμ a N w0 w X ρ m hd
    rw [ht] at e1
    injection e1 with e1
    subst e1
    obtain ⟨c1, c2, c3⟩ := chunk_den (sz.one t' i ht) hc.2 e9
    have hs := run_store_at tok w b 0 us ty e4 (a.eval vo) c1 c2 (by omega)
    refine fin mem hμ a N w0 w X ρ m b us (us.toList.take 0 ++ (a.eval vo).cells.toList ++ us.toList.drop (0 + (a.eval vo).cells.toList.length)).toArray ty _ e2 e3 e4 (by simp only [execOp, ho, e8, Sem.run_bind, hs, Result.andThen_ok, Sem.run_pure]) (fun tn => ?_)
    have hnew : (us.toList.take 0 ++ (a.eval vo).cells.toList ++ us.toList.drop (0 + (a.eval vo).cells.toList.length)) = (a.eval vo).cells.toList := by
      rw [List.drop_of_length_le (by simp; omega)]
      simp
    rw [hnew] at tn ⊢
    exact ⟨i, b, _, ty, ht, rfl, e3, setRow_heap w b us _ ty (0, 0) e4, by simpa using c1, by simpa using c2, by
      have : valAt i.shape ((a.eval vo).cells.toList.toArray).toList 0 = a.eval vo := by simpa using c3
      rw [this]
      exact tn.den (fun _ hr => by cases hr) e9⟩
  · split at h <;> try exact h.elim
    rename_i l
    split at h <;> try exact h.elim
    rename_i ys hys
    split at h <;> try exact h.elim
    rename_i hc
    simp only [Bool.and_eq_true] at hc
    have hl1 := Nat.eq_of_beq_eq_true hc.1
    have hl2 := Nat.le_of_ble_eq_true hc.2
    refine ⟨_, h, .of_run fun mem hμ _ a N w0 w X ρ m hd => ?_⟩
    obtain ⟨i', b, us, ty, e1, e2, e3, e4, e5, e6, e7, e8, e9⟩ := base mem hμ a N w0 w X ρ m hd
    obtain ⟨c1, c2⟩ := cellsA_den hys e9
    have hvs : (a.eval vo).cells.size = i.size := by rw [← hl1, c1.1, Array.length_toList]
    have hsh : ∃ n, i'.shape = some n := by
      cases hs : i'.shape with
      | some n => exact ⟨n, rfl⟩
      | none =>
        rw [hs] at e7
        obtain ⟨cs, e10, _⟩ := Den.agg_iff.1 e7
        simp only [valAt] at e10
        cases hu : us.toList[0]? with
        | none => rw [hu] at e10; simp [undef] at e10
        | some u =>
          rw [hu] at e10
          have := e6 u (List.mem_of_getElem? hu)
          simp only [Option.getD_some] at e10
          rw [e10] at this
          simp [Value.oneCell'] at this
    obtain ⟨n, hn⟩ := hsh
    have hn' : n = i'.size := by
      have := TI.wid_size (sz.one _ _ e1)
      rw [hn] at this
      exact this.symm
    rw [hn, valAt_some_full (by rw [Array.length_toList]; omega)] at e7
    obtain ⟨cs, e10, hcs⟩ := Den.agg_iff.1 e7
    injection e10 with e10
    injection e10 with e10
    subst e10
    have hul : us.size = l.length := by rw [← Array.length_toList, ← hcs.1]
    have hcl : (a.eval vo).cells.toList.length = ys.length := c1.1.symm
    have hfit : off + (a.eval vo).cells.toList.length ≤ us.toList.length := by rw [hcl, Array.length_toList (xs := us)]; omega
    have hs := run_store_at tok w b off us ty e4 (a.eval vo) hvs c2 (by omega)
    refine fin mem hμ a N w0 w X ρ m b us (us.toList.take off ++ (a.eval vo).cells.toList ++ us.toList.drop (off + (a.eval vo).cells.toList.length)).toArray ty _ e2 e3 e4 (by simp only [execOp, ho, e8, Sem.run_bind, hs, Result.andThen_ok, Sem.run_pure]) (fun tn => ?_)
    have hlen := splice_len hfit
    refine ⟨i', b, _, ty, e1, rfl, e3, setRow_heap w b us _ ty (0, 0) e4, by simp only [List.size_toArray]; rw [hlen, Array.length_toList, e5], fun u hu => ?_, ?_⟩
    · simp only [List.mem_append] at hu
      rcases hu with (hu | hu) | hu
      · exact e6 u (List.mem_of_mem_take hu)
      · exact c2 u hu
      · exact e6 u (List.mem_of_mem_drop hu)
    · rw [hn, valAt_some_full (by rw [hlen, Array.length_toList]; omega)]
      refine Den.agg_iff.2 ⟨_, rfl, ⟨by rw [putCells_length, hlen, Array.length_toList (xs := us), hul], fun k z u hz hu => ?_⟩⟩
      rw [putCells_get _ _ _ _ hl2] at hz
      rw [splice_get hfit, hcl] at hu
      split at hz
      · rename_i hk
        rw [if_pos hk] at hu
        exact tn.den (fun _ hr => by cases hr) (c1.2 _ _ _ hz hu)
      · rename_i hk
        rw [if_neg hk] at hu
        exact tn.den (fun _ hr => by cases hr) (hcs.2 _ _ _ hz hu)

theorem Sees.rowAt {μ : Nat → Blk} {mem : Mem} (hμ : Sees μ mem) {N : Nat → Prop} {w0 w : World} {X : Nat → Prop} {ρ : Env} (m : MRep T N w0 w X mem ρ) {r : Nat} {sh : Option Nat} {el : Nat} {l : List SV} (h : μ r = .row sh el l) :
    ∃ v, ρ r = some v ∧ getM mem r = .row sh el l ∧ ((∃ a, v = .slice a 0 0 ∧ l = []) ∨ ∃ b off cap cur, v = .slice (some ⟨b, off, none⟩) l.length cap ∧ N b ∧ w.heap[b]? = some (.cells cur el (0, 0)) ∧
      l.length ≤ cap ∧ cap ≤ maxLen ∧ off + cap * wid sh ≤ cur.size ∧ 0 < cap ∧ (∀ u ∈ cur.toList, u.oneCell' = true) ∧ ∀ (i : Nat) (h : i < l.length), Den w (Forb X mem ρ) noEnv l[i] (valAt sh (cur.toList.drop off) i)) := by
  have hg := hμ.row h (by simp)
  have hb := m.blk r
  rw [hg] at hb
  obtain ⟨v, h1, h2⟩ := hb
  exact ⟨v, h1, hg, h2⟩

theorem Den.noEnv_env {w : World} {X : Nat → Prop} {ρ : Env} {x : SV} {v : Value} (h : Den w X noEnv x v) (hd : dataB x = true) : Den w X ρ x v := h.data hd

theorem store_row_ok (tys : Types P T) {o : Oper} {t : Nat} {x vo : Operand} (ho : o.op = .store t x vo) {e : Operand → SV} {μ : Nat → Blk} {i : TI} (ht : T t = some i) {r off j : Nat} {sh s : Option Nat} (hx : e x = .rptr r sh j off) {el : Nat} {l : List SV} (hm : μ r = .row s el l)
    (hs : s = sh) (hnr : noref r (e vo) = true) {y : SV} (hy : view T μ t (e vo) = some y) {l' : List SV} (hl' : l'.length = l.length)
    (hnew : ∀ (w : World) (Y : Nat → Prop) (us : List Value) (v : Value), Den w Y noEnv y v → us.length = l.length * wid sh → (∀ u ∈ us, u.oneCell' = true) → (∀ (i : Nat) (h : i < l.length), Den w Y noEnv l[i] (valAt sh us i)) →
      j < l.length ∧ v.cells.size = i.size ∧ (∀ u ∈ v.cells.toList, u.oneCell' = true) ∧ off + i.size ≤ wid sh ∧
      ∀ (us' : List Value), us'.length = us.length → (∀ k, us'[k]? = if j * wid sh + off ≤ k ∧ k < j * wid sh + off + i.size then v.cells.toList[k - (j * wid sh + off)]? else us[k]?) → ∀ (i : Nat) (h : i < l'.length), Den w Y noEnv l'[i] (valAt sh us' i)) :
    Eff P T o e μ .any (frzU μ (rids (e vo)) ++ [(r, .row s el l')]) none := by
  subst hs
  have tok := tys.ok t i ht
  refine .of_run fun mem hμ _ a N w0 w X ρ m hd => ?_
  have fz := freeze_ids hμ m (rids (e vo))
  have hr1 : r ∉ rids (e vo) := fun hr => by rw [rids_noref hr] at hnr; cases hnr
  obtain ⟨v, hv, hg, hcase⟩ := hμ.rowAt m hm
  have hg' : getM (appU (frzU μ (rids (e vo))) mem) r = .row s el l := by
    rcases fz.old r with h | h
    · rw [h]; exact hg
    · exact absurd h.1 hr1
  have hden := fz.view (T := T) (t := t) (fun r h => h) hy (hd vo (by simp [ho, Op.operands]))
  have hdx := hd x (by simp [ho, Op.operands])
  rw [hx] at hdx
  rcases hcase with ⟨a0, rfl, rfl⟩ | ⟨b, o1, cap, cur, rfl, hN, hh, h5, h6, h7, h0, h9, h8⟩
  · exfalso
    have := (hnew w _ [] (a.eval vo) hden (by simp) (by simp) (fun i h => by simp at h)).1
    simp at this
  have hcl : cur.toList.length = cur.size := Array.length_toList
  have hle5 : l.length * wid s ≤ cap * wid s := Nat.mul_le_mul_right _ h5
  obtain ⟨hj, c1, c2, hoff, hres⟩ := hnew w _ ((cur.toList.drop o1).take (l.length * wid s)) (a.eval vo) hden (by rw [List.length_take, List.length_drop]; omega) (fun u hu => h9 u (List.mem_of_mem_drop (List.mem_of_mem_take hu))) (fun i hi => by
    rw [valAt_take s _ l.length i hi (by rw [List.length_drop]; omega)]
    exact (h8 i hi).mono fz.t.size fz.t.keep)
  have hlej : j * wid s + wid s ≤ l.length * wid s := by rw [← Nat.succ_mul]; exact Nat.mul_le_mul_right _ hj
  have hvl : (a.eval vo).cells.toList.length = i.size := by rw [Array.length_toList, c1]
  have hev : a.eval x = .pointer (some ⟨b, o1 + j * wid s + off, none⟩) := by
    generalize hq : a.eval x = q at hdx
    cases hdx with
    | rptr _ _ _ _ _ b' o' hb' =>
      obtain ⟨len, cap', e2⟩ := hb' _ hv
      simp only [Value.slice.injEq, Option.some.injEq, Addr.mk.injEq, and_true] at e2
      obtain ⟨⟨rfl, rfl⟩, _, _⟩ := e2
      rfl
  have hs := run_store_at tok w b (o1 + j * wid s + off) cur el hh (a.eval vo) c1 c2 (by omega)
  have hfit : o1 + j * wid s + off + (a.eval vo).cells.toList.length ≤ cur.toList.length := by omega
  obtain ⟨m', t'⟩ := row_write (l' := l') fz.m hg' hl' hv hN hh h5 h6 h7 h0 h9 (o1 + j * wid s + off) (a.eval vo).cells.toList (by omega) c2 (fun k hk => by
    have := hres (((cur.toList.take (o1 + j * wid s + off) ++ (a.eval vo).cells.toList ++ cur.toList.drop (o1 + j * wid s + off + (a.eval vo).cells.toList.length)).drop o1).take (l.length * wid s)) (by
      rw [List.length_take, List.length_drop, splice_len hfit, List.length_take, List.length_drop]) (fun q => by
      rw [List.getElem?_take, List.getElem?_drop, splice_get hfit, List.getElem?_take, List.getElem?_drop, hvl]
      by_cases hq : q < l.length * wid s
      · rw [if_pos hq, if_pos hq]
        by_cases hq2 : j * wid s + off ≤ q ∧ q < j * wid s + off + i.size
        · rw [if_pos (by omega), if_pos hq2]
          congr 1
          omega
        · rw [if_neg (by omega), if_neg hq2]
      · rw [if_neg hq, if_neg hq, if_neg (by omega)]) k hk
    rw [valAt_take s _ l.length k (by omega) (by rw [List.length_drop, splice_len hfit]; omega)] at this
    exact this)
  refine ⟨_, undef, _, ρ, ?_, .inr ⟨rfl, rfl⟩, by rw [appU_append]; exact m', .any _ _, by rw [appU_append]; exact fz.t.trans t'⟩
  simp only [execOp, ho, hev, Sem.run_bind, hs, Result.andThen_ok, Sem.run_pure]

theorem setL_length (l : List SV) (i : Nat) (y : SV) : (setL l i y).length = l.length := by simp [setL]
theorem setL_get (l : List SV) (j : Nat) (y : SV) (i : Nat) (h : i < (setL l j y).length) : (setL l j y)[i] = if j = i then y else l[i]'(by simpa [setL] using h) := by
  simp only [setL, List.getElem_set]

theorem elem_write (sz : Sizes T) {t : Nat} {i : TI} (ht : T t = some i) {sh : Option Nat} (hsh : sh = i.shape) {y : SV} (hc : chunkOk i y = true) {l : List SV} {j : Nat} (hj : j < l.length) (w : World) (Y : Nat → Prop) (us : List Value) (v : Value) (hd : Den w Y noEnv y v)
    (hus : us.length = l.length * wid sh) (hl : ∀ (i : Nat) (h : i < l.length), Den w Y noEnv l[i] (valAt sh us i)) :
    j < l.length ∧ v.cells.size = i.size ∧ (∀ u ∈ v.cells.toList, u.oneCell' = true) ∧ 0 + i.size ≤ wid sh ∧
      ∀ (us' : List Value), us'.length = us.length → (∀ k, us'[k]? = if j * wid sh + 0 ≤ k ∧ k < j * wid sh + 0 + i.size then v.cells.toList[k - (j * wid sh + 0)]? else us[k]?) → ∀ (q : Nat) (h : q < (setL l j y).length), Den w Y noEnv (setL l j y)[q] (valAt sh us' q) := by
  obtain ⟨c1, c2, c3⟩ := chunk_den (sz.one t i ht) hc hd
  have hw := TI.wid_size (sz.one t i ht)
  rw [← hsh] at hw
  refine ⟨hj, c1, c2, by omega, fun us' hl' hg q hq => ?_⟩
  have hq' : q < l.length := by rwa [setL_length] at hq
  have hle : q * wid sh + wid sh ≤ us'.length := by rw [hl', hus, ← Nat.succ_mul]; exact Nat.mul_le_mul_right _ hq'
  have hvl : v.cells.toList.length = i.size := by rw [Array.length_toList, c1]
  rw [setL_get]
  by_cases hjq : j = q
  · subst hjq
    rw [if_pos rfl, valAt_ext0 hle (vs := v.cells.toList) (by omega) (fun k hk => by rw [hg, if_pos (by omega)]; congr 1; omega), hsh, c3]
    exact hd
  · rw [if_neg hjq]
    have hsep : q * wid sh + wid sh ≤ j * wid sh ∨ j * wid sh + wid sh ≤ q * wid sh := by
      rcases Nat.lt_or_gt_of_ne hjq with h | h
      · right; rw [← Nat.succ_mul]; exact Nat.mul_le_mul_right _ h
      · left; rw [← Nat.succ_mul]; exact Nat.mul_le_mul_right _ h
    rw [valAt_ext hle (vs := us) (by omega) (fun k h1 h2 => by rw [hg, if_neg (by omega)])]
    exact hl q hq'
theorem part_write {sh : Option Nat} {n : Nat} {y : SV} {ys c : List SV} (hys : cellsA y = some ys) (hn : ys.length = n) {l : List SV} {j off : Nat} (hlj : l[j]? = some (.agg c)) (hoc : off + ys.length ≤ c.length) (w : World) (Y : Nat → Prop) (us : List Value) (v : Value) (hd : Den w Y noEnv y v)
    (hus : us.length = l.length * wid sh) (hl : ∀ (i : Nat) (h : i < l.length), Den w Y noEnv l[i] (valAt sh us i)) (hone : ∀ u ∈ us, u.oneCell' = true) :
    j < l.length ∧ v.cells.size = n ∧ (∀ u ∈ v.cells.toList, u.oneCell' = true) ∧ off + n ≤ wid sh ∧
      ∀ (us' : List Value), us'.length = us.length → (∀ k, us'[k]? = if j * wid sh + off ≤ k ∧ k < j * wid sh + off + n then v.cells.toList[k - (j * wid sh + off)]? else us[k]?) → ∀ (q : Nat) (h : q < (setL l j (.agg (putCells c off ys))).length), Den w Y noEnv (setL l j (.agg (putCells c off ys)))[q] (valAt sh us' q) := by
  obtain ⟨hj, hlj'⟩ := List.getElem?_eq_some_iff.1 hlj
  obtain ⟨k1, k2⟩ := cellsA_den hys hd
  have hvl : v.cells.toList.length = n := by rw [← k1.1, hn]
  have hdj := hl j hj
  rw [hlj'] at hdj
  obtain ⟨cs, hcs, hdc⟩ := Den.agg_iff.1 hdj
  have hlej : j * wid sh + wid sh ≤ us.length := by rw [hus, ← Nat.succ_mul]; exact Nat.mul_le_mul_right _ hj
  have hsome : ∃ m, sh = some m := by
    cases sh with
    | some m => exact ⟨m, rfl⟩
    | none =>
      simp only [valAt] at hcs
      have hlt : j < us.length := by simp [wid] at hlej; omega
      rw [List.getElem?_eq_getElem hlt] at hcs
      have := hone _ (List.getElem_mem hlt)
      simp only [Option.getD_some] at hcs
      rw [hcs] at this
      simp [Value.oneCell'] at this
  obtain ⟨m, rfl⟩ := hsome
  simp only [wid] at *
  have hcs' : cs = (us.drop (j * m)).take m := by
    simp only [valAt] at hcs
    injection hcs with hcs
    injection hcs with hcs
    exact hcs.symm
  have hcl : c.length = m := by rw [hdc.1, hcs', List.length_take, List.length_drop]; omega
  refine ⟨hj, by rw [← Array.length_toList]; exact hvl, k2, by omega, fun us' hl' hg q hq => ?_⟩
  have hq' : q < l.length := by rwa [setL_length] at hq
  have hle : q * m + m ≤ us'.length := by rw [hl', hus, ← Nat.succ_mul]; exact Nat.mul_le_mul_right _ hq'
  rw [setL_get]
  have hgi : ∀ k, j * m + off ≤ k → k < j * m + off + n → us'[k]? = v.cells.toList[k - (j * m + off)]? := fun k a b => (hg k).trans (if_pos ⟨a, b⟩)
  have hgo : ∀ k, ¬ (j * m + off ≤ k ∧ k < j * m + off + n) → us'[k]? = us[k]? := fun k a => (hg k).trans (if_neg a)
  by_cases hjq : j = q
  · subst hjq
    rw [if_pos rfl]
    refine Den.agg_iff.2 ⟨_, rfl, ⟨by rw [putCells_length, hcl, List.length_take, List.length_drop]; omega, fun k z u hz hu => ?_⟩⟩
    rw [putCells_get _ _ _ _ hoc] at hz
    rw [List.getElem?_take, List.getElem?_drop] at hu
    split at hu
    case isFalse => cases hu
    rename_i hk
    split at hz
    · rename_i hk2
      rw [hgi _ (by omega) (by omega)] at hu
      exact k1.2 (k - off) z u hz (by rw [← hu]; congr 1; omega)
    · rename_i hk2
      rw [hgo _ (by omega)] at hu
      refine hdc.2 k z u hz ?_
      rw [hcs', List.getElem?_take, if_pos hk, List.getElem?_drop]
      exact hu
  · rw [if_neg hjq]
    have hsep : q * m + m ≤ j * m ∨ j * m + m ≤ q * m := by
      rcases Nat.lt_or_gt_of_ne hjq with h | h
      · right; rw [← Nat.succ_mul]; exact Nat.mul_le_mul_right _ h
      · left; rw [← Nat.succ_mul]; exact Nat.mul_le_mul_right _ h
    rw [valAt_ext (sh := some m) hle (vs := us) (by simp only [wid]; omega) (fun k h1 h2 => by simp only [wid] at h1 h2; exact hgo k (by omega))]
    exact hl q hq'

theorem src_den {μ : Nat → Blk} {mem : Mem} (hμ : Sees μ mem) {N : Nat → Prop} {w0 w : World} {X : Nat → Prop} {ρ : Env} (m : MRep T N w0 w X mem ρ) {sh : Option Nat} {x : SV} {ys : List SV} (h : srcOf μ sh x = some ys) {v : Value} (hd : Den w (Forb X mem ρ) ρ x v) :
    Src P w (Forb X mem ρ) sh ys v := by
  cases x with
  | str s =>
    simp only [srcOf] at h
    cases sh with
    | none => injection h with h; subst h; rw [Den.str_iff.1 hd, O.by_eq]; exact .of_string s
    | some _ => cases h
  | _ => exact .of_slice (listOf_den hμ m (by simpa only [srcOf] using h) hd)

theorem isSrc_und (tys : Types P T) {t : Nat} (h : isSrc (T t) = true) : ∃ d, P.underlying t = some d ∧ (d = .string ∨ ∃ e, d = .slice e) := by
  unfold isSrc at h
  cases ht : T t with
  | none => rw [ht] at h; cases h
  | some i =>
    rw [ht] at h
    simp only at h
    cases hk : i.kind with
    | slice e => exact ⟨_, (tys.ok t i ht).und_slice hk, .inr ⟨e, rfl⟩⟩
    | string => exact ⟨_, (tys.ok t i ht).und_string hk, .inl rfl⟩
    | _ => rw [hk] at h; cases h

theorem rowAt_rep {w w' : World} {Y Y' : Nat → Prop} {N : Nat → Prop} {e : TypeId} {sh : Option Nat} {v : Value} {l ys : List SV} {cs us : List Value} {old : Option Nat} {sz : Nat} (h : RowAt w' e sh v (l.length + ys.length) (cs ++ us) old sz)
    (hN : ∀ b, (sz ≤ b ∨ old = some b) → N b) (hc : cs.length = l.length * wid sh) (hu : us.length = ys.length * wid sh) (hs : w.heap.size ≤ w'.heap.size) (hk : ∀ b, b < w.heap.size → ¬ Y b → ¬ Y' b ∧ w'.heap[b]? = w.heap[b]?)
    (hcd : ∀ (i : Nat) (h : i < l.length), Den w Y noEnv l[i] (valAt sh cs i)) (hud : ∀ (i : Nat) (h : i < ys.length), Den w Y noEnv ys[i] (valAt sh us i)) (T : Nat → Option TI) (ρ : Env) :
    BlkRep T N w' Y' ρ (.row sh e (l ++ ys)) (some v) := by
  refine ⟨v, rfl, ?_⟩
  rcases h with ⟨a, rfl, h1, h2⟩ | ⟨b, off, cap, cur, rfl, h1, h2, h3, h4, h5, h6, h7, h8⟩
  · exact .inl ⟨a, rfl, List.eq_nil_of_length_eq_zero (by rw [List.length_append]; omega)⟩
  · have hcl : cur.toList.length = cur.size := Array.length_toList
    have hle : (l.length + ys.length) * wid sh ≤ cap * wid sh := Nat.mul_le_mul_right _ h3
    have hm : (l.length + ys.length) * wid sh = l.length * wid sh + ys.length * wid sh := Nat.add_mul _ _ _
    refine .inr ⟨b, off, cap, cur, by rw [List.length_append], hN b h1, h2, by rw [List.length_append]; exact h3, h4, h5, h6, h7, fun i hi => ?_⟩
    rw [List.length_append] at hi
    have hi1 : i * wid sh + wid sh ≤ (l.length + ys.length) * wid sh := by rw [← Nat.succ_mul]; exact Nat.mul_le_mul_right _ hi
    rw [← valAt_take sh (cur.toList.drop off) (l.length + ys.length) i hi (by rw [List.length_drop]; omega), h8]
    by_cases hil : i < l.length
    · have hi2 : i * wid sh + wid sh ≤ l.length * wid sh := by rw [← Nat.succ_mul]; exact Nat.mul_le_mul_right _ hil
      rw [List.getElem_append_left hil, valAt_ext (vs := cs) (by rw [List.length_append]; omega) (by omega) (fun k _ hk => List.getElem?_append_left (by omega))]
      exact (hcd i hil).mono hs hk
    · rw [List.getElem_append_right (by omega)]
      have hj : i - l.length < ys.length := by omega
      have hi3 : (i - l.length) * wid sh + wid sh ≤ ys.length * wid sh := by rw [← Nat.succ_mul]; exact Nat.mul_le_mul_right _ hj
      have hi4 : i * wid sh = l.length * wid sh + (i - l.length) * wid sh := by rw [← Nat.add_mul]; congr 1; omega
      have : valAt sh (cs ++ us) i = valAt sh us (i - l.length) := by
        rw [valAt_seg sh (cs ++ us) i (by rw [List.length_append]; omega), valAt_seg sh us _ (by omega)]
        congr 1
        apply List.ext_getElem?
        intro k
        rw [List.getElem?_take, List.getElem?_take, List.getElem?_drop, List.getElem?_drop]
        split
        · rw [List.getElem?_append_right (by omega)]
          congr 1
          omega
        · rfl
      rw [this]
      exact (hud _ hj).mono hs hk

theorem append_ok (tys : Types P T) (sz : Sizes T) {o : Oper} {cl : Call} (hc : cl.callee = .builtin .append) (ho : o.op = .call cl) {d : Nat} {e : Operand → SV} {μ : Nat → Blk} {κ : SV → List (Nat × Blk) → Prop} (h : wval T (some d) (.call cl) e μ κ) :
    ∃ x U, κ x U ∧ (∀ q b, (q, b) ∈ U → q = d ∨ (μ q).own = true) ∧ Eff P T o e μ x U (some d) := by
  obtain ⟨cal, args, ats⟩ := cl
  simp only at hc
  subst hc
  simp only [wval, O.hln, apL_eq, O.st_eq, O.hcp] at h
  split at h <;> try exact h.elim
  case h_2 => cases ‹Callee.builtin Builtin.append = Callee.builtin Builtin.copy›
  rename_i t t2 s x dd _ hat har hdd
  injection hdd with hdd
  subst hdd
  obtain rfl : args = #[s, x] := by apply Array.ext'; simpa using har
  obtain rfl : ats = #[t, t2] := by apply Array.ext'; simpa using hat
  split at h <;> try exact h.elim
  rename_i i ht
  split at h <;> try exact h.elim
  rename_i el hk
  split at h <;> try exact h.elim
  rename_i j hj
  split at h <;> try exact h.elim
  rename_i hck
  simp only [Bool.and_eq_true, Bool.not_eq_true'] at hck
  split at h <;> try exact h.elim
  rename_i q l ys hbase hsrc
  obtain ⟨hlen, h⟩ := h
  have ti := tys.ok t i ht
  have tj := tys.ok el j hj
  have hw := TI.wid_size (sz.one _ _ hj)
  have hpos : 0 < wid j.shape := by
    rcases Nat.eq_zero_or_pos (wid j.shape) with h0 | h0
    · rw [hw, h0] at hck; simp at hck
    · exact h0
  have hbp : 0 < j.bytes := by
    rcases Nat.eq_zero_or_pos j.bytes with h0 | h0
    · rw [h0] at hck; simp at hck
    · exact h0
  have hlen' : (l.length + ys.length) * j.bytes ≤ 140737488355328 := by
    have : (((l.length + ys.length) * j.bytes : Nat) : Int) ≤ 140737488355328 := by rw [Int.natCast_mul, Int.natCast_add]; exact hlen
    omega
  have hmax : l.length + ys.length ≤ maxLen := by
    have : l.length + ys.length ≤ (l.length + ys.length) * j.bytes := Nat.le_mul_of_pos_right _ hbp
    simp only [maxLen]; omega
  obtain ⟨ji, j1, j2, j3⟩ := tj.inf
  obtain ⟨z, z1, z2, z3, z4, z5⟩ := tj.zero
  have hz : ji.zero = some z := by rw [j1] at z1; simpa using z1
  obtain ⟨d2, hd2, hd2'⟩ := isSrc_und tys hck.1.1
  have hexec : ∀ (a : Act), execOp a.eval o = (do let v ← Builtin.append_ #[t, t2] o.type #[a.eval s, a.eval x]; pure (.value v)) := by
    intro a
    simp [execOp, ho, resolve, invoke, builtin]
  have go : ∀ (mem : Mem), Sees μ mem → ∀ (a : Act) (N : Nat → Prop) (w0 w : World) (X : Nat → Prop) (ρ : Env), MRep T N w0 w X mem ρ → (∀ y ∈ o.op.operands, Den w (Forb X mem ρ) ρ (e y) (a.eval y)) →
      ∀ (old : Option Nat) (cs : List Value), RowAt w el j.shape (a.eval s) l.length cs old w.heap.size → cs.length = l.length * wid j.shape → (∀ (i : Nat) (h : i < l.length), Den w (Forb X mem ρ) noEnv l[i] (valAt j.shape cs i)) → (∀ b, old = some b → N b) →
      ∃ v' w' us, (execOp a.eval o).run P w = .ok (.value v') w' ∧ BelowW N w w' ∧ (∀ k, k < w.heap.size → old ≠ some k → w'.heap[k]? = w.heap[k]?) ∧ RowAt w' el j.shape v' (l.length + ys.length) (cs ++ us) old w.heap.size ∧
        us.length = ys.length * wid j.shape ∧ (∀ (i : Nat) (h : i < ys.length), Den w (Forb X mem ρ) noEnv ys[i] (valAt j.shape us i)) := by
    intro mem hμ a N w0 w X ρ m hd old cs hrow hcl hcd hold
    obtain ⟨us, u1, u2, u3, u4, u5⟩ := (src_den (P := P) hμ m hsrc (hd x (by simp [ho, Op.operands, Call.operands]))).h
    obtain ⟨v', w', hr, g1, g2, g3, g4, g5, g6⟩ := run_append_row w t t2 o.type el d2 ji z j.shape (ti.und_slice hk) hd2 hd2' j1 hz (by rw [j2, hw]) (by rw [z3, j2]) z4 hpos (a.eval s) l.length ys.length cs us old hrow (a.eval x) u2 u1 u4
      (fun w' hw' => by have := u5 w' ys.length hw' (Nat.le_refl _); rwa [List.take_of_length_le (by rw [u1]; exact Nat.le_refl _)] at this) (by rw [j3]; exact hlen') hmax
    refine ⟨v', w', us, by rw [hexec]; simp [hr], ⟨g1, g2, g3, g4, fun k hk hN => g5 k hk (fun e => hN (hold k e))⟩, g5, g6, u1, u3⟩
  have hB : ∀ (v' : Value) (w' : World) (cs us : List Value) (old : Option Nat) (sz : Nat), RowAt w' el j.shape v' (l.length + ys.length) (cs ++ us) old sz → ∀ b, vblock v' = some b → (sz ≤ b ∨ old = some b) ∧ b < w'.heap.size := by
    intro v' w' cs us old sz hrow b hb
    rcases hrow with ⟨a, rfl, _⟩ | ⟨b', off, cap, cur, rfl, k1, k2, _⟩
    · cases a <;> simp [vblock] at hb
    · simp only [vblock] at hb
      split at hb
      · cases hb
      · injection hb with hb; subst hb; exact ⟨k1, heap_lt k2⟩
  cases hs : e s with
  | nil =>
    rw [hs] at hbase
    simp only [baseOf] at hbase
    injection hbase with hbase
    injection hbase with hq hl
    subst hq; subst hl
    refine ⟨_, _, h, (fun q b hq => by simp at hq; exact .inl hq.1), .of_run fun mem hμ hcr a N w0 w X ρ m hd => ?_⟩
    obtain ⟨hno, hnr, _⟩ := hcr d rfl
    have hds := hd s (by simp [ho, Op.operands, Call.operands])
    rw [hs] at hds
    have hrow : RowAt w el j.shape (a.eval s) ([] : List SV).length [] none w.heap.size := by
      generalize a.eval s = v at hds
      cases hds
      exact .inl ⟨none, rfl, rfl, rfl⟩
    obtain ⟨v', w', us, hr, hbel, hkeep, hrow', u1, u3⟩ := go mem hμ a N w0 w X ρ m hd none [] hrow (by simp) (fun i h => by simp at h) (fun b h => by cases h)
    have hbel' : Below w.heap.size w w' := ⟨hbel.os, hbel.tape, hbel.output, hbel.size, fun k hk => hkeep k hk (by simp)⟩
    obtain ⟨m', t'⟩ := m.create (w' := w') hno hnr (B := .row j.shape el ([] ++ ys)) (v := v') (fun b hb => by
      obtain ⟨k1, k2⟩ := hB v' w' [] us none _ hrow' b hb
      exact ⟨k1.resolve_right (by simp), k2⟩) hbel' (fun tn => rowAt_rep (l := []) hrow' (fun b hb => m.szN b (hb.resolve_right (by simp))) (by simp) u1 hbel.size tn.keep (fun i h => by simp at h) u3 T _)
    refine ⟨_, v', w', _, hr, .inl rfl, m', ?_, t'⟩
    rcases hrow' with ⟨a', rfl, _⟩ | ⟨b', off, cap, cur, rfl, _⟩
    · exact .row _ d _ _ _ fun q hq => by simp only [upd, if_true] at hq; injection hq with hq; exact hq.symm
    · exact .row _ d _ _ _ fun q hq => by simp only [upd, if_true] at hq; injection hq with hq; exact hq.symm
  | row q0 =>
    rw [hs] at hbase
    simp only [baseOf] at hbase
    cases hm : μ q0 with
    | row s' e' l' =>
      rw [hm] at hbase
      simp only at hbase
      split at hbase
      case isFalse => cases hbase
      rename_i hse
      simp only [Bool.and_eq_true] at hse
      have hs1 := shEq_eq hse.1
      have hs2 : e' = el := Nat.eq_of_beq_eq_true hse.2
      injection hbase with hbase
      injection hbase with hq hl
      subst hq; subst hl; subst hs1; subst hs2
      refine ⟨_, _, h, (fun q b hq => by
        simp only [List.singleton_append, List.mem_cons, Prod.mk.injEq, List.not_mem_nil, or_false] at hq
        rcases hq with hq | hq
        · rw [hq.1]; exact .inr (by rw [hm]; rfl)
        · exact .inl hq.1), .of_run fun mem hμ hcr a N w0 w X ρ m hd => ?_⟩
      obtain ⟨hno, hnr, hnrefs⟩ := hcr d rfl
      have hqd : q0 ≠ d := by
        have := hnrefs s (by simp [ho, Op.operands, Call.operands])
        rw [hs] at this
        rintro rfl
        simp [noref] at this
      have hds := hd s (by simp [ho, Op.operands, Call.operands])
      rw [hs] at hds
      obtain ⟨v, hv, hg, hcase⟩ := hμ.rowAt m hm
      have hev : a.eval s = v := by
        generalize a.eval s = v' at hds
        cases hds with
        | row _ _ _ _ _ hr => exact (hr _ hv).symm
      have hrow : ∃ cs, RowAt w e' j.shape (a.eval s) l'.length cs (vblock v) w.heap.size ∧ cs.length = l'.length * wid j.shape ∧ (∀ (i : Nat) (h : i < l'.length), Den w (Forb X mem ρ) noEnv l'[i] (valAt j.shape cs i)) ∧ (∀ b, vblock v = some b → N b) := by
        rw [hev]
        rcases hcase with ⟨a0, rfl, rfl⟩ | ⟨b, off, cap, cur, rfl, k1, k2, k3, k4, k5, k6, k7, k8⟩
        · exact ⟨[], .inl ⟨a0, rfl, rfl, rfl⟩, by simp, (fun i h => by simp at h), fun b hb => by cases a0 <;> simp [vblock] at hb⟩
        · have hcl : cur.toList.length = cur.size := Array.length_toList
          have hle : l'.length * wid j.shape ≤ cap * wid j.shape := Nat.mul_le_mul_right _ k3
          have hvb : vblock (.slice (some ⟨b, off, none⟩) l'.length cap) = some b := by simp only [vblock]; rw [if_neg (by omega)]
          refine ⟨(cur.toList.drop off).take (l'.length * wid j.shape), .inr ⟨b, off, cap, cur, rfl, .inr hvb, k2, k3, k4, k5, k6, k7, rfl⟩, by rw [List.length_take, List.length_drop]; omega, fun i hi => ?_, fun b' hb' => ?_⟩
          · rw [valAt_take _ _ l'.length i hi (by rw [List.length_drop]; omega)]
            exact k8 i hi
          · rw [hvb] at hb'; injection hb' with hb'; rw [← hb']; exact k1
      obtain ⟨cs, hrow, hcl, hcd, hold⟩ := hrow
      obtain ⟨v', w', us, hr, hbel, hkeep, hrow', u1, u3⟩ := go mem hμ a N w0 w X ρ m hd (vblock v) cs hrow hcl hcd hold
      obtain ⟨m', t'⟩ := m.move (q := q0) (d := d) (w' := w') (by rw [hg]; rfl) hv hqd hno hnr (B := .row j.shape e' (l' ++ ys)) (v := v') hbel (fun b hb hne => hkeep b hb hne) (fun b hb => by
        obtain ⟨k1, k2⟩ := hB v' w' cs us _ _ hrow' b hb
        rcases k1 with k1 | k1
        · exact .inl ⟨k1, k2⟩
        · exact .inr k1) (fun tn => rowAt_rep hrow' (fun b hb => hb.elim (m.szN b) (hold b)) hcl u1 hbel.size tn.keep hcd u3 T _)
      refine ⟨_, v', w', _, hr, .inl rfl, m', ?_, t'⟩
      rcases hrow' with ⟨a', rfl, _⟩ | ⟨b', off, cap, cur, rfl, _⟩
      · exact .row _ d _ _ _ fun q hq => by simp only [if_true] at hq; injection hq with hq; exact hq.symm
      · exact .row _ d _ _ _ fun q hq => by simp only [if_true] at hq; injection hq with hq; exact hq.symm
    | _ => rw [hm] at hbase; cases hbase
  | rsl q0 s2 ra rn rc =>
    rw [hs] at hbase
    simp only [baseOf] at hbase
    cases hm : μ q0 with
    | row s' e' l' =>
      rw [hm] at hbase
      simp only at hbase
      split at hbase
      case isFalse => cases hbase
      rename_i hse
      simp only [Bool.and_eq_true] at hse
      have hs1 := shEq_eq hse.1.1
      have hs2 : e' = el := Nat.eq_of_beq_eq_true hse.1.2
      have hs3 := shEq_eq hse.2
      injection hbase with hbase
      injection hbase with hq hl
      subst hq; subst hl; subst hs1; subst hs2; subst hs3
      refine ⟨_, _, h, (fun q b hq => by
        simp only [List.singleton_append, List.mem_cons, Prod.mk.injEq, List.not_mem_nil, or_false] at hq
        rcases hq with hq | hq
        · rw [hq.1]; exact .inr (by rw [hm]; rfl)
        · exact .inl hq.1), .of_run fun mem hμ hcr a N w0 w X ρ m hd => ?_⟩
      obtain ⟨hno, hnr, hnrefs⟩ := hcr d rfl
      have hqd : q0 ≠ d := by
        have := hnrefs s (by simp [ho, Op.operands, Call.operands])
        rw [hs] at this
        rintro rfl
        simp [noref] at this
      have hds := hd s (by simp [ho, Op.operands, Call.operands])
      rw [hs] at hds
      obtain ⟨v, hv, hg, hcase⟩ := hμ.rowAt m hm
      have hrow : ∃ cs old, RowAt w e' j.shape (a.eval s) (O.sg l' ra rn).length cs old w.heap.size ∧ cs.length = (O.sg l' ra rn).length * wid j.shape ∧ (∀ (i : Nat) (h : i < (O.sg l' ra rn).length), Den w (Forb X mem ρ) noEnv (O.sg l' ra rn)[i] (valAt j.shape cs i)) ∧ (old = none ∨ old = vblock v) ∧ (∀ b, old = some b → N b) := by
        have hsg : ∀ L, O.sg l' ra rn = L → ∃ cs old, RowAt w e' j.shape (a.eval s) L.length cs old w.heap.size ∧ cs.length = L.length * wid j.shape ∧ (∀ (i : Nat) (h : i < L.length), Den w (Forb X mem ρ) noEnv L[i] (valAt j.shape cs i)) ∧ (old = none ∨ old = vblock v) ∧ (∀ b, old = some b → N b) := by
          intro L hL
          rw [O.hsg] at hL
          subst hL
          generalize hva : a.eval s = va at hds
          cases hds with
          | rsl _ _ _ _ _ _ x cc hcc hr =>
            obtain ⟨x0, len, cap0, e1, e2, e3, _, _, e6⟩ := hr _ hv
            rcases hcase with ⟨a0, rfl, rfl⟩ | ⟨b, off, cap, cur, rfl, k1, k2, k3, k4, k5, k6, k7, k8⟩
            · injection e1 with _ e4 e5
              subst e4; subst e5
              obtain rfl : cc = 0 := by omega
              obtain rfl : rn = 0 := by omega
              exact ⟨[], none, .inl ⟨x, by simp, by simp, by simp⟩, by simp, (fun i h => by simp at h), .inl rfl, fun b hb => by cases hb⟩
            · injection e1 with e1 e4 e5
              subst e4; subst e5
              have hll : ((l'.drop ra).take rn).length = rn := by rw [List.length_take, List.length_drop]; omega
              by_cases hc0 : cc = 0
              · subst hc0
                obtain rfl : rn = 0 := by omega
                exact ⟨[], none, .inl ⟨x, by simp, by simp, by simp⟩, by simp, (fun i h => by simp at h), .inl rfl, fun b hb => by cases hb⟩
              · rcases e6 with e6 | ⟨b', off', e6, rfl⟩
                · exact absurd e6 hc0
                · rw [← e1] at e6
                  simp only [Option.some.injEq, Addr.mk.injEq, and_true] at e6
                  obtain ⟨rfl, rfl⟩ := e6
                  have hcl : cur.toList.length = cur.size := Array.length_toList
                  have hm1 : (ra + cc) * wid j.shape ≤ cap * wid j.shape := Nat.mul_le_mul_right _ e3
                  have hm2 : (ra + cc) * wid j.shape = ra * wid j.shape + cc * wid j.shape := Nat.add_mul _ _ _
                  have hm3 : rn * wid j.shape ≤ cc * wid j.shape := Nat.mul_le_mul_right _ hcc
                  have hvb : vblock (.slice (some ⟨b, off, none⟩) l'.length cap) = some b := by simp only [vblock]; rw [if_neg (by omega)]
                  refine ⟨(cur.toList.drop (off + ra * wid j.shape)).take (rn * wid j.shape), some b, .inr ⟨b, off + ra * wid j.shape, cc, cur, by rw [hll], .inr rfl, k2, by rw [hll]; exact hcc, by omega, by omega, by omega, k7, by rw [hll]⟩, by rw [List.length_take, List.length_drop, hll]; omega, fun i hi => ?_, .inr hvb.symm, fun b' hb' => by injection hb' with hb'; rw [← hb']; exact k1⟩
                  rw [hll] at hi
                  have hi1 : i * wid j.shape + wid j.shape ≤ rn * wid j.shape := by rw [← Nat.succ_mul]; exact Nat.mul_le_mul_right _ hi
                  rw [valAt_take _ _ rn i hi (by rw [List.length_drop]; omega), ← List.drop_drop, valAt_dropN]
                  have := k8 (ra + i) (by omega)
                  simpa using this
        exact hsg _ rfl
      obtain ⟨cs, old, hrow, hcl, hcd, hov, hold⟩ := hrow
      obtain ⟨v', w', us, hr, hbel, hkeep, hrow', u1, u3⟩ := go mem hμ a N w0 w X ρ m hd old cs hrow hcl hcd hold
      have hon : ∀ b, old = some b → vblock v = some b := fun b hb => by
        rcases hov with g | g
        · rw [g] at hb; cases hb
        · rw [← g]; exact hb
      obtain ⟨m', t'⟩ := m.move (q := q0) (d := d) (w' := w') (by rw [hg]; rfl) hv hqd hno hnr (B := .row j.shape e' (O.sg l' ra rn ++ ys)) (v := v') hbel (fun b hb hne => hkeep b hb (fun e => hne (hon b e))) (fun b hb => by
        obtain ⟨k1, k2⟩ := hB v' w' cs us _ _ hrow' b hb
        rcases k1 with k1 | k1
        · exact .inl ⟨k1, k2⟩
        · exact .inr (hon b k1)) (fun tn => rowAt_rep hrow' (fun b hb => hb.elim (m.szN b) (hold b)) hcl u1 hbel.size tn.keep hcd u3 T _)
      refine ⟨_, v', w', _, hr, .inl rfl, m', ?_, t'⟩
      rcases hrow' with ⟨a', rfl, _⟩ | ⟨b', off, cap, cur, rfl, _⟩
      · exact .row _ d _ _ _ fun q hq => by simp only [if_true] at hq; injection hq with hq; exact hq.symm
      · exact .row _ d _ _ _ fun q hq => by simp only [if_true] at hq; injection hq with hq; exact hq.symm
    | _ => rw [hm] at hbase; cases hbase
  | _ => rw [hs] at hbase; simp [baseOf] at hbase

theorem copy_core (tys : Types P T) (sz : Sizes T) {o : Oper} {t t2 : TypeId} {s x : Operand} (ho : o.op = .call ⟨.builtin .copy, #[s, x], #[t, t2]⟩) {e : Operand → SV} {μ : Nat → Blk} {i j : TI} {el : Nat} (ht : T t = some i) (hk : i.kind = .slice el) (hj : T el = some j) (hpos : j.size ≠ 0)
    {ys : List SV} (hsrc : srcOf μ j.shape (e x) = some ys) {q a n el' : Nat} {l : List SV} (hm : μ q = .row j.shape el' l) (han : a + n ≤ l.length)
    (hdst : ∀ (w : World) (X : Nat → Prop) (ρ : Env) (v v0 : Value), Den w X ρ (e s) v → ρ q = some v0 → ((∃ a, v0 = .slice a 0 0 ∧ l = []) ∨ ∃ b off c, v0 = .slice (some ⟨b, off, none⟩) l.length c) → ∃ ad c, v = .slice ad n c ∧ (n = 0 ∨ ∃ b off L c', v0 = .slice (some ⟨b, off, none⟩) L c' ∧ ad = some ⟨b, off + a * wid j.shape, none⟩)) :
    Eff P T o e μ (.int .i64 (min (ys.length : Int) (n : Int))) [(q, .row j.shape el' (l.take a ++ ys.take n ++ l.drop (a + min ys.length n)))] none := by
  have ti := tys.ok t i ht
  have tj := tys.ok el j hj
  have hw := TI.wid_size (sz.one _ _ hj)
  obtain ⟨ji, j1, j2, j3⟩ := tj.inf
  refine .of_run fun mem hμ _ ac N w0 w X ρ m hd => ?_
  obtain ⟨us, u1, u2, u3, u4, u5⟩ := (src_den (P := P) hμ m hsrc (hd x (by simp [ho, Op.operands, Call.operands]))).h
  obtain ⟨v, hv, hg, hcase⟩ := hμ.rowAt m hm
  obtain ⟨ad, c, hev, hdst⟩ := hdst w _ ρ _ v (hd s (by simp [ho, Op.operands, Call.operands])) hv (by
    rcases hcase with ⟨a0, rfl, rfl⟩ | ⟨b, off, cap, cur, rfl, _⟩
    · exact .inl ⟨a0, rfl, rfl⟩
    · exact .inr ⟨_, _, _, rfl⟩)
  have hexec : execOp ac.eval o = (do let v ← Builtin.copy_ #[t, t2] o.type #[ac.eval s, ac.eval x]; pure (.value v)) := by
    simp [execOp, ho, resolve, invoke, builtin]
  have hk0 : ∀ (k : Nat), min ys.length n = 0 → l.take a ++ ys.take n ++ l.drop (a + min ys.length n) = l := by
    intro _ h0
    rw [h0]
    have : ys.take n = [] := by
      apply List.eq_nil_of_length_eq_zero
      rw [List.length_take]
      omega
    rw [this, List.append_nil, Nat.add_zero, List.take_append_drop]
  have hwp : 0 < wid j.shape := by omega
  have hkint : ((min ys.length n : Nat) : Int) = min (ys.length : Int) (n : Int) := by omega
  by_cases h0 : n = 0
  · have hmin : min ys.length n = 0 := by omega
    have hr := run_copy_no (P := P) w t t2 o.type el ji (wid j.shape) (ti.und_slice hk) j1 (by rw [j2, hw]) ad c (ac.eval x) ys.length u4 (by have := u5 w 0 rfl (Nat.zero_le _); simpa using this)
    have hs : ∀ q', getM (setM (.row j.shape el' (l.take a ++ ys.take n ++ l.drop (a + min ys.length n))) mem q) q' = getM mem q' := by
      intro q'
      rw [getM_setM]
      split
      · rename_i hq; rw [hq, hg, hk0 0 hmin]
      · rfl
    refine ⟨_, .int .i64 0, w, ρ, ?_, .inl rfl, m.congr hs, ?_, ?_⟩
    · rw [hexec, hev, h0]
      simp [hr, goInt]
    · rw [← hkint, hmin]; exact .int _ _ _
    · show Turn w _ ρ w (Forb X (setM _ mem q) ρ) ρ none
      rw [forb_congr hs]
      exact Turn.refl _ _ _ _
  · obtain ⟨b, off, L, c', hv0, rfl⟩ := hdst.resolve_left h0
    subst hv0
    rcases hcase with ⟨a0, hc1, rfl⟩ | ⟨b', off', cap, cur, hc1, k1, k2, k3, k4, k5, k6, k7, k8⟩
    · simp at han; omega
    · injection hc1 with hc1 hc2 hc3
      simp only [Option.some.injEq, Addr.mk.injEq, and_true] at hc1
      obtain ⟨rfl, rfl⟩ := hc1
      subst hc2; subst hc3
      have hcl : cur.toList.length = cur.size := Array.length_toList
      have hle : l.length * wid j.shape ≤ c' * wid j.shape := Nat.mul_le_mul_right _ k3
      have hle2 : (a + n) * wid j.shape ≤ l.length * wid j.shape := Nat.mul_le_mul_right _ han
      have hle3 : (a + min ys.length n) * wid j.shape ≤ (a + n) * wid j.shape := Nat.mul_le_mul_right _ (by omega)
      have hle4 : min ys.length n * wid j.shape ≤ ys.length * wid j.shape := Nat.mul_le_mul_right _ (by omega)
      have hadd : (a + min ys.length n) * wid j.shape = a * wid j.shape + min ys.length n * wid j.shape := Nat.add_mul _ _ _
      have hnl : (us.take (min ys.length n * wid j.shape)).length = min ys.length n * wid j.shape := by rw [List.length_take]; omega
      have hfit : off + a * wid j.shape + (us.take (min ys.length n * wid j.shape)).length ≤ cur.toList.length := by omega
      have hr := run_copy_into (P := P) w t t2 o.type el ji (wid j.shape) (ti.und_slice hk) j1 (by rw [j2, hw]) b (off + a * wid j.shape) n c cur el' k2 (ac.eval x) ys.length (us.take (min ys.length n * wid j.shape))
        (fun u hu => u2 u (List.mem_of_mem_take hu)) u4 (u5 w (Nat.min ys.length n) rfl (Nat.min_le_left _ _)) (by omega)
      have hll : (l.take a ++ ys.take n ++ l.drop (a + min ys.length n)).length = l.length := by
        simp only [List.length_append, List.length_take, List.length_drop]
        omega
      obtain ⟨m', t'⟩ := row_write (l' := l.take a ++ ys.take n ++ l.drop (a + min ys.length n)) m hg hll hv k1 k2 k3 k4 k5 k6 k7 (off + a * wid j.shape) (us.take (min ys.length n * wid j.shape)) (by omega) (fun u hu => u2 u (List.mem_of_mem_take hu)) (fun k hk => by
        have hk' : k < l.length := by omega
        have hkl : k * wid j.shape + wid j.shape ≤ l.length * wid j.shape := by rw [← Nat.succ_mul]; exact Nat.mul_le_mul_right _ hk'
        have hlen : ((cur.toList.take (off + a * wid j.shape) ++ us.take (min ys.length n * wid j.shape) ++ cur.toList.drop (off + a * wid j.shape + (us.take (min ys.length n * wid j.shape)).length)).drop off).length = cur.size - off := by
          rw [List.length_drop, splice_len hfit, hcl]
        have hgetl : (l.take a ++ ys.take n ++ l.drop (a + min ys.length n))[k]? = if a ≤ k ∧ k < a + min ys.length n then ys[k - a]? else l[k]? := by
          by_cases c1 : k < a
          · rw [if_neg (by omega), List.append_assoc, List.getElem?_append_left (by rw [List.length_take]; omega), List.getElem?_take, if_pos c1]
          · by_cases c2 : k < a + min ys.length n
            · rw [if_pos (by omega), List.append_assoc, List.getElem?_append_right (by rw [List.length_take]; omega), List.getElem?_append_left (by rw [List.length_take, List.length_take]; omega), List.getElem?_take, if_pos (by rw [List.length_take]; omega)]
              congr 1
              rw [List.length_take]
              omega
            · rw [if_neg (by omega), List.getElem?_append_right (by rw [List.length_append, List.length_take, List.length_take]; omega), List.getElem?_drop]
              congr 1
              rw [List.length_append, List.length_take, List.length_take]
              omega
        rw [List.getElem?_eq_getElem hk] at hgetl
        split at hgetl
        · rename_i hin
          have hky : k - a < ys.length := by omega
          rw [List.getElem?_eq_getElem hky] at hgetl
          injection hgetl with hgetl
          rw [hgetl]
          have e1 : (k - a) * wid j.shape + wid j.shape ≤ min ys.length n * wid j.shape := by rw [← Nat.succ_mul]; exact Nat.mul_le_mul_right _ (by omega)
          have e2 : k * wid j.shape = a * wid j.shape + (k - a) * wid j.shape := by rw [← Nat.add_mul]; congr 1; omega
          have : valAt j.shape ((cur.toList.take (off + a * wid j.shape) ++ us.take (min ys.length n * wid j.shape) ++ cur.toList.drop (off + a * wid j.shape + (us.take (min ys.length n * wid j.shape)).length)).drop off) k = valAt j.shape us (k - a) := by
            rw [valAt_seg _ _ k (by omega), valAt_seg j.shape us (k - a) (by omega)]
            congr 1
            apply List.ext_getElem?
            intro p
            rw [List.getElem?_take, List.getElem?_take]
            split
            · rw [List.getElem?_drop, List.getElem?_drop, List.getElem?_drop, splice_get hfit, if_pos (by omega), List.getElem?_take, if_pos (by omega)]
              congr 1
              omega
            · rfl
          rw [this]
          exact u3 _ hky
        · rename_i hin
          rw [List.getElem?_eq_getElem hk'] at hgetl
          injection hgetl with hgetl
          rw [hgetl]
          have e1 : k < a → k * wid j.shape + wid j.shape ≤ a * wid j.shape := fun h => by rw [← Nat.succ_mul]; exact Nat.mul_le_mul_right _ h
          have e2 : ¬ k < a → (a + min ys.length n) * wid j.shape ≤ k * wid j.shape := fun h => Nat.mul_le_mul_right _ (by omega)
          rw [valAt_ext (vs := cur.toList.drop off) (by omega) (by rw [List.length_drop]; omega) (fun p h1 h2 => by
            rw [List.getElem?_drop, List.getElem?_drop, splice_get hfit, if_neg]
            by_cases c1 : k < a
            · have := e1 c1; omega
            · have := e2 c1; omega)]
          exact k8 k hk')
      refine ⟨_, .int .i64 (min (ys.length : Int) (n : Int)), _, ρ, ?_, .inl rfl, m', .int _ _ _, t'⟩
      rw [hexec, hev]
      simp only [Sem.run_bind, hr, Result.andThen_ok, Sem.run_pure, goInt]
      rw [← hkint]

theorem store_ok (tys : Types P T) (sz : Sizes T) {o : Oper} {t : Nat} {x vo : Operand} (ho : o.op = .store t x vo) {d : Option Nat} {e : Operand → SV} {μ : Nat → Blk} {κ : SV → List (Nat × Blk) → Prop} (h : wval T d (.store t x vo) e μ κ) :
    ∃ y U, κ y U ∧ (∀ q b, (q, b) ∈ U → (μ q).own = true) ∧ Eff P T o e μ y U none := by
  simp only [wval, O.hln, apL_eq, O.st_eq, O.hcp] at h
  split at h <;> try exact h.elim
  rename_i i ht
  split at h <;> try exact h.elim
  · rename_i r off hx
    split at h <;> try exact h.elim
    rename_i t' y hm
    obtain ⟨B, h1, h2⟩ := store_chunk_ok (P := P) tys sz ho ht hx hm h
    exact ⟨_, _, h1, (fun q b hq => by simp at hq; rw [hq.1, hm]; rfl), h2⟩
  · rename_i r sh j off hx
    split at h <;> try exact h.elim
    rename_i s el l hm
    split at h <;> try exact h.elim
    rename_i hc
    simp only [Bool.and_eq_true] at hc
    have hs := shEq_eq hc.1
    split at h <;> try exact h.elim
    rename_i y hy
    have hown : ∀ l' q b, (q, b) ∈ frzU μ (rids (e vo)) ++ [(r, Blk.row s el l')] → (μ q).own = true := by
      intro l' q b hq
      rcases List.mem_append.1 hq with hq | hq
      · obtain ⟨_, sh, e', k, g, _⟩ := frzU_mem hq
        rw [g]; rfl
      · simp at hq; rw [hq.1, hm]; rfl
    split at h
    · rename_i hc2
      simp only [Bool.and_eq_true] at hc2
      have h0 : off = 0 := Nat.eq_of_beq_eq_true hc2.1.1
      subst h0
      obtain ⟨hj, h⟩ := h
      exact ⟨_, _, h, hown _, store_row_ok tys ho ht hx hm hs hc.2 hy (setL_length _ _ _) (fun w Y us v hd hus _ hl => elem_write sz ht (shEq_eq hc2.1.2) hc2.2 hj w Y us v hd hus hl)⟩
    · split at h <;> try exact h.elim
      rename_i ys hys
      split at h <;> try exact h.elim
      rename_i hlen
      have hlen := Nat.eq_of_beq_eq_true hlen
      obtain ⟨c, ⟨hc3, hc4⟩, h⟩ := h.h
      exact ⟨_, _, h, hown _, store_row_ok tys ho ht hx hm hs hc.2 hy (setL_length _ _ _) (fun w Y us v hd hus hone hl => part_write hys hlen hc3 hc4 w Y us v hd hus hl hone)⟩

theorem copy_ok (tys : Types P T) (sz : Sizes T) {o : Oper} {cl : Call} (hc : cl.callee = .builtin .copy) (ho : o.op = .call cl) {d : Option Nat} {e : Operand → SV} {μ : Nat → Blk} {κ : SV → List (Nat × Blk) → Prop} (h : wval T d (.call cl) e μ κ) :
    ∃ y U, κ y U ∧ (∀ q b, (q, b) ∈ U → (μ q).own = true) ∧ Eff P T o e μ y U none := by
  obtain ⟨cal, args, ats⟩ := cl
  simp only at hc
  subst hc
  simp only [wval, O.hln, apL_eq, O.st_eq, O.hcp] at h
  split at h <;> try exact h.elim
  case h_1 => cases ‹Callee.builtin Builtin.copy = Callee.builtin Builtin.append›
  rename_i t t2 s x _ hat har
  obtain rfl : args = #[s, x] := by apply Array.ext'; simpa using har
  obtain rfl : ats = #[t, t2] := by apply Array.ext'; simpa using hat
  split at h <;> try exact h.elim
  rename_i i ht
  split at h <;> try exact h.elim
  rename_i el hk
  split at h <;> try exact h.elim
  rename_i j hj
  split at h <;> try exact h.elim
  rename_i hck
  simp only [Bool.and_eq_true, Bool.not_eq_true'] at hck
  have hpos : j.size ≠ 0 := by intro h0; rw [h0] at hck; simp at hck
  split at h <;> try exact h.elim
  · rename_i ys q hsrc hs
    split at h <;> try exact h.elim
    rename_i s' el' l hm
    split at h <;> try exact h.elim
    rename_i hsh
    have hsh := shEq_eq hsh
    subst hsh
    refine ⟨_, _, h.h.2 _ rfl, (fun q' b hq => by simp at hq; rw [hq.1, hm]; rfl), ?_⟩
    have := copy_core (P := P) tys sz ho ht hk hj hpos hsrc (a := 0) (n := l.length) hm (by omega) (fun w X ρ v v0 hd hv hsl => by
      rw [hs] at hd
      cases hd with
      | row _ _ a' n' c' hr =>
        have := hr _ hv
        rcases hsl with ⟨a0, rfl, rfl⟩ | ⟨b, off, c, rfl⟩
        · injection this with e1 e2 e3
          subst e1; subst e2; subst e3
          exact ⟨_, _, rfl, .inl rfl⟩
        · injection this with e1 e2 e3
          subst e1; subst e2; subst e3
          exact ⟨_, _, rfl, .inr ⟨b, off, _, _, rfl, by simp⟩⟩)
    exact this
  · rename_i ys q s' a n c hsrc hs
    split at h <;> try exact h.elim
    rename_i s'' el' l hm
    split at h <;> try exact h.elim
    rename_i hsh
    simp only [Bool.and_eq_true] at hsh
    have hs1 := shEq_eq hsh.1
    have hs2 := shEq_eq hsh.2
    subst hs1; subst hs2
    obtain ⟨han, h⟩ := h
    refine ⟨_, _, h.h.2 _ rfl, (fun q' b hq => by simp at hq; rw [hq.1, hm]; rfl), ?_⟩
    exact copy_core (P := P) tys sz ho ht hk hj hpos hsrc hm han (fun w X ρ v v0 hd hv _ => by
      rw [hs] at hd
      cases hd with
      | rsl _ _ _ _ _ _ x cc hcc hr =>
        obtain ⟨x0, len, cap, rfl, e2, e3, _, _, e6⟩ := hr _ hv
        refine ⟨_, _, rfl, ?_⟩
        rcases e6 with e6 | ⟨b, off, rfl, rfl⟩
        · exact .inl (by omega)
        · exact .inr ⟨b, off, _, _, rfl, rfl⟩)
end Go.Proofs.Ytapcbkcnokoljaa
namespace Go.Proofs.Ytapcbkcnokoljaa
set_option linter.unusedVariables false
set_option linter.unusedSimpArgs false
open Go.RowKit
variable {P : Program} {T : Nat → Option TI}

structure Chz (a b : Unit → Prop) : Prop where
  h : a () ∨ b ()
theorem chA {a b : Unit → Prop} (h : a ()) : Chz a b := ⟨.inl h⟩
theorem chB {a b : Unit → Prop} (h : b ()) : Chz a b := ⟨.inr h⟩

def isRowx : Blk → Bool
  | .rowx _ _ _ _ => true
  | _ => false
def isRow1 : Blk → Bool
  | .row none _ _ => true
  | _ => false
def isRow : Blk → Bool
  | .row _ _ _ => true
  | _ => false
def isX (op : Op) (e : Operand → SV) (μ : Nat → Blk) : Bool :=
  match op with
  | .load _ x => (match e x with | .rptr r _ _ _ => isRowx (μ r) | _ => false)
  | .indexAddr _ x _ => (match e x with | .row r => isRowx (μ r) | _ => false)
  | _ => false
def xval (T : Nat → Option TI) (op : Op) (e : Operand → SV) (μ : Nat → Blk) (κ : SV → Prop) : Prop :=
  match op with
  | .load t x => (match T t with
    | some i => (match e x with
      | .rptr r sh j o => (match μ r with
        | .rowx _ _ i0 y => if shEq none sh && Nat.beq o 0 && shEq none i.shape then Rq (fun _ => j = i0) (fun _ => κ y) else False
        | _ => False)
      | _ => False)
    | none => False)
  | .indexAddr t x ix => (match T t with
    | some i => (match i.kind with
      | .slice el => (match T el, e x, e ix with
        | some j, .row r, .int _ n => (match μ r with
          | .rowx _ l _ _ => if shEq none j.shape then QV (fun (q : Nat) => n = (q : Int) ∧ q < O.ln l) (fun q => κ (.rptr r none q 0)) else False
          | _ => False)
        | _, _, _ => False)
      | _ => False)
    | none => False)
  | _ => False
def rvalX (T : Nat → Option TI) (op : Op) (e : Operand → SV) (μ : Nat → Blk) (κ : SV → Prop) : Prop := if isX op e μ then xval T op e μ κ else rval T op e μ κ

theorem Sees.rowxAt {μ : Nat → Blk} {mem : Mem} (hμ : Sees μ mem) {N : Nat → Prop} {w0 w : World} {X : Nat → Prop} {ρ : Env} (m : MRep T N w0 w X mem ρ) {r e i : Nat} {l : List SV} {x : SV} (h : μ r = .rowx e l i x) :
    getM mem r = .rowx e l i x ∧ BlkRep T N w (Forb X mem ρ) ρ (.rowx e l i x) (ρ r) := by
  have hg := hμ.row h (by simp)
  have hb := m.blk r
  rw [hg] at hb
  exact ⟨hg, hb⟩

theorem xval_ok (tys : Types P T) (sz : Sizes T) {o : Oper} {e : Operand → SV} {μ : Nat → Blk} {κ : SV → Prop} (h : xval T o.op e μ κ) : ∃ v, κ v ∧ RdOk P T o e μ v := by
  generalize ho : o.op = op at h
  cases op
  case load t x =>
    simp only [xval] at h
    split at h <;> try exact h.elim
    rename_i i ht
    split at h <;> try exact h.elim
    rename_i r sh j off hx
    split at h <;> try exact h.elim
    rename_i el l i0 y hm
    split at h <;> try exact h.elim
    rename_i hc
    simp only [Bool.and_eq_true] at hc
    have hs := shEq_eq hc.1.1
    have h0 : off = 0 := Nat.eq_of_beq_eq_true hc.1.2
    have hi := shEq_eq hc.2
    subst hs; subst h0
    obtain ⟨hj, h⟩ := h
    subst hj
    have tok := tys.ok t i ht
    refine ⟨_, h, ⟨fun mem hμ a N w0 w X ρ m hd => ?_⟩⟩
    obtain ⟨hg, b, off, cap, cur, e1, hN, hh, h5, h6, h7, h0, h9, hil, h8, hy⟩ := hμ.rowxAt m hm
    have hdx := hd x (by simp [ho, Op.operands])
    rw [hx] at hdx
    have hcl : cur.toList.length = cur.size := Array.length_toList
    have h1 : i.size = 1 := by rw [TI.wid_size (sz.one t i ht), ← hi]; rfl
    generalize hq : a.eval x = q at hdx
    cases hdx with
    | rptr _ _ _ _ _ b' o' hb' =>
      obtain ⟨len, cap', e2⟩ := hb' _ e1
      simp only [Value.slice.injEq, Option.some.injEq, Addr.mk.injEq, and_true] at e2
      obtain ⟨⟨rfl, rfl⟩, _, _⟩ := e2
      have hv : valAt none (cur.toList.drop off) j = (cur.toList[off + j]?).getD undef := by simp [valAt]
      refine ⟨_, ?_, hy⟩
      have := run_load_at (P := P) tok (sz.one t i ht) w b (off + j) [(cur.toList[off + j]?).getD undef] (by rw [h1]; simp) (fun k u hu => by
        match k, hu with
        | 0, hu =>
          simp at hu
          rw [cell_of_row w b (off + j + 0) cur el (0, 0) hh]
          have hlt : off + j < cur.size := by omega
          simp [hlt] at hu ⊢
          exact hu)
      rw [← hi] at this
      simp only [execOp, ho, Sem.run_bind, hq]
      simp only [wid, Nat.mul_one, Nat.add_zero]
      rw [this]
      rw [hv]
      simp [valAt]
  case indexAddr t x ix =>
    simp only [xval] at h
    split at h <;> try exact h.elim
    rename_i i ht
    split at h <;> try exact h.elim
    rename_i el hk
    split at h <;> try exact h.elim
    rename_i j r k n hel hx hix
    split at h <;> try exact h.elim
    rename_i e' l i0 y hm
    split at h <;> try exact h.elim
    rename_i hc
    have hj := shEq_eq hc
    obtain ⟨q, ⟨hn, hq⟩, h⟩ := h.h
    rw [O.hln] at hq
    refine ⟨_, h, ⟨fun mem hμ a N w0 w X ρ m hd => ?_⟩⟩
    obtain ⟨hg, b, off, cap, cur, e1, hN, hh, h5, h6, h7, h0, h9, hil, h8, hy⟩ := hμ.rowxAt m hm
    have hdx := hd x (by simp [ho, Op.operands])
    have hdi := hd ix (by simp [ho, Op.operands])
    rw [hx] at hdx
    rw [hix, Den.int_iff] at hdi
    have h1 : j.size = 1 := by rw [TI.wid_size (sz.one el j hel), ← hj]; rfl
    generalize hqx : a.eval x = v at hdx
    cases hdx with
    | row _ _ a' n' c' hrow =>
      have e2 := hrow _ e1
      simp only [Value.slice.injEq] at e2
      obtain ⟨rfl, rfl, rfl⟩ := e2
      have hr := run_index_slice tys ht hk hel k b off l.length cap q hq w
      refine ⟨.pointer (some ⟨b, off + q * j.size, none⟩), ?_, ?_⟩
      · simp only [execOp, ho, Sem.run_bind, hqx, hdi, hn, hr, Result.andThen_ok, Sem.run_pure]
      · have := Den.rptr (w := w) (X := Forb X mem ρ) ρ r none q 0 b off (fun v hv => by rw [e1] at hv; injection hv with hv; subst hv; exact ⟨_, _, rfl⟩)
        rw [h1]
        simpa [wid] using this
  all_goals exact h.elim

theorem rvalX_ok (tys : Types P T) (sz : Sizes T) {o : Oper} {e : Operand → SV} {μ : Nat → Blk} {κ : SV → Prop} (h : rvalX T o.op e μ κ) : ∃ v, κ v ∧ RdOk P T o e μ v := by
  unfold rvalX at h
  split at h
  · exact xval_ok tys sz h
  · exact rval_ok tys sz h

def canX (op : Op) (e : Operand → SV) (μ : Nat → Blk) : Bool :=
  match op with
  | .store _ x v => (match e x, e v with
    | .rptr r none _ 0, .row q => isRow1 (μ r) && isRow (μ q) && !(Nat.beq r q)
    | _, _ => false)
  | _ => false
def xst (T : Nat → Option TI) (op : Op) (e : Operand → SV) (μ : Nat → Blk) (κ : SV → List (Nat × Blk) → Prop) : Prop :=
  match op with
  | .store t x v => (match T t with
    | some i => (match e x, e v with
      | .rptr r none j 0, .row q => (match μ r with
        | .row none el l => if shEq none i.shape && isRow (μ q) && !(Nat.beq r q) then Rq (fun _ => j < O.ln l) (fun _ => κ .any [(r, .rowx el l j (.row q))]) else False
        | _ => False)
      | _, _ => False)
    | none => False)
  | _ => False
def wvalX (T : Nat → Option TI) (d : Option Nat) (op : Op) (e : Operand → SV) (μ : Nat → Blk) (κ : SV → List (Nat × Blk) → Prop) : Prop :=
  if canX op e μ then Chz (fun _ => wval T d op e μ κ) (fun _ => xst T op e μ κ) else wval T d op e μ κ

theorem xst_ok (tys : Types P T) (sz : Sizes T) {o : Oper} {t : Nat} {x vo : Operand} (ho : o.op = .store t x vo) {e : Operand → SV} {μ : Nat → Blk} {κ : SV → List (Nat × Blk) → Prop} (h : xst T (.store t x vo) e μ κ) :
    ∃ y U, κ y U ∧ (∀ q b, (q, b) ∈ U → (μ q).own = true) ∧ Eff P T o e μ y U none := by
  simp only [xst] at h
  split at h <;> try exact h.elim
  rename_i i ht
  split at h <;> try exact h.elim
  rename_i r j q hx hv
  split at h <;> try exact h.elim
  rename_i el l hm
  split at h <;> try exact h.elim
  rename_i hc
  simp only [Bool.and_eq_true, Bool.not_eq_true'] at hc
  have hi := shEq_eq hc.1.1
  have hrq : r ≠ q := by intro e; have := hc.2; simp [e] at this
  obtain ⟨hj, h⟩ := h
  rw [O.hln] at hj
  refine ⟨_, _, h, fun q' b hq => by simp at hq; rw [hq.1, hm]; rfl, ?_⟩
  have tok := tys.ok t i ht
  have h1 : i.size = 1 := by rw [TI.wid_size (sz.one t i ht), ← hi]; rfl
  refine .of_run fun mem hμ _ a N w0 w X ρ m hd => ?_
  obtain ⟨v, hv0, hg, hcase⟩ := hμ.rowAt m hm
  have hdv := hd vo (by simp [ho, Op.operands])
  have hdx := hd x (by simp [ho, Op.operands])
  rw [hx] at hdx
  rw [hv] at hdv
  rcases hcase with ⟨a0, rfl, rfl⟩ | ⟨b, o1, cap, cur, rfl, hN, hh, h5, h6, h7, h0, h9, h8⟩
  · simp at hj
  have hcl : cur.toList.length = cur.size := Array.length_toList
  simp only [wid, Nat.mul_one] at h7
  have hev : a.eval x = .pointer (some ⟨b, o1 + j, none⟩) := by
    generalize hq : a.eval x = q at hdx
    cases hdx with
    | rptr _ _ _ _ _ b' o' hb' =>
      obtain ⟨len, cap', e2⟩ := hb' _ hv0
      simp only [Value.slice.injEq, Option.some.injEq, Addr.mk.injEq, and_true] at e2
      obtain ⟨⟨rfl, rfl⟩, _, _⟩ := e2
      simp [wid]
  obtain ⟨ad, n', c', hsl⟩ : ∃ ad n c, a.eval vo = .slice ad n c := by
    generalize a.eval vo = z at hdv
    cases hdv with
    | row _ _ a' n' c' _ => exact ⟨_, _, _, rfl⟩
  have hcell : (a.eval vo).cells = #[a.eval vo] := by rw [hsl]; rfl
  have c1 : (a.eval vo).cells.size = i.size := by rw [hcell, h1]; rfl
  have c2 : ∀ u ∈ (a.eval vo).cells.toList, u.oneCell' = true := by intro u hu; rw [hcell] at hu; simp at hu; subst hu; rw [hsl]; rfl
  have hs := run_store_at tok w b (o1 + j) cur el hh (a.eval vo) c1 c2 (by omega)
  rw [hcell] at hs
  have hone : (#[a.eval vo] : Array Value).toList = [a.eval vo] := rfl
  rw [hone] at hs
  have hfit : o1 + j + [a.eval vo].length ≤ cur.toList.length := by simp; omega
  generalize hnl : cur.toList.take (o1 + j) ++ [a.eval vo] ++ cur.toList.drop (o1 + j + [a.eval vo].length) = nl at hs
  have hget : ∀ k, nl[k]? = if k = o1 + j then some (a.eval vo) else cur.toList[k]? := by
    intro k
    rw [← hnl, splice_get hfit]
    by_cases hk : k = o1 + j
    · subst hk
      rw [if_pos (by simp), if_pos rfl]; simp
    · rw [if_neg (by simp; omega), if_neg hk]
  have hlen : nl.length = cur.size := by rw [← hnl, splice_len hfit, hcl]
  obtain ⟨m', t'⟩ := m.update (w' := w.setRow b nl.toArray) (B := .rowx el l j (.row q)) hv0 (by rw [hg]; rfl) (b := b) (by simp only [vblock]; rw [if_neg (by omega)]) ⟨rfl, rfl, rfl, by simp [World.setRow], fun k hk => setRow_other w b k _ (by omega)⟩ (fun k hk => setRow_other w b k _ hk) (fun tn => by
    refine ⟨b, o1, cap, nl.toArray, rfl, hN, setRow_heap w b cur _ el (0, 0) hh, h5, h6, by simp [hlen]; omega, h0, fun u hu => ?_, hj, fun k hk hkj => ?_, ?_⟩
    · have hu' : u ∈ nl := by simpa using hu
      rw [← hnl] at hu'
      simp only [List.mem_append] at hu'
      rcases hu' with (hu | hu) | hu
      · exact h9 u (List.mem_of_mem_take hu)
      · exact c2 u (by rw [hcell]; simpa using hu)
      · exact h9 u (List.mem_of_mem_drop hu)
    · have : valAt none (nl.toArray.toList.drop o1) k = valAt none (cur.toList.drop o1) k := by
        simp only [valAt, List.getElem?_drop]
        rw [hget, if_neg (by omega)]
      rw [this]
      exact (h8 k hk).mono tn.size tn.keep
    · have : valAt none (nl.toArray.toList.drop o1) j = a.eval vo := by
        simp only [valAt, List.getElem?_drop]
        rw [hget, if_pos rfl]
        rfl
      rw [this]
      exact tn.den (fun _ h => by cases h) hdv)
  refine ⟨_, undef, _, ρ, ?_, .inr ⟨rfl, rfl⟩, m', .any _ _, t'⟩
  simp only [execOp, ho, hev, Sem.run_bind]
  rw [hs]
  simp only [Result.andThen_ok, Sem.run_pure]

theorem storeX_ok (tys : Types P T) (sz : Sizes T) {o : Oper} {t : Nat} {x vo : Operand} (ho : o.op = .store t x vo) {d : Option Nat} {e : Operand → SV} {μ : Nat → Blk} {κ : SV → List (Nat × Blk) → Prop} (h : wvalX T d (.store t x vo) e μ κ) :
    ∃ y U, κ y U ∧ (∀ q b, (q, b) ∈ U → (μ q).own = true) ∧ Eff P T o e μ y U none := by
  unfold wvalX at h
  split at h
  · rcases h.h with h | h
    · exact store_ok tys sz ho h
    · exact xst_ok tys sz ho h
  · exact store_ok tys sz ho h

theorem MRep.unX {N : Nat → Prop} {w0 w : World} {X : Nat → Prop} {mem : Mem} {ρ : Env} (m : MRep T N w0 w X mem ρ) {r e i q : Nat} {l : List SV} (hr : getM mem r = .rowx e l i (.row q)) {sh : Option Nat} {e2 : Nat} {k : List SV} (hq : getM mem q = .row sh e2 k) :
    MRep T N w0 w X (setM (.row none e (setL l i (.lst sh k))) (setM (.frz sh k) mem q) r) ρ ∧ Turn w (Forb X mem ρ) ρ w (Forb X (setM (.row none e (setL l i (.lst sh k))) (setM (.frz sh k) mem q) r) ρ) ρ none := by
  obtain ⟨m1, t1⟩ := m.freeze hq
  have hrq : r ≠ q := by rintro rfl; rw [hr] at hq; cases hq
  have hr1 : getM (setM (.frz sh k) mem q) r = .rowx e l i (.row q) := by rw [getM_setM, if_neg hrq]; exact hr
  have hq1 : getM (setM (.frz sh k) mem q) q = .frz sh k := by rw [getM_setM, if_pos rfl]
  have hb := m1.blk r
  have hc := m1.blk q
  rw [hr1] at hb
  rw [hq1] at hc
  generalize setM (.frz sh k) mem q = mem1 at *
  obtain ⟨b, off, cap, cur, h1, h3, h4, h5, h6, h7, h0, h9, hi, h8, hx⟩ := hb
  obtain ⟨v, g1, g2⟩ := hc
  have hv0 : vblock (.slice (some ⟨b, off, none⟩) l.length cap) = some b := by simp only [vblock]; rw [if_neg (by omega)]
  have main := m1.step (mem' := setM (.row none e (setL l i (.lst sh k))) mem1 r) (fun p => p = r) none (.refl _ _) (fun p hp => ⟨by rw [getM_setM, if_neg hp], rfl⟩) (fun p _ => .inr (.inl rfl)) (fun p hp => by cases hp) (fun k _ => .inl rfl)
    (fun p u c hp h1' h2 h3' => by subst hp; exact .inr ⟨p, u, rfl, by rw [hr1]; rfl, h2, h3'⟩) (fun p p' _ _ _ h1 h2 _ _ _ _ _ _ => by rw [h1, h2]) (fun ht p hp => by
      subst hp
      rw [getM_setM, if_pos rfl, h1]
      refine ⟨_, rfl, .inr ⟨b, off, cap, cur, by rw [setL_length], h3, h4, by rw [setL_length]; exact h5, h6, by simpa [wid] using h7, h0, h9, fun j hj => ?_⟩⟩
      rw [setL_length] at hj
      rw [setL_get]
      by_cases hji : i = j
      · subst hji
        rw [if_pos rfl]
        have hden : Den w (Forb X mem1 ρ) ρ (.row q) (valAt none (cur.toList.drop off) i) := hx
        have hv : valAt none (cur.toList.drop off) i = v := by
          generalize valAt none (cur.toList.drop off) i = z at hden
          cases hden with
          | row _ _ a' n' c' hrow => exact (hrow _ g1).symm
        rw [hv]
        exact g2.mono ht.size ht.keep
      · rw [if_neg hji]
        exact (h8 j hj (fun e => hji e.symm)).mono ht.size ht.keep)
  exact ⟨main.1, t1.trans main.2⟩
end Go.Proofs.Ytapcbkcnokoljaa
namespace Go.Proofs.Ytapcbkcnokoljaa
set_option linter.unusedVariables false
set_option linter.unusedSimpArgs false
open Go.RowKit
variable {P : Program} {T : Nat → Option TI}

theorem run_slice_gen (w : World) {t el : TypeId} {size : Nat} (ht : P.underlying t = some (.slice el)) (hs : ∀ w, (sizeOf el).run P w = .ok size w) (a : Option Addr) (len cap l h m : Nat) (lo hi mx : Option Value)
    (hm : (mx = none ∧ m = cap) ∨ ∃ k z, mx = some (.int k z) ∧ 0 ≤ z ∧ z ≤ cap ∧ m = z.toNat) (hh : (hi = none ∧ mx = none ∧ h = len) ∨ ∃ k z, hi = some (.int k z) ∧ 0 ≤ z ∧ z ≤ m ∧ h = z.toNat)
    (hl : (lo = none ∧ l = 0) ∨ ∃ k z, lo = some (.int k z) ∧ 0 ≤ z ∧ z ≤ h ∧ l = z.toNat) :
    (Instr.sliceAt t (.slice a len cap) lo hi mx).run P w = .ok (.slice (if m = l then a else a.map (·.add (l * size))) (h - l) (m - l)) w := by
  rcases hm with ⟨rfl, rfl⟩ | ⟨km, zm, rfl, m1, m2, rfl⟩ <;> rcases hh with ⟨rfl, hx, rfl⟩ | ⟨kh, zh, rfl, h1, h2, rfl⟩ <;> rcases hl with ⟨rfl, rfl⟩ | ⟨kl, zl, rfl, l1, l2, rfl⟩ <;>
    first
    | (cases hx; done)
    | (try have em := Int.toNat_of_nonneg m1
       try have eh := Int.toNat_of_nonneg h1
       try have el := Int.toNat_of_nonneg l1
       simp only [Instr.sliceAt, Instr.slice, Instr.sliceBounds, run_underlying ht, Sem.run_bind, Sem.run_pure, Result.andThen_ok, hs, Option.isSome_none, Option.isSome_some, if_true, Bool.false_eq_true, if_false]
       (try rw [run_sliceBound _ _ _ _ _ m1 (by omega)]); (try simp only [Result.andThen_ok, Sem.run_pure])
       (try rw [run_sliceBound _ _ _ _ _ h1 (by omega)]); (try simp only [Result.andThen_ok, Sem.run_pure])
       (try rw [run_sliceBound _ _ _ _ _ l1 (by omega)]); (try simp only [Result.andThen_ok, Sem.run_pure])
       try simp)

theorem run_slice_str (w : World) {t : TypeId} (ht : P.underlying t = some .string) (s : ByteArray) (l h : Nat) (lo hi : Option Value)
    (hh : (hi = none ∧ h = s.size) ∨ ∃ k z, hi = some (.int k z) ∧ 0 ≤ z ∧ z ≤ s.size ∧ h = z.toNat)
    (hl : (lo = none ∧ l = 0) ∨ ∃ k z, lo = some (.int k z) ∧ 0 ≤ z ∧ z ≤ h ∧ l = z.toNat) :
    (Instr.sliceAt t (.string s) lo hi none).run P w = .ok (.string (s.extract l h)) w := by
  rcases hh with ⟨rfl, rfl⟩ | ⟨kh, zh, rfl, h1, h2, rfl⟩ <;> rcases hl with ⟨rfl, rfl⟩ | ⟨kl, zl, rfl, l1, l2, rfl⟩ <;>
    first
    | (cases hx; done)
    | (try have eh := Int.toNat_of_nonneg h1
       try have el := Int.toNat_of_nonneg l1
       simp only [Instr.sliceAt, Instr.slice, Instr.sliceBounds, run_underlying ht, Sem.run_bind, Sem.run_pure, Result.andThen_ok, Option.isSome_none, Bool.false_eq_true, if_false]
       (try rw [run_sliceBound _ _ _ _ _ h1 (by omega)]); (try simp only [Result.andThen_ok])
       (try rw [run_sliceBound _ _ _ _ _ l1 (by omega)]); (try simp only [Result.andThen_ok])
       try simp)
def optI (e : Operand → SV) : Option Operand → Option (Option Int)
  | none => some none
  | some y => (match e y with | .int _ n => some (some n) | _ => none)
def subL (l : List SV) (lo hi : Option Int) : List SV :=
  match lo, hi with
  | none, none => l
  | some a, none => l.drop a.toNat
  | none, some b => l.take b.toNat
  | some a, some b => (l.drop a.toNat).take (b.toNat - a.toNat)
def optSub (c : Option Nat) (k : Nat) : Option Nat := match c with | some c => some (c - k) | none => none
def loN (lo : Option Int) : Nat := match lo with | none => 0 | some a => a.toNat
def subS (s : ByteArray) (lo hi : Option Int) : ByteArray := s.extract (loN lo) (match hi with | none => s.size | some b => b.toNat)
def bndQ (lo hi mx : Option Int) (len : Nat) (k : Prop) : Prop :=
  match lo, hi, mx with
  | none, none, none => k
  | some a, none, none => Rq (fun _ => 0 ≤ a ∧ a ≤ len) (fun _ => k)
  | none, some b, none => Rq (fun _ => 0 ≤ b ∧ b ≤ len) (fun _ => k)
  | some a, some b, none => Rq (fun _ => 0 ≤ a ∧ a ≤ b ∧ b ≤ len) (fun _ => k)
  | none, some b, some m => Rq (fun _ => 0 ≤ b ∧ b ≤ m ∧ m ≤ len) (fun _ => k)
  | some a, some b, some m => Rq (fun _ => 0 ≤ a ∧ a ≤ b ∧ b ≤ m ∧ m ≤ len) (fun _ => k)
  | _, none, some _ => False
theorem bndQ_k {lo hi mx : Option Int} {len : Nat} {k : Prop} (h : bndQ lo hi mx len k) : k := by
  cases lo <;> cases hi <;> cases mx <;> simp only [bndQ] at h <;> first | exact h | exact h.k | exact h.elim
def subN (lo hi : Option Int) (len : Nat) : Nat := match hi with | none => len - loN lo | some b => b.toNat - loN lo
def byteAt (s : ByteArray) (n : Int) : Int := ((s.data.toList[n.toNat]?).getD 0).toNat

noncomputable def subLO (l : List SV) (lo hi : Option Int) : List SV :=
  match lo, hi with
  | none, none => l
  | some a, none => O.dr a l
  | none, some b => O.tk b l
  | some a, some b => O.sg l (O.tn a) (O.si b a)
theorem subLO_eq (l : List SV) (lo hi : Option Int) : subLO l lo hi = subL l lo hi := by
  cases lo <;> cases hi <;> simp [subLO, subL, O.hdr, O.htk, O.hsg, O.htn, O.hsi]
noncomputable def loA (a : Nat) (lo : Option Int) : Nat := match lo with | none => a | some z => O.ad a z
theorem loA_eq (a : Nat) (lo : Option Int) : loA a lo = a + loN lo := by cases lo <;> simp [loA, loN, O.had]
noncomputable def subNO (lo hi : Option Int) (n : Nat) : Nat := match lo, hi with
  | none, none => n
  | some a, none => O.sb n a
  | none, some b => O.tn b
  | some a, some b => O.si b a
theorem subNO_eq (lo hi : Option Int) (n : Nat) : subNO lo hi n = subN lo hi n := by
  cases lo <;> cases hi <;> simp [subNO, subN, loN, O.hsb, O.htn, O.hsi]
noncomputable def subI (m : Int) (lo : Option Int) : Nat := match lo with | none => O.tn m | some a => O.si m a
theorem subI_eq (m : Int) (lo : Option Int) : subI m lo = m.toNat - loN lo := by cases lo <;> simp [subI, loN, O.htn, O.hsi]
noncomputable def optSubO (c : Option Nat) (lo : Option Int) : Option Nat := match c, lo with
  | none, _ => none
  | some c, none => some c
  | some c, some a => some (O.sb c a)
theorem optSubO_eq (c : Option Nat) (lo : Option Int) : optSubO c lo = optSub c (loN lo) := by cases c <;> cases lo <;> simp [optSubO, optSub, loN, O.hsb]

def sval (T : Nat → Option TI) (op : Op) (e : Operand → SV) (μ : Nat → Blk) (κ : SV → Prop) : Prop :=
  match op with
  | .slice t x lo hi mx => (match T t, optI e lo, optI e hi, optI e mx with
    | some i, some lo, some hi, some mx => (match i.kind with
      | .slice el => (match T el with
        | some j => (match listOf μ j.shape (e x) with
          | some l => bndQ lo hi mx (O.ln l) (match e x with
            | .lst s l => κ (.lst s (subLO l lo hi))
            | .nil => κ .nil
            | .row r => (match μ r with
              | .row _ _ _ => (match mx with | some m => κ (.rsl r j.shape (loA 0 lo) (subNO lo hi (O.ln l)) (some (subI m lo))) | none => κ (.rsl r j.shape (loA 0 lo) (subNO lo hi (O.ln l)) none))
              | _ => κ (.lst j.shape (subLO l lo hi)))
            | .rsl r s a n c => (match mx with
              | none => κ (.rsl r s (loA a lo) (subNO lo hi n) (optSubO c lo))
              | some m => κ (.rsl r s (loA a lo) (subNO lo hi n) (some (subI m lo))))
            | _ => False)
          | none => False)
        | none => False)
      | .string => (match e x, mx with
        | .str s, none => bndQ lo hi none s.size (QV (fun z => z = subS s lo hi) (fun z => κ (.str z)))
        | _, _ => False)
      | _ => False)
    | _, _, _, _ => False)
  | .index t x ix => (match T t, e ix with
    | some i, .int _ n => (match i.kind, e x with
      | .string, .str s => Q1 (fun _ => 0 ≤ n ∧ n < s.size) (fun z => z = byteAt s n) (fun z => κ (.int .u8 z))
      | _, _ => False)
    | _, _ => False)
  | .convert s t x => (match T s, T t with
    | some i, some j => (match i.kind, j.kind with
      | .slice el, .string => (match T el with
        | some k => (match k.kind, listOf μ none (e x) with
          | .int .u8, some l => QV (fun bs => l = O.by' bs) (fun bs => κ (.str bs))
          | _, _ => False)
        | none => False)
      | _, _ => False)
    | _, _ => False)
  | _ => False

theorem optI_some {e : Operand → SV} {y : Option Operand} {z : Option Int} (h : optI e y = some z) {w : World} {X : Nat → Prop} {ρ : Env} {a : Act} (hd : ∀ x, y = some x → Den w X ρ (e x) (a.eval x)) :
    (y.map a.eval = none ∧ z = none) ∨ ∃ k n, y.map a.eval = some (.int k n) ∧ z = some n := by
  cases y with
  | none => simp only [optI] at h; injection h with h; exact .inl ⟨rfl, h.symm⟩
  | some x =>
    simp only [optI] at h
    cases hx : e x with
    | int k n =>
      rw [hx] at h
      injection h with h
      have := hd x rfl
      rw [hx, Den.int_iff] at this
      exact .inr ⟨k, n, by simp [this], h.symm⟩
    | _ => rw [hx] at h; cases h

theorem bndQ_mono {lo hi mx : Option Int} {len len' : Nat} {k : Prop} (h : bndQ lo hi mx len k) (hl : len ≤ len') (hx : hi = none → len = len') : bndQ lo hi mx len' k := by
  cases lo <;> cases hi <;> cases mx <;> simp only [bndQ] at h ⊢ <;> first
    | exact h
    | (have := hx rfl; subst this; exact h)
    | (refine ⟨?_, h.k⟩; have := h.p; omega)

theorem bnd_run {lo hi mx : Option Int} {len cap : Nat} {k : Prop} (h : bndQ lo hi mx len k) (hc : len ≤ cap) {vl vh vm : Option Value} (hl : (vl = none ∧ lo = none) ∨ ∃ k n, vl = some (.int k n) ∧ lo = some n) (hh : (vh = none ∧ hi = none) ∨ ∃ k n, vh = some (.int k n) ∧ hi = some n) (hm : (vm = none ∧ mx = none) ∨ ∃ k n, vm = some (.int k n) ∧ mx = some n) :
    ∃ l hh' m : Nat, ((vm = none ∧ m = cap) ∨ ∃ k z, vm = some (.int k z) ∧ 0 ≤ z ∧ z ≤ cap ∧ m = z.toNat) ∧ ((vh = none ∧ vm = none ∧ hh' = len) ∨ ∃ k z, vh = some (.int k z) ∧ 0 ≤ z ∧ z ≤ m ∧ hh' = z.toNat) ∧ ((vl = none ∧ l = 0) ∨ ∃ k z, vl = some (.int k z) ∧ 0 ≤ z ∧ z ≤ hh' ∧ l = z.toNat) ∧
      l = loN lo ∧ hh' - l = subN lo hi len ∧ l ≤ hh' ∧ hh' ≤ len ∧ hh' ≤ m ∧ m ≤ cap ∧ (mx = none → m = cap) ∧ (∀ z, mx = some z → m = z.toNat ∧ m ≤ len) := by
  rcases hl with ⟨rfl, rfl⟩ | ⟨kl, zl, rfl, rfl⟩ <;> rcases hh with ⟨rfl, rfl⟩ | ⟨kh, zh, rfl, rfl⟩ <;> rcases hm with ⟨rfl, rfl⟩ | ⟨km, zm, rfl, rfl⟩ <;> simp only [bndQ] at h
  · exact ⟨0, len, cap, .inl ⟨rfl, rfl⟩, .inl ⟨rfl, rfl, rfl⟩, .inl ⟨rfl, rfl⟩, rfl, rfl, by omega, by omega, hc, by omega, fun _ => rfl, fun z hz => by cases hz⟩
  · have hp := h.p
    exact ⟨0, zh.toNat, cap, .inl ⟨rfl, rfl⟩, .inr ⟨_, _, rfl, by omega, by omega, rfl⟩, .inl ⟨rfl, rfl⟩, rfl, by simp [subN, loN], by omega, by omega, by omega, by omega, fun _ => rfl, fun z hz => by cases hz⟩
  · have hp := h.p
    exact ⟨0, zh.toNat, zm.toNat, .inr ⟨_, _, rfl, by omega, by omega, rfl⟩, .inr ⟨_, _, rfl, by omega, by omega, rfl⟩, .inl ⟨rfl, rfl⟩, rfl, by simp [subN, loN], by omega, by omega, by omega, by omega, (fun hx => by cases hx), fun z hz => by injection hz with hz; subst hz; exact ⟨rfl, by omega⟩⟩
  · have hp := h.p
    exact ⟨zl.toNat, len, cap, .inl ⟨rfl, rfl⟩, .inl ⟨rfl, rfl, rfl⟩, .inr ⟨_, _, rfl, by omega, by omega, rfl⟩, rfl, by simp [subN, loN], by omega, by omega, hc, by omega, fun _ => rfl, fun z hz => by cases hz⟩
  · have hp := h.p
    exact ⟨zl.toNat, zh.toNat, cap, .inl ⟨rfl, rfl⟩, .inr ⟨_, _, rfl, by omega, by omega, rfl⟩, .inr ⟨_, _, rfl, by omega, by omega, rfl⟩, rfl, by simp [subN, loN], by omega, by omega, by omega, by omega, fun _ => rfl, fun z hz => by cases hz⟩
  · have hp := h.p
    exact ⟨zl.toNat, zh.toNat, zm.toNat, .inr ⟨_, _, rfl, by omega, by omega, rfl⟩, .inr ⟨_, _, rfl, by omega, by omega, rfl⟩, .inr ⟨_, _, rfl, by omega, by omega, rfl⟩, rfl, by simp [subN, loN], by omega, by omega, by omega, by omega, (fun hx => by cases hx), fun z hz => by injection hz with hz; subst hz; exact ⟨rfl, by omega⟩⟩

theorem subL_eq {l : List SV} {lo hi : Option Int} : subL l lo hi = (l.drop (loN lo)).take (subN lo hi l.length) := by
  cases lo <;> cases hi <;> simp only [subL, subN, loN]
  · simp
  · simp
  · rw [List.take_of_length_le (by simp)]

theorem sval_ok (tys : Types P T) (sz : Sizes T) {o : Oper} {e : Operand → SV} {μ : Nat → Blk} {κ : SV → Prop} (h : sval T o.op e μ κ) : ∃ v, κ v ∧ RdOk P T o e μ v := by
  generalize ho : o.op = op at h
  cases op
  case slice t x lo hi mx =>
    simp only [sval, O.hln, subLO_eq, loA_eq, subNO_eq, subI_eq, optSubO_eq, Nat.zero_add] at h
    split at h <;> try exact h.elim
    rename_i i zlo zhi zmx ht hlo hhi hmx
    have hops : ∀ (mem : Mem) (a : Act) (w : World) (X : Nat → Prop) (ρ : Env), (∀ y ∈ o.op.operands, Den w X ρ (e y) (a.eval y)) → Den w X ρ (e x) (a.eval x) ∧ ((lo.map a.eval = none ∧ zlo = none) ∨ ∃ k n, lo.map a.eval = some (.int k n) ∧ zlo = some n) ∧
        ((hi.map a.eval = none ∧ zhi = none) ∨ ∃ k n, hi.map a.eval = some (.int k n) ∧ zhi = some n) ∧ ((mx.map a.eval = none ∧ zmx = none) ∨ ∃ k n, mx.map a.eval = some (.int k n) ∧ zmx = some n) := by
      intro mem a w X ρ hd
      rw [ho] at hd
      simp only [Op.operands] at hd
      exact ⟨hd x (by simp), optI_some hlo (fun y hy => hd y (by simp [hy])), optI_some hhi (fun y hy => hd y (by simp [hy])), optI_some hmx (fun y hy => hd y (by simp [hy]))⟩
    split at h <;> try exact h.elim
    · rename_i el hk
      split at h <;> try exact h.elim
      rename_i j hj
      split at h <;> try exact h.elim
      rename_i l hl
      have ti := tys.ok t i ht
      have tj := tys.ok el j hj
      have hw := TI.wid_size (sz.one _ _ hj)
      have key : ∀ v, (∀ (mem : Mem), Sees μ mem → ∀ (a : Act) (N : Nat → Prop) (w0 w : World) (X : Nat → Prop) (ρ : Env), MRep T N w0 w X mem ρ → Den w (Forb X mem ρ) ρ (e x) (a.eval x) → ∀ ad c, a.eval x = .slice ad l.length c → l.length ≤ c → ∀ l1 h1 m1 : Nat, l1 = loN zlo → h1 - l1 = subN zlo zhi l.length → l1 ≤ h1 → h1 ≤ l.length → h1 ≤ m1 → m1 ≤ c → (zmx = none → m1 = c) → (∀ z, zmx = some z → m1 = z.toNat ∧ m1 ≤ l.length) →
          Den w (Forb X mem ρ) ρ v (.slice (if m1 = l1 then ad else ad.map (·.add (l1 * j.size))) (h1 - l1) (m1 - l1))) → RdOk P T o e μ v := by
        intro v hv
        refine ⟨fun mem hμ a N w0 w X ρ m hd => ?_⟩
        obtain ⟨d1, d2, d3, d4⟩ := hops mem a w _ ρ hd
        obtain ⟨ad, c, e1, e2, _⟩ := listOf_den hμ m hl d1
        obtain ⟨l1, h1, m1, g1, g2, g3, g4, g5, g6, g7, g8, g9, g10, g11⟩ := bnd_run h e2 d2 d3 d4
        have hr := run_slice_gen (P := P) w (ti.und_slice hk) (fun w => tj.sizeOf w) ad l.length c l1 h1 m1 _ _ _ g1 g2 g3
        refine ⟨_, by simp only [execOp, ho, e1, Sem.run_bind, hr, Result.andThen_ok, Sem.run_pure], hv mem hμ a N w0 w X ρ m d1 ad c e1 e2 l1 h1 m1 g4 g5 g6 g7 g8 g9 g10 g11⟩
      have onList : live μ (e x) = false → RdOk P T o e μ (.lst j.shape (subL l zlo zhi)) := by
        intro hlive
        refine key _ fun mem hμ a N w0 w X ρ m hd ad c e1 e2 l1 h1 m1 g4 g5 g6 g7 g8 g9 g10 g11 => ?_
        obtain ⟨ad', c', f1, f2, f3⟩ := listOf_den hμ m hl hd
        rw [e1] at f1
        injection f1 with f1 _ f4
        subst f1; subst f4
        rw [subL_eq, ← g4, ← g5]
        by_cases hm : m1 = l1
        · rw [if_pos hm]
          have : h1 - l1 = 0 := by omega
          rw [this, List.take_zero]
          exact .lst0 _ _ _ _
        · rw [if_neg hm]
          rcases f3 with rfl | ⟨b, off, us, rfl, p1, p2, p3, p6, p4, p5⟩
          · have : h1 - l1 = 0 := by simp at g7; omega
            rw [this, List.take_zero]
            exact .lst0 _ _ _ _
          · have hx : ¬ Forb X mem ρ b := p2.resolve_right fun h => by rw [hlive] at h; cases h.2
            have := SliceAt.part (w := w) (Y := Forb X mem ρ) (ok := fun b => ¬ Forb X mem ρ b) (a := l1) (n := h1 - l1) (c := m1 - l1) p1 hx p3 p6 p4 p5 (by omega) (by omega)
            have := this.lst (Z := Forb X mem ρ) (ρ := ρ) (fun b _ h => h) (fun b h => h)
            simpa [hw, addr_add] using this
      have hk' := bndQ_k h
      cases hx : e x with
      | lst s l' =>
        simp only [hx] at hk' hl
        simp only [listOf] at hl
        split at hl
        case isFalse => cases hl
        rename_i hs
        have hs := shEq_eq hs
        injection hl with hl
        subst hl; subst hs
        exact ⟨_, hk', onList (by rw [hx]; rfl)⟩
      | nil =>
        simp only [hx] at hk' hl
        simp only [listOf] at hl
        injection hl with hl
        subst hl
        refine ⟨_, hk', key _ fun mem hμ a N w0 w X ρ m hd ad c e1 e2 l1 h1 m1 g4 g5 g6 g7 g8 g9 g10 g11 => ?_⟩
        rw [hx] at hd
        rw [e1] at hd
        cases hd
        simp at g7 g9
        subst g7; subst g9
        have : l1 = 0 := by omega
        subst this
        simp
        exact .nil _
      | row r =>
        simp only [hx] at hk' hl
        cases hm : μ r with
        | row s' e' l' =>
          simp only [hm] at hk'
          have core : ∀ c2 : Option Nat, (zmx = none → c2 = none) → (∀ z, zmx = some z → c2 = some (z.toNat - loN zlo)) → RdOk P T o e μ (.rsl r j.shape (loN zlo) (subN zlo zhi l.length) c2) := by
            intro c2 hc1 hc2
            refine key _ fun mem hμ a N w0 w X ρ m hd ad c e1 e2 l1 h1 m1 g4 g5 g6 g7 g8 g9 g10 g11 => ?_
            rw [hx] at hd
            rw [e1] at hd
            rw [← g4, ← g5]
            cases hd with
            | row _ _ _ _ _ hr =>
              refine .rsl _ _ _ _ _ _ _ _ (by omega) fun q hq => ?_
              have := hr _ hq
              subst this
              refine ⟨ad, _, _, rfl, by omega, by omega, fun hz => ?_, fun z hz => ?_, ?_⟩
              · cases hzm : zmx with
                | none => rw [g10 hzm]
                | some z => rw [hc2 z hzm] at hz; cases hz
              · cases hzm : zmx with
                | none => rw [hc1 hzm] at hz; cases hz
                | some z' => rw [hc2 z' hzm] at hz; injection hz with hz; rw [(g11 z' hzm).1, g4]; exact hz
              · by_cases hml : m1 = l1
                · exact .inl (by omega)
                · rw [if_neg hml]
                  right
                  obtain ⟨rv, q1, _, q4⟩ := hμ.rowAt m hm
                  rw [hq] at q1
                  injection q1 with q1
                  rcases q4 with ⟨a0, rfl, _⟩ | ⟨b, off, cap, cur, rfl, _⟩
                  · injection q1 with _ _ q5
                    omega
                  · injection q1 with q1 _ _
                    exact ⟨b, off, q1, by rw [q1]; simp [addr_add, hw]⟩
          cases hz : zmx with
          | none =>
            simp only [hz] at hk'
            exact ⟨_, hk', core _ (fun _ => rfl) (fun z hz' => by rw [hz] at hz'; cases hz')⟩
          | some m0 =>
            simp only [hz] at hk'
            exact ⟨_, hk', core _ (fun hz' => by rw [hz] at hz'; cases hz') (fun z hz' => by rw [hz] at hz'; injection hz' with hz'; subst hz'; rfl)⟩
        | frz s' l' =>
          simp only [hm] at hk'
          exact ⟨_, hk', onList (by rw [hx]; simp [live, hm, liveB])⟩
        | _ => rw [listOf, hm] at hl; simp [listB] at hl
      | rsl r s a n c =>
        simp only [hx] at hk' hl
        have hsj : s = j.shape := by
          simp only [listOf] at hl
          split at hl
          · rename_i hs; exact shEq_eq hs
          · cases hl
        have core : ∀ c2 : Option Nat, (zmx = none → c2 = optSub c (loN zlo)) → (∀ z, zmx = some z → c2 = some (z.toNat - loN zlo)) → RdOk P T o e μ (.rsl r s (a + loN zlo) (subN zlo zhi n) c2) := by
          intro c2 hc1 hc2
          refine key _ fun mem hμ ac N w0 w X ρ m hd ad c' e1 e2 l1 h1 m1 g4 g5 g6 g7 g8 g9 g10 g11 => ?_
          rw [hx] at hd
          rw [e1] at hd
          generalize hll : l.length = L at *
          cases hd with
          | rsl _ _ _ _ _ _ _ _ hcc hr =>
            rw [← g4, ← g5]
            refine .rsl _ _ _ _ _ _ _ _ (by omega) fun q hq => ?_
            obtain ⟨x0, len, cap, e3, e4, e5, e6, e7, e8⟩ := hr _ hq
            refine ⟨x0, len, cap, e3, by omega, by omega, fun hz => ?_, fun z hz => ?_, ?_⟩
            · cases hzm : zmx with
              | none =>
                rw [hc1 hzm] at hz
                cases c with
                | none => rw [g10 hzm, e6 rfl]; omega
                | some k => cases hz
              | some z => rw [hc2 z hzm] at hz; cases hz
            · cases hzm : zmx with
              | none =>
                rw [hc1 hzm] at hz
                cases c with
                | none => cases hz
                | some k => injection hz with hz; rw [g10 hzm, e7 k rfl, g4]; exact hz
              | some z' => rw [hc2 z' hzm] at hz; injection hz with hz; rw [(g11 z' hzm).1, g4]; exact hz
            · by_cases hml : m1 = l1
              · exact .inl (by omega)
              · rw [if_neg hml]
                right
                rcases e8 with e8 | ⟨b, off, e8, e9⟩
                · omega
                · refine ⟨b, off, e8, ?_⟩
                  rw [e9]
                  simp only [Option.map_some, addr_add, hsj, ← hw, Nat.add_mul, Nat.add_assoc]
        cases hz : zmx with
        | none =>
          simp only [hz] at hk'
          exact ⟨_, hk', core _ (fun _ => rfl) (fun z hz' => by rw [hz] at hz'; cases hz')⟩
        | some m0 =>
          simp only [hz] at hk'
          exact ⟨_, hk', core _ (fun hz' => by rw [hz] at hz'; cases hz') (fun z hz' => by rw [hz] at hz'; injection hz' with hz'; subst hz'; rfl)⟩
      | _ => simp only [hx] at hk'
    · rename_i hk
      split at h <;> try exact h.elim
      rename_i s hx
      obtain ⟨zz, hzz, hkk⟩ := (bndQ_k h).h
      subst hzz
      refine ⟨_, hkk, ⟨fun mem hμ a N w0 w X ρ m hd => ?_⟩⟩
      obtain ⟨d1, d2, d3, d4⟩ := hops mem a w _ ρ hd
      rw [hx, Den.str_iff] at d1
      have d4' : mx.map a.eval = none := by
        rcases d4 with d4 | ⟨_, _, _, d4⟩
        · exact d4.1
        · cases d4
      obtain ⟨l1, h1, m1, g1, g2, g3, g4, g5, g6, g7, g8, g9, g10, g11⟩ := bnd_run h (Nat.le_refl _) d2 d3 (.inl ⟨d4', rfl⟩)
      have hm1 : m1 = s.size := g10 rfl
      have hr := run_slice_str (P := P) w ((tys.ok t i ht).und_string hk) s l1 h1 _ _ (g2.imp (fun g => ⟨g.1, g.2.2⟩) (fun ⟨k, z, a1, a2, a3, a4⟩ => ⟨k, z, a1, a2, by omega, a4⟩)) g3
      refine ⟨.string (s.extract l1 h1), by simp only [execOp, ho, d1, d4', Sem.run_bind, hr, Result.andThen_ok, Sem.run_pure], ?_⟩
      have : s.extract l1 h1 = subS s zlo zhi := by
        unfold subS
        rw [g4]
        congr 1
        rcases d3 with ⟨d3, rfl⟩ | ⟨k, n, d3, rfl⟩
        · rcases g2 with ⟨_, _, g2⟩ | ⟨k, z, g2, _⟩
          · exact g2
          · rw [d3] at g2; cases g2
        · rcases g2 with ⟨g2, _⟩ | ⟨k', z, g2, _, _, g2'⟩
          · rw [d3] at g2; cases g2
          · rw [d3] at g2; injection g2 with g2; injection g2 with _ g2; rw [g2', g2]
      rw [this]
      exact .str _ _
  case index t x ix =>
    simp only [sval] at h
    split at h <;> try exact h.elim
    rename_i i k n ht hix
    split at h <;> try exact h.elim
    rename_i s hk hx
    have hp := h.h.1
    refine ⟨_, h.h.2 _ rfl, ⟨fun mem hμ a N w0 w X ρ m hd => ?_⟩⟩
    rw [ho] at hd
    have d1 := hd x (by simp [Op.operands])
    have d2 := hd ix (by simp [Op.operands])
    rw [hx, Den.str_iff] at d1
    rw [hix, Den.int_iff] at d2
    have hlt : n.toNat < s.size := by omega
    refine ⟨.int .u8 (byteAt s n), ?_, .int _ _ _⟩
    have hb : byteAt s n = (s[n.toNat]'hlt).toNat := by
      simp only [byteAt]
      rw [List.getElem?_eq_getElem (by simpa using hlt)]
      rfl
    simp only [execOp, ho, d1, d2, Instr.index, asIntOf, Sem.run_bind, Sem.run_pure, Result.andThen_ok, run_underlying ((tys.ok t i ht).und_string hk), if_pos hp.1]
    rw [getElem?_pos s n.toNat hlt]
    simp [hb]
  case convert s t x =>
    simp only [sval, O.by_eq] at h
    split at h <;> try exact h.elim
    rename_i i j hs ht
    split at h <;> try exact h.elim
    rename_i el hk hk2
    split at h <;> try exact h.elim
    rename_i k hel
    split at h <;> try exact h.elim
    rename_i l hk3 hl
    obtain ⟨bs, rfl, h'⟩ := h.h
    refine ⟨_, h', ⟨fun mem hμ a N w0 w X ρ m hd => ?_⟩⟩
    rw [ho] at hd
    have hd := hd x (by simp [Op.operands])
    obtain ⟨ad, c, e1, e2, e3⟩ := listOf_den hμ m hl hd
    have us := (tys.ok s i hs).und_slice hk
    have ue := (tys.ok el k hel).und_int hk3
    have ud := (tys.ok t j ht).und_string hk2
    refine ⟨.string bs, ?_, .str _ _⟩
    have hbl : (bytesSV bs).length = bs.size := by simp [bytesSV]
    have hr : (convert s t (a.eval x)).run P w = .ok (.string bs) w := by
      rw [e1]
      by_cases h0 : bs.size = 0
      · have hbs : bs = .empty := by
          apply ByteArray.ext
          exact Array.eq_empty_of_size_eq_zero h0
        subst hbs
        cases ad with
        | none => exact run_convert_bytes_nil w s el us ue _ _ t ud
        | some q =>
          rw [run_convert_bytes_string w s t el _ _ _ us ue ud]
          simp [hbl, Conv.bytesToString, loadCells, loadCellsFrom]
      · rcases e3 with e3 | ⟨b, off, us', rfl, p1, p2, p3, p6, p4, p5⟩
        · rw [e3] at hbl; simp at hbl; omega
        · have hget : ∀ q, q < bs.size → us'[q]? = some (.int .u8 ((bs.data.toList.map (fun b => (b.toNat : Int))).getD q 0)) := by
            intro q hq
            have hq' : q < (bytesSV bs).length := by omega
            have h5 := p5 q hq'
            have e4 : (bytesSV bs)[q] = .int .u8 ((bs.data.toList.map (fun b => (b.toNat : Int))).getD q 0) := by
              have h6 : q < bs.data.toList.length := by simpa [bytesSV] using hq'
              have h6' : q < bs.data.size := by simpa using h6
              simp [bytesSV, List.getD, Array.getElem?_eq_getElem h6']
            rw [e4, Den.int_iff] at h5
            simp only [valAt] at h5
            cases h7 : us'[q]? with
            | none => rw [h7] at h5; simp [undef] at h5
            | some u => simp only [h7, Option.getD_some] at h5; rw [h5]
          have := run_convert_bytes_arg w s el us ue b off (bytesSV bs).length c (bs.data.toList.map fun b => (b.toNat : Int)) (by simp [bytesSV]) (fun q hq => p4 q _ (hget q (by omega))) t ud
          rw [this]
          have e5 : strOfNums (bs.data.toList.map fun b => (b.toNat : Int)) = bs := by
            apply ByteArray.ext
            apply Array.ext'
            rw [strOfNums_data, List.map_map]
            conv => rhs; rw [← List.map_id bs.data.toList]
            apply List.map_congr_left
            intro b _
            simp
          rw [e5]
    simp only [execOp, ho, Sem.run_bind, hr, Result.andThen_ok, Sem.run_pure]
  all_goals exact h.elim
end Go.Proofs.Ytapcbkcnokoljaa
namespace Go.Proofs.Ytapcbkcnokoljaa
set_option linter.unusedVariables false
set_option linter.unusedSimpArgs false
open Go.RowKit
variable {P : Program} {T : Nat → Option TI}

def flatB : SV → Bool
  | .bool _ | .int _ _ | .str _ | .nil | .any => true
  | _ => false
def flatsB : List SV → Bool
  | [] => true
  | x :: l => flatB x && flatsB l
def flatR : SV → Bool
  | .agg l => flatsB l
  | .tup l => flatsB l
  | x => flatB x
theorem flatsB_get : ∀ {l : List SV}, flatsB l = true → ∀ (i : Nat) (h : i < l.length), flatB l[i] = true
  | x :: l, hl, 0, _ => by simp [flatsB] at hl; exact hl.1
  | x :: l, hl, i + 1, h => by simp [flatsB] at hl; exact flatsB_get hl.2 i (by simpa using h)
theorem Den.flat1 {w w' : World} {X X' : Nat → Prop} {ρ ρ' : Env} {x : SV} {v : Value} (h : Den w X ρ x v) (hf : flatB x = true) : Den w' X' ρ' x v := by
  cases h <;> first | exact .any _ _ | exact .bool _ _ | exact .int _ _ _ | exact .str _ _ | exact .nil _ | (simp [flatB] at hf; done)
theorem Den.flat {w w' : World} {X X' : Nat → Prop} {ρ ρ' : Env} {x : SV} {v : Value} (h : Den w X ρ x v) (hf : flatR x = true) : Den w' X' ρ' x v := by
  cases h with
  | agg _ l cs hl h => exact .agg _ l cs hl fun i h1 h2 => (h i h1 h2).flat1 (flatsB_get (by simpa [flatR] using hf) i h1)
  | tup _ l cs hl h => exact .tup _ l cs hl fun i h1 h2 => (h i h1 h2).flat1 (flatsB_get (by simpa [flatR] using hf) i h1)
  | any => exact .any _ _
  | bool => exact .bool _ _
  | int => exact .int _ _ _
  | str => exact .str _ _
  | nil => exact .nil _
  | _ => simp [flatR, flatB] at hf
theorem flatsB_noref : ∀ {l : List SV}, flatsB l = true → ∀ d, noref.norefs d l = true
  | [], _, d => rfl
  | x :: l, h, d => by
    simp [flatsB] at h
    have : noref d x = true := by cases x <;> simp_all [flatB, noref]
    simp [noref.norefs, this, flatsB_noref h.2 d]

structure CT where
  args : List SV
  lent : Option (Nat × SV)
  r : SV
  lent' : SV
  new : Blk
def inM (c : CT) : Mem := match c.lent with | some (t, x) => [(0, .chunk t x)] | none => []
def outM (c : CT) : Mem := match c.lent with
  | some (t, _) => (0, .chunk t c.lent') :: (match c.new with | .no => [] | b => [(1, b)])
  | none => (match c.new with | .no => [] | b => [(1, b)])
def lentB (l : Option (Nat × SV)) : Blk := match l with | some (t, x) => .chunk t x | none => .no
def lentB' (l : Option (Nat × SV)) (y : SV) : Blk := match l with | some (t, _) => .chunk t y | none => .no
theorem getM_in (c : CT) (q : Nat) : getM (inM c) q = if q = 0 then lentB c.lent else .no := by
  unfold inM lentB
  rcases c.lent with _ | ⟨t, x⟩
  · simp [getM]
  · simp only [getM, nbeq]
    by_cases h : q = 0
    · subst h; simp
    · rw [if_neg (Ne.symm h), if_neg h]
theorem getM_out (c : CT) (q : Nat) : getM (outM c) q = if q = 0 then lentB' c.lent c.lent' else if q = 1 then c.new else .no := by
  have hn : getM (match c.new with | .no => [] | b => [(1, b)]) q = if q = 1 then c.new else .no := by
    cases c.new <;> simp only [getM, nbeq]
    · split <;> rfl
    all_goals
      by_cases h : q = 1
      · subst h; simp
      · rw [if_neg (Ne.symm h), if_neg h]
  unfold outM lentB'
  rcases c.lent with _ | ⟨t, x⟩
  · simp only
    rw [hn]
    by_cases h : q = 0
    · subst h; simp
    · rw [if_neg h]
  · simp only [getM, nbeq]
    by_cases h : q = 0
    · subst h; simp
    · rw [if_neg (Ne.symm h), if_neg h]
      exact hn

structure KeepY (Y : Nat → Prop) (w w' : World) : Prop where
  size : w.heap.size ≤ w'.heap.size
  same : ∀ b, b < w.heap.size → ¬ Y b → w'.heap[b]? = w.heap[b]?
structure ASeq (P : Program) (f : FuncId) (caps : List SV) (xs : List (List SV)) : Prop where
  h : ∀ (w : World) (Y : Nat → Prop) (us : List Value), DenL w Y noEnv caps us → ∀ (l : Nat) (J : Nat → World → Prop) (Jx : World → Prop) (W : World),
    (∀ k W1 W2, J k W1 → Below W1.heap.size W1 W2 → J k W2) → (∀ W1 W2, Jx W1 → Below W1.heap.size W1 W2 → Jx W2) → (∀ k W1, J k W1 → KeepY Y w W1) →
    (∀ k x vs W1, J k W1 → xs[k]? = some x → DenL w Y noEnv x vs → ∀ m, YieldAt Fence.wide m P l ⟨vs⟩ W1 fun e W' => (e = .returned (.bool true) ∧ J (k + 1) W') ∨ (e = .returned (.bool false) ∧ Jx W')) →
    J 0 W → ∀ n, CallsIn Fence.wide n P f (#[.func (.yield l) #[] #[]] ++ ⟨us⟩) W fun e W' => (∃ v, e = .returned v) ∧ (J xs.length W' ∨ Jx W')
def isSeq (c : CT) : Bool := match c.new with
  | .iter _ _ => true
  | _ => false
def untup : SV → List SV
  | .tup l => l
  | _ => []
def seqL : SV → List (List SV)
  | .tup l => l.map untup
  | _ => []
def seqC (caps : List SV) (xs : List (List SV)) : CT := ⟨caps, none, .tup (xs.map .tup), .any, .iter .empty 0⟩
theorem seqC_L (caps : List SV) (xs : List (List SV)) : seqL (seqC caps xs).r = xs := by simp [seqC, seqL, Function.comp_def, untup]

def lrC (sh : Option Nat) (e : Nat) (l az k : List SV) : CT := ⟨.row 0 :: az, some (e, .lst sh l), .row 0, .lst sh k, .frz none []⟩
def isLR (c : CT) : Bool := match c.new with
  | .frz _ _ => true
  | _ => false
structure ACall (P : Program) (T : Nat → Option TI) (f : FuncId) (c : CT) : Prop where
  fn : ∃ fn, P.funcs[f]? = some fn ∧ fn.body.isSome = true ∧ (fn.name == "runtime.NumGoroutine") = false
  q : isSeq c = true → ASeq P f c.args (seqL c.r)
  lr : ∀ sh e l az k, c = lrC sh e l az k → ∀ (N : Nat → Prop) (w : World) (X : Nat → Prop) (ρ : Env) (vs : List Value), MRep T N w w X [(0, .row sh e l)] ρ → DenL w (Forb X [(0, .row sh e l)] ρ) ρ (.row 0 :: az) vs →
    Calls P f ⟨vs⟩ w fun en w' => ∃ v l' ρ', en = .returned v ∧ MRep T N w w' X [(0, .row sh e l')] ρ' ∧ ρ' 0 = ρ 0 ∧ l'.take k.length = k ∧ Den w' (Forb X [(0, .row sh e l')] ρ') ρ' (.rsl 0 sh 0 k.length none) v
  h : isSeq c = false → isLR c = false → ∀ (N : Nat → Prop) (w : World) (X : Nat → Prop) (ρ : Env) (vs : List Value), MRep T N w w X (inM c) ρ → DenL w (Forb X (inM c) ρ) ρ c.args vs →
    Calls P f ⟨vs⟩ w fun e w' => ∃ v ρ', e = .returned v ∧ MRep T N w w' X (outM c) ρ' ∧ ρ' 0 = ρ 0 ∧ Den w' (Forb X (outM c) ρ') ρ' c.r v

def ren (d : Nat) : SV → SV
  | .ptr r o => .ptr (if Nat.beq r 1 then d else r) o
  | .row r => .row (if Nat.beq r 1 then d else r)
  | .rsl r sh a n c => .rsl (if Nat.beq r 1 then d else r) sh a n c
  | .rptr r sh i o => .rptr (if Nat.beq r 1 then d else r) sh i o
  | .obj r => .obj (if Nat.beq r 1 then d else r)
  | .agg l => .agg (rens d l)
  | .tup l => .tup (rens d l)
  | x => x
where rens (d : Nat) : List SV → List SV
  | [] => []
  | x :: l => ren d x :: rens d l
def only1 : SV → Bool
  | .ptr r _ => Nat.beq r 1
  | .row r => Nat.beq r 1
  | .rsl r _ _ _ _ => Nat.beq r 1
  | .rptr r _ _ _ => Nat.beq r 1
  | .obj r => Nat.beq r 1
  | .agg l => only1s l
  | .tup l => only1s l
  | _ => true
where only1s : List SV → Bool
  | [] => true
  | x :: l => only1 x && only1s l
theorem rens_length (d : Nat) : ∀ l : List SV, (ren.rens d l).length = l.length
  | [] => rfl
  | x :: l => by simp [ren.rens, rens_length d l]
theorem rens_get (d : Nat) : ∀ (l : List SV) (i : Nat) (h : i < (ren.rens d l).length), (ren.rens d l)[i] = ren d (l[i]'(by rwa [rens_length] at h))
  | [], i, h => by simp [ren.rens] at h
  | x :: l, 0, h => rfl
  | x :: l, i + 1, h => rens_get d l i (by simpa [ren.rens] using h)
theorem only1s_get : ∀ {l : List SV}, only1.only1s l = true → ∀ (i : Nat) (h : i < l.length), only1 l[i] = true
  | x :: l, hl, 0, _ => by simp [only1.only1s] at hl; exact hl.1
  | x :: l, hl, i + 1, h => by simp [only1.only1s] at hl; exact only1s_get hl.2 i (by simpa using h)
theorem Den.ren {w : World} {X : Nat → Prop} {ρ ρ' : Env} {d : Nat} {x : SV} {v : Value} (h : Den w X ρ x v) (ho : only1 x = true) (he : ρ' d = ρ 1) : Den w X ρ' (ren d x) v := by
  induction h generalizing ρ' with
  | any ρ v => exact .any _ v
  | bool ρ b => exact .bool _ b
  | int ρ k n => exact .int _ k n
  | str ρ s => exact .str _ s
  | agg ρ l cs hl h ih =>
    refine .agg _ _ cs (by rw [rens_length]; exact hl) fun i h1 h2 => ?_
    rw [rens_get]
    exact ih i (by rwa [rens_length] at h1) h2 (only1s_get (by simpa [only1] using ho) i _) he
  | tup ρ l cs hl h ih =>
    refine .tup _ _ cs (by rw [rens_length]; exact hl) fun i h1 h2 => ?_
    rw [rens_get]
    exact ih i (by rwa [rens_length] at h1) h2 (only1s_get (by simpa [only1] using ho) i _) he
  | lst0 ρ sh a cap => exact .lst0 _ sh a cap
  | lst ρ sh l b off cap us hb hx hc hu hl h1 h ih => exact .lst _ sh l b off cap us hb hx hc hu hl h1 h
  | nil ρ => exact .nil _
  | ptr ρ r off b h =>
    obtain rfl : r = 1 := nbeq.1 (by simpa [only1] using ho)
    exact .ptr _ d off b fun q hq => h q (by rw [← he]; exact hq)
  | row ρ r a n c h =>
    obtain rfl : r = 1 := nbeq.1 (by simpa [only1] using ho)
    exact .row _ d a n c fun q hq => h q (by rw [← he]; exact hq)
  | rsl ρ r sh a n c x cc hc h =>
    obtain rfl : r = 1 := nbeq.1 (by simpa [only1] using ho)
    exact .rsl _ d sh a n c x cc hc fun q hq => h q (by rw [← he]; exact hq)
  | rptr ρ r sh i off b o h =>
    obtain rfl : r = 1 := nbeq.1 (by simpa [only1] using ho)
    exact .rptr _ d sh i off b o fun q hq => h q (by rw [← he]; exact hq)
  | obj ρ r v h1 h =>
    obtain rfl : r = 1 := nbeq.1 (by simpa [only1] using ho)
    exact .obj _ d v h1 fun q hq => h q (by rw [← he]; exact hq)
  | eptr ρ sh x off b o us hb hx hu hl h ih => exact .eptr _ sh x off b o us hb hx hu hl h
  | clo ρ f caps us hl h ih => exact .clo _ f caps us hl h
  | val ρ v => exact .val _ v

def datasB : List SV → Bool
  | [] => true
  | x :: l => dataB x && datasB l
def dataR : SV → Bool
  | .tup l => datasB l
  | x => dataB x
theorem datasB_noref : ∀ {l : List SV}, datasB l = true → ∀ r, noref.norefs r l = true
  | [], _, r => rfl
  | x :: l, h, r => by
    simp [datasB] at h
    simp [noref.norefs, data_noref h.1 r, datasB_noref h.2 r]
theorem dataR_noref {x : SV} (h : dataR x = true) (r : Nat) : noref r x = true := by
  cases x with
  | tup l => exact datasB_noref (by simpa [dataR] using h) r
  | _ => exact data_noref (by simpa [dataR] using h) r

structure CallQ (G : Nat → CT → Prop) (f : Nat) (args : List SV) (lent : Option (Nat × SV)) (κ : CT → Prop) (alt : Unit → Prop) : Prop where
  h : (∃ c, G f c ∧ c.args = args ∧ c.lent = lent ∧ κ c) ∨ alt ()
theorem callq {G : Nat → CT → Prop} {f : Nat} {args : List SV} {lent : Option (Nat × SV)} {κ : CT → Prop} {alt : Unit → Prop} {c : CT} (h : G f c) (ha : c.args = args) (hl : c.lent = lent) (k : κ c) : CallQ G f args lent κ alt := ⟨.inl ⟨c, h, ha, hl, k⟩⟩
theorem callr {G : Nat → CT → Prop} {f : Nat} {args : List SV} {lent : Option (Nat × SV)} {κ : CT → Prop} {alt : Unit → Prop} (h : alt ()) : CallQ G f args lent κ alt := ⟨.inr h⟩
structure LrQ (G : Nat → CT → Prop) (f : Nat) (sh : Option Nat) (e : Nat) (l az : List SV) (κ : List SV → Prop) : Prop where
  h : ∃ k, G f (lrC sh e l az k) ∧ κ k
theorem lrq {G : Nat → CT → Prop} {f : Nat} {sh : Option Nat} {e : Nat} {l az k : List SV} {κ : List SV → Prop} (h : G f (lrC sh e l az k)) (g : κ k) : LrQ G f sh e l az κ := ⟨⟨k, h, g⟩⟩

noncomputable def callArgs (T : Nat → Option TI) (μ : Nat → Blk) : List Nat → List SV → Option (List SV × Option (Nat × Nat × SV))
  | _ :: ts, .ptr q 0 :: xs => (match μ q with
    | .chunk t x => if dataB x then (match views T μ ts xs with | some az => some (.ptr 0 0 :: az, some (q, t, x)) | none => none) else none
    | _ => none)
  | ts, xs => (match views T μ ts xs with | some az => some (az, none) | none => none)
def isNew : Blk → Bool
  | .chunk _ _ => true
  | .row _ _ _ => true
  | .rowx _ _ _ _ => true
  | .iter _ _ => true
  | .gen _ _ _ => true
  | _ => false
def okC (d : Option Nat) (c : CT) : Bool :=
  (match c.lent with | some _ => dataB c.lent' | none => true) && (match c.new with
    | .no => dataR c.r
    | .chunk _ x => dataB x && only1 c.r && d.isSome
    | .row _ _ _ => only1 c.r && d.isSome
    | .frz _ _ => false | .rowx _ _ _ _ => false | .iter _ _ => false | .gen _ _ _ => false)
def flatC (c : CT) : Bool := flatR c.r && (match c.new with | .no => true | _ => false) && (match c.lent with | none => true | _ => false)
def lentU (q : Option (Nat × Nat × SV)) (y : SV) : List (Nat × Blk) := match q with | some (q, t, _) => [(q, .chunk t y)] | none => []
def newU (b : Blk) (d : Option Nat) : List (Nat × Blk) := match b, d with | .no, _ => [] | b, some d => [(d, b)] | _, none => []
def callU (μ : Nat → Blk) (d : Option Nat) (ids : List Nat) (q : Option (Nat × Nat × SV)) (c : CT) : List (Nat × Blk) :=
  (if flatC c then [] else frzU μ ids) ++ (lentU q c.lent' ++ newU c.new d)
def callR (d : Option Nat) (c : CT) : SV := match c.new, d with
  | .no, _ => c.r
  | _, some d => ren d c.r
  | _, none => .any
def calleeOf (e : Operand → SV) : Callee → Option (Nat × List SV)
  | .value (.func f) => some (f, [])
  | .value o => (match e o with
    | .clo f caps => if allPlain caps then some (f, caps) else none
    | _ => none)
  | _ => none
def altV (G : Nat → CT → Prop) (d : Option Nat) (f : Nat) (xs caps : List SV) (μ : Nat → Blk) (κ : SV → List (Nat × Blk) → Option Nat → Prop) : Prop :=
  match xs, caps, d with
  | .row q :: az, [], some d => (match μ q with
    | .row sh e l => if allPlain az then LrQ G f sh e l az (fun k => κ (.row d) [(q, .no), (d, .row sh e k)] (some d)) else False
    | _ => False)
  | _, _, _ => False
def callV (T : Nat → Option TI) (G : Nat → CT → Prop) (d : Option Nat) (c : Call) (e : Operand → SV) (μ : Nat → Blk) (κ : SV → List (Nat × Blk) → Option Nat → Prop) : Prop :=
  match calleeOf e c.callee with
  | some (f, caps) => (match callArgs T μ c.argTypes.toList (c.args.toList.map e) with
    | some (az, q) => CallQ G f (az ++ caps) (q.map fun p => p.2) (fun ct => if okC d ct then κ (callR d ct) (callU μ d (rids.ridsL (c.args.toList.map e)) q ct) (if isNew ct.new then d else none) else False) (fun _ => altV G d f (c.args.toList.map e) caps μ κ)
    | none => False)
  | none => False

theorem run_callFunc {f : FuncId} {fn : Func} (hf : P.funcs[f]? = some fn) (hb : fn.body.isSome = true) (hn : (fn.name == "runtime.NumGoroutine") = false) (args : Array Value) (w : World) :
    (callFunc f args).run P w = .ok (.enter f args) w := by
  have hb' : fn.body.isNone = false := by cases h : fn.body <;> simp_all
  simp only [callFunc, Sem.run_bind, run_program, Result.andThen_ok, hf, hn, hb', Bool.false_eq_true, if_false, Sem.run_pure]

theorem exec_call {o : Oper} {f : FuncId} {az : Array Operand} {ats : Array TypeId} {a : Act} (hop : o.op = .call { callee := .value (.func f), args := az, argTypes := ats }) : execOp a.eval o = callFunc f (az.map a.eval) := by
  have ef : a.eval (.func f) = .func (.func f) #[] #[] := rfl
  unfold execOp
  simp [hop, resolve, Deferred.ofValue, invoke, ef]

theorem exec_clo {o : Oper} {cal : Operand} {f : FuncId} {us : Array Value} {az : Array Operand} {ats : Array TypeId} {a : Act} (hop : o.op = .call { callee := .value cal, args := az, argTypes := ats }) (ef : a.eval cal = .func (.func f) #[] us) : execOp a.eval o = callFunc f (az.map a.eval ++ us) := by
  unfold execOp
  simp [hop, resolve, Deferred.ofValue, invoke, ef]
theorem callee_ok {o : Oper} {cal : Callee} {f : FuncId} {caps : List SV} {az : Array Operand} {ats : Array TypeId} {a : Act} {e : Operand → SV} {w : World} {Y : Nat → Prop} {ρ : Env} (hop : o.op = .call { callee := cal, args := az, argTypes := ats }) (hc : calleeOf e cal = some (f, caps)) (hd : ∀ y ∈ o.op.operands, Den w Y ρ (e y) (a.eval y)) :
    ∃ us : List Value, execOp a.eval o = callFunc f (az.map a.eval ++ ⟨us⟩) ∧ DenL w Y noEnv caps us ∧ allPlain caps = true := by
  unfold calleeOf at hc
  split at hc
  · injection hc with hc
    injection hc with h1 h2
    subst h1; subst h2
    exact ⟨[], by rw [exec_clo hop (us := #[]) rfl], ⟨rfl, fun i x u h => by simp at h⟩, rfl⟩
  · rename_i cal hn
    split at hc
    · rename_i f' caps' he
      split at hc
      · rename_i hp
        injection hc with hc
        injection hc with h1 h2
        subst h1; subst h2
        have hv := hd cal (by rw [hop]; simp [Op.operands, Call.operands])
        rw [he] at hv
        generalize hq : a.eval cal = v at hv
        cases hv with
        | clo _ _ _ us hl h => exact ⟨us, exec_clo hop hq, ⟨hl, fun i x u hx hu => by
            obtain ⟨h1, rfl⟩ := List.getElem?_eq_some_iff.1 hx
            obtain ⟨h2, rfl⟩ := List.getElem?_eq_some_iff.1 hu
            exact h i h1 h2⟩, hp⟩
      · cases hc
    · cases hc
  · cases hc

theorem Den.plain_env {w : World} {X : Nat → Prop} {ρ ρ' : Env} {x : SV} {v : Value} (h : Den w X ρ x v) (hd : dataR x = true) : Den w X ρ' x v := h.env fun q => .inr (.inr (dataR_noref hd q))
end Go.Proofs.Ytapcbkcnokoljaa
namespace Go.Proofs.Ytapcbkcnokoljaa
set_option linter.unusedVariables false
set_option linter.unusedSimpArgs false
open Go.RowKit
variable {P : Program} {T : Nat → Option TI}

def lblk (ρ : Env) (q : Option (Nat × Nat × SV)) (b : Nat) : Prop := ∃ r t x, q = some (r, t, x) ∧ ρ r = some (.pointer (some ⟨b, 0, none⟩))
def envC (ρ : Env) (q : Option (Nat × Nat × SV)) : Env := fun r => if r = 0 then (match q with | some (k, _, _) => ρ k | none => none) else none
def nC (w : World) (ρ : Env) (q : Option (Nat × Nat × SV)) : Nat → Prop := fun b => w.heap.size ≤ b ∨ lblk ρ q b
def xC (Z : Nat → Prop) (ρ : Env) (q : Option (Nat × Nat × SV)) : Nat → Prop := fun b => Z b ∧ ¬ lblk ρ q b

structure Lent (mem : Mem) (q : Option (Nat × Nat × SV)) : Prop where
  h : ∀ r t x, q = some (r, t, x) → getM mem r = .chunk t x ∧ dataB x = true

theorem forbC {mem : Mem} {q : Option (Nat × Nat × SV)} (lq : Lent mem q) {X : Nat → Prop} {ρ : Env} {c : CT} (hc : c.lent = q.map fun p => p.2) {Z : Nat → Prop} (hZ : ∀ b, Z b → Forb X mem ρ b) {b : Nat} (h : Forb (xC Z ρ q) (inM c) (envC ρ q) b) : Forb X mem ρ b := by
  rcases h with h | ⟨r, v, h1, h2, h3⟩
  · exact hZ b h.1
  · rw [getM_in] at h1
    split at h1
    case isFalse => simp [Blk.own] at h1
    rename_i hr
    subst hr
    cases hq : q with
    | none => rw [hq] at hc; rw [hc] at h1; simp [lentB, Blk.own] at h1
    | some p =>
      obtain ⟨k, t, x⟩ := p
      obtain ⟨g1, g2⟩ := lq.h k t x hq
      simp only [envC, if_true, hq] at h2
      exact .inr ⟨k, v, by rw [g1]; rfl, h2, h3⟩

theorem call_in {N : Nat → Prop} {w0 w : World} {X : Nat → Prop} {mem : Mem} {ρ : Env} (m : MRep T N w0 w X mem ρ) {q : Option (Nat × Nat × SV)} (lq : Lent mem q) {c : CT} (hc : c.lent = q.map fun p => p.2) {Z : Nat → Prop} (hZ : ∀ b, Z b → Forb X mem ρ b) :
    MRep T (nC w ρ q) w w (xC Z ρ q) (inM c) (envC ρ q) := by
  refine ⟨fun b h => ⟨m.forb_lt (hZ b h.1), fun hn => ?_⟩, .refl _ _, fun b h => .inl h, fun r => ?_, fun r r' v v' b h1 h2 _ _ _ _ => ?_, gl_mono m.gl (Nat.le_refl _) fun b _ hf => ⟨fun hf' => hf (forbC lq hc hZ hf'), rfl⟩⟩
  · rcases hn with hn | hn
    · have := m.forb_lt (hZ b h.1); omega
    · exact h.2 hn
  · rw [getM_in]
    by_cases hr : r = 0
    · subst hr
      rw [if_pos rfl]
      cases hq : q with
      | none => rw [hq] at hc; rw [hc]; simp only [Option.map_none, lentB, envC, if_true]; rfl
      | some p =>
        obtain ⟨k, t, x⟩ := p
        obtain ⟨g1, g2⟩ := lq.h k t x hq
        have hb := m.blk k
        rw [g1] at hb
        obtain ⟨i, b, us, ty, h1, h2, h3, h4, h5, h6, h7⟩ := hb
        rw [hc, hq]
        simp only [Option.map_some, lentB, envC, if_true]
        refine ⟨i, b, us, ty, h1, h2, .inr ⟨k, t, x, rfl, h2⟩, h4, h5, h6, ?_⟩
        have := (h7.mono (w' := w) (X' := Forb (xC Z ρ q) (inM c) (envC ρ q)) (Nat.le_refl _) (fun b _ hf => ⟨fun hf' => hf (forbC lq hc hZ hf'), rfl⟩)).data (ρ' := envC ρ q) g2
        rw [hq] at this
        exact this
    · rw [if_neg hr]
      show envC ρ q r = none
      simp only [envC, if_neg hr]
  · rw [getM_in] at h1 h2
    have k : ∀ r, (if r = 0 then lentB c.lent else Blk.no).own = true → r = 0 := by
      intro r h
      by_cases hr : r = 0
      · exact hr
      · rw [if_neg hr] at h; simp [Blk.own] at h
    rw [k r h1, k r' h2]

def memL (q : Option (Nat × Nat × SV)) (y : SV) (mem : Mem) (r : Nat) : Blk := match q with | some (k, t, _) => if r = k then .chunk t y else getM mem r | none => getM mem r
theorem isNew_own {b : Blk} (h : b.own = true) : isNew b = true := by cases b <;> simp_all [Blk.own, isNew]

theorem call_out {N : Nat → Prop} {w0 w w' : World} {X : Nat → Prop} {mem : Mem} {ρ ρc : Env} (m : MRep T N w0 w X mem ρ) {q : Option (Nat × Nat × SV)} (lq : Lent mem q) {c : CT} (hc : c.lent = q.map fun p => p.2) {Z : Nat → Prop} (_hZ : ∀ b, Z b → Forb X mem ρ b)
    (mc : MRep T (nC w ρ q) w w' (xC Z ρ q) (outM c) ρc) (h0 : ρc 0 = envC ρ q 0) {d : Option Nat} (hok : okC d c = true) {cr : Option Nat} (hcr : cr = if isNew c.new then d else none)
    (hfr : ∀ k, cr = some k → getM mem k = .no ∧ memNoref k mem = true) (hqd : ∀ r t x, q = some (r, t, x) → cr ≠ some r) (hfull : (∀ b, Forb X mem ρ b → Z b) ∨ flatC c = true) {v : Value} (hv : Den w' (Forb (xC Z ρ q) (outM c) ρc) ρc c.r v) :
    let U := lentU q c.lent' ++ newU c.new d
    let ρ' : Env := fun r => if cr = some r then ρc 1 else ρ r
    MRep T N w0 w' X (appU U mem) ρ' ∧ Turn w (Forb X mem ρ) ρ w' (Forb X (appU U mem) ρ') ρ' cr ∧ Den w' (Forb X (appU U mem) ρ') ρ' (callR d c) v := by
  intro U ρ'
  simp only [okC, Bool.and_eq_true] at hok
  obtain ⟨ok1, ok2⟩ := hok
  have hg : ∀ r, getM (appU U mem) r = if cr = some r then c.new else memL q c.lent' mem r := by
    intro r
    cases q with
    | none =>
      cases hn : c.new with
      | no => simp only [U, hn, hcr, isNew, Bool.false_eq_true, if_false, lentU, newU, memL]; simp [appU]
      | frz sh l => rw [hn] at ok2; cases ok2
      | rowx _ _ _ _ => rw [hn] at ok2; cases ok2
      | iter _ _ => rw [hn] at ok2; cases ok2
      | gen _ _ _ => rw [hn] at ok2; cases ok2
      | _ =>
        rw [hn] at ok2
        simp only [Bool.and_eq_true] at ok2
        cases hd : d with
        | none => rw [hd] at ok2; simp at ok2
        | some k =>
          simp only [U, hn, hd, hcr, isNew, if_true, lentU, newU, memL, List.nil_append, appU, getM_setM, Option.some.injEq, eq_comm]
    | some p =>
      obtain ⟨k0, t, x⟩ := p
      have hne := hqd k0 t x rfl
      cases hn : c.new with
      | no =>
        have e1 : newU Blk.no d = [] := by cases d <;> rfl
        simp only [U, e1, hcr, hn, isNew, Bool.false_eq_true, if_false, lentU, memL, List.append_nil, appU, getM_setM]
        simp
      | frz sh l => rw [hn] at ok2; cases ok2
      | rowx _ _ _ _ => rw [hn] at ok2; cases ok2
      | iter _ _ => rw [hn] at ok2; cases ok2
      | gen _ _ _ => rw [hn] at ok2; cases ok2
      | _ =>
        rw [hn] at ok2
        simp only [Bool.and_eq_true] at ok2
        cases hd : d with
        | none => rw [hd] at ok2; simp at ok2
        | some k =>
          simp only [U, hn, hd, hcr, isNew, if_true, lentU, newU, memL, List.singleton_append, appU, getM_setM, Option.some.injEq]
          by_cases hr : r = k
          · subst hr; simp
          · rw [if_neg hr, if_neg (Ne.symm hr)]
  have hN0 : ∀ b, lblk ρ q b → ∃ r t x, q = some (r, t, x) ∧ (getM mem r).own = true ∧ ρ r = some (.pointer (some ⟨b, 0, none⟩)) ∧ N b := by
    rintro b ⟨r, t, x, hq, hr⟩
    have g := (lq.h r t x hq).1
    refine ⟨r, t, x, hq, by rw [g]; rfl, hr, (m.owned_lt ⟨r, _, by rw [g]; rfl, hr, rfl⟩).1⟩
  have hnew1 : ∀ k, cr = some k → isNew c.new = true ∧ d = some k := by
    intro k hk
    rw [hcr] at hk
    split at hk
    · rename_i h; exact ⟨h, hk⟩
    · cases hk
  have out1 : getM (outM c) 1 = c.new := by rw [getM_out]; simp
  have out0 : getM (outM c) 0 = lentB' c.lent c.lent' := by rw [getM_out]; simp
  have hnb : ∀ u b, ρc 1 = some u → vblock u = some b → c.new.own = true → w.heap.size ≤ b ∧ b < w'.heap.size := by
    intro u b hu hb ho
    obtain ⟨g1, g2⟩ := mc.owned_lt ⟨1, u, by rw [out1]; exact ho, hu, hb⟩
    refine ⟨g1.resolve_right fun hl => ?_, g2⟩
    obtain ⟨r, t, x, hq, _, hr, _⟩ := hN0 b hl
    have e0 : ρc 0 = some (.pointer (some ⟨b, 0, none⟩)) := by rw [h0]; simp only [envC, if_true, hq]; exact hr
    have := mc.inj 0 1 _ _ b (by rw [out0, hc, hq]; rfl) (by rw [out1]; exact ho) e0 hu rfl hb
    omega
  have hfo : ∀ b, Forb X (appU U mem) ρ' b → b < w'.heap.size → w.heap.size ≤ b ∨ Forb X mem ρ b := by
    rintro b (h | ⟨r, u, g1, g2, g3⟩) hlt
    · exact .inr (.inl h)
    · rw [hg] at g1
      by_cases hr : cr = some r
      · rw [if_pos hr] at g1
        simp only [ρ', if_pos hr] at g2
        exact .inl (hnb u b g2 g3 g1).1
      · rw [if_neg hr] at g1
        simp only [ρ', if_neg hr] at g2
        refine .inr (.inr ⟨r, u, ?_, g2, g3⟩)
        cases hq : q with
        | none => rw [hq] at g1; exact g1
        | some p =>
          obtain ⟨k, t, x⟩ := p
          rw [hq] at g1
          simp only [memL] at g1
          split at g1
          · rename_i hk; rw [hk, (lq.h k t x hq).1]; rfl
          · exact g1
  have hback : (∀ b, Forb X mem ρ b → Z b) → ∀ b, Forb X (appU U mem) ρ' b → Forb (xC Z ρ q) (outM c) ρc b := by
    intro hZ' b hb
    have old : Forb X mem ρ b → Forb (xC Z ρ q) (outM c) ρc b := by
      intro h
      by_cases hl : lblk ρ q b
      · obtain ⟨r, t, x, hq, _, hr, _⟩ := hN0 b hl
        refine .inr ⟨0, .pointer (some ⟨b, 0, none⟩), by rw [out0, hc, hq]; rfl, ?_, rfl⟩
        rw [h0]; simp only [envC, if_true, hq]; exact hr
      · exact .inl ⟨hZ' b h, hl⟩
    rcases hb with h | ⟨r, u, g1, g2, g3⟩
    · exact old (.inl h)
    · rw [hg] at g1
      by_cases hr : cr = some r
      · rw [if_pos hr] at g1
        simp only [ρ', if_pos hr] at g2
        exact .inr ⟨1, u, by rw [out1]; exact g1, g2, g3⟩
      · rw [if_neg hr] at g1
        simp only [ρ', if_neg hr] at g2
        refine old (.inr ⟨r, u, ?_, g2, g3⟩)
        cases hq : q with
        | none => rw [hq] at g1; exact g1
        | some p =>
          obtain ⟨k, t, x⟩ := p
          rw [hq] at g1
          simp only [memL] at g1
          split at g1
          · rename_i hk; rw [hk, (lq.h k t x hq).1]; rfl
          · exact g1
  have hlift : (∀ b, Forb X mem ρ b → Z b) → ∀ {ρ0 : Env} {x : SV} {u : Value}, Den w' (Forb (xC Z ρ q) (outM c) ρc) ρ0 x u → Den w' (Forb X (appU U mem) ρ') ρ0 x u := fun hZ' ρ0 x u h =>
    h.mono (Nat.le_refl _) fun b _ hf => ⟨fun hf' => hf (hback hZ' b hf'), rfl⟩
  have hflat : flatC c = true → flatR c.r = true ∧ c.new = .no ∧ q = none := by
    intro h
    simp only [flatC, Bool.and_eq_true] at h
    refine ⟨h.1.1, ?_, ?_⟩
    · have := h.1.2; cases hn : c.new <;> rw [hn] at this <;> first | rfl | cases this
    · have := h.2
      rw [hc] at this
      cases hq : q with
      | none => rfl
      | some p => rw [hq] at this; cases this
  have hB : Turn w (Forb X mem ρ) ρ w' (Forb X (appU U mem) ρ') ρ' cr → ∀ r, ((∃ t x, q = some (r, t, x)) ∨ cr = some r) → BlkRep T N w' (Forb X (appU U mem) ρ') ρ' (getM (appU U mem) r) (ρ' r) := by
    intro tn r hr
    have hZ' : ∀ b, Forb X mem ρ b → Z b := by
      rcases hfull with h | h
      · exact h
      · exfalso
        obtain ⟨_, f2, f3⟩ := hflat h
        rcases hr with ⟨t, x, hr⟩ | hr
        · rw [f3] at hr; cases hr
        · have := (hnew1 r hr).1; rw [f2] at this; cases this
    by_cases hrc : cr = some r
    · rw [hg, if_pos hrc]
      simp only [ρ', if_pos hrc]
      obtain ⟨hn, hd⟩ := hnew1 r hrc
      have hb := mc.blk 1
      rw [out1] at hb
      cases hnw : c.new with
      | no => rw [hnw] at hn; cases hn
      | frz sh l => rw [hnw] at hn; cases hn
      | rowx _ _ _ _ => rw [hnw] at ok2; cases ok2
      | iter _ _ => rw [hnw] at ok2; cases ok2
      | gen _ _ _ => rw [hnw] at ok2; cases ok2
      | chunk t x =>
        rw [hnw] at hb ok2
        simp only [Bool.and_eq_true] at ok2
        obtain ⟨i, b, us, ty, h1, h2, h3, h4, h5, h6, h7⟩ := hb
        exact ⟨i, b, us, ty, h1, h2, m.szN b (hnb _ b h2 rfl (by rw [hnw]; rfl)).1, h4, h5, h6, (hlift hZ' h7).data ok2.1.1⟩
      | row sh e l =>
        rw [hnw] at hb
        obtain ⟨u, h1, h2⟩ := hb
        refine ⟨u, h1, ?_⟩
        rcases h2 with h2 | ⟨b, off, cap, cur, rfl, k1, k2, k3, k4, k5, k6, k7, k8⟩
        · exact .inl h2
        · exact .inr ⟨b, off, cap, cur, rfl, m.szN b (hnb _ b h1 (by simp only [vblock]; rw [if_neg (by omega)]) (by rw [hnw]; rfl)).1, k2, k3, k4, k5, k6, k7, fun i hi => hlift hZ' (k8 i hi)⟩
    · obtain ⟨t, x, hq⟩ := hr.resolve_right hrc
      rw [hg, if_neg hrc, hq]
      simp only [memL, if_true, ρ', if_neg hrc]
      have hb := mc.blk 0
      rw [out0, hc, hq] at hb
      simp only [Option.map_some, lentB'] at hb
      have e0 : ρc 0 = ρ r := by rw [h0]; simp only [envC, if_true, hq]
      rw [e0] at hb
      obtain ⟨i, b, us, ty, h1, h2, h3, h4, h5, h6, h7⟩ := hb
      rw [hc, hq] at ok1
      obtain ⟨_, _, _, hq', _, _, hNb⟩ := hN0 b ⟨r, t, x, hq, h2⟩
      have h7' := (hlift hZ' (show Den w' (Forb (xC Z ρ q) (outM c) ρc) ρc c.lent' (valAt i.shape us.toList 0) by rw [hq]; exact h7)).data (ρ' := ρ') ok1
      exact ⟨i, b, us, ty, h1, h2, hNb, h4, h5, h6, h7'⟩
  have hbel : BelowW N w w' := ⟨mc.below.os, mc.below.tape, mc.below.output, mc.below.size, fun k hk hnk => mc.below.block k hk fun hn => by
    rcases hn with hn | hn
    · omega
    · obtain ⟨_, _, _, _, _, _, hNb⟩ := hN0 k hn; exact hnk hNb⟩
  obtain ⟨m', t'⟩ := m.step (w' := w') (mem' := appU U mem) (ρ' := ρ') (fun r => (∃ t x, q = some (r, t, x)) ∨ cr = some r) cr hbel (fun r hr => by
      have h1 : cr ≠ some r := fun h => hr (.inr h)
      refine ⟨?_, by simp only [ρ', if_neg h1]⟩
      rw [hg, if_neg h1]
      cases hq : q with
      | none => rfl
      | some p =>
        obtain ⟨k, t, x⟩ := p
        simp only [memL]
        rw [if_neg]
        rintro rfl
        exact hr (.inl ⟨t, x, hq⟩))
    (fun r hr => by
      by_cases h1 : cr = some r
      · exact .inr (.inr h1)
      · exact .inr (.inl (by simp only [ρ', if_neg h1])))
    (fun r hr => (hfr r hr).2)
    (fun b hb => by
      by_cases hl : lblk ρ q b
      · obtain ⟨r, t, x, hq, k1, k2, _⟩ := hN0 b hl
        exact .inr ⟨r, _, .inl ⟨t, x, hq⟩, k1, k2, rfl⟩
      · exact .inl (mc.below.block b hb fun hn => hn.elim (by omega) hl))
    (fun r u b hr g1 g2 g3 => by
      rw [hg] at g1
      by_cases h1 : cr = some r
      · rw [if_pos h1] at g1
        simp only [ρ', if_pos h1] at g2
        exact .inl (hnb u b g2 g3 g1)
      · simp only [ρ', if_neg h1] at g2
        obtain ⟨t, x, hq⟩ := hr.resolve_right h1
        exact .inr ⟨r, u, .inl ⟨t, x, hq⟩, by rw [(lq.h r t x hq).1]; rfl, g2, g3⟩)
    (fun r r' u u' b hr hr' g1 g2 g3 g4 g5 g6 => by
      have side : ∀ r r' u u', cr = some r → cr ≠ some r' → (getM (appU U mem) r).own = true → (∃ t x, q = some (r', t, x)) → ρ' r = some u → ρ' r' = some u' → vblock u = some b → vblock u' = some b → False := by
        intro r r' u u' h1 h2 k1 ⟨t, x, hq⟩ k3 k4 k5 k6
        rw [hg, if_pos h1] at k1
        simp only [ρ', if_pos h1] at k3
        simp only [ρ', if_neg h2] at k4
        have a1 := (hnb u b k3 k5 k1).1
        have a2 := (m.owned_lt ⟨r', u', by rw [(lq.h r' t x hq).1]; rfl, k4, k6⟩).2
        omega
      by_cases h1 : cr = some r <;> by_cases h2 : cr = some r'
      · rw [h1] at h2; injection h2
      · exact (side r r' u u' h1 h2 g1 (hr'.resolve_right h2) g3 g4 g5 g6).elim
      · exact (side r' r u' u h2 h1 g2 (hr.resolve_right h1) g4 g3 g6 g5).elim
      · obtain ⟨t, x, hq⟩ := hr.resolve_right h1
        obtain ⟨t', x', hq'⟩ := hr'.resolve_right h2
        rw [hq] at hq'
        injection hq' with hq'
        injection hq')
    hB
  refine ⟨m', t', ?_⟩
  cases hnw : c.new with
  | no =>
    rw [hnw] at ok2
    have hr : callR d c = c.r := by simp only [callR, hnw]
    rw [hr]
    rcases hfull with h | h
    · exact (hlift h hv).plain_env ok2
    · exact hv.flat (hflat h).1
  | frz sh l => rw [hnw] at ok2; cases ok2
  | rowx _ _ _ _ => rw [hnw] at ok2; cases ok2
  | iter _ _ => rw [hnw] at ok2; cases ok2
  | gen _ _ _ => rw [hnw] at ok2; cases ok2
  | _ =>
    rw [hnw] at ok2
    simp only [Bool.and_eq_true] at ok2
    have hZ' : ∀ b, Forb X mem ρ b → Z b := by
      rcases hfull with h | h
      · exact h
      · have := (hflat h).2.1; rw [hnw] at this; cases this
    cases hd : d with
    | none => rw [hd] at ok2; simp at ok2
    | some k =>
      have hr : callR (some k) c = ren k c.r := by simp only [callR, hnw]
      rw [hr]
      have hcrk : cr = some k := by rw [hcr, hnw]; simp [isNew, hd]
      refine (hlift hZ' hv).ren ?_ (by simp only [ρ', if_pos hcrk])
      first | exact ok2.1.2 | exact ok2.1

theorem views_same {μ μ' : Nat → Blk} : ∀ {ts : List Nat} {l l' : List SV}, (∀ r ∈ rids.ridsL l, ∀ sh k, ((∃ e, μ r = .row sh e k) → μ' r = .frz sh k) ∧ (μ r = .frz sh k → μ' r = .frz sh k)) → views T μ ts l = some l' → views T μ' ts l = some l' ∧ live.lives μ' l = false
  | [], [], l', _, hv => ⟨hv, rfl⟩
  | [], _ :: _, l', _, hv => by simp [views] at hv
  | _ :: _, [], l', _, hv => by simp [views] at hv
  | t :: ts, x :: l, l', h, hv => by
    simp only [views] at hv
    cases h1 : view T μ t x with
    | none => rw [h1] at hv; cases hv
    | some y =>
      cases h2 : views T μ ts l with
      | none => rw [h1, h2] at hv; cases hv
      | some ys =>
        obtain ⟨a1, a2⟩ := view_same (T := T) (fun r hr => h r (by simp [rids.ridsL, hr])) h1
        obtain ⟨b1, b2⟩ := views_same (ts := ts) (fun r hr => h r (by simp [rids.ridsL, hr])) h2
        rw [h1, h2] at hv
        simp only [views, a1, b1, live.lives, a2, b2, Bool.or_self]
        exact ⟨hv, trivial⟩
theorem views_data {μ : Nat → Blk} : ∀ {ts : List Nat} {l l' : List SV}, views T μ ts l = some l' → ∀ (i : Nat) (y : SV), l'[i]? = some y → dataB y = true
  | [], [], l', hv, i, y, hy => by simp only [views] at hv; injection hv with hv; subst hv; simp at hy
  | [], _ :: _, l', hv, _, _, _ => by simp [views] at hv
  | _ :: _, [], l', hv, _, _, _ => by simp [views] at hv
  | t :: ts, x :: l, l', hv, i, y, hy => by
    simp only [views] at hv
    cases h1 : view T μ t x with
    | none => rw [h1] at hv; cases hv
    | some y' =>
      cases h2 : views T μ ts l with
      | none => rw [h1, h2] at hv; cases hv
      | some ys =>
        rw [h1, h2] at hv
        injection hv with hv; subst hv
        cases i with
        | zero => simp at hy; subst hy; exact view_data h1
        | succ i => exact views_data h2 i y (by simpa using hy)

theorem callArgs_some {μ : Nat → Blk} {ts : List Nat} {xs az : List SV} {q : Option (Nat × Nat × SV)} (h : callArgs T μ ts xs = some (az, q)) :
    (q = none ∧ views T μ ts xs = some az) ∨ ∃ t0 ts' k xs' t x az', ts = t0 :: ts' ∧ xs = .ptr k 0 :: xs' ∧ μ k = .chunk t x ∧ dataB x = true ∧ views T μ ts' xs' = some az' ∧ az = .ptr 0 0 :: az' ∧ q = some (k, t, x) := by
  unfold callArgs at h
  split at h
  · rename_i t0 ts' k xs'
    split at h
    · rename_i t x hm
      split at h
      · rename_i hd
        split at h
        · rename_i az' hv
          injection h with h
          injection h with h1 h2
          exact .inr ⟨t0, ts', k, xs', t, x, az', rfl, rfl, hm, hd, hv, h1.symm, h2.symm⟩
        · cases h
      · cases h
    · cases h
  · split at h
    · rename_i az' hv
      injection h with h
      injection h with h1 h2
      subst h1
      exact .inl ⟨h2.symm, hv⟩
    · cases h

theorem DenL.app' {w : World} {X : Nat → Prop} {ρ : Env} {xs ys : List SV} {us vs : List Value} (h : DenL w X ρ xs us) (g : DenL w X ρ ys vs) : DenL w X ρ (xs ++ ys) (us ++ vs) := by
  refine ⟨by simp [h.1, g.1], fun i x u hx hu => ?_⟩
  by_cases hi : i < xs.length
  · rw [List.getElem?_append_left hi] at hx
    rw [List.getElem?_append_left (by rw [← h.1]; exact hi)] at hu
    exact h.2 i x u hx hu
  · rw [List.getElem?_append_right (by omega)] at hx
    rw [List.getElem?_append_right (by rw [← h.1]; omega), ← h.1] at hu
    exact g.2 _ x u hx hu
theorem rsl_at {w : World} {X : Nat → Prop} {ρ : Env} {q a n : Nat} {sh : Option Nat} {c : Option Nat} {v v0 : Value} (h : Den w X ρ (.rsl q sh a n c) v) (hv : ρ q = some v0) :
    ∃ x cc x0 len cap, v = .slice x n cc ∧ n ≤ cc ∧ v0 = .slice x0 len cap ∧ a + n ≤ len ∧ a + cc ≤ cap ∧ (c = none → cc = cap - a) ∧ (∀ m, c = some m → cc = m) ∧ (cc = 0 ∨ ∃ b off, x0 = some ⟨b, off, none⟩ ∧ x = some ⟨b, off + a * wid sh, none⟩) := by
  cases h with
  | rsl _ _ _ _ _ _ x cc hc hr =>
    obtain ⟨x0, len, cap, h1, h2, h3, h4, h5, h6⟩ := hr _ hv
    exact ⟨x, cc, x0, len, cap, rfl, hc, h1, h2, h3, h4, h5, h6⟩
theorem altV_ok {G : Nat → CT → Prop} (hG : ∀ f c, G f c → ACall P T f c) {o : Oper} {cal : Callee} {args : Array Operand} {ats : Array TypeId} (ho : o.op = .call ⟨cal, args, ats⟩) {d : Option Nat} {e : Operand → SV} {μ : Nat → Blk} {κ : SV → List (Nat × Blk) → Option Nat → Prop} {f : Nat} {caps : List SV} (hcal : calleeOf e cal = some (f, caps))
    (h : altV G d f (args.toList.map e) caps μ κ) : ∃ x U cr, κ x U cr ∧ (∀ q b, (q, b) ∈ U → cr = some q ∨ (μ q).own = true) ∧ (∀ k, cr = some k → d = some k) ∧ Eff P T o e μ x U cr := by
  unfold altV at h
  split at h <;> try exact h.elim
  rename_i xs caps' d' q az d hxs
  split at h <;> try exact h.elim
  rename_i sh el l hm
  split at h <;> try exact h.elim
  rename_i hpl
  obtain ⟨k, hg, h⟩ := h.h
  refine ⟨_, _, _, h, (fun q' b hq => by
    simp only [List.mem_cons, Prod.mk.injEq, List.not_mem_nil, or_false] at hq
    rcases hq with ⟨rfl, _⟩ | ⟨rfl, _⟩
    · rw [hm]; exact .inr rfl
    · exact .inl rfl), (fun k hk => hk), ⟨fun mem hμ hcr a N w0 w X ρ m hd K Q hK ro nn => ⟨fun _ _ => trivial, ?_⟩⟩⟩
  obtain ⟨hno, hnr, hnn⟩ := hcr d rfl
  have ac := hG _ _ hg
  obtain ⟨fn, hf, hb, hn⟩ := ac.fn
  obtain ⟨us, hex, hcaps, hcp⟩ := callee_ok ho hcal hd
  obtain rfl : us = [] := List.eq_nil_of_length_eq_zero (by rw [← hcaps.1]; rfl)
  have hrun : (execOp a.eval o).run P w = .ok (.enter f (args.map a.eval ++ ⟨[]⟩)) w := by rw [hex, run_callFunc hf hb hn]
  rw [semAt_exec hrun (fun d hd => by cases hd), hrun, Oper.uponIn_enter]
  refine ⟨fun h => by simp [FR, Fence.wide] at h, calls_FR ?_⟩
  have hden : DenL w (Forb X mem ρ) ρ (args.toList.map e) (args.toList.map a.eval) := by
    refine ⟨by simp, fun i x v hx hv => ?_⟩
    simp only [List.getElem?_map, Option.map_eq_some_iff] at hx hv
    obtain ⟨y, hy, rfl⟩ := hx
    obtain ⟨y', hy', rfl⟩ := hv
    rw [hy] at hy'
    injection hy' with hy'
    subst hy'
    refine hd y ?_
    rw [ho]
    simp only [Op.operands, Call.operands]
    have : y ∈ args := by simpa using List.mem_of_getElem? hy
    simp [this]
  rw [hxs] at hden
  have hgm : getM mem q = .row sh el l := hμ.row hm (by simp)
  obtain ⟨v0, hv0, hg', hcase⟩ := hμ.rowAt m hm
  have hqd : q ≠ d := fun h => by rw [h, hno] at hgm; cases hgm
  have hown : ∀ b, vblock v0 = some b → owned mem ρ b := fun b hb => ⟨q, v0, by rw [hgm]; rfl, hv0, hb⟩
  generalize hN' : (fun b => w.heap.size ≤ b ∨ vblock v0 = some b : Nat → Prop) = N'
  generalize hX' : (fun b => Forb X mem ρ b ∧ vblock v0 ≠ some b : Nat → Prop) = X'
  generalize hρ' : (fun r => if r = 0 then some v0 else none : Env) = ρ'
  have fb : ∀ (l' : List SV) (ρ1 : Env), ρ1 0 = some v0 → ∀ b, Forb X' [(0, .row sh el l')] ρ1 b ↔ Forb X mem ρ b := by
    intro l' ρ1 h1 b
    constructor
    · rintro (h | ⟨r, v, g1, g2, g3⟩)
      · rw [← hX'] at h; exact h.1
      · simp only [getM] at g1
        split at g1
        · rename_i hr
          have hr := Nat.eq_of_beq_eq_true hr
          subst hr
          rw [h1] at g2
          injection g2 with g2
          subst g2
          exact .inr (hown b g3)
        · simp [Blk.own] at g1
    · intro h
      by_cases hb : vblock v0 = some b
      · exact .inr ⟨0, v0, rfl, h1, hb⟩
      · left; rw [← hX']; exact ⟨h, hb⟩
  have fbe : ∀ (l' : List SV) (ρ1 : Env), ρ1 0 = some v0 → Forb X' [(0, .row sh el l')] ρ1 = Forb X mem ρ := fun l' ρ1 h1 => funext fun b => propext (fb l' ρ1 h1 b)
  have hr0 : ρ' 0 = some v0 := by rw [← hρ']; rfl
  have min : MRep T N' w w X' [(0, .row sh el l)] ρ' := by
    refine ⟨fun b hb => ?_, .refl _ _, fun b hb => by rw [← hN']; exact .inl hb, fun r => ?_, fun r r' v v' b g1 g2 _ _ _ _ => ?_, ?_⟩
    · rw [← hX'] at hb
      refine ⟨m.forb_lt hb.1, fun hn => ?_⟩
      rw [← hN'] at hn
      rcases hn with hn | hn
      · have := m.forb_lt hb.1; omega
      · exact hb.2 hn
    · by_cases hr : r = 0
      · subst hr
        rw [fbe _ _ hr0, hr0]
        show BlkRep T N' w _ ρ' (.row sh el l) (some v0)
        refine ⟨v0, rfl, ?_⟩
        rcases hcase with h1 | ⟨b, off, cap, cur, rfl, k1, k2, k3, k4, k5, k6, k7, k8⟩
        · exact .inl h1
        · exact .inr ⟨b, off, cap, cur, rfl, by rw [← hN']; right; simp only [vblock]; rw [if_neg (by omega)], k2, k3, k4, k5, k6, k7, k8⟩
      · have e1 : getM [(0, Blk.row sh el l)] r = .no := by
          simp only [getM]
          rw [if_neg]
          intro h; exact hr (Nat.eq_of_beq_eq_true h).symm
        rw [e1, ← hρ']
        show (if r = 0 then some v0 else none) = none
        rw [if_neg hr]
    · have key : ∀ r, (getM [(0, Blk.row sh el l)] r).own = true → r = 0 := fun r h => by
        simp only [getM] at h
        split at h
        · rename_i hr; exact (Nat.eq_of_beq_eq_true hr).symm
        · simp [Blk.own] at h
      rw [key r g1, key r' g2]
    · rw [fbe _ _ hr0]; exact m.gl
  have hargs : DenL w (Forb X' [(0, .row sh el l)] ρ') ρ' (.row 0 :: az) (args.toList.map a.eval) := by
    rw [fbe _ _ hr0]
    refine ⟨by rw [← hden.1]; rfl, fun i x u hx hu => ?_⟩
    cases i with
    | zero =>
      simp only [List.getElem?_cons_zero, Option.some.injEq] at hx
      subst hx
      have h0 := hden.2 0 _ u rfl hu
      generalize u = u' at h0
      cases h0 with
      | row _ _ a1 n1 c1 hr =>
        refine .row _ 0 _ _ _ fun q' hq' => ?_
        rw [hr0] at hq'
        injection hq' with hq'
        subst hq'
        exact hr _ hv0
    | succ i =>
      have hx' : az[i]? = some x := by simpa using hx
      have := hden.2 (i + 1) x u (by simpa using hx') hu
      refine this.env fun r => .inr (.inr ?_)
      obtain ⟨h1, rfl⟩ := List.getElem?_eq_some_iff.1 hx'
      exact plain_noref (allPlain_get hpl i h1) r
  have hcall := ac.lr sh el l az k rfl N' w X' ρ' _ min hargs
  have e1 : (⟨args.toList.map a.eval⟩ : Array Value) = args.map a.eval ++ ⟨[]⟩ := by apply Array.ext'; simp
  rw [e1] at hcall
  refine hcall.mono fun en w' hh => ?_
  obtain ⟨v, l', ρc, rfl, mc, h0, htk, hv⟩ := hh
  rw [hr0] at h0
  have hfc := fbe l' ρc h0
  have hblk := mc.blk 0
  rw [h0, hfc] at hblk
  rw [hfc] at hv
  obtain ⟨v0', e2, hcase'⟩ := (show BlkRep T N' w' (Forb X mem ρ) ρc (.row sh el l') (some v0) from hblk)
  injection e2 with e2
  subst e2
  have hN : ∀ b, N' b → N b := fun b hb => by
    rw [← hN'] at hb
    rcases hb with hb | hb
    · exact m.szN b hb
    · exact (m.owned_lt (hown b hb)).1
  obtain ⟨x, cc, x0, len, cap, f1, f2, f3, f4, f5, f6, _, f8⟩ := rsl_at hv h0
  have hkl : k.length ≤ l'.length := by rw [← htk, List.length_take]; omega
  obtain ⟨m', t'⟩ := m.move (w' := w') (by rw [hgm]; rfl) hv0 hqd hno hnr (B := .row sh el k) (v := v) ⟨mc.below.os, mc.below.tape, mc.below.output, mc.below.size, fun b h1 h2 => mc.below.block b h1 fun h => h2 (hN b h)⟩
    (fun b h1 h2 => mc.below.block b h1 fun h => by rw [← hN'] at h; exact h.elim (fun h => absurd h (by omega)) h2)
    (fun b hb => .inr (by
      rw [f1] at hb
      cases x with
      | none => simp [vblock] at hb
      | some x =>
        simp only [vblock] at hb
        split at hb
        · cases hb
        · rename_i hc
          rcases f8 with f8 | ⟨b1, off, f8, f9⟩
          · exact absurd f8 hc
          · injection f9 with f9
            subst f9
            injection hb with hb
            subst hb
            rw [f3, f8]
            simp only [vblock]
            rw [if_neg (by omega)]))
    (fun tn => by
      have lift : ∀ {x : SV} {u : Value}, Den w' (Forb X mem ρ) noEnv x u → Den w' (Forb X (setM (.row sh el k) (setM .no mem q) d) (fun r => if r = d then some v else if r = q then none else ρ r)) noEnv x u := fun hd => hd.mono (Nat.le_refl _) fun b _ hb => ⟨fun hf' => by
        rcases hf' with hf' | ⟨r, u, g1, g2, g3⟩
        · exact hb (.inl hf')
        · simp only [getM_setM] at g1
          by_cases hr : r = d
          · subst hr
            simp only [if_true] at g2
            injection g2 with g2
            subst g2
            rw [f1] at g3
            cases x with
            | none => simp [vblock] at g3
            | some x =>
              simp only [vblock] at g3
              split at g3
              · cases g3
              · rename_i hc
                rcases f8 with f8 | ⟨b1, off, f8, f9⟩
                · exact absurd f8 hc
                · injection f9 with f9
                  subst f9
                  injection g3 with g3
                  subst g3
                  refine hb (.inr (hown _ ?_))
                  rw [f3, f8]
                  simp only [vblock]
                  rw [if_neg (by omega)]
          · have g2 : (if r = d then some v else if r = q then none else ρ r) = some u := g2
            rw [if_neg hr] at g1 g2
            by_cases hrq : r = q
            · rw [if_pos hrq] at g1; simp [Blk.own] at g1
            · rw [if_neg hrq] at g1 g2
              exact hb (.inr ⟨r, u, g1, g2, g3⟩), rfl⟩
      refine ⟨v, rfl, ?_⟩
      rcases hcase' with ⟨a0, g1, g2⟩ | ⟨b, off, cap', cur, g1, k1, k2, k3, k4, k5, k6, k7, k8⟩
      · rw [g1] at f3
        injection f3 with f3 f3' f3''
        have hk0 : k.length = 0 := by omega
        have hc0 : cc = 0 := by omega
        exact .inl ⟨x, by rw [f1, hk0, hc0], List.eq_nil_of_length_eq_zero hk0⟩
      · rw [g1] at f3
        injection f3 with f3 f3' f3''
        subst f3; subst f3'; subst f3''
        have hcc : cc = cap' := by rw [f6 rfl]; omega
        subst hcc
        rcases f8 with f8 | ⟨b1, off1, f8, f9⟩
        · omega
        · injection f8 with f8
          injection f8 with f8 f8' _
          subst f8; subst f8'
          refine .inr ⟨b, off, cc, cur, by rw [f1, f9, Nat.zero_mul, Nat.add_zero], hN _ k1, k2, by omega, k4, k5, k6, k7, fun i hi => ?_⟩
          have hi' : i < l'.length := by omega
          have : k[i] = l'[i] := by
            have h1 : k[i]? = l'[i]? := by rw [← htk, List.getElem?_take, if_pos hi]
            rw [List.getElem?_eq_getElem hi, List.getElem?_eq_getElem hi'] at h1
            exact Option.some.inj h1
          rw [this]
          exact lift (k8 i hi'))
  refine hK v w' _ m' ?_ t'
  suffices hs : Den w' (Forb X (setM (.row sh el k) (setM .no mem q) d) (fun r => if r = d then some v else if r = q then none else ρ r)) (fun r => if r = d then some v else if r = q then none else ρ r) (.row d) (.slice x k.length cc) by rw [← f1] at hs; exact hs
  refine .row _ d _ _ _ fun q' hq' => ?_
  simp only [if_true] at hq'
  injection hq' with hq'
  exact hq'.symm.trans f1
theorem call_ok {G : Nat → CT → Prop} (hG : ∀ f c, G f c → ACall P T f c) {o : Oper} {cl : Call} (ho : o.op = .call cl) {d : Option Nat} {e : Operand → SV} {μ : Nat → Blk} {κ : SV → List (Nat × Blk) → Option Nat → Prop} (h : callV T G d cl e μ κ) :
    ∃ x U cr, κ x U cr ∧ (∀ q b, (q, b) ∈ U → cr = some q ∨ (μ q).own = true) ∧ (∀ k, cr = some k → d = some k) ∧ Eff P T o e μ x U cr := by
  obtain ⟨cal, args, ats⟩ := cl
  unfold callV at h
  split at h <;> try exact h.elim
  rename_i _ f caps hcal
  simp only at hcal
  split at h <;> try exact h.elim
  rename_i az q has
  simp only at has h
  rcases h.h with hmain | halt
  rotate_left
  · exact altV_ok hG ho hcal halt
  obtain ⟨c, hg, hca, hcl, h⟩ := hmain
  split at h <;> try exact h.elim
  rename_i hok
  refine ⟨_, _, if isNew c.new then d else none, h, ?_, fun k hk => ?_, ?_⟩
  · intro k b hk
    simp only [callU, List.mem_append] at hk
    rcases hk with hk | hk | hk
    · split at hk
      · simp at hk
      · obtain ⟨_, sh, e', l, hm, _⟩ := frzU_mem hk
        exact .inr (by rw [hm]; rfl)
    · rcases callArgs_some has with ⟨rfl, _⟩ | ⟨t0, ts', k0, xs', t, x, az', _, _, hm, _, _, _, rfl⟩
      · simp [lentU] at hk
      · simp [lentU] at hk; rw [hk.1, hm]; exact .inr rfl
    · cases hn : c.new <;> rw [hn] at hk <;> cases hd : d <;> rw [hd] at hk <;> simp [newU] at hk
      all_goals first | (left; simp [isNew, hk.1]; done) | (rw [okC, hn] at hok; simp at hok; done)
  · split at hk
    · exact hk
    · cases hk
  refine ⟨fun mem hμ hcr a N w0 w X ρ m hd K Q hK ro nn => ⟨fun _ _ => trivial, ?_⟩⟩
  have ac := hG _ _ hg
  obtain ⟨fn, hf, hb, hn⟩ := ac.fn
  obtain ⟨us, hex, hcaps, hcp⟩ := callee_ok ho hcal hd
  have hrun : (execOp a.eval o).run P w = .ok (.enter f (args.map a.eval ++ ⟨us⟩)) w := by rw [hex, run_callFunc hf hb hn]
  rw [semAt_exec hrun (fun d hd => by cases hd), hrun, Oper.uponIn_enter]
  refine ⟨fun h => by simp [FR, Fence.wide] at h, calls_FR ?_⟩
  have hden : DenL w (Forb X mem ρ) ρ (args.toList.map e) (args.toList.map a.eval) := by
    refine ⟨by simp, fun i x v hx hv => ?_⟩
    simp only [List.getElem?_map, Option.map_eq_some_iff] at hx hv
    obtain ⟨y, hy, rfl⟩ := hx
    obtain ⟨y', hy', rfl⟩ := hv
    rw [hy] at hy'
    injection hy' with hy'
    subst hy'
    refine hd y ?_
    rw [ho]
    simp only [Op.operands, Call.operands]
    have : y ∈ args := by simpa using List.mem_of_getElem? hy
    simp [this]
  have main : ∀ (mem1 : Mem), mem1 = appU (if flatC c then [] else frzU μ (rids.ridsL (args.toList.map e))) mem → MRep T N w0 w X mem1 ρ → Turn w (Forb X mem ρ) ρ w (Forb X mem1 ρ) ρ none → (∀ k, getM mem k = .no → getM mem1 k = .no) → (∀ k, memNoref k mem = true → memNoref k mem1 = true) →
      (∀ k t x, q = some (k, t, x) → getM mem1 k = .chunk t x) → ∀ (Z : Nat → Prop), (∀ b, Z b → Forb X mem1 ρ b) → ((∀ b, Forb X mem1 ρ b → Z b) ∨ flatC c = true) →
      (∀ (ts : List Nat) (xs az' : List SV) (vs : List Value), (∀ r ∈ rids.ridsL xs, r ∈ rids.ridsL (args.toList.map e)) → views T μ ts xs = some az' → DenL w (Forb X mem ρ) ρ xs vs → DenL w (Forb (xC Z ρ q) (inM c) (envC ρ q)) noEnv az' vs) →
      (∀ (i : Nat) (x : SV) (u : Value), caps[i]? = some x → us[i]? = some u → Den w (Forb (xC Z ρ q) (inM c) (envC ρ q)) noEnv x u) →
      Calls P f (args.map a.eval ++ ⟨us⟩) w fun
        | .returned v, w'' => K (a.put o.dst v) w''
        | .panicked chain, w'' => Q (.panic chain) a w''
        | .outgrown, _ => LetsOut Q := by
    intro mem1 hmem1 m1 t1 hno hnr hlent Z hZ hfull hviews hcd
    have lq : Lent mem1 q := ⟨fun k t x hq => ⟨hlent k t x hq, by
      rcases callArgs_some has with ⟨rfl, _⟩ | ⟨t0, ts', k0, xs', t', x', az', _, _, hm, hdat, _, _, rfl⟩
      · cases hq
      · injection hq with hq; injection hq with _ hq; injection hq with _ hq; rw [← hq]; exact hdat⟩⟩
    have min := call_in m1 lq hcl hZ
    have hcd' : DenL w (Forb (xC Z ρ q) (inM c) (envC ρ q)) (envC ρ q) caps us := ⟨hcaps.1, fun i x u hx hu => (hcd i x u hx hu).env fun r => .inr (.inr (by
      obtain ⟨h1, rfl⟩ := List.getElem?_eq_some_iff.1 hx
      exact plain_noref (allPlain_get hcp i h1) r))⟩
    have hargs : DenL w (Forb (xC Z ρ q) (inM c) (envC ρ q)) (envC ρ q) az (args.toList.map a.eval) := by
      rcases callArgs_some has with ⟨hq, hv⟩ | ⟨t0, ts', k0, xs', t', x', az', hts, hxs, hm, hdat, hv, rfl, hq⟩
      · have := hviews _ _ _ _ (fun r hr => hr) hv hden
        exact ⟨this.1, fun i x u hx hu => (this.2 i x u hx hu).data (views_data hv i x hx)⟩
      · rw [hxs] at hden
        cases hvs : args.toList.map a.eval with
        | nil => rw [hvs] at hden; have := hden.1; simp at this
        | cons v0 vs =>
          rw [hvs] at hden
          have := hviews ts' xs' az' vs (fun r hr => by rw [hxs]; simp [rids.ridsL, hr]) hv ⟨by have := hden.1; simpa using this, fun i x u hx hu => hden.2 (i + 1) x u hx hu⟩
          refine ⟨by simp [this.1], fun i x u hx hu => ?_⟩
          cases i with
          | succ i => exact (this.2 i x u (by simpa using hx) (by simpa using hu)).data (views_data hv i x (by simpa using hx))
          | zero =>
            simp at hx hu
            subst hx; subst hu
            have h0 := hden.2 0 _ _ rfl rfl
            cases h0 with
            | ptr _ _ _ b hb => exact .ptr _ 0 0 b fun q' hq' => hb q' (by simp only [envC, if_true, hq] at hq'; exact hq')
    have hsq : isSeq c = false := by
      cases hnw : c.new <;> simp [isSeq, hnw]
      simp [okC, hnw] at hok
    have hlr : isLR c = false := by
      cases hnw : c.new <;> simp [isLR, hnw]
      simp [okC, hnw] at hok
    have hcall := ac.h hsq hlr _ w _ _ _ min (hca ▸ hargs.app' hcd')
    have e1 : (⟨args.toList.map a.eval ++ us⟩ : Array Value) = args.map a.eval ++ ⟨us⟩ := by apply Array.ext'; simp
    rw [e1] at hcall
    refine hcall.mono fun en w' hh => ?_
    obtain ⟨v, ρc, rfl, mc, h0, hv⟩ := hh
    obtain ⟨m', t', hden'⟩ := call_out m1 lq hcl hZ mc h0 hok (cr := if isNew c.new then d else none) rfl (fun k hk => ⟨hno k (hcr k hk).1, hnr k (hcr k hk).2.1⟩) (fun k t x hq hk => by
      have g1 := hlent k t x hq
      rw [hno k (hcr k hk).1] at g1
      cases g1) hfull hv
    have e2 : appU (callU μ d (rids.ridsL (args.toList.map e)) q c) mem = appU (lentU q c.lent' ++ newU c.new d) mem1 := by
      rw [callU, appU_append, hmem1]
    refine hK v w' _ (by rw [e2]; exact m') (by rw [e2]; exact hden') (by rw [e2]; exact t1.trans t')
  have hlm : ∀ k t x, q = some (k, t, x) → getM mem k = .chunk t x ∧ μ k = .chunk t x := by
    intro k t x hq
    rcases callArgs_some has with ⟨rfl, _⟩ | ⟨t0, ts', k0, xs', t', x', az', _, _, hm, hdat, _, _, rfl⟩
    · cases hq
    · injection hq with hq; injection hq with hq1 hq; injection hq with hq2 hq3
      subst hq1; subst hq2; subst hq3
      exact ⟨hμ.row hm (by simp), hm⟩
  cases hfl : flatC c with
  | true =>
    have hq0 : q = none := by
      simp only [flatC, Bool.and_eq_true] at hfl
      have := hfl.2
      rw [hcl] at this
      cases hq : q with
      | none => rfl
      | some p => rw [hq] at this; cases this
    have hfb : ∀ b, Forb (xC (fun _ => False) ρ q) (inM c) (envC ρ q) b → Forb X mem ρ b := fun b hf' => forbC (X := X) (Z := fun _ => False) ⟨fun r t x hq => by rw [hq0] at hq; cases hq⟩ hcl (fun b h => h.elim) hf'
    refine main mem (by rw [hfl]; rfl) m (Turn.refl _ _ _ _) (fun k h => h) (fun k h => h) (fun k t x hq => (hlm k t x hq).1) (fun _ => False) (fun b h => h.elim) (.inr hfl) (fun ts xs az' vs _ hv hdv => ?_)
      (fun i x u hx hu => (hcaps.2 i x u hx hu).mono (Nat.le_refl _) fun b _ h2 => ⟨fun hf' => h2 (hfb b hf'), rfl⟩)
    refine views_den hμ m (fun b _ hf hf' => hf (hfb b hf')) (fun _ b _ hf' => ?_) hv hdv
    rcases hf' with hf' | ⟨r, u, g1, g2, _⟩
    · exact hf'.1
    · simp only [envC, hq0] at g2
      split at g2 <;> cases g2
  | false =>
    have fz := freeze_ids (T := T) hμ m (rids.ridsL (args.toList.map e))
    have hl1 : ∀ k t x, q = some (k, t, x) → getM (appU (frzU μ (rids.ridsL (args.toList.map e))) mem) k = .chunk t x := by
      intro k t x hq
      rcases fz.old k with g | ⟨_, sh, e', l, g, _⟩
      · rw [g]; exact (hlm k t x hq).1
      · rw [(hlm k t x hq).2] at g; cases g
    have hld : ∀ k t x, q = some (k, t, x) → dataB x = true := by
      intro k t x hq
      rcases callArgs_some has with ⟨rfl, _⟩ | ⟨t0, ts', k0, xs', t', x', az', _, _, hm, hdat, _, _, rfl⟩
      · cases hq
      · injection hq with hq; injection hq with _ hq; injection hq with _ hq; rw [← hq]; exact hdat
    have hfb : ∀ b, Forb (xC (Forb X (appU (frzU μ (rids.ridsL (args.toList.map e))) mem) ρ) ρ q) (inM c) (envC ρ q) b → Forb X (appU (frzU μ (rids.ridsL (args.toList.map e))) mem) ρ b := fun b hf' => forbC (X := X) ⟨fun r t x hq => ⟨hl1 r t x hq, hld r t x hq⟩⟩ hcl (fun b h => h) hf'
    refine main _ (by rw [hfl]; rfl) fz.m fz.t (fun k h => fz.no hμ h) (fun k h => appU_noref h fun q' b hb => by obtain ⟨_, sh, e', l, _, rfl⟩ := frzU_mem hb; rfl) hl1 (Forb X _ ρ) (fun b h => h) (.inl fun b h => h) (fun ts xs az' vs hr hv hdv => ?_)
      (fun i x u hx hu => ((fz.t.den (fun _ h => by cases h) ((hcaps.2 i x u hx hu).env (ρ' := ρ) fun r => .inr (.inr (by
        obtain ⟨h1, rfl⟩ := List.getElem?_eq_some_iff.1 hx
        exact plain_noref (allPlain_get hcp i h1) r)))).mono (Nat.le_refl _) fun b _ h2 => ⟨fun hf' => h2 (hfb b hf'), rfl⟩).to_no)
    obtain ⟨v1, v2⟩ := views_same (T := T) (μ' := getM (appU (frzU μ (rids.ridsL (args.toList.map e))) mem)) (fun r hr' => fz.at' r (hr r hr')) hv
    exact views_den (sees_all _) fz.m (fun b _ hf hf' => hf (hfb b hf')) (fun hlive => by rw [v2] at hlive; cases hlive) v1 ⟨hdv.1, fun i x u hx hu => fz.t.den (fun _ h => by cases h) (hdv.2 i x u hx hu)⟩
end Go.Proofs.Ytapcbkcnokoljaa
namespace Go.Proofs.Ytapcbkcnokoljaa
set_option linter.unusedVariables false
set_option linter.unusedSimpArgs false
open Go.RowKit
variable {P : Program} {T : Nat → Option TI}
structure NextK (s : ByteArray) (p : Nat) (k : Int → Nat → Int → Prop) : Prop where
  h : ∀ (r : Nat) (w : Nat) (z y : Int), z = (p : Int) → y = (r : Int) → Utf8.decode s p = (r, w) → k y w z
theorem nextK {s : ByteArray} {p : Nat} {k : Int → Nat → Int → Prop} (h : ∀ (r : Nat) (w : Nat) (z y : Int), z = (p : Int) → y = (r : Int) → Utf8.decode s p = (r, w) → k y w z) : NextK s p k := ⟨h⟩
def isGen : Blk → Bool
  | .gen 0 _ _ => true
  | _ => false
def isO (op : Op) (e : Operand → SV) (μ : Nat → Blk) : Bool :=
  match op with
  | .range _ _ => true
  | .next _ _ => true
  | .convert _ _ x => (match e x with | .str _ => true | .row r => isGen (μ r) | _ => false)
  | .indexAddr _ x _ => (match e x with | .row r => isGen (μ r) | _ => false)
  | .store _ x _ => (match e x with | .rptr r _ _ _ => isGen (μ r) | _ => false)
  | .call c => (match c.callee, c.args.toList with | .builtin .len, [x] => (match e x with | .row r => isGen (μ r) | _ => false) | _, _ => false)
  | _ => false
noncomputable def oval (T : Nat → Option TI) (d : Option Nat) (op : Op) (e : Operand → SV) (μ : Nat → Blk) (κ : SV → List (Nat × Blk) → Option Nat → Prop) : Prop :=
  match op with
  | .range t x => (match T t, e x, d with
    | some i, .str s, some d => (match i.kind with | .string => κ (.ptr d 0) [(d, .iter s 0)] (some d) | _ => False)
    | _, _, _ => False)
  | .next x true => (match e x with
    | .ptr q 0 => (match μ q with
      | .iter s p => QC (fun _ => p < s.size) (fun b => match b with
        | true => NextK s p (fun y w z => κ (.tup [.bool true, .int .i64 z, .int .i32 y]) [(q, .iter s (p + w))] none)
        | false => κ (.tup [.bool false]) [] none)
      | _ => False)
    | _ => False)
  | .convert a b x => (match T a, T b, e x, d with
    | some i, some j, .str s, some d => (match i.kind, j.kind with
      | .string, .slice el => (match T el with
        | some k => (match k.kind with
          | .int .u8 => Rq (fun _ => s.size ≤ 281474976710656) (fun _ => QC (fun _ => s.size = 0) (fun b => match b with
            | true => κ (.lst none []) [] none
            | false => κ (.row d) [(d, .gen 0 el (O.by' s))] (some d)))
          | _ => False)
        | none => False)
      | _, _ => False)
    | some i, some j, .row r, _ => (match i.kind, j.kind with
      | .slice el, .string => (match T el with
        | some k => (match k.kind, μ r with
          | .int .u8, .gen 0 _ l => QV (fun bs => l = O.by' bs) (fun bs => κ (.str bs) [] none)
          | _, _ => False)
        | none => False)
      | _, _ => False)
    | _, _, _, _ => False)
  | .indexAddr t x ix => (match T t, e x, e ix with
    | some i, .row r, .int _ n => (match i.kind, μ r with
      | .slice el, .gen 0 _ l => (match T el with
        | some j => (match j.kind with
          | .int .u8 => QV (fun (q : Nat) => n = (q : Int) ∧ q < O.ln l) (fun q => κ (.rptr r none q 0) [] none)
          | _ => False)
        | none => False)
      | _, _ => False)
    | _, _, _ => False)
  | .store t x v => (match T t, e x, e v with
    | some i, .rptr r none j 0, .int .u8 n => (match i.kind, μ r with
      | .int .u8, .gen 0 k l => Rq (fun _ => j < O.ln l) (fun _ => κ .any [(r, .gen 0 k (O.st l j (.int .u8 n)))] none)
      | _, _ => False)
    | _, _, _ => False)
  | .call c => (match c.args.toList, c.argTypes.toList with
    | [x], [t] => (match e x, T t with
      | .row r, some i => (match μ r, i.kind with
        | .gen 0 _ l, .slice _ => Q1 (fun _ => True) (fun z => z = O.ln l) (fun z => κ (.int .i64 z) [] none)
        | _, _ => False)
      | _, _ => False)
    | _, _ => False)
  | _ => False
theorem Sees.gen {N : Nat → Prop} {w0 w : World} {X : Nat → Prop} {mem : Mem} {ρ : Env} {μ : Nat → Blk} (hμ : Sees μ mem) (m : MRep T N w0 w X mem ρ) {r tag k : Nat} {l : List SV} (h : μ r = .gen tag k l) :
    getM mem r = .gen tag k l ∧ ∃ v b ob, ρ r = some v ∧ vblock v = some b ∧ N b ∧ w.heap[b]? = some ob ∧ genRep tag k l v b ob := by
  have hm := hμ.row h (by simp)
  have hb := m.blk r
  rw [hm] at hb
  exact ⟨hm, hb⟩
theorem oby_at (s : ByteArray) (i : Nat) (x : SV) (h : (O.by' s)[i]? = some x) : ∃ n : Int, x = .int .u8 n ∧ (s.data.map (fun b => Value.int .u8 b.toNat))[i]? = some (.int .u8 n) := by
  rw [O.hby, List.getElem?_map] at h
  cases hb : s.data.toList[i]? with
  | none => rw [hb] at h; cases h
  | some b =>
    rw [hb] at h
    injection h with h
    refine ⟨b.toNat, h.symm, ?_⟩
    have hb' : s.data[i]? = some b := by simpa using hb
    simp [hb']
theorem gen_slice {w : World} {Y : Nat → Prop} {k : Nat} {l : List SV} {v : Value} {b : Nat} {ob : Obj} (h : w.heap[b]? = some ob) (g : genRep 0 k l v b ob) : SliceAt w Y (fun _ => True) none l v := by
  obtain ⟨cap, cur, fz, rfl, rfl, g1, g2, g3, g4, g5, g6, g7⟩ := g
  refine ⟨_, cap, rfl, g2, .inr ⟨b, 0, cur.toList.take l.length, rfl, heap_lt h, trivial, by simp [wid]; omega, fun u hu => g6 u (List.mem_of_mem_take hu), fun j u hj => ?_, fun i hi => ?_⟩⟩
  · rw [List.getElem?_take] at hj
    split at hj
    · rw [Nat.zero_add, cell_of_row w b j cur k fz h]
      simpa using hj
    · cases hj
  · obtain ⟨n, h1, h2⟩ := g7 i _ (List.getElem?_eq_getElem hi)
    rw [h1]
    have : valAt none (cur.toList.take l.length) i = .int .u8 n := by
      have h3 : cur.toList[i]? = some (.int .u8 n) := by simpa using h2
      simp [valAt, List.getElem?_take, hi, h3]
    rw [this]
    exact .int _ _ _
theorem conv_back (tys : Types P T) {w : World} {Y ok : Nat → Prop} {s t el : Nat} {i j k : TI} (hs : T s = some i) (ht : T t = some j) (hk : i.kind = .slice el) (hk2 : j.kind = .string) (hel : T el = some k) (hk3 : k.kind = .int .u8) {bs : ByteArray} {v : Value}
    (h : SliceAt w Y ok none (bytesSV bs) v) : (convert s t v).run P w = .ok (.string bs) w := by
  have us := (tys.ok s i hs).und_slice hk
  have ue := (tys.ok el k hel).und_int hk3
  have ud := (tys.ok t j ht).und_string hk2
  obtain ⟨ad, c, e1, e2, e3⟩ := h
  have hbl : (bytesSV bs).length = bs.size := by simp [bytesSV]
  rw [e1]
  by_cases h0 : bs.size = 0
  · have hbs : bs = .empty := by
      apply ByteArray.ext
      exact Array.eq_empty_of_size_eq_zero h0
    subst hbs
    cases ad with
    | none => exact run_convert_bytes_nil w s el us ue _ _ t ud
    | some q =>
      rw [run_convert_bytes_string w s t el _ _ _ us ue ud]
      simp [hbl, Conv.bytesToString, loadCells, loadCellsFrom]
  · rcases e3 with e3 | ⟨b, off, us', rfl, p1, p2, p3, p6, p4, p5⟩
    · rw [e3] at hbl; simp at hbl; omega
    · have hget : ∀ q, q < bs.size → us'[q]? = some (.int .u8 ((bs.data.toList.map (fun b => (b.toNat : Int))).getD q 0)) := by
        intro q hq
        have hq' : q < (bytesSV bs).length := by omega
        have h5 := p5 q hq'
        have e4 : (bytesSV bs)[q] = .int .u8 ((bs.data.toList.map (fun b => (b.toNat : Int))).getD q 0) := by
          have h6 : q < bs.data.toList.length := by simpa [bytesSV] using hq'
          have h6' : q < bs.data.size := by simpa using h6
          simp [bytesSV, List.getD, Array.getElem?_eq_getElem h6']
        rw [e4, Den.int_iff] at h5
        simp only [valAt] at h5
        cases h7 : us'[q]? with
        | none => rw [h7] at h5; simp [undef] at h5
        | some u => simp only [h7, Option.getD_some] at h5; rw [h5]
      have := run_convert_bytes_arg w s el us ue b off (bytesSV bs).length c (bs.data.toList.map fun b => (b.toNat : Int)) (by simp [bytesSV]) (fun q hq => p4 q _ (hget q (by omega))) t ud
      rw [this]
      have e5 : strOfNums (bs.data.toList.map fun b => (b.toNat : Int)) = bs := by
        apply ByteArray.ext
        apply Array.ext'
        rw [strOfNums_data, List.map_map]
        conv => rhs; rw [← List.map_id bs.data.toList]
        apply List.map_congr_left
        intro b _
        simp
      rw [e5]
theorem Below.drew_alloc (w : World) (o : Obj) : Below w.heap.size w (w.drew.alloc o) := (Below.refl _ w.drew).alloc (Nat.le_refl _) o |> fun h => ⟨h.os, h.tape, h.output, h.size, h.block⟩
theorem oval_ok (tys : Types P T) (sz : Sizes T) {o : Oper} {e : Operand → SV} {μ : Nat → Blk} {κ : SV → List (Nat × Blk) → Option Nat → Prop} (hi : isO o.op e μ = true) (h : oval T o.dst o.op e μ κ) :
    ∃ x U cr, κ x U cr ∧ (∀ q b, (q, b) ∈ U → cr = some q ∨ (μ q).own = true) ∧ (∀ k, cr = some k → o.dst = some k ∧ ((∃ a b, o.op = .range a b) ∨ ∃ a b c, o.op = .convert a b c)) ∧ Eff P T o e μ x U cr := by
  generalize ho : o.op = op at h hi
  cases op
  case range t x =>
    simp only [oval] at h
    split at h <;> try exact h.elim
    rename_i i s d ht hx hd
    split at h <;> try exact h.elim
    rename_i hk
    refine ⟨_, _, _, h, (fun q b hq => by simp at hq; exact .inl (by rw [hq.1])), (fun k hk => ⟨by rw [hd, ← hk], .inl ⟨_, _, rfl⟩⟩), .of_run fun mem hμ hcr a N w0 w X ρ m hden => ?_⟩
    obtain ⟨hno, hnr, hn⟩ := hcr d rfl
    have hv := hden x (by simp [ho, Op.operands])
    rw [hx, Den.str_iff] at hv
    have hbel : Below w.heap.size w (w.alloc (.stringIter s 0)) := (Below.refl _ _).alloc (Nat.le_refl _) _
    obtain ⟨m', t'⟩ := m.create (w' := w.alloc (.stringIter s 0)) hno hnr (B := .iter s 0) (v := .pointer (some ⟨w.heap.size, 0, none⟩)) (fun b hb => by simp only [vblock] at hb; injection hb with hb; subst hb; exact ⟨Nat.le_refl _, by show _ < (w.heap.push _).size; simp⟩) hbel
      (fun _ => ⟨w.heap.size, rfl, m.szN _ (Nat.le_refl _), heap_alloc_new w _⟩)
    refine ⟨_, _, _, _, ?_, .inl rfl, m', .ptr _ d 0 w.heap.size (fun q hq => ?_), t'⟩
    · simp only [execOp, ho, hv]
      have := run_range_string (P := P) w t s ((tys.ok t i ht).und_string hk)
      simp only [Sem.run_bind, this, Result.andThen_ok, Sem.run_pure]
      rfl
    · simp only [upd, if_true] at hq
      injection hq with hq
      exact hq.symm
  case next x str =>
    cases str with
    | false => simp only [oval] at h
    | true =>
    simp only [oval] at h
    split at h <;> try exact h.elim
    rename_i q hx
    split at h <;> try exact h.elim
    rename_i s p hm
    by_cases hp : p < s.size
    · have h := (h.t hp).h (Utf8.decode s p).1 (Utf8.decode s p).2 p ((Utf8.decode s p).1 : Nat) rfl rfl rfl
      refine ⟨_, _, _, h, (fun q' b hq => by simp at hq; rw [hq.1, hm]; exact .inr rfl), (fun k hk => by cases hk), .of_run fun mem hμ hcr a N w0 w X ρ m hden => ?_⟩
      have hgm := hμ.row hm (by simp)
      have hb := m.blk q
      rw [hgm] at hb
      obtain ⟨b, h1, h2, h3⟩ := hb
      have hv := hden x (by simp [ho, Op.operands])
      rw [hx] at hv
      generalize hax : a.eval x = v at hv
      cases hv with
      | ptr _ _ _ b' hq =>
        have := hq _ h1
        injection this with this
        injection this with this
        injection this with this _ _
        subst this
        obtain ⟨m', t'⟩ := m.update (w' := { w with heap := w.heap.setIfInBounds b (.stringIter s (p + (Utf8.decode s p).2)) }) h1 (by rw [hgm]; rfl) (b := b) rfl ⟨rfl, rfl, rfl, by simp, fun k hk => by simp [Array.getElem?_setIfInBounds, show b ≠ k by omega]⟩ (fun k hk => by simp [Array.getElem?_setIfInBounds, Ne.symm hk])
          (B := .iter s (p + (Utf8.decode s p).2)) (fun _ => ⟨b, rfl, h2, by simp [Array.getElem?_setIfInBounds, heap_lt h3]⟩)
        refine ⟨_, _, _, ρ, ?_, .inl rfl, m', Den.tup_iff.2 ⟨[.bool true, .int .i64 p, .int .i32 (Utf8.decode s p).1], rfl, rfl, fun i x' u hx' hu => ?_⟩, t'⟩
        · simp only [execOp, ho, hax, Instr.next, getObj, setObj, Sem.run_bind, Sem.run, h3, Result.andThen, hp, if_true]
          rfl
        · match i, hx', hu with
          | 0, hx', hu => simp at hx' hu; subst hx'; subst hu; exact .bool _ _
          | 1, hx', hu => simp at hx' hu; subst hx'; subst hu; exact .int _ _ _
          | 2, hx', hu => simp at hx' hu; subst hx'; subst hu; exact .int _ _ _
          | _ + 3, hx', _ => simp at hx'
    · have h := h.f hp
      refine ⟨_, _, _, h, (fun q b hq => by simp at hq), (fun k hk => by cases hk), .of_run fun mem hμ hcr a N w0 w X ρ m hden => ?_⟩
      have hgm := hμ.row hm (by simp)
      have hb := m.blk q
      rw [hgm] at hb
      obtain ⟨b, h1, h2, h3⟩ := hb
      have hv := hden x (by simp [ho, Op.operands])
      rw [hx] at hv
      generalize hax : a.eval x = v at hv
      cases hv with
      | ptr _ _ _ b' hq =>
        have := hq _ h1
        injection this with this
        injection this with this
        injection this with this _ _
        subst this
        refine ⟨_, _, w, ρ, ?_, .inl rfl, m, Den.tup_iff.2 ⟨[.bool false], rfl, by simp, fun i x' u hx' hu => ?_⟩, Turn.refl _ _ _ _⟩
        · simp only [execOp, ho, hax, Instr.next, getObj, Sem.run_bind, Sem.run, h3, Result.andThen, hp, if_false]
          rfl
        · match i, hx', hu with
          | 0, hx', hu => simp at hx' hu; subst hx'; subst hu; exact .bool _ _
          | _ + 1, hx', _ => simp at hx'
  case convert ta tb x =>
    simp only [oval] at h
    split at h
    · rename_i i j s d hta htb hx hd
      split at h <;> try exact h.elim
      rename_i el hk1 hk2
      split at h <;> try exact h.elim
      rename_i k hel
      split at h <;> try exact h.elim
      rename_i hk3
      have hsz := h.p
      have h := h.k
      have us := (tys.ok ta i hta).und_string hk1
      have ud := (tys.ok tb j htb).und_slice hk2
      have ue := (tys.ok el k hel).und_int hk3
      have run : ∀ (a : Act) (w : World), Den w (fun _ => False) noEnv (.str s) (a.eval x) → (execOp a.eval o).run P w = .ok (.value (.slice (some ⟨w.heap.size, 0, none⟩) s.size (grownCap w s.size 0 el)))
          (w.drew.alloc (.cells (bytesRow s (grownCap w s.size 0 el)) el ((bytesRow s (grownCap w s.size 0 el)).size, (bytesRow s (grownCap w s.size 0 el)).size + 1))) := by
        intro a w hv
        rw [Den.str_iff] at hv
        simp only [execOp, ho, hv, Sem.run_bind, run_bytes_of_string (P := P) w ta tb el s us ud ue, Result.andThen_ok, Sem.run_pure]
      by_cases hs0 : s.size = 0
      · have h := h.t hs0
        refine ⟨_, _, _, h, (fun q b hq => by simp at hq), (fun k hk => by cases hk), .of_run fun mem hμ hcr a N w0 w X ρ m hden => ?_⟩
        have hv := hden x (by simp [ho, Op.operands])
        rw [hx] at hv
        have hr := run a w (Den.str_iff.2 (Den.str_iff.1 hv))
        have hbel := Below.drew_alloc w (.cells (bytesRow s (grownCap w s.size 0 el)) el ((bytesRow s (grownCap w s.size 0 el)).size, (bytesRow s (grownCap w s.size 0 el)).size + 1))
        refine ⟨_, _, _, ρ, hr, .inl rfl, m.grow hbel, ?_, ⟨fun _ => .inr (.inl rfl), hbel.size, fun b h1 h2 => ⟨h2, hbel.block b h1⟩⟩⟩
        rw [hs0]
        exact .lst0 _ _ _ _
      · have h := h.f hs0
        refine ⟨_, _, _, h, (fun q b hq => by simp at hq; exact .inl (by rw [hq.1])), (fun k hk => ⟨by rw [hd, ← hk], .inr ⟨_, _, _, rfl⟩⟩), .of_run fun mem hμ hcr a N w0 w X ρ m hden => ?_⟩
        obtain ⟨hno, hnr, hn⟩ := hcr d rfl
        have hv := hden x (by simp [ho, Op.operands])
        rw [hx] at hv
        have hr := run a w (Den.str_iff.2 (Den.str_iff.1 hv))
        have hge := grownCap_ge w s.size 0 el
        have hle := grownCap_le_maxLen w s.size 0 el (by rw [maxLen]; omega)
        generalize grownCap w s.size 0 el = cap at *
        have hbs : (bytesRow s cap).size = cap := by
          have : s.data.size = s.size := rfl
          simp [bytesRow]; omega
        have hbel := Below.drew_alloc w (.cells (bytesRow s cap) el ((bytesRow s cap).size, (bytesRow s cap).size + 1))
        have hone : ∀ u ∈ (bytesRow s cap).toList, u.oneCell' = true := fun u hu => by
          simp only [bytesRow, Array.toList_append, Array.toList_map, Array.toList_replicate, List.mem_append, List.mem_map] at hu
          rcases hu with ⟨b, _, rfl⟩ | hu
          · rfl
          · rw [List.eq_of_mem_replicate hu]; rfl
        have hat : ∀ (q : Nat) (y : SV), (O.by' s)[q]? = some y → ∃ n : Int, y = .int .u8 n ∧ (bytesRow s cap)[q]? = some (.int .u8 n) := fun q y hy => by
          obtain ⟨n, h1, h2⟩ := oby_at s q y hy
          refine ⟨n, h1, ?_⟩
          rw [bytesRow, Array.getElem?_append_left]
          · exact h2
          · exact (Array.getElem?_eq_some_iff.1 h2).1
        have hbl : (O.by' s).length = s.size := by rw [O.hby]; show _ = s.data.size; simp
        obtain ⟨m', t'⟩ := m.create (w' := w.drew.alloc (.cells (bytesRow s cap) el ((bytesRow s cap).size, (bytesRow s cap).size + 1))) hno hnr (B := .gen 0 el (O.by' s)) (v := .slice (some ⟨w.heap.size, 0, none⟩) s.size cap)
          (fun b hb => by
            simp only [vblock] at hb
            split at hb
            · cases hb
            · injection hb with hb; subst hb; exact ⟨Nat.le_refl _, by show _ < (w.heap.push _).size; simp⟩) hbel
          (fun _ => ⟨_, w.heap.size, _, rfl, by simp only [vblock]; rw [if_neg (by omega)], m.szN _ (Nat.le_refl _), heap_alloc_new w.drew _, cap, _, _, by rw [hbl], rfl, Nat.le_refl _, by omega, hle, by omega, by omega, hone, hat⟩)
        · refine ⟨_, _, _, _, hr, .inl rfl, m', .row _ d _ _ _ (fun q hq => ?_), t'⟩
          simp only [upd, if_true] at hq
          injection hq with hq
          exact hq.symm
    · rename_i i j r hta htb hx
      split at h <;> try exact h.elim
      rename_i el hk1 hk2
      split at h <;> try exact h.elim
      rename_i k hel
      split at h <;> try exact h.elim
      rename_i k2 l hk3 hm
      obtain ⟨bs, hl, h'⟩ := h.h
      subst hl
      clear h
      have h := h'
      refine ⟨_, _, _, h, (fun q b hq => by simp at hq), (fun k hk => by cases hk), .of_run fun mem hμ hcr a N w0 w X ρ m hden => ?_⟩
      obtain ⟨hgm, v, b, ob, h1, h2, h3, h4, h5⟩ := hμ.gen m hm
      have hv := hden x (by simp [ho, Op.operands])
      rw [hx] at hv
      generalize hax : a.eval x = u at hv
      cases hv with
      | row _ _ a' n' c' hrow =>
        have e := hrow _ h1
        subst e
        have hs := gen_slice (Y := Forb X mem ρ) h4 h5
        rw [O.by_eq] at hs
        have hr := conv_back tys hta htb hk1 hk2 hel hk3 hs
        refine ⟨_, _, w, ρ, ?_, .inl rfl, m, .str _ _, Turn.refl _ _ _ _⟩
        simp only [execOp, ho, hax, Sem.run_bind, hr, Result.andThen_ok, Sem.run_pure]
    · exact h.elim
  case indexAddr t x ix =>
    simp only [oval] at h
    split at h <;> try exact h.elim
    rename_i i r ki n ht hx hix
    split at h <;> try exact h.elim
    rename_i el k l hk hm
    split at h <;> try exact h.elim
    rename_i j hel
    split at h <;> try exact h.elim
    rename_i hk3
    obtain ⟨q, ⟨hn, hq⟩, h⟩ := h.h
    rw [O.hln] at hq
    refine ⟨_, _, _, h, (fun q b hq => by simp at hq), (fun k hk => by cases hk), .of_run fun mem hμ hcr a N w0 w X ρ m hden => ?_⟩
    obtain ⟨hgm, v, b, ob, h1, h2, h3, h4, h5⟩ := hμ.gen m hm
    have hv := hden x (by simp [ho, Op.operands])
    have hvi := hden ix (by simp [ho, Op.operands])
    rw [hx] at hv
    rw [hix, Den.int_iff] at hvi
    generalize hax : a.eval x = u at hv
    cases hv with
    | row _ _ a' n' c' hrow =>
      have e := hrow _ h1
      subst e
      obtain ⟨cap, cur, fz, e1, e2, _⟩ := h5
      injection e1 with e3 e4 e5
      subst e3; subst e4
      have hj1 : j.size = 1 := sz.one el j hel (by rw [hk3]; rfl)
      refine ⟨_, _, w, ρ, ?_, .inl rfl, m, .rptr _ r none q 0 b 0 (fun v' hv' => by rw [h1] at hv'; injection hv' with hv'; subst hv'; exact ⟨_, _, rfl⟩), Turn.refl _ _ _ _⟩
      simp only [execOp, ho, hax, hvi, hn, Sem.run_bind, run_index_slice (P := P) tys ht hk hel ki b 0 l.length c' q hq w, Result.andThen_ok, Sem.run_pure, hj1, wid, Nat.zero_add, Nat.mul_one, Nat.add_zero]
  case store t x vo =>
    simp only [oval] at h
    split at h <;> try exact h.elim
    rename_i i r j n ht hx hv0
    split at h <;> try exact h.elim
    rename_i k l hk hm
    have hj := h.p
    have h := h.k
    rw [O.hln] at hj
    refine ⟨_, _, _, h, (fun q b hq => by simp at hq; rw [hq.1, hm]; exact .inr rfl), (fun k hk => by cases hk), .of_run fun mem hμ hcr a N w0 w X ρ m hden => ?_⟩
    obtain ⟨hgm, v, b, ob, h1, h2, h3, h4, h5⟩ := hμ.gen m hm
    have hv := hden x (by simp [ho, Op.operands])
    have hvo := hden vo (by simp [ho, Op.operands])
    rw [hx] at hv
    rw [hv0, Den.int_iff] at hvo
    have tok := tys.ok t i ht
    have hsz1 : i.size = 1 := sz.one t i ht (by rw [hk]; rfl)
    obtain ⟨cap, cur, fz, rfl, rfl, c1, c2, c3, c4, c5, c6, c7⟩ := h5
    generalize hax : a.eval x = u at hv
    cases hv with
    | rptr _ _ _ _ _ b' o1 hrow =>
      obtain ⟨_, _, e⟩ := hrow _ h1
      injection e with e _ _
      injection e with e
      injection e with e1 e2 _
      subst e1; subst e2
      have hjc : j < cur.size := by omega
      have hcell : w.cell? ⟨b, 0 + j * wid none + 0, none⟩ = some (cur[j]'hjc) := by
        simp only [wid, Nat.mul_one, Nat.zero_add, Nat.add_zero]
        rw [cell_of_row w b j cur k fz h4]
        exact Array.getElem?_eq_getElem hjc
      have hnf : w.frozen? ⟨b, 0 + j * wid none + 0, none⟩ = false := by
        obtain ⟨f1, f2⟩ := fz
        simp only [wid, Nat.mul_one, Nat.zero_add, Nat.add_zero, World.frozen?, h4]
        have : ¬ f1 ≤ j := by dsimp only at c1; omega
        simp [this]
      have hone : ∀ u ∈ (cur.setIfInBounds j (.int .u8 n)).toList, u.oneCell' = true := fun u hu => by
        rw [Array.toList_setIfInBounds] at hu
        rcases List.mem_or_eq_of_mem_set hu with h | h
        · exact c6 u h
        · rw [h]; rfl
      have hat : ∀ (q : Nat) (y : SV), (O.st l j (.int .u8 n))[q]? = some y → ∃ n' : Int, y = .int .u8 n' ∧ (cur.setIfInBounds j (.int .u8 n))[q]? = some (.int .u8 n') := fun q y hy => by
        rw [O.hst, List.getElem?_set] at hy
        split at hy
        · rename_i hjq
          injection hy with hy
          refine ⟨n, hy.symm, ?_⟩
          subst hjq
          simp [Array.getElem?_setIfInBounds, hjc]
        · rename_i hjq
          obtain ⟨n', h1, h2⟩ := c7 q y hy
          exact ⟨n', h1, by rw [Array.getElem?_setIfInBounds, if_neg hjq]; exact h2⟩
      obtain ⟨m', t'⟩ := m.update (w' := w.setRow b (cur.setIfInBounds j (.int .u8 n))) h1 (by rw [hgm]; rfl) (b := b) h2 ⟨rfl, rfl, rfl, by simp [World.setRow], fun k hk => setRow_other w b k _ (by omega)⟩ (fun k hk => setRow_other w b k _ hk)
        (B := .gen 0 k (O.st l j (.int .u8 n))) (fun _ => ⟨_, b, _, rfl, h2, h3, setRow_heap w b cur _ k fz h4, cap, _, fz, by rw [O.hst, List.length_set], rfl, by simpa using c1, by rw [O.hst, List.length_set]; exact c2, c3, by simpa using c4, c5, hone, hat⟩)
      refine ⟨_, undef, _, ρ, ?_, .inr ⟨rfl, rfl⟩, m', .any _ _, t'⟩
      have hst : (Instr.storeAt t (.pointer (some ⟨b, 0 + j * wid none + 0, none⟩)) (.int .u8 n)).run P w = .ok () (w.setRow b (cur.setIfInBounds j (.int .u8 n))) := by
        have e1 : (Value.int .u8 n).cells.size = i.size := by rw [hsz1]; rfl
        simp only [Instr.storeAt, Instr.sureAddr, Sem.run_bind, Sem.run_pure, Result.andThen_ok, storeVar, tok.sizeOf]
        rw [if_neg (by omega)]
        show (storeCells ⟨b, 0 + j * wid none + 0, none⟩ [.int .u8 n] 0).run P w = _
        have hadd : (⟨b, 0 + j * wid none + 0, none⟩ : Addr).add 0 = ⟨b, 0 + j * wid none + 0, none⟩ := by simp [Addr.add]
        have hst : (store ((⟨b, 0 + j * wid none + 0, none⟩ : Addr).add 0) (.int .u8 n)).run P w = .ok () (w.setRow b (cur.setIfInBounds j (.int .u8 n))) := by
          rw [hadd, run_store P w _ _ _ rfl, hcell]
          simp only [wid, Nat.mul_one, Nat.zero_add, Nat.add_zero] at hnf ⊢
          simp [hnf, setCell_eq_setRow w b j cur k fz (.int .u8 n) h4]
        simp only [storeCells, Sem.run_bind, hst, Result.andThen_ok, Sem.run_pure]
      simp only [execOp, ho, hax, hvo, Sem.run_bind, hst, Result.andThen_ok, Sem.run_pure]
  case call c =>
    obtain ⟨cal, args, ats⟩ := c
    simp only [oval] at h
    simp only [isO] at hi
    split at h <;> try exact h.elim
    rename_i x t hargs hats
    split at h <;> try exact h.elim
    rename_i r i hx ht
    split at h <;> try exact h.elim
    rename_i k l el hm hk
    split at hi <;> try (cases hi; done)
    have h := h.h.2 _ rfl
    obtain rfl : args = #[x] := by apply Array.ext'; simpa using hargs
    obtain rfl : ats = #[t] := by apply Array.ext'; simpa using hats
    refine ⟨_, _, _, h, (fun q b hq => by simp at hq), (fun k hk => by cases hk), .of_run fun mem hμ hcr a N w0 w X ρ m hden => ?_⟩
    obtain ⟨hgm, v, b, ob, h1, h2, h3, h4, h5⟩ := hμ.gen m hm
    have hv := hden x (by simp [ho, Op.operands, Call.operands])
    rw [hx] at hv
    generalize hax : a.eval x = u at hv
    cases hv with
    | row _ _ a' n' c' hrow =>
      have e := hrow _ h1
      subst e
      obtain ⟨ad, c, e1, _, _⟩ := gen_slice (Y := Forb X mem ρ) h4 h5
      rw [e1] at hax
      refine ⟨_, _, w, ρ, ?_, .inl rfl, m, .int _ _ _, Turn.refl _ _ _ _⟩
      simp [execOp, ho, resolve, invoke, builtin, hax, Builtin.len_, goInt, run_underlying ((tys.ok t i ht).und_slice hk), O.hln]
  all_goals simp only [oval] at h
end Go.Proofs.Ytapcbkcnokoljaa
namespace Go.Proofs.Ytapcbkcnokoljaa
set_option linter.unusedVariables false
set_option linter.unusedSimpArgs false
open Go.RowKit
variable {P : Program} {T : Nat → Option TI}
structure Chp (a b : Unit → Prop) : Prop where
  h : a () ∨ b ()
theorem chpA {a b : Unit → Prop} (h : a ()) : Chp a b := ⟨.inl h⟩
theorem chpB {a b : Unit → Prop} (h : b ()) : Chp a b := ⟨.inr h⟩
structure MapOk (P : Program) (t : Nat) (m : Nat × Nat × List IntKind) : Prop where
  und : P.underlying t = some (.map m.1 m.2.1)
  zero : ∀ w, (zeroValue m.2.1).run P w = .ok (.bool false) w
  law : WideMaps.KeyLaw P m.1
  fits : ∀ ys us, KFit m.2.2 ys us → ∃ l, keyOf P m.1 (.agg ⟨us⟩) = some l
def kfitQ : List IntKind → List SV → Prop
  | [], [] => True
  | k :: ks, .int j n :: ys => (if k = j then k.min ≤ n ∧ n ≤ k.max else False) ∧ kfitQ ks ys
  | _, _ => False
theorem kfit_den {w : World} {X : Nat → Prop} {ρ : Env} : ∀ {ks : List IntKind} {ys : List SV} {us : List Value}, kfitQ ks ys → DenL w X ρ ys us → KFit ks ys us
  | [], [], us, _, h => by
    have := h.1
    cases us with
    | nil => exact .nil
    | cons => simp at this
  | k :: ks, y :: ys, [], _, h => by have := h.1; simp at this
  | k :: ks, y :: ys, u :: us, hq, h => by
    cases y with
    | int j n =>
      simp only [kfitQ] at hq
      obtain ⟨h1, h2⟩ := hq
      split at h1
      · rename_i e
        subst e
        have h0 := h.2 0 _ _ rfl rfl
        rw [Den.int_iff] at h0
        subst h0
        exact .cons h1 (kfit_den h2 ⟨by have := h.1; simpa using this, fun i x u hx hu => h.2 (i + 1) x u hx hu⟩)
      · exact h1.elim
    | _ => exact hq.elim
  | [], _ :: _, _, hq, _ => hq.elim
  | _ :: _, [], _, hq, _ => hq.elim
theorem KFit.val {ks : List IntKind} {ys : List SV} {us us' : List Value} (h : KFit ks ys us) (h' : KFit ks ys us') : us = us' := by
  induction h generalizing us' with
  | nil => cases h'; rfl
  | cons h r ih => cases h' with | cons h2 r2 => rw [ih r2]
theorem KFit.key {ks : List IntKind} {ys ys' : List SV} {us : List Value} (h : KFit ks ys us) (h' : KFit ks ys' us) : ys = ys' := by
  induction h generalizing ys' with
  | nil => cases h'; rfl
  | cons h r ih => cases h' with | cons h2 r2 => rw [ih r2]

def isP (op : Op) (e : Operand → SV) : Bool :=
  match op with
  | .makeMap _ none => true
  | .lookup _ x _ false => (match e x with | .obj _ => true | _ => false)
  | .mapUpdate _ m _ _ => (match e m with | .obj _ => true | _ => false)
  | .call c => (match c.callee, c.args.toList with
    | .builtin .cap, [x] => (match e x with | .rsl _ _ _ _ (some _) => true | _ => false)
    | .builtin .clear, [x] => (match e x with | .rsl _ _ _ _ _ => true | _ => false)
    | _, _ => false)
  | _ => false
def isP2 (op : Op) (e : Operand → SV) : Bool :=
  match op with
  | .makeSlice _ (.const (.int _ z)) _ => decide (z = 0)
  | .slice _ x _ (some _) none => (match e x with | .rsl _ _ _ _ _ => true | _ => false)
  | .call c => (match c.callee, c.args.toList with
    | .builtin .append, [x, _] => (match e x with | .rsl _ _ _ _ _ => true | _ => false)
    | _, _ => false)
  | _ => false
def capFits (c : Option Nat) (n : Nat) : Prop := match c with | some m => n ≤ m | none => True
def capLess (c : Option Nat) (n : Nat) : Option Nat := match c with | some m => some (m - n) | none => none
noncomputable def pvO (T : Nat → Option TI) (d : Option Nat) (op : Op) (e : Operand → SV) (μ : Nat → Blk) (κ : SV → List (Nat × Blk) → Option Nat → Prop) : Prop :=
  match op with
  | .makeMap t none => (match mapT t, d with
    | some _, some d => κ (.obj d) [(d, .gen 1 t [])] (some d)
    | _, _ => False)
  | .lookup t x k false => (match mapT t, e x, e k with
    | some m, .obj r, .agg ys => (match μ r with
      | .gen 1 t' l => if Nat.beq t' t then Rq (fun _ => kfitQ m.2.2 ys) (fun _ => QC (fun _ => SV.agg ys ∈ l) (fun b => κ (.bool b) [] none)) else False
      | _ => False)
    | _, _, _ => False)
  | .mapUpdate t x k v => (match mapT t, e x, e k, e v with
    | some m, .obj r, .agg ys, .bool true => (match μ r with
      | .gen 1 t' l => if Nat.beq t' t then Rq (fun _ => kfitQ m.2.2 ys) (fun _ => κ .any [(r, .gen 1 t' (O.ap l [.agg ys]))] none) else False
      | _ => False)
    | _, _, _, _ => False)
  | .makeSlice t n c => (match T t, d with
    | some i, some d => (match i.kind with
      | .slice el => (match T el, e n, e c with
        | some j, .int _ n, .int _ c => if chunkOk j j.zero && !(Nat.beq j.size 0) then
            QV (fun (m : Nat) => n = 0 ∧ c = (m : Int) ∧ c ≤ 9223372036854775807 ∧ (j.bytes : Int) * c ≤ 140737488355328) (fun m => κ (.rsl d j.shape 0 0 (some m)) [(d, .row j.shape el (O.rp c j.zero))] (some d)) else False
        | _, _, _ => False)
      | _ => False)
    | _, _ => False)
  | .call c => (match c.callee, c.argTypes.toList, c.args.toList with
    | .builtin .append, [t, t2], [s, x] => (match T t with
      | some i => (match i.kind with
        | .slice el => (match T el with
          | some j => if isSrc (T t2) && !(Nat.beq j.size 0) then (match e s, srcOf μ j.shape (e x) with
            | .rsl q sh a n c, some ys => (match μ q with
              | .row s' el' l => if shEq sh j.shape && shEq s' j.shape then
                  QV (fun (r : Nat × Nat × Nat) => r.1 = n + O.ln ys ∧ capFits c r.1 ∧ a + r.1 ≤ O.ln l ∧ r.2.1 = a + n ∧ r.2.2 = O.ln ys) (fun r => κ (.rsl q sh a r.1 c) [(q, .row s' el' (O.cp l r.2.1 r.2.2 ys))] none) else False
              | _ => False)
            | _, _ => False) else False
          | none => False)
        | _ => False)
      | none => False)
    | .builtin .cap, [t], [s] => (match T t with
      | some i => (match i.kind, e s with
        | .slice _, .rsl q sh _ _ (some c) => (match listB sh (μ q) with
          | some _ => Q1 (fun _ => True) (fun z => z = (c : Int)) (fun z => κ (.int .i64 z) [] none)
          | none => False)
        | _, _ => False)
      | none => False)
    | .builtin .clear, [t], [s] => (match T t with
      | some i => (match i.kind with
        | .slice el => (match T el, e s with
          | some j, .rsl q sh a n _ => (match μ q with
            | .row s' el' l => if shEq sh j.shape && shEq s' j.shape && chunkOk j j.zero && !(Nat.beq j.size 0) then Rq (fun _ => a + n ≤ O.ln l) (fun _ => κ .any [(q, .row s' el' (O.cp l a n (O.rp n j.zero)))] none) else False
            | _ => False)
          | _, _ => False)
        | _ => False)
      | none => False)
    | _, _, _ => False)
  | .slice t x lo (some hi) none => (match T t with
    | some i => (match i.kind with
      | .slice el => (match T el, e x, optI e lo, e hi with
        | some j, .rsl q sh a _ c, some zl, .int _ zh => (match listB j.shape (μ q) with
          | some l => if shEq sh j.shape then
              QV (fun (r : Nat × Nat × Option Nat) => ∃ lo hi : Nat, (match zl with | some z => z | none => 0) = (lo : Int) ∧ zh = (hi : Int) ∧ lo ≤ hi ∧ a + hi ≤ O.ln l ∧ capFits c hi ∧ r = (a + lo, hi - lo, capLess c lo)) (fun r => κ (.rsl q sh r.1 r.2.1 r.2.2) [] none) else False
          | none => False)
        | _, _, _, _ => False)
      | _ => False)
    | none => False)
  | _ => False
theorem run_append_into (w : World) (t t2 ty e : TypeId) (d2 : TypeDesc) (i : TypeInfo) (size : Nat) (ht : P.underlying t = some (.slice e)) (ht2 : P.underlying t2 = some d2) (hd2 : d2 = .string ∨ ∃ e', d2 = .slice e') (hi : P.info? e = some i) (hsz : i.size = size)
    (b off n cap : Nat) (cur : Array Value) (eb : TypeId) (hg : w.heap[b]? = some (.cells cur eb (0, 0))) (x : Value) (m : Nat) (news : List Value) (hn1 : ∀ u ∈ news, u.oneCell' = true)
    (hlen : ∀ w', (Builtin.lenOf x).run P w' = .ok m w') (hfc : (Builtin.firstCells size m x).run P w = .ok news.toArray w) (hroom : n + m ≤ cap) (hfit : off + n * size + news.length ≤ cur.size) :
    (Builtin.append_ #[t, t2] ty #[.slice (some ⟨b, off, none⟩) n cap, x]).run P w = .ok (.slice (some ⟨b, off, none⟩) (n + m) cap) (w.setRow b (cur.toList.take (off + n * size) ++ news ++ cur.toList.drop (off + n * size + news.length)).toArray) := by
  have hst := run_storeCells_at P b (off + n * size) eb news 0 cur w hg (by omega) hn1
  simp only [Nat.add_zero] at hst
  rcases hd2 with rfl | ⟨e', rfl⟩ <;> simp [Builtin.append_, run_underlying ht, run_underlying ht2, sizeOf, typeInfo, hi, hsz, hfc, hlen, hroom, addr_add, hst]
theorem run_append_none (w : World) (t t2 ty e : TypeId) (d2 : TypeDesc) (i : TypeInfo) (size : Nat) (ht : P.underlying t = some (.slice e)) (ht2 : P.underlying t2 = some d2) (hd2 : d2 = .string ∨ ∃ e', d2 = .slice e') (hi : P.info? e = some i) (hsz : i.size = size)
    (a : Option Addr) (n cap : Nat) (hnc : n ≤ cap) (x : Value) (hlen : ∀ w', (Builtin.lenOf x).run P w' = .ok 0 w') (hfc : (Builtin.firstCells size 0 x).run P w = .ok #[] w) :
    (Builtin.append_ #[t, t2] ty #[.slice a n cap, x]).run P w = .ok (.slice a n cap) w := by
  rcases hd2 with rfl | ⟨e', rfl⟩
  all_goals cases a <;> simp [Builtin.append_, run_underlying ht, run_underlying ht2, sizeOf, typeInfo, hi, hsz, hfc, hlen, storeCells, hnc]
theorem row_splice {N : Nat → Prop} {w0 w : World} {X : Nat → Prop} {mem : Mem} {ρ : Env} (m : MRep T N w0 w X mem ρ) {q : Nat} {sh : Option Nat} {el : Nat} {l ys : List SV} (hg : getM mem q = .row sh el l) (hp : 0 < wid sh)
    {b off cap : Nat} {cur : Array Value} (hv : ρ q = some (.slice (some ⟨b, off, none⟩) l.length cap)) (k1 : N b) (k2 : w.heap[b]? = some (.cells cur el (0, 0))) (k3 : l.length ≤ cap) (k4 : cap ≤ maxLen) (k5 : off + cap * wid sh ≤ cur.size) (k6 : 0 < cap)
    (k7 : ∀ u ∈ cur.toList, u.oneCell' = true) (k8 : ∀ (i : Nat) (h : i < l.length), Den w (Forb X mem ρ) noEnv l[i] (valAt sh (cur.toList.drop off) i)) {a : Nat} {us : List Value} (u1 : us.length = ys.length * wid sh) (u2 : ∀ u ∈ us, u.oneCell' = true)
    (u3 : ∀ (i : Nat) (h : i < ys.length), Den w (Forb X mem ρ) noEnv ys[i] (valAt sh us i)) (ha : a + ys.length ≤ l.length) :
    off + a * wid sh + us.length ≤ cur.size ∧ MRep T N w0 (w.setRow b (cur.toList.take (off + a * wid sh) ++ us ++ cur.toList.drop (off + a * wid sh + us.length)).toArray) X (setM (.row sh el (O.cp l a (O.ln ys) ys)) mem q) ρ ∧
      Turn w (Forb X mem ρ) ρ (w.setRow b (cur.toList.take (off + a * wid sh) ++ us ++ cur.toList.drop (off + a * wid sh + us.length)).toArray) (Forb X (setM (.row sh el (O.cp l a (O.ln ys) ys)) mem q) ρ) ρ none := by
  have e0 : O.cp l a (O.ln ys) ys = l.take a ++ ys ++ l.drop (a + ys.length) := by rw [O.hcp, O.hln, List.take_length, Nat.min_self]
  rw [e0]
  have hcl : cur.toList.length = cur.size := Array.length_toList
  have hle : l.length * wid sh ≤ cap * wid sh := Nat.mul_le_mul_right _ k3
  have hle2 : (a + ys.length) * wid sh ≤ l.length * wid sh := Nat.mul_le_mul_right _ ha
  have hadd : (a + ys.length) * wid sh = a * wid sh + ys.length * wid sh := Nat.add_mul _ _ _
  have hfit : off + a * wid sh + us.length ≤ cur.toList.length := by omega
  have hll : (l.take a ++ ys ++ l.drop (a + ys.length)).length = l.length := by
    simp only [List.length_append, List.length_take, List.length_drop]
    omega
  refine ⟨by omega, row_write (l' := l.take a ++ ys ++ l.drop (a + ys.length)) m hg hll hv k1 k2 k3 k4 k5 k6 k7 (off + a * wid sh) us (by omega) u2 (fun k hk => ?_)⟩
  have hk' : k < l.length := by omega
  have hkl : k * wid sh + wid sh ≤ l.length * wid sh := by rw [← Nat.succ_mul]; exact Nat.mul_le_mul_right _ hk'
  have hlen : ((cur.toList.take (off + a * wid sh) ++ us ++ cur.toList.drop (off + a * wid sh + us.length)).drop off).length = cur.size - off := by
    rw [List.length_drop, splice_len hfit, hcl]
  have hgetl : (l.take a ++ ys ++ l.drop (a + ys.length))[k]? = if a ≤ k ∧ k < a + ys.length then ys[k - a]? else l[k]? := by
    by_cases c1 : k < a
    · rw [if_neg (by omega), List.append_assoc, List.getElem?_append_left (by rw [List.length_take]; omega), List.getElem?_take, if_pos c1]
    · by_cases c2 : k < a + ys.length
      · rw [if_pos (by omega), List.append_assoc, List.getElem?_append_right (by rw [List.length_take]; omega), List.getElem?_append_left (by rw [List.length_take]; omega)]
        congr 1
        rw [List.length_take]
        omega
      · rw [if_neg (by omega), List.getElem?_append_right (by rw [List.length_append, List.length_take]; omega), List.getElem?_drop]
        congr 1
        rw [List.length_append, List.length_take]
        omega
  rw [List.getElem?_eq_getElem hk] at hgetl
  split at hgetl
  · rename_i hin
    have hky : k - a < ys.length := by omega
    rw [List.getElem?_eq_getElem hky] at hgetl
    injection hgetl with hgetl
    rw [hgetl]
    have e1 : (k - a) * wid sh + wid sh ≤ ys.length * wid sh := by rw [← Nat.succ_mul]; exact Nat.mul_le_mul_right _ (by omega)
    have e2 : k * wid sh = a * wid sh + (k - a) * wid sh := by rw [← Nat.add_mul]; congr 1; omega
    have : valAt sh ((cur.toList.take (off + a * wid sh) ++ us ++ cur.toList.drop (off + a * wid sh + us.length)).drop off) k = valAt sh us (k - a) := by
      rw [valAt_seg _ _ k (by omega), valAt_seg sh us (k - a) (by omega)]
      congr 1
      apply List.ext_getElem?
      intro p
      rw [List.getElem?_take, List.getElem?_take]
      split
      · rw [List.getElem?_drop, List.getElem?_drop, List.getElem?_drop, splice_get hfit, if_pos (by omega)]
        congr 1
        omega
      · rfl
    rw [this]
    exact u3 _ hky
  · rename_i hin
    rw [List.getElem?_eq_getElem hk'] at hgetl
    injection hgetl with hgetl
    rw [hgetl]
    have e1 : k < a → k * wid sh + wid sh ≤ a * wid sh := fun h => by rw [← Nat.succ_mul]; exact Nat.mul_le_mul_right _ h
    have e2 : ¬ k < a → (a + ys.length) * wid sh ≤ k * wid sh := fun h => Nat.mul_le_mul_right _ (by omega)
    rw [valAt_ext (vs := cur.toList.drop off) (by omega) (by rw [List.length_drop]; omega) (fun p h1 h2 => by
      rw [List.getElem?_drop, List.getElem?_drop, splice_get hfit, if_neg]
      by_cases c1 : k < a
      · have := e1 c1; omega
      · have := e2 c1; omega)]
    exact k8 k hk'
theorem cp_nil (l : List SV) (a : Nat) : O.cp l a 0 [] = l := by rw [O.hcp]; simp
theorem rp_get (n : Int) (z : SV) (i : Nat) (h : i < (O.rp n z).length) : (O.rp n z)[i] = z := by
  have h' := h
  simp only [O.hrp] at h'
  have : (O.rp n z)[i]? = some z := by rw [O.hrp, List.getElem?_replicate, if_pos (by simpa using h')]
  rw [List.getElem?_eq_getElem h] at this
  exact Option.some.inj this
theorem pvO_ok (tys : Types P T) (sz : Sizes T) (mp : ∀ t m, mapT t = some m → MapOk P t m) {o : Oper} {e : Operand → SV} {μ : Nat → Blk} {κ : SV → List (Nat × Blk) → Option Nat → Prop} (h : pvO T o.dst o.op e μ κ) :
    ∃ x U cr, κ x U cr ∧ (∀ q b, (q, b) ∈ U → cr = some q ∨ (μ q).own = true) ∧ (∀ k, cr = some k → o.dst = some k ∧ ((∃ t, o.op = .makeMap t none) ∨ ∃ t n c, o.op = .makeSlice t n c)) ∧ Eff P T o e μ x U cr := by
  generalize ho : o.op = op at h
  cases op
  case makeMap t r =>
    cases r with
    | some r => exact h.elim
    | none =>
    simp only [pvO] at h
    split at h <;> try exact h.elim
    rename_i mt d hmt hd
    refine ⟨_, _, _, h, (fun q b hq => by simp at hq; exact .inl (by rw [hq.1])), (fun k hk => ⟨by rw [hd, ← hk], .inl ⟨_, rfl⟩⟩), .of_run fun mem hμ hcr a N w0 w X ρ m hden => ?_⟩
    obtain ⟨hno, hnr, hn⟩ := hcr d rfl
    have hbel : Below w.heap.size w (w.alloc (.map #[] 0)) := (Below.refl _ _).alloc (Nat.le_refl _) _
    obtain ⟨m', t'⟩ := m.create (w' := w.alloc (.map #[] 0)) hno hnr (B := .gen 1 t []) (v := .map (some w.heap.size)) (fun b hb => by simp only [vblock] at hb; injection hb with hb; subst hb; exact ⟨Nat.le_refl _, by show _ < (w.heap.push _).size; simp⟩) hbel
      (fun _ => ⟨_, w.heap.size, _, rfl, rfl, m.szN _ (Nat.le_refl _), heap_alloc_new w _, mt, hmt, rfl, #[], 0, rfl, by simp, by simp⟩)
    refine ⟨_, .map (some w.heap.size), _, _, ?_, .inl rfl, m', .obj _ d _ rfl (fun q hq => ?_), t'⟩
    · simp only [execOp, ho, Option.map_none, Instr.makeMap, newObj]
      rfl
    · simp only [upd, if_true] at hq
      injection hq with hq
      exact hq.symm
  case lookup t x k ok =>
    cases ok with
    | true => exact h.elim
    | false =>
    simp only [pvO] at h
    split at h <;> try exact h.elim
    rename_i mt r ys hmt hx hk
    split at h <;> try exact h.elim
    rename_i t' l hm
    split at h <;> try exact h.elim
    rename_i htt
    have htt : t' = t := Nat.eq_of_beq_eq_true htt
    subst htt
    obtain ⟨hfit, h⟩ := h
    have key : ∀ b : Bool, (b = true ↔ SV.agg ys ∈ l) → Eff P T o e μ (.bool b) [] none := by
      intro b hb
      refine .of_run fun mem hμ hcr a N w0 w X ρ m hden => ?_
      obtain ⟨hgm, v, bl, ob, h1, h2, h3, h4, mt', g0, rfl, es, clock, rfl, g1, g2⟩ := hμ.gen m hm
      rw [hmt] at g0
      injection g0 with g0
      subst g0
      have mo := mp _ _ hmt
      have hdx := hden x (by simp [ho, Op.operands])
      have hdk := hden k (by simp [ho, Op.operands])
      rw [hx] at hdx
      rw [hk] at hdk
      obtain ⟨us, hku, hus⟩ := Den.agg_iff.1 hdk
      have fk := kfit_den hfit hus
      obtain ⟨lx, hlx⟩ := mo.fits _ _ fk
      generalize hax : a.eval x = u at hdx
      cases hdx with
      | obj _ _ _ _ hob =>
        obtain rfl := hob _ h1
        have hall : ∀ z ∈ es.toList, ∃ l, keyOf P mt.1 z.key = some l := fun z hz => by
          obtain ⟨_, ys', us', f1, f2, _⟩ := g1 z hz
          rw [f2]; exact mo.fits _ _ f1
        have hchk := mo.law.check w es.isEmpty hlx
        have hfind : ∃ r : Option (Nat × Value), (Instr.findKey mt.1 (.agg ⟨us⟩) es.toList).run P w = .ok r w ∧ ((r = none ∧ b = false) ∨ ∃ j, r = some (j, .bool true) ∧ b = true) := by
          rcases mo.law.find w hlx es.toList hall with ⟨f1, f2⟩ | ⟨j, z, f1, f2, f3⟩
          · refine ⟨_, f1, .inl ⟨rfl, ?_⟩⟩
            cases hbb : b with
            | false => rfl
            | true =>
              obtain ⟨ys', us', z, e1, e2, e3, e4⟩ := g2 _ (hb.1 hbb)
              injection e1 with e1
              subst e1
              rw [e2.val fk] at e4
              exact absurd e4 (f2 z e3)
          · have hz : z ∈ es.toList := List.mem_of_getElem? f2
            obtain ⟨e1, ys', us', e2, e3, e4⟩ := g1 z hz
            rw [f3] at e3
            injection e3 with e3
            injection e3 with e3
            subst e3
            rw [e2.key fk] at e4
            refine ⟨_, f1, .inr ⟨j, by rw [e1], hb.2 e4⟩⟩
        obtain ⟨rr, hf1, hf2⟩ := hfind
        refine ⟨_, .bool b, w, ρ, ?_, .inl rfl, m, .bool _ _, Turn.refl _ _ _ _⟩
        have hgo : (getObj bl).run P w = .ok (.map es clock) w := by simp [getObj, Sem.run, h4]
        simp only [execOp, ho, hax, hku, Instr.lookup, run_underlying mo.und, Sem.run_bind, Result.andThen_ok, hgo, Sem.run_pure, hchk, hf1]
        rcases hf2 with ⟨rfl, rfl⟩ | ⟨j, rfl, rfl⟩
        · simp [mo.zero w]
        · simp
    by_cases hmem : SV.agg ys ∈ l
    · exact ⟨_, _, _, h.t hmem, (fun q b hq => by simp at hq), (fun k hk => by cases hk), key true (by simp [hmem])⟩
    · exact ⟨_, _, _, h.f hmem, (fun q b hq => by simp at hq), (fun k hk => by cases hk), key false (by simp [hmem])⟩
  case mapUpdate t x k vo =>
    simp only [pvO] at h
    split at h <;> try exact h.elim
    rename_i mt r ys hmt hx hk hvo
    split at h <;> try exact h.elim
    rename_i t' l hm
    split at h <;> try exact h.elim
    rename_i htt
    have htt : t' = t := Nat.eq_of_beq_eq_true htt
    subst htt
    obtain ⟨hfit, h⟩ := h
    rw [O.hap] at h
    refine ⟨_, _, _, h, (fun q b hq => by simp at hq; rw [hq.1, hm]; exact .inr rfl), (fun k hk => by cases hk), .of_run fun mem hμ hcr a N w0 w X ρ m hden => ?_⟩
    obtain ⟨hgm, v, bl, ob, h1, h2, h3, h4, mt', g0, rfl, es, clock, rfl, g1, g2⟩ := hμ.gen m hm
    rw [hmt] at g0
    injection g0 with g0
    subst g0
    have mo := mp _ _ hmt
    have hdx := hden x (by simp [ho, Op.operands])
    have hdk := hden k (by simp [ho, Op.operands])
    have hdv := hden vo (by simp [ho, Op.operands])
    rw [hx] at hdx
    rw [hk] at hdk
    rw [hvo, Den.bool_iff] at hdv
    obtain ⟨us, hku, hus⟩ := Den.agg_iff.1 hdk
    have fk := kfit_den hfit hus
    obtain ⟨lx, hlx⟩ := mo.fits _ _ fk
    generalize hax : a.eval x = u at hdx
    cases hdx with
    | obj _ _ _ _ hob =>
      obtain rfl := hob _ h1
      have hall : ∀ z ∈ es.toList, ∃ l, keyOf P mt.1 z.key = some l := fun z hz => by
        obtain ⟨_, ys', us', f1, f2, _⟩ := g1 z hz
        rw [f2]; exact mo.fits _ _ f1
      have hchk := mo.law.check w false hlx
      have hgo : (getObj bl).run P w = .ok (.map es clock) w := by simp [getObj, Sem.run, h4]
      have up := fun (es' : Array MapEntry) (clock' : Nat) (c1 : ∀ z ∈ es'.toList, z.val = .bool true ∧ ∃ zs us, KFit mt.2.2 zs us ∧ z.key = .agg ⟨us⟩ ∧ SV.agg zs ∈ l ++ [SV.agg ys]) (c2 : ∀ z ∈ l ++ [SV.agg ys], ∃ zs us e, z = .agg zs ∧ KFit mt.2.2 zs us ∧ e ∈ es'.toList ∧ e.key = .agg ⟨us⟩) =>
        m.update (w' := { w with heap := w.heap.setIfInBounds bl (.map es' clock') }) h1 (by rw [hgm]; rfl) (b := bl) rfl ⟨rfl, rfl, rfl, by simp, fun k hk => by simp [Array.getElem?_setIfInBounds, show bl ≠ k by omega]⟩ (fun k hk => by simp [Array.getElem?_setIfInBounds, Ne.symm hk])
          (B := .gen 1 t' (l ++ [.agg ys])) (fun _ => ⟨_, bl, _, rfl, rfl, h3, by simp [Array.getElem?_setIfInBounds, heap_lt h4], mt, hmt, rfl, es', clock', rfl, c1, c2⟩)
      rcases mo.law.find w hlx es.toList hall with ⟨f1, f2⟩ | ⟨j, z, f1, f2, f3⟩
      · obtain ⟨m', tn⟩ := up (es.push { key := .agg ⟨us⟩, val := .bool true, born := clock }) (clock + 1) (fun z hz => by
          simp only [Array.toList_push, List.mem_append, List.mem_singleton] at hz
          rcases hz with hz | rfl
          · obtain ⟨e1, ys', us', e2, e3, e4⟩ := g1 z hz
            exact ⟨e1, ys', us', e2, e3, List.mem_append_left _ e4⟩
          · exact ⟨rfl, ys, us, fk, rfl, by simp⟩) (fun z hz => by
          rcases List.mem_append.1 hz with hz | hz
          · obtain ⟨ys', us', z', e1, e2, e3, e4⟩ := g2 z hz
            exact ⟨ys', us', z', e1, e2, by simp [e3], e4⟩
          · simp only [List.mem_singleton] at hz
            exact ⟨ys, us, { key := .agg ⟨us⟩, val := .bool true, born := clock }, hz, fk, by simp, rfl⟩)
        refine ⟨_, undef, _, ρ, ?_, .inr ⟨rfl, rfl⟩, m', .any _ _, tn⟩
        simp only [execOp, ho, hax, hku, hdv, Instr.mapUpdate, run_underlying mo.und, Sem.run_bind, Result.andThen_ok, hgo, Sem.run_pure, hchk, f1]
        simp [setObj, Sem.run, h4]
      · have hz : z ∈ es.toList := List.mem_of_getElem? f2
        obtain ⟨e1, ys', us', e2, e3, e4⟩ := g1 z hz
        have hself : es.modify j (fun e => { e with key := .agg ⟨us⟩, val := .bool true }) = es := by
          apply Array.ext'
          have hj : es[j]? = some z := by simpa using f2
          obtain ⟨hj1, hj2⟩ := Array.getElem?_eq_some_iff.1 hj
          simp only [Array.toList_modify]
          apply List.ext_getElem?
          intro i
          rw [List.getElem?_modify]
          by_cases hij : j = i
          · subst hij
            rw [f2]
            simp only [if_true, Option.map_some, Option.some.injEq]
            obtain ⟨zk, zv, zb⟩ := z
            simp only at f3 e1
            subst f3; subst e1
            rfl
          · simp [hij]
        obtain ⟨m', tn⟩ := up es clock (fun z hz => by
          obtain ⟨e1, ys', us', e2, e3, e4⟩ := g1 z hz
          exact ⟨e1, ys', us', e2, e3, List.mem_append_left _ e4⟩) (fun y hy => by
          rcases List.mem_append.1 hy with hy | hy
          · exact g2 y hy
          · simp only [List.mem_singleton] at hy
            exact ⟨ys, us, z, hy, fk, hz, f3⟩)
        refine ⟨_, undef, _, ρ, ?_, .inr ⟨rfl, rfl⟩, m', .any _ _, tn⟩
        have hj : es[j]? = some z := by simpa using f2
        simp only [execOp, ho, hax, hku, hdv, Instr.mapUpdate, run_underlying mo.und, Sem.run_bind, Result.andThen_ok, hgo, Sem.run_pure, hchk, f1, hj, Option.map_some, Option.getD_some, f3, mo.law.stays w hlx, hself]
        simp [setObj, Sem.run, h4]
  case makeSlice t n c =>
    simp only [pvO] at h
    split at h <;> try exact h.elim
    rename_i i d ht hd
    split at h <;> try exact h.elim
    rename_i el hk
    split at h <;> try exact h.elim
    rename_i j kn nv kc cv hj hn hc
    split at h <;> try exact h.elim
    rename_i hck
    simp only [Bool.and_eq_true, Bool.not_eq_true'] at hck
    obtain ⟨cm, ⟨g1, g2, g3, g4⟩, h⟩ := h.h
    rw [O.hrp] at h
    refine ⟨_, _, _, h, (fun q b hq => by simp at hq; exact .inl (by rw [hq.1])), (fun k hk => ⟨by rw [hd, ← hk], .inr ⟨_, _, _, rfl⟩⟩), .of_run fun mem hμ hcr a N w0 w X ρ m hden => ?_⟩
    obtain ⟨hno, hnr, _⟩ := hcr d rfl
    have d1 := hden n (by simp [ho, Op.operands])
    have d2 := hden c (by simp [ho, Op.operands])
    rw [hn, Den.int_iff] at d1
    rw [hc, Den.int_iff] at d2
    have tj := tys.ok el j hj
    have ti := tys.ok t i ht
    obtain ⟨ji, j1, j2, j3⟩ := tj.inf
    obtain ⟨z, z1, z2, z3, z4, z5⟩ := tj.zero
    have hz : ji.zero = some z := by rw [j1] at z1; simpa using z1
    have hw := TI.wid_size (sz.one _ _ hj)
    have hp : 0 < wid j.shape := by
      rcases Nat.eq_zero_or_pos (wid j.shape) with h0 | h0
      · rw [hw, h0] at hck; simp at hck
      · exact h0
    have hdz : ∀ Y ρ, Den w Y ρ j.zero z := fun Y ρ => by rw [z2]; exact ofValue_den _ _ _ _
    obtain ⟨c1, c2, c3⟩ := chunk_den (sz.one el j hj) hck.1 (hdz (Forb X mem ρ) noEnv)
    have hrun := run_make (P := P) w t el ji z (ti.und_slice hk) j1 hz kn kc nv cv (by omega) (by omega) (by rw [j3]; omega) (by omega)
    rw [j2] at hrun
    have hcm : cv.toNat = cm := by omega
    have hsz : (madeCells z.cells (cv.toNat * j.size)).size = cv.toNat * wid j.shape := by rw [size_madeCells, hw]
    obtain ⟨ρ', m', d', t'⟩ := new_row (e := el) (sh := j.shape) (l := List.replicate cv.toNat j.zero) m hno hnr (madeCells z.cells (cv.toNat * j.size)) cv.toNat (by simp) (by simp only [maxLen]; omega) hsz
      (made_one z4 (by omega) _) (fun i hi => by
        rw [List.getElem_replicate, show madeCells z.cells (cv.toNat * j.size) = (Array.range (cv.toNat * j.size)).map (z.cells[· % z.cells.size]!) from rfl]
        rw [valAt_made (n := cv.toNat) (by omega) c3 (by simpa using hi) _ (by rw [hw]; exact Nat.le_refl _)]
        exact hdz _ _)
    refine ⟨_, .slice (some ⟨w.heap.size, 0, none⟩) nv.toNat cv.toNat, _, ρ', ?_, .inl rfl, m', ?_, t'⟩
    · simp only [execOp, ho, d1, d2, Sem.run_bind, hrun, Result.andThen_ok, Sem.run_pure]
    · rw [g1, hcm]
      refine .rsl _ _ _ _ _ _ _ _ (by simp) fun q hq => ?_
      cases d' with
      | row _ _ _ _ _ hr =>
        have := hr q hq
        subst this
        refine ⟨_, _, _, rfl, by omega, by omega, (fun h => by cases h), (fun m hm => by injection hm), .inr ⟨w.heap.size, 0, rfl, by simp⟩⟩
  case slice t x lo hi mx =>
    cases mx with
    | some _ => cases hi <;> exact h.elim
    | none =>
    cases hi with
    | none => exact h.elim
    | some hi =>
    simp only [pvO] at h
    split at h <;> try exact h.elim
    rename_i i ht
    split at h <;> try exact h.elim
    rename_i el hk
    split at h <;> try exact h.elim
    rename_i j q sh av nv c zl kz zh hj hx hlo hhi
    split at h <;> try exact h.elim
    rename_i l hm
    split at h <;> try exact h.elim
    rename_i hsh
    have hs1 := shEq_eq hsh
    subst hs1
    obtain ⟨r, ⟨lov, hiv, b1, b2, b3, b4, b5, rfl⟩, h⟩ := h.h
    rw [O.hln] at b4
    simp only at h
    refine ⟨_, _, _, h, (fun q b hq => by simp at hq), (fun k hk => by cases hk), .of_run fun mem hμ hcr a N w0 w X ρ m hden => ?_⟩
    have ti := tys.ok t i ht
    have tj := tys.ok el j hj
    have hw := TI.wid_size (sz.one _ _ hj)
    rw [ho] at hden
    simp only [Op.operands] at hden
    have dx := hden x (by simp)
    have dh := hden hi (by simp)
    rw [hx] at dx
    rw [hhi, Den.int_iff] at dh
    have dl := optI_some (a := a) hlo (w := w) (X := Forb X mem ρ) (ρ := ρ) (fun y hy => hden y (by simp [hy]))
    obtain ⟨v, hv, ad0, c0, hv0, hle0, _⟩ := listB_den hμ m hm
    obtain ⟨ad, cc, x0, len, cap, e1, e2, e3, e4, e5, e6, e7, e8⟩ := rsl_at dx hv
    have hlen : len = l.length ∧ len ≤ cap := by
      rw [hv0] at e3; injection e3 with _ e3 e3'; omega
    have hhc : hiv ≤ cc := by
      cases c with
      | none => rw [e6 rfl]; omega
      | some m0 => rw [e7 m0 rfl]; exact b5
    have hr := run_slice_gen (P := P) w (ti.und_slice hk) (fun w => tj.sizeOf w) ad nv cc lov hiv cc (lo.map a.eval) (some (a.eval hi)) none (.inl ⟨rfl, rfl⟩) (.inr ⟨_, _, by rw [dh], by omega, by omega, by omega⟩)
      (by
        rcases dl with ⟨d1, d2⟩ | ⟨k, z, d1, d2⟩
        · subst d2; exact .inl ⟨d1, by simp at b1; omega⟩
        · subst d2; simp only at b1; exact .inr ⟨k, z, d1, by omega, by omega, by omega⟩)
    refine ⟨_, _, w, ρ, by simp only [execOp, ho, e1, Option.map_some, Option.map_none, Sem.run_bind, hr, Result.andThen_ok, Sem.run_pure]; rfl, .inl rfl, m, ?_, Turn.refl _ _ _ _⟩
    refine .rsl _ _ _ _ _ _ _ _ (by omega) fun q' hq' => ?_
    rw [hv] at hq'
    injection hq' with hq'
    subst hq'
    refine ⟨x0, len, cap, e3, by omega, by omega, fun hz => ?_, fun z hz => ?_, ?_⟩
    · cases c with
      | none => rw [e6 rfl]; omega
      | some _ => cases hz
    · cases c with
      | none => cases hz
      | some m0 => simp only [capLess] at hz; injection hz with hz; rw [e7 m0 rfl, hz]
    · by_cases hml : cc = lov
      · exact .inl (by omega)
      · rw [if_neg hml]
        rcases e8 with e8 | ⟨b, off, e8, e9⟩
        · exact .inl (by omega)
        · refine .inr ⟨b, off, e8, ?_⟩
          rw [e9]
          simp [addr_add, hw, Nat.add_mul, Nat.add_assoc]
  case call cl =>
    obtain ⟨cal, args, ats⟩ := cl
    simp only [pvO] at h
    split at h <;> try exact h.elim
    · rename_i t t2 s x hat har
      obtain rfl : args = #[s, x] := by apply Array.ext'; simpa using har
      obtain rfl : ats = #[t, t2] := by apply Array.ext'; simpa using hat
      split at h <;> try exact h.elim
      rename_i i ht
      split at h <;> try exact h.elim
      rename_i el hk
      split at h <;> try exact h.elim
      rename_i j hj
      split at h <;> try exact h.elim
      rename_i hck
      simp only [Bool.and_eq_true, Bool.not_eq_true'] at hck
      have hpos : j.size ≠ 0 := by intro h0; rw [h0] at hck; simp at hck
      split at h <;> try exact h.elim
      rename_i q sh av nv c ys hs hsrc
      split at h <;> try exact h.elim
      rename_i s' el' l hm
      split at h <;> try exact h.elim
      rename_i hsh
      simp only [Bool.and_eq_true] at hsh
      have hs1 := shEq_eq hsh.1
      have hs2 := shEq_eq hsh.2
      subst hs1; subst hs2
      obtain ⟨⟨p, pa, pl⟩, ⟨b1, b2, b3, b4, b5⟩, h⟩ := h.h
      simp only at b1 b2 b3 b4 b5 h
      subst b4; subst b5
      rw [O.hln] at b1 b3
      refine ⟨_, _, _, h, (fun q b hq => by simp at hq; rw [hq.1, hm]; exact .inr rfl), (fun k hk => by cases hk), .of_run fun mem hμ hcr ac N w0 w X ρ m hd => ?_⟩
      have ti := tys.ok t i ht
      have tj := tys.ok el j hj
      have hw := TI.wid_size (sz.one _ _ hj)
      obtain ⟨ji, j1, j2, j3⟩ := tj.inf
      obtain ⟨d2, hd2, hd3⟩ := isSrc_und tys hck.1
      obtain ⟨us, u1, u2, u3, u4, u5⟩ := (src_den (P := P) hμ m hsrc (hd x (by simp [ho, Op.operands, Call.operands]))).h
      have dx := hd s (by simp [ho, Op.operands, Call.operands])
      rw [hs] at dx
      obtain ⟨v, hv, hg, hcase⟩ := hμ.rowAt m hm
      obtain ⟨ad, cc, x0, len, cap, e1, e2, e3, e4, e5, e6, e7, e8⟩ := rsl_at dx hv
      have hexec : execOp ac.eval o = (do let v ← Builtin.append_ #[t, t2] o.type #[ac.eval s, ac.eval x]; pure (.value v)) := by
        simp [execOp, ho, resolve, invoke, builtin]
      have hlen : len = l.length ∧ len ≤ cap := by
        rcases hcase with ⟨a0, r1, r2⟩ | ⟨b, off, cap', cur, r1, _, _, r4, _⟩
        · rw [r1] at e3; injection e3 with _ e3 e3'; subst r2; simp; omega
        · rw [r1] at e3; injection e3 with _ e3 e3'; omega
      have hpc : p ≤ cc := by
        cases c with
        | none => rw [e6 rfl]; omega
        | some m0 => rw [e7 m0 rfl]; exact b2
      by_cases h0 : ys.length = 0
      · have hys : ys = [] := List.eq_nil_of_length_eq_zero h0
        subst hys
        have hus : us = [] := List.eq_nil_of_length_eq_zero (by rw [u1]; simp)
        subst hus
        have hr := run_append_none (P := P) w t t2 o.type el d2 ji (wid j.shape) (ti.und_slice hk) hd2 hd3 j1 (by rw [j2, hw]) ad nv cc e2 (ac.eval x) u4 (by have := u5 w 0 rfl (Nat.zero_le _); simpa using this)
        have hsame : ∀ q', getM (appU [(q, .row j.shape el' (O.cp l (av + nv) (O.ln []) []))] mem) q' = getM mem q' := by
          intro q'
          simp only [appU, getM_setM]
          split
          · rename_i hq; rw [hq, hg, O.hln, List.length_nil, cp_nil]
          · rfl
        refine ⟨_, .slice ad nv cc, w, ρ, ?_, .inl rfl, m.congr hsame, ?_, ?_⟩
        · rw [hexec, e1]
          simp only [Sem.run_bind, hr, Result.andThen_ok, Sem.run_pure]
        · rw [forb_congr hsame]
          have : p = nv := by simpa using b1
          rw [this, ← e1]
          exact dx
        · rw [forb_congr hsame]
          exact Turn.refl _ _ _ _
      · have hcc : ¬ cc = 0 := by omega
        obtain ⟨b, off, e8, e9⟩ := e8.resolve_left hcc
        subst e8; subst e9
        rcases hcase with ⟨a0, hc1, rfl⟩ | ⟨b', off', cap', cur, hc1, k1, k2, k3, k4, k5, k6, k7, k8⟩
        · simp at b3; omega
        · rw [e3] at hc1
          injection hc1 with hc1 hc2 hc3
          simp only [Option.some.injEq, Addr.mk.injEq, and_true] at hc1
          obtain ⟨rfl, rfl⟩ := hc1
          subst hc2; subst hc3
          have hmul : (av + nv) * wid j.shape = av * wid j.shape + nv * wid j.shape := Nat.add_mul _ _ _
          obtain ⟨hfit, m', tn⟩ := row_splice (ys := ys) (us := us) (a := av + nv) m hg (by omega) (by rw [hv, e3]) k1 k2 k3 k4 k5 k6 k7 k8 u1 u2 u3 (by omega)
          have hr := run_append_into (P := P) w t t2 o.type el d2 ji (wid j.shape) (ti.und_slice hk) hd2 hd3 j1 (by rw [j2, hw]) b (off + av * wid j.shape) nv cc cur el' k2 (ac.eval x) ys.length us u2 u4
            (by have := u5 w ys.length rfl (Nat.le_refl _); rw [List.take_of_length_le (by omega)] at this; exact this) (by omega) (by omega)
          rw [show off + av * wid j.shape + nv * wid j.shape = off + (av + nv) * wid j.shape by omega] at hr
          refine ⟨_, .slice (some ⟨b, off + av * wid j.shape, none⟩) p cc, _, ρ, ?_, .inl rfl, m', ?_, tn⟩
          · rw [hexec, e1, b1]
            simp only [Sem.run_bind, hr, Result.andThen_ok, Sem.run_pure]
          · refine .rsl _ _ _ _ _ _ _ _ hpc fun q' hq' => ?_
            rw [hv] at hq'
            injection hq' with hq'
            subst hq'
            exact ⟨_, _, _, e3, by omega, e5, e6, e7, .inr ⟨b, off, rfl, rfl⟩⟩
    · rename_i t s hat har
      obtain rfl : args = #[s] := by apply Array.ext'; simpa using har
      obtain rfl : ats = #[t] := by apply Array.ext'; simpa using hat
      split at h <;> try exact h.elim
      rename_i i ht
      split at h <;> try exact h.elim
      rename_i el q sh av nv c hk hs
      split at h <;> try exact h.elim
      rename_i l hm
      have h := h.h.2 _ rfl
      refine ⟨_, _, _, h, (fun q b hq => by simp at hq), (fun k hk => by cases hk), .of_run fun mem hμ hcr ac N w0 w X ρ m hd => ?_⟩
      have dx := hd s (by simp [ho, Op.operands, Call.operands])
      rw [hs] at dx
      obtain ⟨v, hv, _⟩ := listB_den hμ m hm
      obtain ⟨ad, cc, x0, len, cap, e1, e2, e3, e4, e5, e6, e7, e8⟩ := rsl_at dx hv
      refine ⟨_, .int .i64 (c : Int), w, ρ, ?_, .inl rfl, m, .int _ _ _, Turn.refl _ _ _ _⟩
      simp [execOp, ho, resolve, invoke, builtin, e1, Builtin.cap_, run_underlying ((tys.ok t i ht).und_slice hk), goInt, e7 c rfl]
    · rename_i t s hat har
      obtain rfl : args = #[s] := by apply Array.ext'; simpa using har
      obtain rfl : ats = #[t] := by apply Array.ext'; simpa using hat
      split at h <;> try exact h.elim
      rename_i i ht
      split at h <;> try exact h.elim
      rename_i el hk
      split at h <;> try exact h.elim
      rename_i j q sh av nv c hj hs
      split at h <;> try exact h.elim
      rename_i s' el' l hm
      split at h <;> try exact h.elim
      rename_i hsh
      simp only [Bool.and_eq_true, Bool.not_eq_true'] at hsh
      have hs1 := shEq_eq hsh.1.1.1
      have hs2 := shEq_eq hsh.1.1.2
      subst hs1; subst hs2
      have hpos : j.size ≠ 0 := by intro h0; rw [h0] at hsh; simp at hsh
      obtain ⟨b3, h⟩ := h
      rw [O.hln] at b3
      refine ⟨_, _, _, h, (fun q b hq => by simp at hq; rw [hq.1, hm]; exact .inr rfl), (fun k hk => by cases hk), .of_run fun mem hμ hcr ac N w0 w X ρ m hd => ?_⟩
      have ti := tys.ok t i ht
      have tj := tys.ok el j hj
      have hw := TI.wid_size (sz.one _ _ hj)
      have dx := hd s (by simp [ho, Op.operands, Call.operands])
      rw [hs] at dx
      obtain ⟨v, hv, hg, hcase⟩ := hμ.rowAt m hm
      obtain ⟨ad, cc, x0, len, cap, e1, e2, e3, e4, e5, e6, e7, e8⟩ := rsl_at dx hv
      obtain ⟨z, zr, z2, z3, z4, z5⟩ := tj.zero_run
      have hp : 0 < wid j.shape := by omega
      have hdz : ∀ Y ρ, Den w Y ρ j.zero z := fun Y ρ => by rw [z2]; exact ofValue_den _ _ _ _
      obtain ⟨c1, c2, c3⟩ := chunk_den (sz.one el j hj) hsh.1.2 (hdz (Forb X mem ρ) noEnv)
      have hexec : execOp ac.eval o = (do let v ← Builtin.clear_ #[t] o.type #[ac.eval s]; pure (.value v)) := by
        simp [execOp, ho, resolve, invoke, builtin]
      have hrl : (O.rp (nv : Int) j.zero).length = nv := by rw [O.hrp]; simp
      by_cases h0 : nv = 0
      · subst h0
        have hnil : O.rp ((0 : Nat) : Int) j.zero = [] := List.eq_nil_of_length_eq_zero hrl
        have hsame : ∀ q', getM (appU [(q, .row j.shape el' (O.cp l av 0 (O.rp ((0 : Nat) : Int) j.zero)))] mem) q' = getM mem q' := by
          intro q'
          simp only [appU, getM_setM]
          split
          · rename_i hq; rw [hq, hg, hnil, cp_nil]
          · rfl
        refine ⟨_, .tuple #[], w, ρ, ?_, .inl rfl, m.congr hsame, .any _ _, ?_⟩
        · rw [hexec, e1]
          cases ad <;> simp [Builtin.clear_, run_underlying (ti.und_slice hk)]
        · rw [forb_congr hsame]
          exact Turn.refl _ _ _ _
      · obtain ⟨b, off, e8, e9⟩ := e8.resolve_left (by omega)
        subst e8; subst e9
        rcases hcase with ⟨a0, hc1, rfl⟩ | ⟨b', off', cap', cur, hc1, k1, k2, k3, k4, k5, k6, k7, k8⟩
        · simp at b3; omega
        · rw [e3] at hc1
          injection hc1 with hc1 hc2 hc3
          simp only [Option.some.injEq, Addr.mk.injEq, and_true] at hc1
          obtain ⟨rfl, rfl⟩ := hc1
          subst hc2; subst hc3
          have hzz : Builtin.zeroCells z.cells nv = (Array.range (nv * z.cells.size)).map (z.cells[· % z.cells.size]!) := rfl
          obtain ⟨hfit, m', tn⟩ := row_splice (ys := O.rp (nv : Int) j.zero) (us := (Builtin.zeroCells z.cells nv).toList) (a := av) m hg (by omega) (by rw [hv, e3]) k1 k2 k3 k4 k5 k6 k7 k8 (by rw [hzz, hrl]; simp; rw [z3, hw])
            (by rw [hzz]; exact made_one z4 (by omega) _) (fun i hi => by
              rw [rp_get, hzz, valAt_made (n := nv) (by omega) c3 (by omega) _ (by rw [z3, hw]; exact Nat.le_refl _)]
              exact hdz _ _) (by omega)
          rw [O.hln, hrl] at m' tn
          have hst := run_storeCells_at P b (off + av * wid j.shape) el' (Builtin.zeroCells z.cells nv).toList 0 cur w k2 (by omega) (by rw [hzz]; exact made_one z4 (by omega) _)
          simp only [Nat.add_zero] at hst
          refine ⟨_, .tuple #[], _, ρ, ?_, .inl rfl, m', .any _ _, tn⟩
          rw [hexec, e1]
          obtain ⟨nv', rfl⟩ : ∃ n', nv = n' + 1 := ⟨nv - 1, by omega⟩
          simp [Builtin.clear_, run_underlying (ti.und_slice hk), zr w, hst]
  all_goals exact h.elim
end Go.Proofs.Ytapcbkcnokoljaa
namespace Go.Proofs.Ytapcbkcnokoljaa
set_option linter.unusedVariables false
set_option linter.unusedSimpArgs false
open Go.RowKit
variable {P : Program} {T : Nat → Option TI} {G : Nat → CT → Prop}

structure St where
  slots : List SV
  mem : Mem

def St.ev (s : St) : Operand → SV
  | .tmp t => getN .any s.slots t
  | .const v => ofValue v
  | .func f => .val (.func (.func f) #[] #[])
  | .global g => (match glob g with | some x => x | none => .val (.pointer (some ⟨g, 0, none⟩)))
def St.put (s : St) (d : Option Nat) (x : SV) : St := match d with
  | some d => ⟨setN x s.slots d, s.mem⟩
  | none => s
def isNo : Blk → Bool
  | .no => true
  | _ => false
def St.fresh (s : St) (d : Nat) : Bool := !(Nat.beq d 0) && Nat.blt d s.slots.length && isNo (getM s.mem d) && noref.norefs d s.slots && memNoref d s.mem

def memB (q : Nat) : List Nat → Bool
  | [] => false
  | x :: l => Nat.beq x q || memB q l
theorem memB_iff {q : Nat} : ∀ {l : List Nat}, memB q l = true ↔ q ∈ l
  | [] => by simp [memB]
  | x :: l => by
    simp only [memB, Bool.or_eq_true, Nat.beq_eq, memB_iff (l := l), List.mem_cons]
    exact or_congr_left eq_comm
def idsV : SV → List Nat
  | .ptr r _ => [r]
  | .row r => [r]
  | .rsl r _ _ _ _ => [r]
  | .rptr r _ _ _ => [r]
  | .obj r => [r]
  | .agg l => idsVs l
  | .tup l => idsVs l
  | _ => []
where idsVs : List SV → List Nat
  | [] => []
  | x :: l => idsV x ++ idsVs l
theorem idsV_noref {q : Nat} : ∀ {x : SV}, q ∈ idsV x → noref q x = false
  | .ptr r o, h => by simp [idsV] at h; simp [noref, h]
  | .row r, h => by simp [idsV] at h; simp [noref, h]
  | .rsl r _ _ _ _, h => by simp [idsV] at h; simp [noref, h]
  | .rptr r _ _ _, h => by simp [idsV] at h; simp [noref, h]
  | .obj r, h => by simp [idsV] at h; simp [noref, h]
  | .agg l, h => go (l := l) h
  | .tup l, h => go (l := l) h
  | .any, h | .bool _, h | .int _ _, h | .str _, h | .lst _ _, h | .nil, h | .eptr _ _ _, h | .clo _ _, h | .val _, h => by simp [idsV] at h
where go {q : Nat} : ∀ {l : List SV}, q ∈ idsV.idsVs l → noref.norefs q l = false
  | [], h => by simp [idsV.idsVs] at h
  | x :: l, h => by
    simp only [idsV.idsVs, List.mem_append] at h
    simp only [noref.norefs, Bool.and_eq_false_iff]
    rcases h with h | h
    · exact .inl (idsV_noref h)
    · exact .inr (go h)
def opIds (e : Operand → SV) : List Operand → List Nat
  | [] => []
  | y :: l => idsV (e y) ++ opIds e l
theorem opIds_mem {e : Operand → SV} {q : Nat} : ∀ {l : List Operand}, q ∈ opIds e l → ∃ y ∈ l, noref q (e y) = false
  | [], h => by simp [opIds] at h
  | y :: l, h => by
    simp only [opIds, List.mem_append] at h
    rcases h with h | h
    · exact ⟨y, by simp, idsV_noref h⟩
    · obtain ⟨z, hz, hn⟩ := opIds_mem h
      exact ⟨z, by simp [hz], hn⟩

inductive Cls where
  | p | r | s | m | w | f
def cls : Op → Cls
  | .load _ _ | .indexAddr _ _ _ => .r
  | .slice _ _ _ _ _ | .index _ _ _ | .convert _ _ _ | .range _ _ | .next _ _ => .s
  | .box _ _ | .alloc _ | .makeSlice _ _ _ | .buildSlice _ _ _ | .makeFunc _ _ _ | .makeMap _ _ => .m
  | .lookup _ _ _ _ => .s
  | .store _ _ _ | .mapUpdate _ _ _ _ => .w
  | .call c => (match c.callee with | .builtin .min | .builtin .max => .p | .builtin .len | .builtin .cap => .r | .builtin .append | .builtin .copy | .builtin .clear => .w | .value _ => .f | _ => .p)
  | _ => .p
def Cls.reads : Cls → Bool
  | .p => false
  | _ => true
theorem isO_reads {op : Op} {e : Operand → SV} {μ : Nat → Blk} (h : isO op e μ = true) : (cls op).reads = true := by
  cases op with
  | call c =>
    simp only [isO] at h
    split at h
    · rename_i hc _
      simp [cls, hc, Cls.reads]
    · cases h
  | range | next | convert | indexAddr | store => rfl
  | _ => simp [isO] at h
theorem isP_reads {op : Op} {e : Operand → SV} (h : isP op e = true ∨ isP2 op e = true) : (cls op).reads = true := by
  cases op with
  | call c =>
    obtain ⟨cal, args, ats⟩ := c
    rcases h with h | h
    · simp only [isP] at h
      split at h
      · first | rfl | (rename_i hc _; first | (subst hc; rfl) | (simp only at hc; subst hc; rfl))
      · first | rfl | (rename_i hc _; first | (subst hc; rfl) | (simp only at hc; subst hc; rfl))
      · cases h
    · simp only [isP2] at h
      split at h
      · first | rfl | (rename_i hc _; first | (subst hc; rfl) | (simp only at hc; subst hc; rfl))
      · cases h
  | makeMap | lookup | mapUpdate | makeSlice | slice => rfl
  | _ => rcases h with h | h <;> simp [isP, isP2] at h
def maker (o : Oper) : Bool := match o.op with
  | .range _ _ => true
  | .convert _ _ _ => true
  | _ => (match cls o.op with
    | .m => true
    | .f => true
    | .w => true
    | _ => false)
def isInt : SV → Bool
  | .int _ _ => true
  | _ => false
def seen (R : List Nat) (m : Mem) (q : Nat) : Blk := if memB q R then getM m q else .no
theorem seen_sees {R : List Nat} {m : Mem} : Sees (seen R m) m := by
  intro q
  unfold seen
  split
  · exact .inr rfl
  · exact .inl rfl

def opV0 (T : Nat → Option TI) (G : Nat → CT → Prop) (o : Oper) (s : St) (R : List Nat) (κ : SV → List (Nat × Blk) → Option Nat → Prop) : Prop :=
  match cls o.op with
  | .p => pval T o.op s.ev (fun x => κ x [] none)
  | .r => rvalX T o.op s.ev (seen R s.mem) (fun x => κ x [] none)
  | .s => (match o.op with
    | .convert a b x => if isInt (s.ev x) then pval T (.convert a b x) s.ev (fun x => κ x [] none) else sval T (.convert a b x) s.ev (seen R s.mem) (fun x => κ x [] none)
    | op => sval T op s.ev (seen R s.mem) (fun x => κ x [] none))
  | .m => (match o.dst with
    | some d => mval T d o.op s.ev (seen R s.mem) (fun x U => κ x U (some d))
    | none => False)
  | .w => (match o.op with
    | .call c => (match c.callee, o.dst with
      | .builtin .append, some d => wval T (some d) (.call c) s.ev (seen R s.mem) (fun x U => κ x U (some d))
      | .builtin .copy, d => wval T d (.call c) s.ev (seen R s.mem) (fun x U => κ x U none)
      | _, _ => False)
    | .store t x v => wvalX T none (.store t x v) s.ev (seen R s.mem) (fun x U => κ x U none)
    | _ => False)
  | .f => (match o.op with
    | .call c => callV T G o.dst c s.ev (seen R s.mem) κ
    | _ => False)

noncomputable def opV (T : Nat → Option TI) (G : Nat → CT → Prop) (o : Oper) (s : St) (R : List Nat) (κ : SV → List (Nat × Blk) → Option Nat → Prop) : Prop :=
  if isO o.op s.ev (seen R s.mem) then oval T o.dst o.op s.ev (seen R s.mem) κ else
  if isP o.op s.ev then pvO T o.dst o.op s.ev (seen R s.mem) κ else
  if isP2 o.op s.ev then Chp (fun _ => opV0 T G o s R κ) (fun _ => pvO T o.dst o.op s.ev (seen R s.mem) κ) else
  opV0 T G o s R κ

def nrD (d : Option Nat) (x : SV) : List Nat → Bool
  | [] => true
  | q :: D => (noref q x || (match d with | some p => Nat.beq p q | none => false)) && nrD d x D
def nbD (b : Blk) : List Nat → Bool
  | [] => true
  | q :: D => bNoref q b && nbD b D
def nbU (D : List Nat) : List (Nat × Blk) → Bool
  | [] => true
  | (_, b) :: U => nbD b D && nbU D U
def freshC (s : St) : Option Nat → Bool
  | some d => s.fresh d
  | none => true
def writesL (cr : Option Nat) : List (Nat × Blk) → List Nat
  | [] => []
  | (q, _) :: U => (match cr with | some d => if Nat.beq d q then writesL cr U else q :: writesL cr U | none => q :: writesL cr U)
theorem writesL_mem {cr : Option Nat} : ∀ {U : List (Nat × Blk)} {q : Nat} {b : Blk}, (q, b) ∈ U → cr = some q ∨ q ∈ writesL cr U
  | [], q, b, h => by simp at h
  | (k, c) :: U, q, b, h => by
    rcases List.mem_cons.1 h with h | h
    · injection h with h1 h2
      subst h1
      cases cr with
      | none => right; simp [writesL]
      | some d =>
        by_cases hd : d = q
        · left; rw [hd]
        · right; simp [writesL, nbeq, hd]
    · rcases writesL_mem h with g | g
      · exact .inl g
      · right
        cases cr with
        | none => simp [writesL, g]
        | some d =>
          simp only [writesL]
          split
          · exact g
          · simp [g]
abbrev FP := List Nat × List Nat

def nxt (o : Oper) (s : St) (x : SV) (U : List (Nat × Blk)) : St := ⟨(s.put o.dst x).slots, appU U s.mem⟩

def opS (T : Nat → Option TI) (G : Nat → CT → Prop) (D : List Nat) (o : Oper) (s : St) (k : FP → St → Prop) : Prop :=
  opV T G o s (opIds s.ev o.op.operands.toList) (fun x U cr => if freshC s cr && nrD o.dst x D && nbU D U then k (if (cls o.op).reads then opIds s.ev o.op.operands.toList else [], writesL cr U) (nxt o s x U) else False)

def opG (T : Nat → Option TI) (G : Nat → CT → Prop) (D : List Nat) (all : Array Oper) (o : Oper) (s : St) (k : FP → St → Prop) : Prop :=
  match o.guard with
  | none => opS T G D o s k
  | some (j, want) => (match (all[j]?).bind (·.dst) with
    | some t => (match getN .any s.slots t, want with
      | .bool b, true => br b (fun _ => opS T G D o s k) (fun _ => k ([], []) (s.put o.dst (.val (.tuple #[]))))
      | .bool b, false => br b (fun _ => k ([], []) (s.put o.dst (.val (.tuple #[])))) (fun _ => opS T G D o s k)
      | .val (.tuple _), _ => k ([], []) (s.put o.dst (.val (.tuple #[])))
      | _, _ => False)
    | none => False)

def hdL : List (List Nat) → List Nat
  | [] => []
  | a :: _ => a
def tlL : List (List Nat) → List (List Nat)
  | [] => []
  | _ :: l => l
theorem hdL_eq (l : List (List Nat)) : hdL l = l.getD 0 [] := by cases l <;> rfl
theorem tlL_get (l : List (List Nat)) (i : Nat) : (tlL l).getD i [] = l.getD (i + 1) [] := by cases l <;> simp [tlL]
def opsG (T : Nat → Option TI) (G : Nat → CT → Prop) : List (List Nat) → Array Oper → List Oper → List FP → St → (List FP → St → Prop) → Prop
  | _, _, [], fs, s, k => k fs s
  | D, all, o :: l, fs, s, k => opG T G (hdL D) all o s (fun f s => opsG T G (tlL D) all l (f :: fs) s k)

structure DefOk (N : Nat → Prop) (w : World) (Y : Nat → Prop) (ds : List Deferred) : Prop where
  h : ∃ Ds : List Nat, ds = Ds.map (fun D => { target := .collected D, args := #[] }) ∧ Ds.Nodup ∧ ∀ D ∈ Ds, N D ∧ ¬ Y D ∧ w.heap[D]? = some (.deferred (some []))
theorem DefOk.nil (N : Nat → Prop) (w : World) (Y : Nat → Prop) : DefOk N w Y [] := ⟨[], rfl, List.nodup_nil, fun _ h => by cases h⟩
theorem DefOk.turn {N : Nat → Prop} {w w' : World} {Y Y' : Nat → Prop} {ρ ρ' : Env} {d : Option Nat} {ds : List Deferred} (h : DefOk N w Y ds) (t : Turn w Y ρ w' Y' ρ' d) : DefOk N w' Y' ds := by
  obtain ⟨Ds, h1, h2, h3⟩ := h.h
  refine ⟨Ds, h1, h2, fun D hD => ?_⟩
  obtain ⟨g1, g2, g3⟩ := h3 D hD
  obtain ⟨k1, k2⟩ := t.keep D (heap_lt g3) g2
  exact ⟨g1, k1, k2.trans g3⟩
theorem DefOk.sub {N : Nat → Prop} {w : World} {Y Y' : Nat → Prop} {ds : List Deferred} (h : DefOk N w Y ds) (hY : ∀ b, Y' b → Y b) : DefOk N w Y' ds := by
  obtain ⟨Ds, h1, h2, h3⟩ := h.h
  exact ⟨Ds, h1, h2, fun D hD => by obtain ⟨g1, g2, g3⟩ := h3 D hD; exact ⟨g1, fun h => g2 (hY D h), g3⟩⟩
structure Anc where
  z : Option Value
  fx : Nat → Option Value
  len : Option Nat
  nd : Bool

structure Rep (T : Nat → Option TI) (N : Nat → Prop) (w0 : World) (X : Nat → Prop) (z : Anc) (s : St) (a : Act) (w : World) (ρ : Env) : Prop where
  m : MRep T N w0 w X s.mem ρ
  defers : DefOk N w (Forb X s.mem ρ) a.defers
  size : a.tmps.size = s.slots.length
  slot : ∀ t : Nat, Den w (Forb X s.mem ρ) ρ (getN .any s.slots t) (a.tmps.getD t undef)
  anch : ∀ v, z.z = some v → getM s.mem 0 ≠ .no → ρ 0 = some v
  fix : ∀ t v, z.fx t = some v → a.tmps.getD t undef = v
  len : ∀ k, z.len = some k → a.tmps.size = k
  nod : z.nd = true → a.defers = []

theorem MRep.some0 {N : Nat → Prop} {w0 w : World} {X : Nat → Prop} {mem : Mem} {ρ : Env} (m : MRep T N w0 w X mem ρ) (r : Nat) : (getM mem r = .no → ρ r = none) ∧ (ρ r = none → getM mem r = .no) := by
  have hb := m.blk r
  constructor
  · intro h; rw [h] at hb; exact hb
  · intro h
    rw [h] at hb
    cases hm : getM mem r with
    | no => rfl
    | chunk t x => rw [hm] at hb; obtain ⟨_, _, _, _, _, h, _⟩ := hb; cases h
    | row sh e l => rw [hm] at hb; obtain ⟨_, h, _⟩ := hb; cases h
    | frz sh l => rw [hm] at hb; obtain ⟨_, h, _⟩ := hb; cases h
    | rowx e l i x => rw [hm] at hb; obtain ⟨_, _, _, _, h, _⟩ := hb; cases h
    | iter s p => rw [hm] at hb; obtain ⟨_, h, _⟩ := hb; cases h
    | gen _ _ _ => rw [hm] at hb; obtain ⟨_, _, _, h, _⟩ := hb; cases h
theorem Turn.env0 {w w' : World} {Y Y' : Nat → Prop} {ρ ρ' : Env} {d : Option Nat} (t : Turn w Y ρ w' Y' ρ' d) (h : d ≠ some 0) : ρ' 0 = none ∨ ρ' 0 = ρ 0 := by
  rcases t.env 0 with e | e | e
  · exact .inl e
  · exact .inr e
  · exact absurd e h
theorem anch_turn {N : Nat → Prop} {w0 w w' : World} {X : Nat → Prop} {mem mem' : Mem} {ρ ρ' : Env} {z : Option Value} (m : MRep T N w0 w X mem ρ) (m' : MRep T N w0 w' X mem' ρ') (h : ∀ v, z = some v → getM mem 0 ≠ .no → ρ 0 = some v) (t : ρ' 0 = none ∨ ρ' 0 = ρ 0) :
    ∀ v, z = some v → getM mem' 0 ≠ .no → ρ' 0 = some v := by
  intro v hz hn
  rcases t with t | t
  · exact absurd ((m'.some0 0).2 t) hn
  · rw [t]
    refine h v hz fun h0 => ?_
    rw [(m.some0 0).1 h0] at t
    exact hn ((m'.some0 0).2 t)
theorem Rep.ev {N : Nat → Prop} {w0 : World} {X : Nat → Prop} {z : Anc} {s : St} {a : Act} {w : World} {ρ : Env} (h : Rep T N w0 X z s a w ρ) (y : Operand) : Den w (Forb X s.mem ρ) ρ (s.ev y) (a.eval y) := by
  cases y with
  | tmp t => exact h.slot t
  | const v => exact ofValue_den _ _ _ v
  | func f => exact .val _ _
  | global g =>
    simp only [St.ev]
    cases hg : glob g with
    | none => exact .val _ _
    | some x =>
      obtain ⟨h1, h2⟩ := h.m.gl g x hg
      exact h2.env fun r => .inr (.inr (plain_noref h1 r))

def gd (all : Array Oper) (o : Oper) (s : St) : Option Bool :=
  match o.guard with
  | none => some true
  | some (j, want) => (match (all[j]?).bind (·.dst) with
    | some t => (match getN .any s.slots t with | .bool b => some (b == want) | .val (.tuple _) => some false | _ => none)
    | none => none)

inductive Stp (P : Program) (T : Nat → Option TI) (all : Array Oper) (o : Oper) : St → SV → List (Nat × Blk) → Option Nat → FP → Prop
  | skip (s : St) (hg : gd all o s = some false) : Stp P T all o s (.val (.tuple #[])) [] none ([], [])
  | run (s : St) (x : SV) (U : List (Nat × Blk)) (cr : Option Nat) (f : FP) (e : Operand → SV) (μ : Nat → Blk) (hg : gd all o s = some true) (he : ∀ y ∈ o.op.operands, s.ev y = e y)
      (hμ : ∀ q, μ q = .no ∨ (q ∈ f.1 ∧ μ q = getM s.mem q)) (hR : ∀ q ∈ f.1, ∃ y ∈ o.op.operands, noref q (e y) = false) (hU : ∀ q b, (q, b) ∈ U → cr = some q ∨ (q ∈ f.1 ∧ q ∈ f.2))
      (hc : ∀ d, cr = some d → o.dst = some d ∧ s.fresh d = true ∧ maker o = true) (h : Eff P T o e μ x U cr) : Stp P T all o s x U cr f

def Chain (P : Program) (T : Nat → Option TI) : List (List Nat) → Array Oper → List Oper → List FP → St → (List FP → St → Prop) → Prop
  | _, _, [], fs, s, k => k fs s
  | D, all, o :: l, fs, s, k => ∃ x U cr f, Stp P T all o s x U cr f ∧ nrD o.dst x (hdL D) = true ∧ nbU (hdL D) U = true ∧ Chain P T (tlL D) all l (f :: fs) (nxt o s x U) k

structure Tab (P : Program) (T : Nat → Option TI) : Prop where
  tys : Types P T
  sz : Sizes T
  cl : Closed T
  z : ∀ t i, T t = some i → ∀ d, noref d i.zero = true
  mp : ∀ t m, mapT t = some m → MapOk P t m

theorem opV0_eff (tab : Tab P T) (hG : ∀ f c, G f c → ACall P T f c) {o : Oper} {s : St} {R : List Nat} {κ : SV → List (Nat × Blk) → Option Nat → Prop} (h : opV0 T G o s R κ) :
    ∃ x U cr, κ x U cr ∧ (∀ q b, (q, b) ∈ U → cr = some q ∨ (seen R s.mem q).own = true) ∧ (∀ k, cr = some k → o.dst = some k ∧ maker o = true) ∧ ((cls o.op).reads = false → U = [] ∧ cr = none ∧ ∀ μ, Eff P T o s.ev μ x U cr) ∧ Eff P T o s.ev (seen R s.mem) x U cr := by
  have pure : ∀ {x : SV}, ((cls o.op).reads = false → ∀ μ, Eff P T o s.ev μ x [] none) → Eff P T o s.ev (seen R s.mem) x [] none → κ x [] none → ∃ x U cr, κ x U cr ∧ (∀ q b, (q, b) ∈ U → cr = some q ∨ (seen R s.mem q).own = true) ∧ (∀ k, cr = some k → o.dst = some k ∧ maker o = true) ∧ ((cls o.op).reads = false → U = [] ∧ cr = none ∧ ∀ μ, Eff P T o s.ev μ x U cr) ∧ Eff P T o s.ev (seen R s.mem) x U cr :=
    fun hμ he hk => ⟨_, [], none, hk, (fun q b h => by simp at h), (fun k h => by cases h), (fun h => ⟨rfl, rfl, hμ h⟩), he⟩
  unfold opV0 at h
  have mk : ∀ {c : Cls}, cls o.op = c → (c = .m ∨ c = .f ∨ c = .w) → maker o = true := by
    intro c h1 h2
    unfold maker
    split
    · rfl
    · rfl
    · rw [h1]
      rcases h2 with rfl | rfl | rfl <;> rfl
  cases hc : cls o.op with
  | p =>
    simp only [hc] at h
    obtain ⟨x, hx, hp⟩ := pval_ok tab.tys tab.sz tab.cl h
    exact hc ▸ pure (fun _ μ => hp.eff μ) (hp.eff _) hx
  | r =>
    simp only [hc] at h
    obtain ⟨x, hx, hr⟩ := rvalX_ok tab.tys tab.sz h
    exact hc ▸ pure (fun h => by rw [hc] at h; cases h) hr.eff hx
  | s =>
    simp only [hc] at h
    split at h
    · rename_i a b x ho
      split at h
      · rw [← ho] at h
        obtain ⟨x, hx, hp⟩ := pval_ok tab.tys tab.sz tab.cl h
        exact hc ▸ pure (fun h => by rw [hc] at h; cases h) (hp.eff _) hx
      · rw [← ho] at h
        obtain ⟨x, hx, hr⟩ := sval_ok tab.tys tab.sz h
        exact hc ▸ pure (fun h => by rw [hc] at h; cases h) hr.eff hx
    · obtain ⟨x, hx, hr⟩ := sval_ok tab.tys tab.sz h
      exact hc ▸ pure (fun h => by rw [hc] at h; cases h) hr.eff hx
  | m =>
    simp only [hc] at h
    cases hd : o.dst with
    | none => simp only [hd] at h
    | some d =>
      simp only [hd] at h
      obtain ⟨x, U, hx, hU, he⟩ := mval_ok (P := P) tab.tys tab.sz tab.z h
      exact ⟨x, U, some d, hx, (fun q b hq => (hU q b hq).imp (fun e => by rw [e]) id), (fun k hk => by injection hk with hk; subst hk; exact ⟨rfl, mk hc (by simp)⟩), (fun h => by cases h), he⟩
  | w =>
    simp only [hc] at h
    split at h
    · rename_i c ho
      split at h
      · rename_i d hcal hd
        obtain ⟨x, U, hx, hU, he⟩ := append_ok (P := P) tab.tys tab.sz hcal ho h
        exact ⟨x, U, some d, hx, (fun q b hq => (hU q b hq).imp (fun e => by rw [e]) id), (fun k hk => by injection hk with hk; subst hk; exact ⟨hd, mk hc (by simp)⟩), (fun h => by cases h), he⟩
      · rename_i hcal
        obtain ⟨x, U, hx, hU, he⟩ := copy_ok (P := P) tab.tys tab.sz hcal ho h
        exact ⟨x, U, none, hx, (fun q b hq => .inr (hU q b hq)), (fun k hk => by cases hk), (fun h => by cases h), he⟩
      · exact h.elim
    · rename_i t x v ho
      obtain ⟨x, U, hx, hU, he⟩ := storeX_ok (P := P) tab.tys tab.sz ho h
      exact ⟨x, U, none, hx, (fun q b hq => .inr (hU q b hq)), (fun k hk => by cases hk), (fun h => by cases h), he⟩
    · exact h.elim
  | f =>
    simp only [hc] at h
    split at h
    · rename_i c ho
      obtain ⟨x, U, cr, hx, hU, hcr, he⟩ := call_ok hG ho h
      exact ⟨x, U, cr, hx, hU, (fun k hk => ⟨hcr k hk, mk hc (by simp)⟩), (fun h => by cases h), he⟩
    · exact h.elim

theorem opV_eff (tab : Tab P T) (hG : ∀ f c, G f c → ACall P T f c) {o : Oper} {s : St} {R : List Nat} {κ : SV → List (Nat × Blk) → Option Nat → Prop} (h : opV T G o s R κ) :
    ∃ x U cr, κ x U cr ∧ (∀ q b, (q, b) ∈ U → cr = some q ∨ (seen R s.mem q).own = true) ∧ (∀ k, cr = some k → o.dst = some k ∧ maker o = true) ∧ ((cls o.op).reads = false → U = [] ∧ cr = none ∧ ∀ μ, Eff P T o s.ev μ x U cr) ∧ Eff P T o s.ev (seen R s.mem) x U cr := by
  have room : (isP o.op s.ev = true ∨ isP2 o.op s.ev = true) → pvO T o.dst o.op s.ev (seen R s.mem) κ → ∃ x U cr, κ x U cr ∧ (∀ q b, (q, b) ∈ U → cr = some q ∨ (seen R s.mem q).own = true) ∧ (∀ k, cr = some k → o.dst = some k ∧ maker o = true) ∧ ((cls o.op).reads = false → U = [] ∧ cr = none ∧ ∀ μ, Eff P T o s.ev μ x U cr) ∧ Eff P T o s.ev (seen R s.mem) x U cr := by
    intro hi h
    obtain ⟨x, U, cr, hx, hU, hcr, he⟩ := pvO_ok tab.tys tab.sz tab.mp h
    refine ⟨x, U, cr, hx, hU, (fun k hk => ⟨(hcr k hk).1, ?_⟩), (fun hr => ?_), he⟩
    · rcases (hcr k hk).2 with ⟨a, e⟩ | ⟨a, b, c, e⟩ <;> simp [maker, cls, e]
    · rw [isP_reads hi] at hr; cases hr
  unfold opV at h
  split at h
  · rename_i hi
    obtain ⟨x, U, cr, hx, hU, hcr, he⟩ := oval_ok tab.tys tab.sz hi h
    refine ⟨x, U, cr, hx, hU, (fun k hk => ⟨(hcr k hk).1, ?_⟩), (fun hr => ?_), he⟩
    · rcases (hcr k hk).2 with ⟨a, b, e⟩ | ⟨a, b, c, e⟩ <;> simp [maker, e]
    · rw [isO_reads hi] at hr; cases hr
  · split at h
    · rename_i hi; exact room (.inl hi) h
    · split at h
      · rename_i hi
        rcases h.h with h | h
        · exact opV0_eff tab hG h
        · exact room (.inr hi) h
      · exact opV0_eff tab hG h

theorem seen_own {R : List Nat} {m : Mem} {q : Nat} (h : (seen R m q).own = true) : q ∈ R := by
  unfold seen at h
  split at h
  · rename_i hq; exact memB_iff.1 hq
  · simp [Blk.own] at h

theorem opS_res (tab : Tab P T) (hG : ∀ f c, G f c → ACall P T f c) {D : List Nat} {all : Array Oper} {o : Oper} {s : St} {k : FP → St → Prop} (hg : gd all o s = some true) (h : opS T G D o s k) :
    ∃ x U cr f, Stp P T all o s x U cr f ∧ nrD o.dst x D = true ∧ nbU D U = true ∧ k f (nxt o s x U) := by
  obtain ⟨x, U, cr, hk, hU, hcr, hp, he⟩ := opV_eff tab hG h
  split at hk
  case isFalse => exact hk.elim
  rename_i hc
  simp only [Bool.and_eq_true] at hc
  obtain ⟨⟨c1, c2⟩, c3⟩ := hc
  have hfr : ∀ d, cr = some d → o.dst = some d ∧ s.fresh d = true ∧ maker o = true := by
    intro d hd
    subst hd
    exact ⟨(hcr d rfl).1, c1, (hcr d rfl).2⟩
  refine ⟨x, U, cr, _, ?_, c2, c3, hk⟩
  cases hr : (cls o.op).reads with
  | true =>
    refine .run s x U cr _ s.ev (seen (opIds s.ev o.op.operands.toList) s.mem) hg (fun _ _ => rfl) (fun q => ?_) (fun q hq => ?_) (fun q b hq => ?_) hfr he
    · unfold seen
      split
      · rename_i hq; exact .inr ⟨memB_iff.1 hq, rfl⟩
      · exact .inl rfl
    · obtain ⟨y, hy, hn⟩ := opIds_mem hq
      exact ⟨y, by simpa using hy, hn⟩
    · rcases writesL_mem (cr := cr) hq with g | g
      · exact .inl g
      · rcases hU q b hq with g' | g'
        · exact .inl g'
        · exact .inr ⟨seen_own g', g⟩
  | false =>
    obtain ⟨rfl, rfl, hp⟩ := hp hr
    exact .run s x [] none _ s.ev (fun _ => .no) hg (fun _ _ => rfl) (fun q => .inl rfl) (fun q hq => by simp at hq) (fun q b hq => by simp at hq) hfr (hp _)

theorem nbU_nil (D : List Nat) : nbU D [] = true := rfl
theorem nrD_any (d : Option Nat) : ∀ D, nrD d .any D = true
  | [] => rfl
  | q :: D => by simp [nrD, noref, nrD_any d D]
theorem nrD_skip (d : Option Nat) : ∀ D, nrD d (.val (.tuple #[])) D = true
  | [] => by simp [nrD]
  | q :: D => by simp [nrD, noref, nrD_skip d D]
theorem nxt_skip (o : Oper) (s : St) : nxt o s (.val (.tuple #[])) [] = s.put o.dst (.val (.tuple #[])) := by unfold nxt St.put; cases o.dst <;> rfl

theorem opG_res (tab : Tab P T) (hG : ∀ f c, G f c → ACall P T f c) {D : List Nat} {all : Array Oper} {o : Oper} {s : St} {k : FP → St → Prop} (h : opG T G D all o s k) :
    ∃ x U cr f, Stp P T all o s x U cr f ∧ nrD o.dst x D = true ∧ nbU D U = true ∧ k f (nxt o s x U) := by
  unfold opG at h
  cases hg : o.guard with
  | none =>
    simp only [hg] at h
    exact opS_res tab hG (by simp [gd, hg]) h
  | some jw =>
    obtain ⟨j, want⟩ := jw
    simp only [hg] at h
    cases ht : (all[j]?).bind (·.dst) with
    | none => simp only [ht] at h
    | some t =>
      simp only [ht] at h
      cases hx : getN SV.any s.slots t with
      | bool b =>
        simp only [hx] at h
        have skip : gd all o s = some false → k ([], []) (s.put o.dst (.val (.tuple #[]))) → ∃ x U cr f, Stp P T all o s x U cr f ∧ nrD o.dst x D = true ∧ nbU D U = true ∧ k f (nxt o s x U) :=
          fun hg hk => ⟨.val (.tuple #[]), [], none, ([], []), .skip s hg, nrD_skip _ D, rfl, by rw [nxt_skip]; exact hk⟩
        cases want <;> cases b <;> simp only [br] at h
        · exact opS_res tab hG (by simp [gd, hg, ht, hx]) h
        · exact skip (by simp [gd, hg, ht, hx]) h
        · exact skip (by simp [gd, hg, ht, hx]) h
        · exact opS_res tab hG (by simp [gd, hg, ht, hx]) h
      | val v =>
        cases v with
        | tuple us =>
          simp only [hx] at h
          exact ⟨.val (.tuple #[]), [], none, ([], []), .skip s (by simp [gd, hg, ht, hx]), nrD_skip _ D, rfl, by rw [nxt_skip]; exact h⟩
        | _ => simp only [hx] at h
      | _ => simp only [hx] at h

theorem opsG_chain (tab : Tab P T) (hG : ∀ f c, G f c → ACall P T f c) {all : Array Oper} : ∀ (l : List Oper) (D : List (List Nat)) (fs : List FP) (s : St) (k : List FP → St → Prop), opsG T G D all l fs s k → Chain P T D all l fs s k
  | [], D, fs, s, k, h => by unfold opsG at h; unfold Chain; exact h
  | o :: l, D, fs, s, k, h => by
    unfold opsG at h
    obtain ⟨x, U, cr, f, h1, h2, h3, h4⟩ := opG_res tab hG h
    unfold Chain
    exact ⟨x, U, cr, f, h1, h2, h3, opsG_chain tab hG l _ _ _ k h4⟩

theorem wanted_gd {N : Nat → Prop} {w0 : World} {X : Nat → Prop} {z : Anc} {s : St} {a : Act} {w : World} {ρ : Env} (h : Rep T N w0 X z s a w ρ) {all : Array Oper} {o : Oper} {b : Bool} (hg : gd all o s = some b) : Region.wanted o (yielded all a.tmps) = b := by
  unfold gd at hg
  unfold Region.wanted
  cases ho : o.guard with
  | none => simp only [ho] at hg ⊢; injection hg
  | some jw =>
    obtain ⟨j, want⟩ := jw
    simp only [ho] at hg ⊢
    cases ht : (all[j]?).bind (·.dst) with
    | none => simp only [ht] at hg; cases hg
    | some t =>
      simp only [ht] at hg
      cases hx : getN SV.any s.slots t with
      | bool c =>
        simp only [hx] at hg
        injection hg with hg
        have hd := h.slot t
        rw [hx, Den.bool_iff] at hd
        have ht' : a.tmps[t]? = some (.bool c) := by
          cases hq : a.tmps[t]? with
          | none => simp [hq, undef] at hd
          | some v => simp [hq] at hd; rw [hd]
        simp only [yielded, ht, Option.bind_some, ht', ← hg]
        cases c <;> cases want <;> rfl
      | val v =>
        cases v with
        | tuple us =>
          simp only [hx] at hg
          injection hg with hg
          have hd := h.slot t
          rw [hx] at hd
          generalize hq : a.tmps.getD t undef = q at hd
          cases hd
          have ht' : yielded all a.tmps j = none := by
            cases hq' : a.tmps[t]? with
            | none => simp only [yielded, ht, Option.bind_some, hq']
            | some v => simp [hq'] at hq; simp only [yielded, ht, Option.bind_some, hq', hq]
          rw [ht', ← hg]
          rfl
        | _ => simp only [hx] at hg; cases hg
      | _ => simp only [hx] at hg; cases hg

theorem norefs_getN {r : Nat} : ∀ {l : List SV}, noref.norefs r l = true → ∀ t, noref r (getN .any l t) = true
  | [], _, t => by simp [getN, noref]
  | x :: l, h, 0 => by simp [noref.norefs] at h; simpa [getN] using h.1
  | x :: l, h, t + 1 => by simp [noref.norefs] at h; simpa [getN] using norefs_getN h.2 t

theorem Rep.put {N : Nat → Prop} {w0 : World} {X : Nat → Prop} {z : Anc} {s : St} {a : Act} {w w' : World} {ρ ρ' : Env} (h : Rep T N w0 X z s a w ρ) {dst d : Option Nat} {x : SV} {u : Value} {mem' : Mem}
    (m' : MRep T N w0 w' X mem' ρ') (hx : Den w' (Forb X mem' ρ') ρ' x u) (t : Turn w (Forb X s.mem ρ) ρ w' (Forb X mem' ρ') ρ' d) (hn : ∀ q, d = some q → ∀ t : Nat, noref q (getN .any s.slots t) = true) (h00 : d ≠ some 0) (hfx : ∀ q, dst = some q → z.fx q = none) :
    Rep T N w0 X z ⟨(s.put dst x).slots, mem'⟩ (a.put dst u) w' ρ' := by
  refine ⟨m', ?_, ?_, fun k => ?_, anch_turn h.m m' h.anch (t.env0 h00), fun k v hk => ?_, fun k hk => ?_, fun hnd => by cases dst <;> exact h.nod hnd⟩
  rotate_left 3
  · have old := h.fix k v hk
    cases dst with
    | none => exact old
    | some q =>
      have hne : q ≠ k := by rintro rfl; rw [hfx q rfl] at hk; cases hk
      simp only [Act.put]
      rw [← old]
      simp [Array.getElem?_setIfInBounds_ne hne]
  · have old := h.len k hk
    cases dst with
    | none => exact old
    | some q => simp only [Act.put, Array.size_setIfInBounds]; exact old
  · have := h.defers.turn t
    cases dst <;> exact this
  · cases dst with
    | none => exact h.size
    | some q => simp only [Act.put, St.put, Array.size_setIfInBounds, setN_length]; exact h.size
  · have old := t.den (fun q hq => hn q hq k) (h.slot k)
    cases dst with
    | none => exact old
    | some q =>
      simp only [St.put, Act.put]
      by_cases hq : q < s.slots.length
      · rw [getN_setN _ _ _ _ _ hq]
        by_cases hk : k = q
        · subst hk
          rw [if_pos rfl]
          have hk' : k < a.tmps.size := by rw [h.size]; exact hq
          simpa [hk'] using hx
        · rw [if_neg hk]
          have : (a.tmps.setIfInBounds q u).getD k undef = a.tmps.getD k undef := by simp [Array.getElem?_setIfInBounds_ne (Ne.symm hk)]
          rw [this]
          exact old
      · have e1 : setN x s.slots q = s.slots := by rw [setN_eq, List.set_eq_of_length_le (by omega)]
        rw [e1]
        have : (a.tmps.setIfInBounds q u).getD k undef = a.tmps.getD k undef := by
          rw [Array.setIfInBounds_eq_of_size_le (by rw [h.size]; omega)]
        rw [this]
        exact old

def Step1 (r : Option Nat) (n : Nat) (P : Program) (all : Array Oper) (o : Oper) (K : Act → World → Prop) (Q : Exit → Act → World → Prop) (a : Act) (w : World) : Prop :=
  if Region.wanted o (yielded all a.tmps) then o.wpIn (FR r) n P a w K Q else (∀ f, o.about P w a.eval = some f → (FR r).fn f) ∧ K (a.put o.dst undef) w

theorem ofValue_noref (d : Nat) (v : Value) : noref d (ofValue v) = true := by
  unfold ofValue
  split
  · rename_i cs
    show noref.norefs d (cs.toList.map ofAtom) = true
    generalize cs.toList = l
    induction l with
    | nil => rfl
    | cons v l ih =>
      simp only [List.map_cons, noref.norefs, ih, Bool.and_true]
      unfold ofAtom
      split <;> rfl
  · unfold ofAtom
    split <;> rfl
theorem noref_ev {s : St} {d : Nat} (h : noref.norefs d s.slots = true) (y : Operand) : noref d (s.ev y) = true := by
  cases y with
  | tmp t => exact norefs_getN h t
  | const v => exact ofValue_noref d v
  | func f => rfl
  | global g =>
    simp only [St.ev]
    split
    · rename_i h; exact glob_noref h d
    · rfl
theorem fresh_ne {s : St} {d : Nat} (h : s.fresh d = true) : d ≠ 0 := by rintro rfl; simp [St.fresh] at h
theorem fresh_iff0 {s : St} {d : Nat} : s.fresh d = true ↔ d ≠ 0 ∧ d < s.slots.length ∧ getM s.mem d = .no ∧ noref.norefs d s.slots = true ∧ memNoref d s.mem = true := by
  unfold St.fresh
  simp only [Bool.and_eq_true, Nat.blt_eq, Bool.not_eq_true']
  constructor
  · rintro ⟨⟨⟨⟨f0, f1⟩, f2⟩, f3⟩, f4⟩
    refine ⟨fun h => by subst h; simp at f0, f1, ?_, f3, f4⟩
    cases hm : getM s.mem d <;> simp_all [isNo]
  · rintro ⟨f0, f1, f2, f3, f4⟩
    exact ⟨⟨⟨⟨by cases h : Nat.beq d 0; rfl; exact absurd (nbeq.1 h) f0, f1⟩, by rw [f2]; rfl⟩, f3⟩, f4⟩
theorem fresh_iff {s : St} {d : Nat} (h0 : d ≠ 0) : s.fresh d = true ↔ d < s.slots.length ∧ getM s.mem d = .no ∧ noref.norefs d s.slots = true ∧ memNoref d s.mem = true := by
  rw [fresh_iff0]
  exact ⟨fun h => h.2, fun h => ⟨h0, h⟩⟩

theorem Stp.sound {all : Array Oper} {o : Oper} {s : St} {x : SV} {U : List (Nat × Blk)} {cr : Option Nat} {f : FP} (hr : Stp P T all o s x U cr f) {N : Nat → Prop} {w0 : World} {X : Nat → Prop} {z : Anc} {a : Act} {w : World} {ρ : Env} (h : Rep T N w0 X z s a w ρ)
    {K : Act → World → Prop} {Q : Exit → Act → World → Prop} (hK : ∀ a' w' ρ', Rep T N w0 X z (nxt o s x U) a' w' ρ' → K a' w') (hfx : ∀ q, o.dst = some q → z.fx q = none) (ro : Option Nat) (nn : Nat) : Step1 ro nn P all o K Q a w := by
  unfold Step1
  cases hr with
  | skip hg =>
    rw [wanted_gd h hg]
    simp only [Bool.false_eq_true, if_false]
    refine ⟨fun _ _ => trivial, ?_⟩
    exact hK _ _ ρ (h.put (dst := o.dst) (x := .val (.tuple #[])) (u := undef) h.m (.val _ _) (Turn.refl _ _ _ none) (fun q hq => by cases hq) (by simp) hfx)
  | run _ _ _ _ e μ hg he hμ hR hU hc hd =>
    rw [wanted_gd h hg, if_pos rfl]
    refine hd.h s.mem (fun q => (hμ q).imp id And.right) (fun d hcr => ?_) a N w0 w X ρ h.m (fun y hy => by rw [← he y hy]; exact h.ev y) K Q (fun u w' ρ' m' hx t => ?_) ro nn
    · obtain ⟨f1, f2, f3, f4⟩ := (fresh_iff (fresh_ne (hc d hcr).2.1)).1 (hc d hcr).2.1
      exact ⟨f2, f4, fun y hy => by rw [← he y hy]; exact noref_ev f3 y⟩
    · refine hK _ _ ρ' (h.put m' hx t (fun q hq k => ?_) (fun h0 => ?_) ?_)
      · exact norefs_getN ((fresh_iff (fresh_ne (hc q hq).2.1)).1 (hc q hq).2.1).2.2.1 k
      · have := (hc 0 h0).2.1
        simp [St.fresh] at this
      · exact hfx

theorem chain_list {all : Array Oper} {N : Nat → Prop} {w0 : World} {X : Nat → Prop} {z : Anc} {k : List FP → St → Prop} {Q : Exit → Act → World → Prop}
    (ro : Option Nat) (nn : Nat) (hQ : ∀ fs s a w ρ, k fs s → Rep T N w0 X z s a w ρ → Q .normal a w) : ∀ (l : List Oper) (D : List (List Nat)) (fs : List FP) (s : St) (a : Act) (w : World) (ρ : Env), Chain P T D all l fs s k → Rep T N w0 X z s a w ρ → (∀ o ∈ l, ∀ q, o.dst = some q → z.fx q = none) → wpListIn (FR ro) nn P all Q l a w
  | [], D, fs, s, a, w, ρ, h, hr, _ => hQ fs s a w ρ (by unfold Chain at h; exact h) hr
  | o :: l, D, fs, s, a, w, ρ, h, hr, hfx => by
    unfold Chain at h
    obtain ⟨x, U, cr, f, h1, _, _, h2⟩ := h
    have := h1.sound hr (K := wpListIn (FR ro) nn P all Q l) (Q := Q) (fun a' w' ρ' hr' => chain_list ro nn hQ l _ _ _ a' w' ρ' h2 hr' (fun p hp => hfx p (by simp [hp]))) (hfx o (by simp)) ro nn
    unfold Step1 at this
    unfold wpListIn
    exact this

theorem reg_seq (tab : Tab P T) (hG : ∀ f c, G f c → ACall P T f c) {id : Nat} {ops : Array Oper} {N : Nat → Prop} {w0 : World} {X : Nat → Prop} {z : Anc} {s : St} {k : St → Prop} {Q : Exit → Act → World → Prop} {a : Act} {w : World} {ρ : Env}
    (h : opsG T G [] ops ops.toList [] s (fun _ s => k s)) (hr : Rep T N w0 X z s a w ρ) (hQ : ∀ s a w ρ, k s → Rep T N w0 X z s a w ρ → Q .normal a w) (hfx : ∀ o ∈ ops.toList, ∀ q, o.dst = some q → z.fx q = none) (ro : Option Nat) (nn : Nat) : (Code.region id ops false).wpIn (FR ro) nn P Q a w :=
  wpIn_region_list (chain_list ro nn (fun fs s a w ρ => hQ s a w ρ) _ _ _ s a w ρ (opsG_chain tab hG _ _ _ _ _ h) hr hfx)
end Go.Proofs.Ytapcbkcnokoljaa
