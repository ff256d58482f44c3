/- Operations besides: strings walked rune by rune; the bytes of a string as a row of the call's own. -/
import Derived.Test.YtligbjbkecmecaaDoorRd
import Derived.Laws.RangeAny
import Derived.Laws.IdiomStrings
namespace Go.Proofs.YtligbjbkecmecaaDoor
set_option linter.unusedVariables false
set_option linter.unusedSimpArgs false
open Go.RowKit
variable {P : Program} {T : Nat → Option TI}
structure NextK (s : ByteArray) (p : Nat) (k : Int → Nat → Int → Prop) : Prop where
  h : ∀ (r : Nat) (w : Nat) (z y : Int), z = (p : Int) → y = (r : Int) → Utf8.decode s p = (r, w) → k y w z
theorem nextK {s : ByteArray} {p : Nat} {k : Int → Nat → Int → Prop} (h : ∀ (r : Nat) (w : Nat) (z y : Int), z = (p : Int) → y = (r : Int) → Utf8.decode s p = (r, w) → k y w z) : NextK s p k := ⟨h⟩
def isGen : Blk → Bool
  | .gen 0 _ _ => true
  | _ => false
/-- Is the operation one of these? -/
def isO (op : Op) (e : Operand → SV) (μ : Nat → Blk) : Bool :=
  match op with
  | .range _ _ => true
  | .next _ _ => true
  | .convert _ _ x => (match e x with | .str _ => true | .row r => isGen (μ r) | _ => false)
  | .indexAddr _ x _ => (match e x with | .row r => isGen (μ r) | _ => false)
  | .store _ x _ => (match e x with | .rptr r _ _ _ => isGen (μ r) | _ => false)
  | .call c => (match c.callee, c.args.toList with | .builtin .len, [x] => (match e x with | .row r => isGen (μ r) | _ => false) | _, _ => false)
  | _ => false
noncomputable def oval (T : Nat → Option TI) (d : Option Nat) (op : Op) (e : Operand → SV) (μ : Nat → Blk) (κ : SV → List (Nat × Blk) → Option Nat → Prop) : Prop :=
  match op with
  | .range t x => (match T t, e x, d with
    | some i, .str s, some d => (match i.kind with | .string => κ (.ptr d 0) [(d, .iter s 0)] (some d) | _ => False)
    | _, _, _ => False)
  | .next x true => (match e x with
    | .ptr q 0 => (match μ q with
      | .iter s p => QC (fun _ => p < s.size) (fun b => match b with
        | true => NextK s p (fun y w z => κ (.tup [.bool true, .int .i64 z, .int .i32 y]) [(q, .iter s (p + w))] none)
        | false => κ (.tup [.bool false]) [] none)
      | _ => False)
    | _ => False)
  | .convert a b x => (match T a, T b, e x, d with
    | some i, some j, .str s, some d => (match i.kind, j.kind with
      | .string, .slice el => (match T el with
        | some k => (match k.kind with
          | .int .u8 => Rq (fun _ => s.size ≤ 281474976710656) (fun _ => QC (fun _ => s.size = 0) (fun b => match b with
            | true => κ (.lst none []) [] none
            | false => κ (.row d) [(d, .gen 0 el (O.by' s))] (some d)))
          | _ => False)
        | none => False)
      | _, _ => False)
    | some i, some j, .row r, _ => (match i.kind, j.kind with
      | .slice el, .string => (match T el with
        | some k => (match k.kind, μ r with
          | .int .u8, .gen 0 _ l => QV (fun bs => l = O.by' bs) (fun bs => κ (.str bs) [] none)
          | _, _ => False)
        | none => False)
      | _, _ => False)
    | _, _, _, _ => False)
  | .indexAddr t x ix => (match T t, e x, e ix with
    | some i, .row r, .int _ n => (match i.kind, μ r with
      | .slice el, .gen 0 _ l => (match T el with
        | some j => (match j.kind with
          | .int .u8 => QV (fun (q : Nat) => n = (q : Int) ∧ q < O.ln l) (fun q => κ (.rptr r none q 0) [] none)
          | _ => False)
        | none => False)
      | _, _ => False)
    | _, _, _ => False)
  | .store t x v => (match T t, e x, e v with
    | some i, .rptr r none j 0, .int .u8 n => (match i.kind, μ r with
      | .int .u8, .gen 0 k l => Rq (fun _ => j < O.ln l) (fun _ => κ .any [(r, .gen 0 k (O.st l j (.int .u8 n)))] none)
      | _, _ => False)
    | _, _, _ => False)
  | .call c => (match c.args.toList, c.argTypes.toList with
    | [x], [t] => (match e x, T t with
      | .row r, some i => (match μ r, i.kind with
        | .gen 0 _ l, .slice _ => Q1 (fun _ => True) (fun z => z = O.ln l) (fun z => κ (.int .i64 z) [] none)
        | _, _ => False)
      | _, _ => False)
    | _, _ => False)
  | _ => False
theorem Sees.gen {N : Nat → Prop} {w0 w : World} {X : Nat → Prop} {mem : Mem} {ρ : Env} {μ : Nat → Blk} (hμ : Sees μ mem) (m : MRep T N w0 w X mem ρ) {r tag k : Nat} {l : List SV} (h : μ r = .gen tag k l) :
    getM mem r = .gen tag k l ∧ ∃ v b ob, ρ r = some v ∧ vblock v = some b ∧ N b ∧ w.heap[b]? = some ob ∧ genRep tag k l v b ob := by
  have hm := hμ.row h (by simp)
  have hb := m.blk r
  rw [hm] at hb
  exact ⟨hm, hb⟩
theorem oby_at (s : ByteArray) (i : Nat) (x : SV) (h : (O.by' s)[i]? = some x) : ∃ n : Int, x = .int .u8 n ∧ (s.data.map (fun b => Value.int .u8 b.toNat))[i]? = some (.int .u8 n) := by
  rw [O.hby, List.getElem?_map] at h
  cases hb : s.data.toList[i]? with
  | none => rw [hb] at h; cases h
  | some b =>
    rw [hb] at h
    injection h with h
    refine ⟨b.toNat, h.symm, ?_⟩
    have hb' : s.data[i]? = some b := by simpa using hb
    simp [hb']
/-- What such a block reads as. -/
theorem gen_slice {w : World} {Y : Nat → Prop} {k : Nat} {l : List SV} {v : Value} {b : Nat} {ob : Obj} (h : w.heap[b]? = some ob) (g : genRep 0 k l v b ob) : SliceAt w Y (fun _ => True) none l v := by
  obtain ⟨cap, cur, fz, rfl, rfl, g1, g2, g3, g4, g5, g6, g7⟩ := g
  refine ⟨_, cap, rfl, g2, .inr ⟨b, 0, cur.toList.take l.length, rfl, heap_lt h, trivial, by simp [wid]; omega, fun u hu => g6 u (List.mem_of_mem_take hu), fun j u hj => ?_, fun i hi => ?_⟩⟩
  · rw [List.getElem?_take] at hj
    split at hj
    · rw [Nat.zero_add, cell_of_row w b j cur k fz h]
      simpa using hj
    · cases hj
  · obtain ⟨n, h1, h2⟩ := g7 i _ (List.getElem?_eq_getElem hi)
    rw [h1]
    have : valAt none (cur.toList.take l.length) i = .int .u8 n := by
      have h3 : cur.toList[i]? = some (.int .u8 n) := by simpa using h2
      simp [valAt, List.getElem?_take, hi, h3]
    rw [this]
    exact .int _ _ _
theorem conv_back (tys : Types P T) {w : World} {Y ok : Nat → Prop} {s t el : Nat} {i j k : TI} (hs : T s = some i) (ht : T t = some j) (hk : i.kind = .slice el) (hk2 : j.kind = .string) (hel : T el = some k) (hk3 : k.kind = .int .u8) {bs : ByteArray} {v : Value}
    (h : SliceAt w Y ok none (bytesSV bs) v) : (convert s t v).run P w = .ok (.string bs) w := by
  have us := (tys.ok s i hs).und_slice hk
  have ue := (tys.ok el k hel).und_int hk3
  have ud := (tys.ok t j ht).und_string hk2
  obtain ⟨ad, c, e1, e2, e3⟩ := h
  have hbl : (bytesSV bs).length = bs.size := by simp [bytesSV]
  rw [e1]
  by_cases h0 : bs.size = 0
  · have hbs : bs = .empty := by
      apply ByteArray.ext
      exact Array.eq_empty_of_size_eq_zero h0
    subst hbs
    cases ad with
    | none => exact run_convert_bytes_nil w s el us ue _ _ t ud
    | some q =>
      rw [run_convert_bytes_string w s t el _ _ _ us ue ud]
      simp [hbl, Conv.bytesToString, loadCells, loadCellsFrom]
  · rcases e3 with e3 | ⟨b, off, us', rfl, p1, p2, p3, p6, p4, p5⟩
    · rw [e3] at hbl; simp at hbl; omega
    · have hget : ∀ q, q < bs.size → us'[q]? = some (.int .u8 ((bs.data.toList.map (fun b => (b.toNat : Int))).getD q 0)) := by
        intro q hq
        have hq' : q < (bytesSV bs).length := by omega
        have h5 := p5 q hq'
        have e4 : (bytesSV bs)[q] = .int .u8 ((bs.data.toList.map (fun b => (b.toNat : Int))).getD q 0) := by
          have h6 : q < bs.data.toList.length := by simpa [bytesSV] using hq'
          have h6' : q < bs.data.size := by simpa using h6
          simp [bytesSV, List.getD, Array.getElem?_eq_getElem h6']
        rw [e4, Den.int_iff] at h5
        simp only [valAt] at h5
        cases h7 : us'[q]? with
        | none => rw [h7] at h5; simp [undef] at h5
        | some u => simp only [h7, Option.getD_some] at h5; rw [h5]
      have := run_convert_bytes_arg w s el us ue b off (bytesSV bs).length c (bs.data.toList.map fun b => (b.toNat : Int)) (by simp [bytesSV]) (fun q hq => p4 q _ (hget q (by omega))) t ud
      rw [this]
      have e5 : strOfNums (bs.data.toList.map fun b => (b.toNat : Int)) = bs := by
        apply ByteArray.ext
        apply Array.ext'
        rw [strOfNums_data, List.map_map]
        conv => rhs; rw [← List.map_id bs.data.toList]
        apply List.map_congr_left
        intro b _
        simp
      rw [e5]
theorem Below.drew_alloc (w : World) (o : Obj) : Below w.heap.size w (w.drew.alloc o) := (Below.refl _ w.drew).alloc (Nat.le_refl _) o |> fun h => ⟨h.os, h.tape, h.output, h.size, h.block⟩
/-- The law. -/
theorem oval_ok (tys : Types P T) (sz : Sizes T) {o : Oper} {e : Operand → SV} {μ : Nat → Blk} {κ : SV → List (Nat × Blk) → Option Nat → Prop} (hi : isO o.op e μ = true) (h : oval T o.dst o.op e μ κ) :
    ∃ x U cr, κ x U cr ∧ (∀ q b, (q, b) ∈ U → cr = some q ∨ (μ q).own = true) ∧ (∀ k, cr = some k → o.dst = some k ∧ ((∃ a b, o.op = .range a b) ∨ ∃ a b c, o.op = .convert a b c)) ∧ Eff P T o e μ x U cr := by
  generalize ho : o.op = op at h hi
  cases op
  case range t x =>
    simp only [oval] at h
    split at h <;> try exact h.elim
    rename_i i s d ht hx hd
    split at h <;> try exact h.elim
    rename_i hk
    refine ⟨_, _, _, h, (fun q b hq => by simp at hq; exact .inl (by rw [hq.1])), (fun k hk => ⟨by rw [hd, ← hk], .inl ⟨_, _, rfl⟩⟩), .of_run fun mem hμ hcr a N w0 w X ρ m hden => ?_⟩
    obtain ⟨hno, hnr, hn⟩ := hcr d rfl
    have hv := hden x (by simp [ho, Op.operands])
    rw [hx, Den.str_iff] at hv
    have hbel : Below w.heap.size w (w.alloc (.stringIter s 0)) := (Below.refl _ _).alloc (Nat.le_refl _) _
    obtain ⟨m', t'⟩ := m.create (w' := w.alloc (.stringIter s 0)) hno hnr (B := .iter s 0) (v := .pointer (some ⟨w.heap.size, 0, none⟩)) (fun b hb => by simp only [vblock] at hb; injection hb with hb; subst hb; exact ⟨Nat.le_refl _, by show _ < (w.heap.push _).size; simp⟩) hbel
      (fun _ => ⟨w.heap.size, rfl, m.szN _ (Nat.le_refl _), heap_alloc_new w _⟩)
    refine ⟨_, _, _, _, ?_, .inl rfl, m', .ptr _ d 0 w.heap.size (fun q hq => ?_), t'⟩
    · simp only [execOp, ho, hv]
      have := run_range_string (P := P) w t s ((tys.ok t i ht).und_string hk)
      simp only [Sem.run_bind, this, Result.andThen_ok, Sem.run_pure]
      rfl
    · simp only [upd, if_true] at hq
      injection hq with hq
      exact hq.symm
  case next x str =>
    cases str with
    | false => simp only [oval] at h
    | true =>
    simp only [oval] at h
    split at h <;> try exact h.elim
    rename_i q hx
    split at h <;> try exact h.elim
    rename_i s p hm
    by_cases hp : p < s.size
    · have h := (h.t hp).h (Utf8.decode s p).1 (Utf8.decode s p).2 p ((Utf8.decode s p).1 : Nat) rfl rfl rfl
      refine ⟨_, _, _, h, (fun q' b hq => by simp at hq; rw [hq.1, hm]; exact .inr rfl), (fun k hk => by cases hk), .of_run fun mem hμ hcr a N w0 w X ρ m hden => ?_⟩
      have hgm := hμ.row hm (by simp)
      have hb := m.blk q
      rw [hgm] at hb
      obtain ⟨b, h1, h2, h3⟩ := hb
      have hv := hden x (by simp [ho, Op.operands])
      rw [hx] at hv
      generalize hax : a.eval x = v at hv
      cases hv with
      | ptr _ _ _ b' hq =>
        have := hq _ h1
        injection this with this
        injection this with this
        injection this with this _ _
        subst this
        obtain ⟨m', t'⟩ := m.update (w' := { w with heap := w.heap.setIfInBounds b (.stringIter s (p + (Utf8.decode s p).2)) }) h1 (by rw [hgm]; rfl) (b := b) rfl ⟨rfl, rfl, rfl, by simp, fun k hk => by simp [Array.getElem?_setIfInBounds, show b ≠ k by omega]⟩ (fun k hk => by simp [Array.getElem?_setIfInBounds, Ne.symm hk])
          (B := .iter s (p + (Utf8.decode s p).2)) (fun _ => ⟨b, rfl, h2, by simp [Array.getElem?_setIfInBounds, heap_lt h3]⟩)
        refine ⟨_, _, _, ρ, ?_, .inl rfl, m', Den.tup_iff.2 ⟨[.bool true, .int .i64 p, .int .i32 (Utf8.decode s p).1], rfl, rfl, fun i x' u hx' hu => ?_⟩, t'⟩
        · simp only [execOp, ho, hax, Instr.next, getObj, setObj, Sem.run_bind, Sem.run, h3, Result.andThen, hp, if_true]
          rfl
        · match i, hx', hu with
          | 0, hx', hu => simp at hx' hu; subst hx'; subst hu; exact .bool _ _
          | 1, hx', hu => simp at hx' hu; subst hx'; subst hu; exact .int _ _ _
          | 2, hx', hu => simp at hx' hu; subst hx'; subst hu; exact .int _ _ _
          | _ + 3, hx', _ => simp at hx'
    · have h := h.f hp
      refine ⟨_, _, _, h, (fun q b hq => by simp at hq), (fun k hk => by cases hk), .of_run fun mem hμ hcr a N w0 w X ρ m hden => ?_⟩
      have hgm := hμ.row hm (by simp)
      have hb := m.blk q
      rw [hgm] at hb
      obtain ⟨b, h1, h2, h3⟩ := hb
      have hv := hden x (by simp [ho, Op.operands])
      rw [hx] at hv
      generalize hax : a.eval x = v at hv
      cases hv with
      | ptr _ _ _ b' hq =>
        have := hq _ h1
        injection this with this
        injection this with this
        injection this with this _ _
        subst this
        refine ⟨_, _, w, ρ, ?_, .inl rfl, m, Den.tup_iff.2 ⟨[.bool false], rfl, by simp, fun i x' u hx' hu => ?_⟩, Turn.refl _ _ _ _⟩
        · simp only [execOp, ho, hax, Instr.next, getObj, Sem.run_bind, Sem.run, h3, Result.andThen, hp, if_false]
          rfl
        · match i, hx', hu with
          | 0, hx', hu => simp at hx' hu; subst hx'; subst hu; exact .bool _ _
          | _ + 1, hx', _ => simp at hx'
  case convert ta tb x =>
    simp only [oval] at h
    split at h
    · rename_i i j s d hta htb hx hd
      split at h <;> try exact h.elim
      rename_i el hk1 hk2
      split at h <;> try exact h.elim
      rename_i k hel
      split at h <;> try exact h.elim
      rename_i hk3
      have hsz := h.p
      have h := h.k
      have us := (tys.ok ta i hta).und_string hk1
      have ud := (tys.ok tb j htb).und_slice hk2
      have ue := (tys.ok el k hel).und_int hk3
      have run : ∀ (a : Act) (w : World), Den w (fun _ => False) noEnv (.str s) (a.eval x) → (execOp a.eval o).run P w = .ok (.value (.slice (some ⟨w.heap.size, 0, none⟩) s.size (grownCap w s.size 0 el)))
          (w.drew.alloc (.cells (bytesRow s (grownCap w s.size 0 el)) el ((bytesRow s (grownCap w s.size 0 el)).size, (bytesRow s (grownCap w s.size 0 el)).size + 1))) := by
        intro a w hv
        rw [Den.str_iff] at hv
        simp only [execOp, ho, hv, Sem.run_bind, run_bytes_of_string (P := P) w ta tb el s us ud ue, Result.andThen_ok, Sem.run_pure]
      by_cases hs0 : s.size = 0
      · have h := h.t hs0
        refine ⟨_, _, _, h, (fun q b hq => by simp at hq), (fun k hk => by cases hk), .of_run fun mem hμ hcr a N w0 w X ρ m hden => ?_⟩
        have hv := hden x (by simp [ho, Op.operands])
        rw [hx] at hv
        have hr := run a w (Den.str_iff.2 (Den.str_iff.1 hv))
        have hbel := Below.drew_alloc w (.cells (bytesRow s (grownCap w s.size 0 el)) el ((bytesRow s (grownCap w s.size 0 el)).size, (bytesRow s (grownCap w s.size 0 el)).size + 1))
        refine ⟨_, _, _, ρ, hr, .inl rfl, m.grow hbel, ?_, ⟨fun _ => .inr (.inl rfl), hbel.size, fun b h1 h2 => ⟨h2, hbel.block b h1⟩⟩⟩
        rw [hs0]
        exact .lst0 _ _ _ _
      · have h := h.f hs0
        refine ⟨_, _, _, h, (fun q b hq => by simp at hq; exact .inl (by rw [hq.1])), (fun k hk => ⟨by rw [hd, ← hk], .inr ⟨_, _, _, rfl⟩⟩), .of_run fun mem hμ hcr a N w0 w X ρ m hden => ?_⟩
        obtain ⟨hno, hnr, hn⟩ := hcr d rfl
        have hv := hden x (by simp [ho, Op.operands])
        rw [hx] at hv
        have hr := run a w (Den.str_iff.2 (Den.str_iff.1 hv))
        have hge := grownCap_ge w s.size 0 el
        have hle := grownCap_le_maxLen w s.size 0 el (by rw [maxLen]; omega)
        generalize grownCap w s.size 0 el = cap at *
        have hbs : (bytesRow s cap).size = cap := by
          have : s.data.size = s.size := rfl
          simp [bytesRow]; omega
        have hbel := Below.drew_alloc w (.cells (bytesRow s cap) el ((bytesRow s cap).size, (bytesRow s cap).size + 1))
        have hone : ∀ u ∈ (bytesRow s cap).toList, u.oneCell' = true := fun u hu => by
          simp only [bytesRow, Array.toList_append, Array.toList_map, Array.toList_replicate, List.mem_append, List.mem_map] at hu
          rcases hu with ⟨b, _, rfl⟩ | hu
          · rfl
          · rw [List.eq_of_mem_replicate hu]; rfl
        have hat : ∀ (q : Nat) (y : SV), (O.by' s)[q]? = some y → ∃ n : Int, y = .int .u8 n ∧ (bytesRow s cap)[q]? = some (.int .u8 n) := fun q y hy => by
          obtain ⟨n, h1, h2⟩ := oby_at s q y hy
          refine ⟨n, h1, ?_⟩
          rw [bytesRow, Array.getElem?_append_left]
          · exact h2
          · exact (Array.getElem?_eq_some_iff.1 h2).1
        have hbl : (O.by' s).length = s.size := by rw [O.hby]; show _ = s.data.size; simp
        obtain ⟨m', t'⟩ := m.create (w' := w.drew.alloc (.cells (bytesRow s cap) el ((bytesRow s cap).size, (bytesRow s cap).size + 1))) hno hnr (B := .gen 0 el (O.by' s)) (v := .slice (some ⟨w.heap.size, 0, none⟩) s.size cap)
          (fun b hb => by
            simp only [vblock] at hb
            split at hb
            · cases hb
            · injection hb with hb; subst hb; exact ⟨Nat.le_refl _, by show _ < (w.heap.push _).size; simp⟩) hbel
          (fun _ => ⟨_, w.heap.size, _, rfl, by simp only [vblock]; rw [if_neg (by omega)], m.szN _ (Nat.le_refl _), heap_alloc_new w.drew _, cap, _, _, by rw [hbl], rfl, Nat.le_refl _, by omega, hle, by omega, by omega, hone, hat⟩)
        · refine ⟨_, _, _, _, hr, .inl rfl, m', .row _ d _ _ _ (fun q hq => ?_), t'⟩
          simp only [upd, if_true] at hq
          injection hq with hq
          exact hq.symm
    · rename_i i j r hta htb hx
      split at h <;> try exact h.elim
      rename_i el hk1 hk2
      split at h <;> try exact h.elim
      rename_i k hel
      split at h <;> try exact h.elim
      rename_i k2 l hk3 hm
      obtain ⟨bs, hl, h'⟩ := h.h
      subst hl
      clear h
      have h := h'
      refine ⟨_, _, _, h, (fun q b hq => by simp at hq), (fun k hk => by cases hk), .of_run fun mem hμ hcr a N w0 w X ρ m hden => ?_⟩
      obtain ⟨hgm, v, b, ob, h1, h2, h3, h4, h5⟩ := hμ.gen m hm
      have hv := hden x (by simp [ho, Op.operands])
      rw [hx] at hv
      generalize hax : a.eval x = u at hv
      cases hv with
      | row _ _ a' n' c' hrow =>
        have e := hrow _ h1
        subst e
        have hs := gen_slice (Y := Forb X mem ρ) h4 h5
        rw [O.by_eq] at hs
        have hr := conv_back tys hta htb hk1 hk2 hel hk3 hs
        refine ⟨_, _, w, ρ, ?_, .inl rfl, m, .str _ _, Turn.refl _ _ _ _⟩
        simp only [execOp, ho, hax, Sem.run_bind, hr, Result.andThen_ok, Sem.run_pure]
    · exact h.elim
  case indexAddr t x ix =>
    simp only [oval] at h
    split at h <;> try exact h.elim
    rename_i i r ki n ht hx hix
    split at h <;> try exact h.elim
    rename_i el k l hk hm
    split at h <;> try exact h.elim
    rename_i j hel
    split at h <;> try exact h.elim
    rename_i hk3
    obtain ⟨q, ⟨hn, hq⟩, h⟩ := h.h
    rw [O.hln] at hq
    refine ⟨_, _, _, h, (fun q b hq => by simp at hq), (fun k hk => by cases hk), .of_run fun mem hμ hcr a N w0 w X ρ m hden => ?_⟩
    obtain ⟨hgm, v, b, ob, h1, h2, h3, h4, h5⟩ := hμ.gen m hm
    have hv := hden x (by simp [ho, Op.operands])
    have hvi := hden ix (by simp [ho, Op.operands])
    rw [hx] at hv
    rw [hix, Den.int_iff] at hvi
    generalize hax : a.eval x = u at hv
    cases hv with
    | row _ _ a' n' c' hrow =>
      have e := hrow _ h1
      subst e
      obtain ⟨cap, cur, fz, e1, e2, _⟩ := h5
      injection e1 with e3 e4 e5
      subst e3; subst e4
      have hj1 : j.size = 1 := sz.one el j hel (by rw [hk3]; rfl)
      refine ⟨_, _, w, ρ, ?_, .inl rfl, m, .rptr _ r none q 0 b 0 (fun v' hv' => by rw [h1] at hv'; injection hv' with hv'; subst hv'; exact ⟨_, _, rfl⟩), Turn.refl _ _ _ _⟩
      simp only [execOp, ho, hax, hvi, hn, Sem.run_bind, run_index_slice (P := P) tys ht hk hel ki b 0 l.length c' q hq w, Result.andThen_ok, Sem.run_pure, hj1, wid, Nat.zero_add, Nat.mul_one, Nat.add_zero]
  case store t x vo =>
    simp only [oval] at h
    split at h <;> try exact h.elim
    rename_i i r j n ht hx hv0
    split at h <;> try exact h.elim
    rename_i k l hk hm
    have hj := h.p
    have h := h.k
    rw [O.hln] at hj
    refine ⟨_, _, _, h, (fun q b hq => by simp at hq; rw [hq.1, hm]; exact .inr rfl), (fun k hk => by cases hk), .of_run fun mem hμ hcr a N w0 w X ρ m hden => ?_⟩
    obtain ⟨hgm, v, b, ob, h1, h2, h3, h4, h5⟩ := hμ.gen m hm
    have hv := hden x (by simp [ho, Op.operands])
    have hvo := hden vo (by simp [ho, Op.operands])
    rw [hx] at hv
    rw [hv0, Den.int_iff] at hvo
    have tok := tys.ok t i ht
    have hsz1 : i.size = 1 := sz.one t i ht (by rw [hk]; rfl)
    obtain ⟨cap, cur, fz, rfl, rfl, c1, c2, c3, c4, c5, c6, c7⟩ := h5
    generalize hax : a.eval x = u at hv
    cases hv with
    | rptr _ _ _ _ _ b' o1 hrow =>
      obtain ⟨_, _, e⟩ := hrow _ h1
      injection e with e _ _
      injection e with e
      injection e with e1 e2 _
      subst e1; subst e2
      have hjc : j < cur.size := by omega
      have hcell : w.cell? ⟨b, 0 + j * wid none + 0, none⟩ = some (cur[j]'hjc) := by
        simp only [wid, Nat.mul_one, Nat.zero_add, Nat.add_zero]
        rw [cell_of_row w b j cur k fz h4]
        exact Array.getElem?_eq_getElem hjc
      have hnf : w.frozen? ⟨b, 0 + j * wid none + 0, none⟩ = false := by
        obtain ⟨f1, f2⟩ := fz
        simp only [wid, Nat.mul_one, Nat.zero_add, Nat.add_zero, World.frozen?, h4]
        have : ¬ f1 ≤ j := by dsimp only at c1; omega
        simp [this]
      have hone : ∀ u ∈ (cur.setIfInBounds j (.int .u8 n)).toList, u.oneCell' = true := fun u hu => by
        rw [Array.toList_setIfInBounds] at hu
        rcases List.mem_or_eq_of_mem_set hu with h | h
        · exact c6 u h
        · rw [h]; rfl
      have hat : ∀ (q : Nat) (y : SV), (O.st l j (.int .u8 n))[q]? = some y → ∃ n' : Int, y = .int .u8 n' ∧ (cur.setIfInBounds j (.int .u8 n))[q]? = some (.int .u8 n') := fun q y hy => by
        rw [O.hst, List.getElem?_set] at hy
        split at hy
        · rename_i hjq
          injection hy with hy
          refine ⟨n, hy.symm, ?_⟩
          subst hjq
          simp [Array.getElem?_setIfInBounds, hjc]
        · rename_i hjq
          obtain ⟨n', h1, h2⟩ := c7 q y hy
          exact ⟨n', h1, by rw [Array.getElem?_setIfInBounds, if_neg hjq]; exact h2⟩
      obtain ⟨m', t'⟩ := m.update (w' := w.setRow b (cur.setIfInBounds j (.int .u8 n))) h1 (by rw [hgm]; rfl) (b := b) h2 ⟨rfl, rfl, rfl, by simp [World.setRow], fun k hk => setRow_other w b k _ (by omega)⟩ (fun k hk => setRow_other w b k _ hk)
        (B := .gen 0 k (O.st l j (.int .u8 n))) (fun _ => ⟨_, b, _, rfl, h2, h3, setRow_heap w b cur _ k fz h4, cap, _, fz, by rw [O.hst, List.length_set], rfl, by simpa using c1, by rw [O.hst, List.length_set]; exact c2, c3, by simpa using c4, c5, hone, hat⟩)
      refine ⟨_, undef, _, ρ, ?_, .inr ⟨rfl, rfl⟩, m', .any _ _, t'⟩
      have hst : (Instr.storeAt t (.pointer (some ⟨b, 0 + j * wid none + 0, none⟩)) (.int .u8 n)).run P w = .ok () (w.setRow b (cur.setIfInBounds j (.int .u8 n))) := by
        have e1 : (Value.int .u8 n).cells.size = i.size := by rw [hsz1]; rfl
        simp only [Instr.storeAt, Instr.sureAddr, Sem.run_bind, Sem.run_pure, Result.andThen_ok, storeVar, tok.sizeOf]
        rw [if_neg (by omega)]
        show (storeCells ⟨b, 0 + j * wid none + 0, none⟩ [.int .u8 n] 0).run P w = _
        have hadd : (⟨b, 0 + j * wid none + 0, none⟩ : Addr).add 0 = ⟨b, 0 + j * wid none + 0, none⟩ := by simp [Addr.add]
        have hst : (store ((⟨b, 0 + j * wid none + 0, none⟩ : Addr).add 0) (.int .u8 n)).run P w = .ok () (w.setRow b (cur.setIfInBounds j (.int .u8 n))) := by
          rw [hadd, run_store P w _ _ _ rfl, hcell]
          simp only [wid, Nat.mul_one, Nat.zero_add, Nat.add_zero] at hnf ⊢
          simp [hnf, setCell_eq_setRow w b j cur k fz (.int .u8 n) h4]
        simp only [storeCells, Sem.run_bind, hst, Result.andThen_ok, Sem.run_pure]
      simp only [execOp, ho, hax, hvo, Sem.run_bind, hst, Result.andThen_ok, Sem.run_pure]
  case call c =>
    obtain ⟨cal, args, ats⟩ := c
    simp only [oval] at h
    simp only [isO] at hi
    split at h <;> try exact h.elim
    rename_i x t hargs hats
    split at h <;> try exact h.elim
    rename_i r i hx ht
    split at h <;> try exact h.elim
    rename_i k l el hm hk
    split at hi <;> try (cases hi; done)
    have h := h.h.2 _ rfl
    obtain rfl : args = #[x] := by apply Array.ext'; simpa using hargs
    obtain rfl : ats = #[t] := by apply Array.ext'; simpa using hats
    refine ⟨_, _, _, h, (fun q b hq => by simp at hq), (fun k hk => by cases hk), .of_run fun mem hμ hcr a N w0 w X ρ m hden => ?_⟩
    obtain ⟨hgm, v, b, ob, h1, h2, h3, h4, h5⟩ := hμ.gen m hm
    have hv := hden x (by simp [ho, Op.operands, Call.operands])
    rw [hx] at hv
    generalize hax : a.eval x = u at hv
    cases hv with
    | row _ _ a' n' c' hrow =>
      have e := hrow _ h1
      subst e
      obtain ⟨ad, c, e1, _, _⟩ := gen_slice (Y := Forb X mem ρ) h4 h5
      rw [e1] at hax
      refine ⟨_, _, w, ρ, ?_, .inl rfl, m, .int _ _ _, Turn.refl _ _ _ _⟩
      simp [execOp, ho, resolve, invoke, builtin, hax, Builtin.len_, goInt, run_underlying ((tys.ok t i ht).und_slice hk), O.hln]
  all_goals simp only [oval] at h
end Go.Proofs.YtligbjbkecmecaaDoor
