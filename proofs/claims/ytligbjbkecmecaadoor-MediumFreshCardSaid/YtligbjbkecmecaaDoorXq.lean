/- Lists whose elements name rows of the call's own: made, appended to, read. -/
import Derived.Test.YtligbjbkecmecaaDoorXp
namespace Go.Proofs.YtligbjbkecmecaaDoor
set_option linter.unusedVariables false
set_option linter.unusedSimpArgs false
open Go.RowKit
variable {P : Program} {T : Nat → Option TI}
def hasRowS : List SV → Bool
  | [] => false
  | x :: l => (match x with | .row _ => true | _ => false) || hasRowS l
/-- Operations that only these rules know. -/
def isN (op : Op) (e : Operand → SV) : Bool :=
  match op with
  | .indexAddr _ x _ => (match e x with | .lsx _ _ => true | _ => false)
  | .load _ x => (match e x with | .epx _ _ _ => true | _ => false)
  | .fieldAddr _ x _ => (match e x with | .epx _ _ _ => true | _ => false)
  | .call c => (match c.callee, c.args.toList with
    | .builtin .len, [x] => (match e x with | .lsx _ _ => true | _ => false)
    | .builtin .append, [_, x] => (match e x with | .lsx _ _ => true | _ => false)
    | _, _ => false)
  | _ => false
/-- Operations for which these rules are a second way. -/
def isN2 (op : Op) (e : Operand → SV) : Bool :=
  match op with
  | .buildSlice _ _ ps => (match ps.toList with
    | [(_, x)] => (match e x with | .agg l => hasRowS l | _ => false)
    | _ => false)
  | _ => false
def baseX (μ : Nat → Blk) (sh : Option Nat) (el : Nat) : SV → Option (Option Nat × List SV)
  | .nil => some (none, [])
  | .row q => (match μ q with | .rown s e l => if shEq s sh && Nat.beq e el then some (some q, l) else none | _ => none)
  | _ => none
def nvO (T : Nat → Option TI) (d : Option Nat) (op : Op) (e : Operand → SV) (μ : Nat → Blk) (κ : SV → List (Nat × Blk) → Option Nat → Prop) : Prop :=
  match op with
  | .buildSlice t n ps => (match T t, ps.toList with
    | some i, [(k, x)] => (match i.kind with
      | .slice el => (match T el with
        | some j => if Nat.beq k 0 && Nat.beq n 1 && chunkOk j (e x) && Nat.ble j.size 16777216 && !(Nat.beq j.size 0) then κ (.lsx j.shape [e x]) [] none else False
        | none => False)
      | _ => False)
    | _, _ => False)
  | .indexAddr t x ix => (match T t with
    | some i => (match i.kind with
      | .slice el => (match T el, e x, e ix with
        | some j, .lsx sh l, .int _ n => if shEq sh j.shape then QV (fun (q : Nat × SV) => n = (q.1 : Int) ∧ l[q.1]? = some q.2) (fun q => κ (.epx j.shape q.2 0) [] none) else False
        | _, _, _ => False)
      | _ => False)
    | none => False)
  | .load t x => (match T t, e x with
    | some i, .epx sh y o => if Nat.beq o 0 && shEq sh i.shape then κ y [] none else (match y, sh with
      | .agg l, some _ => if Nat.ble (o + i.size) l.length then κ (partS i l o) [] none else False
      | _, _ => False)
    | _, _ => False)
  | .fieldAddr s x f => (match T s, e x with
    | some i, .epx sh y o => (match i.kind with
      | .struct fs => (match fs[f]? with
        | some (off, t) => (match T t with
          | some j => if Nat.beq j.size 0 then False else κ (.epx sh y (o + off)) [] none
          | none => False)
        | none => False)
      | _ => False)
    | _, _ => False)
  | .call c => (match c.callee, c.argTypes.toList, c.args.toList with
    | .builtin .len, [t], [x] => (match T t, e x with
      | some i, .lsx _ l => (match i.kind with
        | .slice _ => κ (.int .i64 (l.length : Int)) [] none
        | _ => False)
      | _, _ => False)
    | .builtin .append, [t, t2], [s, x] => (match T t, d with
      | some i, some d => (match i.kind with
        | .slice el => (match T el with
          | some j => if isSrc (T t2) && !(Nat.beq j.size 0) && !(Nat.beq j.bytes 0) then (match baseX μ j.shape el (e s), e x with
            | some (q, l), .lsx sh ys => if shEq sh j.shape && !(Nat.beq ys.length 0) then
                Rq (fun _ => (l.length + ys.length) * j.bytes ≤ 140737488355328) (fun _ => κ (.row d) ((match q with | some q => [(q, .no)] | none => []) ++ [(d, .rown j.shape el (l ++ ys))]) (some d)) else False
            | _, _ => False) else False
          | none => False)
        | _ => False)
      | _, _ => False)
    | _, _, _ => False)
  | _ => False

/-- A list whose elements name ids, as a source of cells. -/
theorem lsx_src {w : World} {Y : Nat → Prop} {ρ : Env} {sh : Option Nat} {ys : List SV} {v : Value} (h : Den w Y ρ (.lsx sh ys) v) :
    ∃ us : List Value, us.length = ys.length * wid sh ∧ (∀ u ∈ us, u.oneCell' = true) ∧ (∀ (i : Nat) (h : i < ys.length), Den w Y ρ ys[i] (valAt sh us i)) ∧ (∀ w', (Builtin.lenOf v).run P w' = .ok ys.length w') ∧
      (∀ w' : World, w'.heap = w.heap → (Builtin.firstCells (wid sh) ys.length v).run P w' = .ok us.toArray w') := by
  cases h with
  | lsx _ _ _ b off cap us hb hx hc hu hl ho h =>
    refine ⟨us, hl, ho, h, fun w' => by simp [Builtin.lenOf], fun w' hw => ?_⟩
    refine run_firstCells_some (P := P) w' (wid sh) ys.length ⟨b, off, none⟩ ys.length cap us (by rw [hl]) (fun j v hv => ?_)
    rw [addr_add]
    have := hu j v hv
    simpa [World.cell?, hw] using this
/-- Cells behind an append, as a row whose elements name ids. -/
theorem rowAt_rown {w w' : World} {Y Y' : Nat → Prop} {N : Nat → Prop} {e : TypeId} {sh : Option Nat} {v : Value} {l ys : List SV} {cs us : List Value} {old : Option Nat} {sz : Nat} (h : RowAt w' e sh v (l.length + ys.length) (cs ++ us) old sz) (hne : 0 < l.length + ys.length)
    (hN : ∀ b, (sz ≤ b ∨ old = some b) → N b) (hc : cs.length = l.length * wid sh) (hu : us.length = ys.length * wid sh) {ρ ρ' : Env} {d : Option Nat} (t : Turn w Y ρ w' Y' ρ' d) (hnr : ∀ r, d = some r → noref.norefs r (l ++ ys) = true)
    (hcd : ∀ (i : Nat) (h : i < l.length), Den w Y ρ l[i] (valAt sh cs i)) (hud : ∀ (i : Nat) (h : i < ys.length), Den w Y ρ ys[i] (valAt sh us i)) (T : Nat → Option TI) :
    BlkRep T N w' Y' ρ' (.rown sh e (l ++ ys)) (some v) := by
  rcases h with ⟨a, rfl, h1, h2⟩ | ⟨b, off, cap, cur, rfl, h1, h2, h3, h4, h5, h6, h7, h8⟩
  · omega
  · have hcl : cur.toList.length = cur.size := Array.length_toList
    have hle : (l.length + ys.length) * wid sh ≤ cap * wid sh := Nat.mul_le_mul_right _ h3
    have hm : (l.length + ys.length) * wid sh = l.length * wid sh + ys.length * wid sh := Nat.add_mul _ _ _
    refine ⟨b, off, cap, cur, by rw [List.length_append], hN b h1, h2, by rw [List.length_append]; exact h3, h4, h5, h6, h7, fun i hi => ?_⟩
    refine t.den (fun r hr => norefs_get (hnr r hr) i hi) ?_
    rw [List.length_append] at hi
    have hi1 : i * wid sh + wid sh ≤ (l.length + ys.length) * wid sh := by rw [← Nat.succ_mul]; exact Nat.mul_le_mul_right _ hi
    rw [← valAt_take sh (cur.toList.drop off) (l.length + ys.length) i hi (by rw [List.length_drop]; omega), h8]
    by_cases hil : i < l.length
    · have hi2 : i * wid sh + wid sh ≤ l.length * wid sh := by rw [← Nat.succ_mul]; exact Nat.mul_le_mul_right _ hil
      rw [List.getElem_append_left hil, valAt_ext (vs := cs) (by rw [List.length_append]; omega) (by omega) (fun k _ hk => List.getElem?_append_left (by omega))]
      exact hcd i hil
    · rw [List.getElem_append_right (by omega)]
      have hj : i - l.length < ys.length := by omega
      have hi3 : (i - l.length) * wid sh + wid sh ≤ ys.length * wid sh := by rw [← Nat.succ_mul]; exact Nat.mul_le_mul_right _ hj
      have hi4 : i * wid sh = l.length * wid sh + (i - l.length) * wid sh := by rw [← Nat.add_mul]; congr 1; omega
      have : valAt sh (cs ++ us) i = valAt sh us (i - l.length) := by
        rw [valAt_seg sh (cs ++ us) i (by rw [List.length_append]; omega), valAt_seg sh us _ (by omega)]
        congr 1
        apply List.ext_getElem?
        intro k
        rw [List.getElem?_take, List.getElem?_take, List.getElem?_drop, List.getElem?_drop]
        split
        · rw [List.getElem?_append_right (by omega)]
          congr 1
          omega
        · rfl
      rw [this]
      exact hud _ hj
theorem norefs_app {r : Nat} : ∀ {l k : List SV}, noref.norefs r l = true → noref.norefs r k = true → noref.norefs r (l ++ k) = true
  | [], _, _, h => h
  | x :: l, k, h, h' => by
    simp only [noref.norefs, Bool.and_eq_true, List.cons_append] at h ⊢
    exact ⟨h.1, norefs_app h.2 h'⟩
theorem nvO_ok (tys : Types P T) (sz : Sizes T) {o : Oper} {e : Operand → SV} {μ : Nat → Blk} {κ : SV → List (Nat × Blk) → Option Nat → Prop} (h : nvO T o.dst o.op e μ κ) :
    ∃ x U cr, κ x U cr ∧ (∀ q b, (q, b) ∈ U → cr = some q ∨ (μ q).own = true) ∧ (∀ k, cr = some k → o.dst = some k ∧ ∃ c, o.op = .call c ∧ c.callee = .builtin .append) ∧ (∀ s x' f, o.op = .fieldAddr s x' f → U = [] ∧ cr = none ∧ ∀ μ', Eff P T o e μ' x U cr) ∧ Eff P T o e μ x U cr := by
  generalize ho : o.op = op at h
  cases op
  case buildSlice t n ps =>
    simp only [nvO] at h
    split at h <;> try exact h.elim
    rename_i i k x ht hps
    split at h <;> try exact h.elim
    rename_i el hk
    split at h <;> try exact h.elim
    rename_i j he
    split at h <;> try exact h.elim
    rename_i hc
    simp only [Bool.and_eq_true, Bool.not_eq_true'] at hc
    obtain ⟨⟨⟨⟨c1, c2⟩, c3⟩, c4⟩, c5⟩ := hc
    have c1 : k = 0 := Nat.eq_of_beq_eq_true c1
    have c2 : n = 1 := Nat.eq_of_beq_eq_true c2
    have c4 : j.size ≤ 16777216 := Nat.le_of_ble_eq_true c4
    have c5 : j.size ≠ 0 := by intro h0; rw [h0] at c5; simp at c5
    subst c1; subst c2
    obtain rfl : ps = #[(0, x)] := by apply Array.ext'; simpa using hps
    have tok := tys.ok t i ht
    have tj := tys.ok el j he
    have hw := TI.wid_size (sz.one _ _ he)
    obtain ⟨z, hz, _, hzs, hz1, _⟩ := tj.zero_run
    refine ⟨_, _, _, h, (fun q b hq => by simp at hq), (fun k hk => by cases hk), (fun _ _ _ h => by cases h), .of_run fun mem hμ hcr a N w0 w X ρ m hd => ?_⟩
    have hdx := hd x (by rw [ho]; simp [Op.operands])
    obtain ⟨k1, k2, k3⟩ := chunk_den (sz.one el j he) c3 hdx
    have hsz0 : ((Array.range (1 * j.size)).map (z.cells[· % z.cells.size]!)).size = 1 * j.size := by simp
    obtain ⟨R, r1, r2, _, r4, r5⟩ := fill_seq j.size [a.eval x] 0 ((Array.range (1 * j.size)).map (z.cells[· % z.cells.size]!)) (fun v hv => by simp at hv; subst hv; exact k1) (by rw [hsz0]; simp)
      (made_one hz1 (by omega) _) (fun v hv => by simp at hv; subst hv; exact k2)
    have hbel : Below w.heap.size w (w.alloc (.cells R el)) := (Below.refl _ _).alloc (Nat.le_refl _) _
    have m' := m.grow hbel
    have hRl : R.toList.length = wid j.shape := by rw [Array.length_toList, r2, hsz0, hw, Nat.one_mul]
    have hRv : R.toList = (a.eval x).cells.toList := by
      apply List.ext_getElem?
      intro q
      by_cases hq : q < wid j.shape
      · have := r4 0 (a.eval x) rfl q (by omega)
        simp only [Nat.add_zero, Nat.zero_mul, Nat.zero_add] at this
        rw [Array.getElem?_toList, Array.getElem?_toList]
        exact this
      · rw [List.getElem?_eq_none (by omega), List.getElem?_eq_none (by rw [Array.length_toList]; omega)]
    have hcell : ∀ (q : Nat) (u : Value), R.toList[q]? = some u → (w.alloc (.cells R el)).cell? ⟨w.heap.size, 0 + q, none⟩ = some u := fun q u hu => by
      rw [Nat.zero_add]
      exact cell_of_row _ _ q R el (0, 0) (heap_alloc_new w _) |>.trans (by simpa using hu)
    have hx' : Den (w.alloc (.cells R el)) (Forb X mem ρ) ρ (e x) (a.eval x) := hdx.mono hbel.size fun b h1 h2 => ⟨h2, hbel.block b h1⟩
    have hden := Den.lsx (w := w.alloc (.cells R el)) (X := Forb X mem ρ) ρ j.shape [e x] w.heap.size 0 1 R.toList (by show _ < (w.heap.push _).size; simp) (fun hf => absurd (m.forb_lt hf) (Nat.lt_irrefl _)) (Nat.le_refl _) hcell (by rw [hRl]; simp) r5 (fun q hq => by
      obtain rfl : q = 0 := by simpa using hq
      rw [hRv, k3]
      exact hx')
    refine ⟨_, .slice (some ⟨w.heap.size, 0, none⟩) 1 1, _, ρ, ?_, .inl rfl, m', hden, ⟨fun _ => .inr (.inl rfl), hbel.size, fun b h1 h2 => ⟨h2, hbel.block b h1⟩⟩⟩
    have hn0 : ¬ 1 * j.size > 2 ^ 24 := by omega
    have h00 : ¬ 1 * j.size = 0 := by omega
    simp only [execOp, ho, Instr.buildSlice, Sem.run_bind, run_underlying (tok.und_slice hk), Result.andThen_ok, tj.sizeOf, if_neg hn0, if_neg h00, Sem.run_pure, hz]
    have e1 : (Array.map (fun (p : Nat × Operand) => (p.1, a.eval p.2)) #[(0, x)]).toList = List.map (fun p => (p.2, p.1)) [a.eval x].zipIdx := by simp
    rw [e1, r1]
    simp only [newRow, Sem.run_bind, run_newObj, Result.andThen_ok, Sem.run_pure]
    rfl
  case indexAddr t x ix =>
    simp only [nvO] at h
    split at h <;> try exact h.elim
    rename_i i ht
    split at h <;> try exact h.elim
    rename_i el hk
    split at h <;> try exact h.elim
    rename_i j sh l k n he hx hix
    split at h <;> try exact h.elim
    rename_i hsh
    have hsh := shEq_eq hsh
    subst hsh
    obtain ⟨⟨q, y⟩, ⟨hn, hy⟩, h⟩ := h.h
    have hw := TI.wid_size (sz.one _ _ he)
    refine ⟨_, _, _, h, (fun q b hq => by simp at hq), (fun k hk => by cases hk), (fun _ _ _ h => by cases h), RdOk.eff ⟨fun mem hμ a N w0 w X ρ m hd => ?_⟩⟩
    have hd1 := hd x (by simp [ho, Op.operands])
    have hdi := hd ix (by simp [ho, Op.operands])
    rw [hx] at hd1
    rw [hix, Den.int_iff] at hdi
    dsimp only at hn hy
    obtain ⟨hq, rfl⟩ := List.getElem?_eq_some_iff.1 hy
    generalize hev : a.eval x = v at hd1
    cases hd1 with
    | lsx _ _ _ b off cap us g1 g2 g3 g4 g5 g6 g7 =>
      have hle : q * wid j.shape + wid j.shape ≤ us.length := by
        rw [g5, ← Nat.succ_mul]
        exact Nat.mul_le_mul_right _ (by omega)
      refine ⟨.pointer (some ⟨b, off + q * wid j.shape, none⟩), ?_, ?_⟩
      · simp only [execOp, ho, hev, hdi, hn, Sem.run_bind, run_index_slice tys ht hk he k b off l.length cap q hq w, Result.andThen_ok, Sem.run_pure, hw]
      · have := Den.epx (w := w) (X := Forb X mem ρ) ρ j.shape l[q] 0 b (off + q * wid j.shape) ((us.drop (q * wid j.shape)).take (wid j.shape)) g1 g2 (fun k u hu' => ?_) (by simp; omega) (by rw [← valAt_seg _ _ _ hle]; exact g7 q hq)
        · exact this
        · rw [List.getElem?_take] at hu'
          split at hu'
          · rw [Nat.add_assoc]
            exact g4 _ u (by simpa using hu')
          · cases hu'
  case load t x =>
    simp only [nvO] at h
    split at h <;> try exact h.elim
    rename_i i sh y off ht hx
    have fin : ∀ v, (∀ (w : World) (Y : Nat → Prop) (ρ : Env) (us : List Value) (b o' : Nat), us.length = wid sh → Den w Y ρ y (valAt sh us 0) → (∀ (j : Nat) (u : Value), us[j]? = some u → w.cell? ⟨b, o' + j, none⟩ = some u) →
        ∃ u, (Instr.loadAt t (.pointer (some ⟨b, o' + off, none⟩))).run P w = .ok u w ∧ Den w Y ρ v u) → Eff P T o e μ v [] none := fun v hv => RdOk.eff ⟨fun mem hμ a N w0 w X ρ m hd => by
      have hd1 := hd x (by simp [ho, Op.operands])
      rw [hx] at hd1
      generalize hev : a.eval x = q at hd1
      cases hd1 with
      | epx _ _ _ _ b o1 us hb hx' hu hl hy =>
        obtain ⟨u, hr, hdu⟩ := hv w _ ρ us b o1 hl hy hu
        exact ⟨u, by simp only [execOp, ho, hev, Sem.run_bind, hr, Result.andThen_ok, Sem.run_pure], hdu⟩⟩
    split at h
    · rename_i hc
      simp only [Bool.and_eq_true] at hc
      have h0 : off = 0 := Nat.eq_of_beq_eq_true hc.1
      have hs := shEq_eq hc.2
      refine ⟨_, _, _, h, (fun q b hq => by simp at hq), (fun k hk => by cases hk), (fun _ _ _ h => by cases h), fin _ fun w Y ρ us b o' hl hd hcell => ⟨_, ?_, hd⟩⟩
      subst h0; subst hs
      rw [Nat.add_zero]
      exact run_load_at (tys.ok t i ht) (sz.one t i ht) w b o' us (by rw [hl, ← TI.wid_size (sz.one t i ht)]; exact Nat.le_refl _) hcell
    · split at h <;> try exact h.elim
      rename_i l n _
      split at h <;> try exact h.elim
      rename_i hlen
      have hlen : off + i.size ≤ l.length := Nat.le_of_ble_eq_true hlen
      refine ⟨_, _, _, h, (fun q b hq => by simp at hq), (fun k hk => by cases hk), (fun _ _ _ h => by cases h), fin _ fun w Y ρ us b o' hl hd hcell => ?_⟩
      rw [valAt_some_full (by simp only [wid] at hl; omega)] at hd
      obtain ⟨cs, e1, hd⟩ := Den.agg_iff.1 hd
      injection e1 with e1
      injection e1 with e1
      subst e1
      exact load_part tys sz ht hd hlen b o' hcell
  case fieldAddr s x f =>
    simp only [nvO] at h
    split at h <;> try exact h.elim
    rename_i i sh y off0 hs hx
    split at h <;> try exact h.elim
    rename_i fs hk
    split at h <;> try exact h.elim
    rename_i off t hf
    split at h <;> try exact h.elim
    rename_i j ht
    split at h <;> try exact h.elim
    rename_i hj
    have hj : j.size ≠ 0 := by intro h0; rw [h0] at hj; simp at hj
    have hp : ∀ μ', Eff P T o e μ' (.epx sh y (off0 + off)) [] none := fun μ' => RdOk.eff ⟨fun mem hμ a N w0 w X ρ m hd => by
      have hd1 := hd x (by simp [ho, Op.operands])
      rw [hx] at hd1
      generalize hev : a.eval x = q at hd1
      cases hd1 with
      | epx _ _ _ _ b o1 us hb hx' hu hl hy =>
        refine ⟨.pointer (some ⟨b, o1 + (off0 + off), none⟩), by simp only [execOp, ho, hev, Sem.run_bind, fieldAt_run tys hs hk hf ht hj, Result.andThen_ok, Sem.run_pure, Nat.add_assoc], ?_⟩
        exact .epx _ _ _ _ b o1 us hb hx' hu hl hy⟩
    exact ⟨_, _, _, h, (fun q b hq => by simp at hq), (fun k hk => by cases hk), (fun _ _ _ _ => ⟨rfl, rfl, hp⟩), hp μ⟩
  case call c =>
    obtain ⟨cal, args, ats⟩ := c
    simp only [nvO] at h
    split at h <;> try exact h.elim
    · rename_i t x hat har
      obtain rfl : args = #[x] := by apply Array.ext'; simpa using har
      obtain rfl : ats = #[t] := by apply Array.ext'; simpa using hat
      split at h <;> try exact h.elim
      rename_i i sh l ht hx
      split at h <;> try exact h.elim
      rename_i el hk
      refine ⟨_, _, _, h, (fun q b hq => by simp at hq), (fun k hk => by cases hk), (fun _ _ _ h => by cases h), RdOk.eff ⟨fun mem hμ a N w0 w X ρ m hd => ?_⟩⟩
      have hd1 := hd x (by simp [ho, Op.operands, Call.operands])
      rw [hx] at hd1
      generalize hev : a.eval x = v at hd1
      cases hd1 with
      | lsx _ _ _ b off cap us g1 g2 g3 g4 g5 g6 g7 =>
        refine ⟨.int .i64 l.length, ?_, .int _ _ _⟩
        simp [execOp, ho, resolve, invoke, builtin, hev, Builtin.len_, goInt, run_underlying ((tys.ok t i ht).und_slice hk)]
    · rename_i t t2 s x hat har
      obtain rfl : args = #[s, x] := by apply Array.ext'; simpa using har
      obtain rfl : ats = #[t, t2] := by apply Array.ext'; simpa using hat
      split at h <;> try exact h.elim
      rename_i i d ht hdd
      split at h <;> try exact h.elim
      rename_i el hk
      split at h <;> try exact h.elim
      rename_i j hj
      split at h <;> try exact h.elim
      rename_i hck
      simp only [Bool.and_eq_true, Bool.not_eq_true'] at hck
      split at h <;> try exact h.elim
      rename_i q l sh ys hbase hx
      split at h <;> try exact h.elim
      rename_i hsh
      simp only [Bool.and_eq_true, Bool.not_eq_true'] at hsh
      have hne : ys.length ≠ 0 := by intro h0; rw [h0] at hsh; simp at hsh
      have hsh := shEq_eq hsh.1
      subst hsh
      obtain ⟨hlen', h⟩ := h
      have ti := tys.ok t i ht
      have tj := tys.ok el j hj
      have hw := TI.wid_size (sz.one _ _ hj)
      have hpos : 0 < wid j.shape := by
        rcases Nat.eq_zero_or_pos (wid j.shape) with h0 | h0
        · rw [hw, h0] at hck; simp at hck
        · exact h0
      have hbp : 0 < j.bytes := by
        rcases Nat.eq_zero_or_pos j.bytes with h0 | h0
        · rw [h0] at hck; simp at hck
        · exact h0
      have hmax : l.length + ys.length ≤ maxLen := by
        have : l.length + ys.length ≤ (l.length + ys.length) * j.bytes := Nat.le_mul_of_pos_right _ hbp
        simp only [maxLen]; omega
      obtain ⟨ji, j1, j2, j3⟩ := tj.inf
      obtain ⟨z, z1, z2, z3, z4, z5⟩ := tj.zero
      have hz : ji.zero = some z := by rw [j1] at z1; simpa using z1
      obtain ⟨d2, hd2, hd2'⟩ := isSrc_und tys hck.1.1
      have hexec : ∀ (a : Act), execOp a.eval o = (do let v ← Builtin.append_ #[t, t2] o.type #[a.eval s, a.eval x]; pure (.value v)) := by
        intro a
        simp [execOp, ho, resolve, invoke, builtin]
      have go : ∀ (mem : Mem) (a : Act) (N : Nat → Prop) (w0 w : World) (X : Nat → Prop) (ρ : Env), MRep T N w0 w X mem ρ → (∀ y ∈ o.op.operands, Den w (Forb X mem ρ) ρ (e y) (a.eval y)) →
          ∀ (old : Option Nat) (cs : List Value), RowAt w el j.shape (a.eval s) l.length cs old w.heap.size → (∀ b, old = some b → N b) →
          ∃ v' w' us, (execOp a.eval o).run P w = .ok (.value v') w' ∧ BelowW N w w' ∧ (∀ k, k < w.heap.size → old ≠ some k → w'.heap[k]? = w.heap[k]?) ∧ RowAt w' el j.shape v' (l.length + ys.length) (cs ++ us) old w.heap.size ∧
            us.length = ys.length * wid j.shape ∧ (∀ (i : Nat) (h : i < ys.length), Den w (Forb X mem ρ) ρ ys[i] (valAt j.shape us i)) := by
        intro mem a N w0 w X ρ m hd old cs hrow hold
        have hdx := hd x (by simp [ho, Op.operands, Call.operands])
        rw [hx] at hdx
        obtain ⟨us, u1, u2, u3, u4, u5⟩ := lsx_src (P := P) hdx
        obtain ⟨v', w', hr, g1, g2, g3, g4, g5, g6⟩ := run_append_row w t t2 o.type el d2 ji z j.shape (ti.und_slice hk) hd2 hd2' j1 hz (by rw [j2, hw]) (by rw [z3, j2]) z4 hpos (a.eval s) l.length ys.length cs us old hrow (a.eval x) u2 u1 u4
          (fun w' hw' => u5 w' hw') (by rw [j3]; exact hlen') hmax
        refine ⟨v', w', us, by rw [hexec]; simp [hr], ⟨g1, g2, g3, g4, fun k hk hN => g5 k hk (fun e => hN (hold k e))⟩, g5, g6, u1, u3⟩
      have hB : ∀ (v' : Value) (w' : World) (cs us : List Value) (old : Option Nat) (sz : Nat), RowAt w' el j.shape v' (l.length + ys.length) (cs ++ us) old sz → ∀ b, vblock v' = some b → (sz ≤ b ∨ old = some b) ∧ b < w'.heap.size := by
        intro v' w' cs us old sz hrow b hb
        rcases hrow with ⟨a, rfl, _⟩ | ⟨b', off, cap, cur, rfl, k1, k2, _⟩
        · cases a <;> simp [vblock] at hb
        · simp only [vblock] at hb
          split at hb
          · cases hb
          · injection hb with hb; subst hb; exact ⟨k1, heap_lt k2⟩
      have hnx : ∀ mem : Mem, (∀ d', some d = some d' → getM mem d' = .no ∧ memNoref d' mem = true ∧ ∀ y ∈ o.op.operands, noref d' (e y) = true) → noref.norefs d ys = true := fun mem hcr => by
        have := (hcr d rfl).2.2 x (by simp [ho, Op.operands, Call.operands])
        rw [hx] at this
        simpa [noref] using this
      cases hs : e s with
      | nil =>
        rw [hs] at hbase
        simp only [baseX] at hbase
        injection hbase with hbase
        injection hbase with hq hl
        subst hq; subst hl
        refine ⟨_, _, _, h, (fun q b hq => by simp at hq; exact .inl (by rw [hq.1])), (fun k hk => ⟨by rw [hdd, ← hk], _, rfl, rfl⟩), (fun _ _ _ h => by cases h), .of_run fun mem hμ hcr a N w0 w X ρ m hd => ?_⟩
        obtain ⟨hno, hnr, _⟩ := hcr d rfl
        have hds := hd s (by simp [ho, Op.operands, Call.operands])
        rw [hs] at hds
        have hrow : RowAt w el j.shape (a.eval s) ([] : List SV).length [] none w.heap.size := by
          generalize a.eval s = v at hds
          cases hds
          exact .inl ⟨none, rfl, rfl, rfl⟩
        obtain ⟨v', w', us, hr, hbel, hkeep, hrow', u1, u3⟩ := go mem a N w0 w X ρ m hd none [] hrow (fun b h => by cases h)
        have hbel' : Below w.heap.size w w' := ⟨hbel.os, hbel.tape, hbel.output, hbel.size, fun k hk => hkeep k hk (by simp)⟩
        obtain ⟨m', t'⟩ := m.create (w' := w') hno hnr (B := .rown j.shape el ([] ++ ys)) (v := v') (fun b hb => by
          obtain ⟨k1, k2⟩ := hB v' w' [] us none _ hrow' b hb
          exact ⟨k1.resolve_right (by simp), k2⟩) hbel' (fun tn => rowAt_rown (l := []) hrow' (by simp; omega) (fun b hb => m.szN b (hb.resolve_right (by simp))) (by simp) u1 tn (fun r hr => by injection hr with hr; subst hr; exact hnx mem hcr) (fun i h => by simp at h) u3 T)
        refine ⟨_, v', w', _, hr, .inl rfl, m', ?_, t'⟩
        rcases hrow' with ⟨a', rfl, _⟩ | ⟨b', off, cap, cur, rfl, _⟩
        · exact .row _ d _ _ _ fun q hq => by simp only [upd, if_true] at hq; injection hq with hq; exact hq.symm
        · exact .row _ d _ _ _ fun q hq => by simp only [upd, if_true] at hq; injection hq with hq; exact hq.symm
      | row q0 =>
        rw [hs] at hbase
        simp only [baseX] at hbase
        cases hm : μ q0 with
        | rown s' e' l' =>
          rw [hm] at hbase
          simp only at hbase
          split at hbase
          case isFalse => cases hbase
          rename_i hse
          simp only [Bool.and_eq_true] at hse
          have hs1 := shEq_eq hse.1
          have hs2 : e' = el := Nat.eq_of_beq_eq_true hse.2
          injection hbase with hbase
          injection hbase with hq hl
          subst hq; subst hl; subst hs1; subst hs2
          refine ⟨_, _, _, h, (fun q b hq => by
            simp only [List.singleton_append, List.mem_cons, Prod.mk.injEq, List.not_mem_nil, or_false] at hq
            rcases hq with hq | hq
            · rw [hq.1]; exact .inr (by rw [hm]; rfl)
            · exact .inl (by rw [hq.1])), (fun k hk => ⟨by rw [hdd, ← hk], _, rfl, rfl⟩), (fun _ _ _ h => by cases h), .of_run fun mem hμ hcr a N w0 w X ρ m hd => ?_⟩
          obtain ⟨hno, hnr, hnrefs⟩ := hcr d rfl
          have hqd : q0 ≠ d := by
            have := hnrefs s (by simp [ho, Op.operands, Call.operands])
            rw [hs] at this
            rintro rfl
            simp [noref] at this
          have hds := hd s (by simp [ho, Op.operands, Call.operands])
          rw [hs] at hds
          have hg : getM mem q0 = .rown j.shape e' l' := by
            rcases hμ q0 with g | g
            · rw [hm] at g; cases g
            · rw [← g, hm]
          have hb0 := m.blk q0
          rw [hg] at hb0
          obtain ⟨b, off, cap, cur, hv, k1, k2, k3, k4, k5, k6, k7, k8⟩ := hb0
          have hev : a.eval s = .slice (some ⟨b, off, none⟩) l'.length cap := by
            generalize a.eval s = v' at hds
            cases hds with
            | row _ _ _ _ _ hr => exact (hr _ hv).symm
          have hcl : cur.toList.length = cur.size := Array.length_toList
          have hle : l'.length * wid j.shape ≤ cap * wid j.shape := Nat.mul_le_mul_right _ k3
          have hvb : vblock (.slice (some ⟨b, off, none⟩) l'.length cap) = some b := by simp only [vblock]; rw [if_neg (by omega)]
          have hcs : ((cur.toList.drop off).take (l'.length * wid j.shape)).length = l'.length * wid j.shape := by rw [List.length_take, List.length_drop]; omega
          have hrow : RowAt w e' j.shape (a.eval s) l'.length ((cur.toList.drop off).take (l'.length * wid j.shape)) (some b) w.heap.size := by
            rw [hev]
            exact .inr ⟨b, off, cap, cur, rfl, .inr rfl, k2, k3, k4, k5, k6, k7, rfl⟩
          have hcd : ∀ (i : Nat) (h : i < l'.length), Den w (Forb X mem ρ) ρ l'[i] (valAt j.shape ((cur.toList.drop off).take (l'.length * wid j.shape)) i) := fun i hi => by
            rw [valAt_take _ _ l'.length i hi (by rw [List.length_drop]; omega)]
            exact k8 i hi
          obtain ⟨v', w', us, hr, hbel, hkeep, hrow', u1, u3⟩ := go mem a N w0 w X ρ m hd (some b) _ hrow (fun b' hb' => by injection hb' with hb'; rw [← hb']; exact k1)
          have hnl : noref.norefs d l' = true := by
            have := memNoref_get hnr q0
            rw [hg] at this
            exact this
          obtain ⟨m', t'⟩ := m.move (q := q0) (d := d) (w' := w') (by rw [hg]; rfl) hv hqd hno hnr (B := .rown j.shape e' (l' ++ ys)) (v := v') hbel (fun b' hb hne => hkeep b' hb (fun e => hne (by rw [hvb]; exact e))) (fun b' hb => by
            obtain ⟨k1, k2⟩ := hB v' w' _ us _ _ hrow' b' hb
            rcases k1 with k1 | k1
            · exact .inl ⟨k1, k2⟩
            · exact .inr (by rw [hvb]; exact k1)) (fun tn => rowAt_rown hrow' (by omega) (fun b' hb => hb.elim (m.szN b') (fun e => by injection e with e; rw [← e]; exact k1)) hcs u1 tn (fun r hr => by injection hr with hr; subst hr; exact norefs_app hnl (hnx mem hcr)) hcd u3 T)
          refine ⟨_, v', w', _, hr, .inl rfl, m', ?_, t'⟩
          rcases hrow' with ⟨a', rfl, _⟩ | ⟨b', off, cap, cur, rfl, _⟩
          · exact .row _ d _ _ _ fun q hq => by simp only [if_true] at hq; injection hq with hq; exact hq.symm
          · exact .row _ d _ _ _ fun q hq => by simp only [if_true] at hq; injection hq with hq; exact hq.symm
        | _ => rw [hm] at hbase; cases hbase
      | _ => rw [hs] at hbase; simp [baseX] at hbase
  all_goals exact h.elim
end Go.Proofs.YtligbjbkecmecaaDoor
