/- The operations that touch no memory: the evaluator and its law. -/
import Derived.Test.YtligbjbkecmecaaDoorEv
namespace Go.Proofs.YtligbjbkecmecaaDoor
set_option linter.unusedVariables false
set_option linter.unusedSimpArgs false
open Go.RowKit

/-- A conversion between whole numbers. -/
def cvI (j k : IntKind) (n : Int) (κ : SV → Prop) : Prop :=
  match k with
  | .i64 => (match j with
    | .u64 => Rq (fun _ => n ≤ 9223372036854775807 ∧ 0 ≤ n) (fun _ => κ (.int .i64 n))
    | .i64 => Rq (fun _ => -9223372036854775808 ≤ n ∧ n ≤ 9223372036854775807) (fun _ => κ (.int .i64 n))
    | _ => Rq (fun _ => n ≤ 4294967295 ∧ -2147483648 ≤ n) (fun _ => κ (.int .i64 n)))
  | .u8 => Q1 (fun _ => True) (fun z => z = n % 256) (fun z => κ (.int .u8 z))
  | .u16 => Q1 (fun _ => True) (fun z => z = n % 65536) (fun z => κ (.int .u16 z))
  | .u32 => Q1 (fun _ => True) (fun z => z = n % 4294967296) (fun z => κ (.int .u32 z))
  | .u64 => Q1 (fun _ => True) (fun z => z = n % 18446744073709551616) (fun z => κ (.int .u64 z))
  | .i8 => Q1 (fun _ => True) (fun z => z = (n + 128) % 256 - 128) (fun z => κ (.int .i8 z))
  | .i16 => Q1 (fun _ => True) (fun z => z = (n + 32768) % 65536 - 32768) (fun z => κ (.int .i16 z))
  | .i32 => Q1 (fun _ => True) (fun z => z = (n + 2147483648) % 4294967296 - 2147483648) (fun z => κ (.int .i32 z))
theorem wrap_i8' (n : Int) : IntKind.i8.wrap n = (n + 128) % 256 - 128 := by
  simp [IntKind.wrap, IntKind.bits, IntKind.signed]; omega
theorem wrap_i16' (n : Int) : IntKind.i16.wrap n = (n + 32768) % 65536 - 32768 := by
  simp [IntKind.wrap, IntKind.bits, IntKind.signed]; omega
theorem cvI_ok {j k : IntKind} {n : Int} {κ : SV → Prop} (h : cvI j k n κ) : κ (.int k (k.wrap n)) := by
  cases k <;> simp only [cvI] at h
  · exact h.h.2 _ (wrap_i8' n)
  · exact h.h.2 _ (wrap_i16' n)
  · exact h.h.2 _ (IntKind.wrap_i32 n)
  · cases j <;> simp only at h
    all_goals (rw [IntWalk.i64_in n (by have := h.p; omega)]; exact h.k)
  · exact h.h.2 _ (IntKind.wrap_u8 n)
  · exact h.h.2 _ (IntKind.wrap_u16 n)
  · exact h.h.2 _ (IntKind.wrap_u32 n)
  · exact h.h.2 _ (IntKind.wrap_u64 n)

/-- The cells from off on overwritten. -/
def putCells : List SV → Nat → List SV → List SV
  | l, _, [] => l
  | [], _, _ => []
  | _ :: l, 0, x :: xs => x :: putCells l 0 xs
  | a :: l, n + 1, x :: xs => a :: putCells l n (x :: xs)
theorem putCells_get : ∀ (l : List SV) (off : Nat) (xs : List SV) (i : Nat), off + xs.length ≤ l.length →
    (putCells l off xs)[i]? = if off ≤ i ∧ i < off + xs.length then xs[i - off]? else l[i]?
  | l, off, [], i, _ => by
    unfold putCells
    rw [if_neg (by intro h; simp at h; omega)]
  | [], off, x :: xs, i, h => by simp at h
  | a :: l, 0, x :: xs, i, h => by
    unfold putCells
    cases i with
    | zero => simp
    | succ i =>
      have := putCells_get l 0 xs i (by simp at h ⊢; omega)
      simp only [List.getElem?_cons_succ, this]
      simp only [List.length_cons]
      by_cases hi : i < xs.length
      · rw [if_pos (by omega), if_pos (by omega)]; simp
      · rw [if_neg (by omega), if_neg (by omega)]
  | a :: l, n + 1, x :: xs, i, h => by
    unfold putCells
    cases i with
    | zero => rw [if_neg (by omega)]; simp
    | succ i =>
      have := putCells_get l n (x :: xs) i (by simp at h ⊢; omega)
      simp only [List.getElem?_cons_succ, this]
      by_cases hi : n ≤ i ∧ i < n + (x :: xs).length
      · rw [if_pos hi, if_pos (by omega), show i + 1 - (n + 1) = i - n by omega]
      · rw [if_neg hi, if_neg (by omega)]
theorem putCells_length : ∀ (l : List SV) (off : Nat) (xs : List SV), (putCells l off xs).length = l.length
  | l, off, [] => by unfold putCells; rfl
  | [], off, x :: xs => by unfold putCells; rfl
  | a :: l, 0, x :: xs => by unfold putCells; simp [putCells_length l 0 xs]
  | a :: l, n + 1, x :: xs => by unfold putCells; simp [putCells_length l n (x :: xs)]

/-- The parts of a struct laid into its zero. -/
def fillS (T : Nat → Option TI) (fs : List (Nat × Nat)) : List SV → List (Nat × SV) → Option (List SV)
  | cs, [] => some cs
  | cs, (i, x) :: ps =>
    match fs[i]?, cellsA x with
    | some (off, t), some xs => (match T t with
      | some j => if xs.length = j.size ∧ off + j.size ≤ cs.length then fillS T fs (putCells cs off xs) ps else none
      | none => none)
    | _, _ => none

/-- What a load of type t gives at offset off of a struct's cells. -/
def partS (i : TI) (l : List SV) (off : Nat) : SV := match i.shape with
  | none => getN .any l off
  | some n => .agg (takeN (dropN l off) n)

def isPtr : SV → Bool
  | .ptr _ _ | .eptr _ _ _ | .rptr _ _ _ _ => true
  | _ => false

def pval (T : Nat → Option TI) (op : Op) (e : Operand → SV) (κ : SV → Prop) : Prop :=
  match op with
  | .move x | .assign x => κ (e x)
  | .pick c a b => (match e c with
    | .bool c => br c (fun _ => κ (e a)) (fun _ => κ (e b))
    | _ => False)
  | .binOp op t x y _ => (match e x, e y with
    | .int k a, .int j b => (match op with
      | .shl => shI .shl k a b κ
      | .shr => shI .shr k a b κ
      | op => if k = j then binI op k a b κ else False)
    | .bool a, .bool b => (match T t with
      | some i => (match i.kind, op with
        | .bool, .eql => br a (fun _ => br b (fun _ => κ (.bool true)) (fun _ => κ (.bool false))) (fun _ => br b (fun _ => κ (.bool false)) (fun _ => κ (.bool true)))
        | .bool, .neq => br a (fun _ => br b (fun _ => κ (.bool false)) (fun _ => κ (.bool true))) (fun _ => br b (fun _ => κ (.bool true)) (fun _ => κ (.bool false)))
        | _, _ => False)
      | none => False)
    | .str a, .str b => (match T t with
      | some i => (match i.kind, op with
        | .string, .eql => QC (fun _ => a = b) (fun z => κ (.bool z))
        | .string, .neq => QC (fun _ => a ≠ b) (fun z => κ (.bool z))
        | .string, .add => QV (fun z => a.size + b.size ≤ 9223372036854775807 ∧ z = O.sa a b) (fun z => κ (.str z))
        | _, _ => False)
      | none => False)
    | .agg a, .agg b => (match T t with
      | some i => (match i.kind, op with
        | .struct _, .eql => if a.length = i.size ∧ b.length = i.size then (match eqT T 8 t a b with | some f => QC (fun _ => f () = true) (fun z => κ (.bool z)) | none => False) else False
        | .struct _, .neq => if a.length = i.size ∧ b.length = i.size then (match eqT T 8 t a b with | some f => QC (fun _ => f () = false) (fun z => κ (.bool z)) | none => False) else False
        | .array _ _, .eql => if a.length = i.size ∧ b.length = i.size then (match eqT T 8 t a b with | some f => QC (fun _ => f () = true) (fun z => κ (.bool z)) | none => False) else False
        | .array _ _, .neq => if a.length = i.size ∧ b.length = i.size then (match eqT T 8 t a b with | some f => QC (fun _ => f () = false) (fun z => κ (.bool z)) | none => False) else False
        | _, _ => False)
      | none => False)
    | _, _ => False)
  | .unOp op _ x => (match op, e x with
    | .not, .bool b => br b (fun _ => κ (.bool false)) (fun _ => κ (.bool true))
    | .neg, .int k n => arith k (fun _ => 0 - n) (fun z => κ (.int k z))
    | _, _ => False)
  | .convert s d x => (match T s, T d, e x with
    | some _, some i, .int j n => (match i.kind with
      | .int k => cvI j k n κ
      | _ => False)
    | _, _, _ => False)
  | .fieldAddr s x f => (match T s with
    | some i => (match i.kind with
      | .struct fs => (match fs[f]? with
        | some (off, t) => (match T t with
          | some j => if j.size = 0 then False else (match e x with
            | .ptr r o => κ (.ptr r (o + off))
            | .eptr s y o => κ (.eptr s y (o + off))
            | .rptr r s i o => κ (.rptr r s i (o + off))
            | _ => False)
          | none => False)
        | none => False)
      | _ => False)
    | none => False)
  | .field s x f => (match T s, e x with
    | some i, .agg l => (match i.kind with
      | .struct fs => (match fs[f]? with
        | some (off, t) => (match T t with
          | some j => if off + j.size ≤ l.length then κ (partS j l off) else False
          | none => False)
        | none => False)
      | _ => False)
    | _, _ => False)
  | .extract x i => (match e x with
    | .tup l => (match l[i]? with | some x => κ x | none => False)
    | _ => False)
  | .build t ps => (match T t with
    | some i => (match i.kind, i.zero with
      | .struct fs, .agg z => (match fillS T fs z (ps.toList.map fun p => (p.1, e p.2)) with
        | some l => κ (.agg l)
        | none => False)
      | .array n el, .agg z => (match T el with
        | some j => (match fillS T ((List.range n).map fun k => (k * j.size, el)) z (ps.toList.map fun p => (p.1, e p.2)) with
          | some l => κ (.agg l)
          | none => False)
        | none => False)
      | _, _ => False)
    | none => False)
  | .nilCheck x => if isPtr (e x) then κ (e x) else False
  | .call c => (match c.callee, c.args.toList with
    | .builtin .min, [x, y] => (match e x, e y with | .int k a, .int _ b => Q1 (fun _ => True) (fun z => z = min a b) (fun z => κ (.int k z)) | _, _ => False)
    | .builtin .max, [x, y] => (match e x, e y with | .int k a, .int _ b => Q1 (fun _ => True) (fun z => z = max a b) (fun z => κ (.int k z)) | _, _ => False)
    | _, _ => False)
  | _ => False

variable {P : Program} {T : Nat → Option TI}

structure POk (P : Program) (op : Op) (e : Operand → SV) (x : SV) : Prop where
  h : ∀ (o : Oper) (a : Act) (w : World) (X : Nat → Prop) (ρ : Env), o.op = op → (∀ y ∈ op.operands, Den w X ρ (e y) (a.eval y)) →
    ∃ u, (execOp a.eval o).run P w = .ok (.value u) w ∧ Den w X ρ x u

theorem cellsA_den {x : SV} {xs : List SV} (h : cellsA x = some xs) {w : World} {X : Nat → Prop} {ρ : Env} {v : Value} (d : Den w X ρ x v) : DenL w X ρ xs v.cells.toList ∧ ∀ u ∈ v.cells.toList, u.oneCell' = true := by
  have atom : atomB x = true → xs = [x] → DenL w X ρ xs v.cells.toList ∧ ∀ u ∈ v.cells.toList, u.oneCell' = true := by
    intro ha e
    have h1 := d.one ha
    rw [one_cells h1, e]
    refine ⟨⟨rfl, fun i y u hy hu => ?_⟩, fun u hu => by simp at hu; subst hu; exact h1⟩
    cases i with
    | zero => simp at hy hu; subst hy; subst hu; exact d
    | succ i => simp at hy
  cases x with
  | agg l =>
    simp only [cellsA] at h
    split at h
    · rename_i hl
      injection h with h; subst h
      obtain ⟨cs, rfl, hd⟩ := Den.agg_iff.1 d
      refine ⟨by simpa [Value.cells] using hd, fun u hu => ?_⟩
      simp [Value.cells] at hu
      obtain ⟨i, hi, rfl⟩ := List.mem_iff_getElem.1 hu
      have hil : i < l.length := by rw [hd.1]; exact hi
      have hall : ∀ (l : List SV), allAtom l = true → ∀ (i : Nat) (hi : i < l.length), atomB l[i] = true := by
        intro l
        induction l with
        | nil => intro _ i hi; simp at hi
        | cons y l ih =>
          intro hl i hi
          simp [allAtom] at hl
          cases i with
          | zero => exact hl.1
          | succ i => exact ih hl.2 i (by simpa using hi)
      exact (hd.2 i _ _ (List.getElem?_eq_getElem hil) (List.getElem?_eq_getElem hi)).one (hall l hl i hil)
    · cases h
  | any => simp [cellsA, atomB] at h
  | tup l => simp [cellsA, atomB] at h
  | val v => simp only [cellsA] at h; split at h <;> first | (rename_i ha; injection h with h; exact atom ha h.symm) | cases h
  | _ => simp only [cellsA, atomB, if_true] at h; injection h with h; exact atom rfl h.symm

theorem fold_set : ∀ (vs : List Value) (k off : Nat) (A : Array Value), off + k + vs.length ≤ A.size →
    ((vs.zipIdx k).foldl (fun (cs : Array Value) (p : Value × Nat) => cs.setIfInBounds (off + p.2) p.1) A).size = A.size ∧
    ∀ i : Nat, ((vs.zipIdx k).foldl (fun (cs : Array Value) (p : Value × Nat) => cs.setIfInBounds (off + p.2) p.1) A)[i]? = if off + k ≤ i ∧ i < off + k + vs.length then vs[i - (off + k)]? else A[i]?
  | [], k, off, A, _ => by
    refine ⟨rfl, fun i => ?_⟩
    rw [if_neg (by intro h; simp at h; omega)]
    rfl
  | v :: vs, k, off, A, h => by
    simp only [List.length_cons] at h
    obtain ⟨h1, h2⟩ := fold_set vs (k + 1) off (A.setIfInBounds (off + k) v) (by simp; omega)
    simp only [List.zipIdx_cons, List.foldl_cons]
    refine ⟨by rw [h1]; simp, fun i => ?_⟩
    rw [h2 i]
    by_cases e : i = off + k
    · subst e
      rw [if_neg (by omega), if_pos (by simp)]
      rw [Array.getElem?_setIfInBounds_self_of_lt (by omega)]
      simp
    · by_cases hi : off + (k + 1) ≤ i ∧ i < off + (k + 1) + vs.length
      · rw [if_pos hi, if_pos (by simp only [List.length_cons]; omega), show i - (off + k) = (i - (off + (k + 1))) + 1 by omega]
        simp
      · rw [if_neg hi, if_neg (by simp only [List.length_cons]; omega), Array.getElem?_setIfInBounds_ne (by omega)]

theorem run_put {w : World} {X : Nat → Prop} {ρ : Env} {cs xs : List SV} {us : List Value} {v : Value} (hd : DenL w X ρ cs us) (hx : DenL w X ρ xs v.cells.toList) (off : Nat) (h : off + xs.length ≤ cs.length) :
    ∃ us', v.cells.zipIdx.foldl (fun (cs : Array Value) (p : Value × Nat) => cs.setIfInBounds (off + p.2) p.1) ⟨us⟩ = ⟨us'⟩ ∧ DenL w X ρ (putCells cs off xs) us' := by
  have hl : off + 0 + v.cells.toList.length ≤ (⟨us⟩ : Array Value).size := by
    have h1 := hd.1
    have h2 := hx.1
    simp only [List.size_toArray]
    omega
  obtain ⟨h1, h2⟩ := fold_set v.cells.toList 0 off ⟨us⟩ hl
  have e : v.cells.zipIdx.foldl (fun (cs : Array Value) (p : Value × Nat) => cs.setIfInBounds (off + p.2) p.1) ⟨us⟩ = (v.cells.toList.zipIdx 0).foldl (fun (cs : Array Value) (p : Value × Nat) => cs.setIfInBounds (off + p.2) p.1) ⟨us⟩ := by
    rw [← Array.foldl_toList, Array.toList_zipIdx]
  rw [e]
  generalize (v.cells.toList.zipIdx 0).foldl (fun (cs : Array Value) (p : Value × Nat) => cs.setIfInBounds (off + p.2) p.1) ⟨us⟩ = R at *
  refine ⟨R.toList, by simp, ?_, fun i x u hx' hu => ?_⟩
  · rw [putCells_length, hd.1, ← List.size_toArray, ← h1, Array.length_toList]
  · rw [putCells_get _ _ _ _ h] at hx'
    have hu' : R[i]? = some u := by simpa using hu
    rw [h2 i] at hu'
    have h3 := hx.1
    by_cases hi : off ≤ i ∧ i < off + xs.length
    · rw [if_pos hi] at hx'
      rw [if_pos (by omega)] at hu'
      exact hx.2 _ _ _ hx' hu'
    · rw [if_neg hi] at hx'
      rw [if_neg (by omega)] at hu'
      exact hd.2 i _ _ hx' (by simpa using hu')

theorem run_fill (fs : List (Nat × Nat)) (_tys : Types P T) {w : World} {X : Nat → Prop} {ρ : Env} (places : Array (Nat × Nat)) (hp : ∀ (i off t : Nat) (j : TI), fs[i]? = some (off, t) → T t = some j → places[i]? = some (off, j.size)) :
    ∀ (ps : List (Nat × SV)) (vs : List (Nat × Value)) (cs l : List SV) (us : List Value), fillS T fs cs ps = some l → DenL w X ρ cs us →
      ps.length = vs.length → (∀ (i : Nat) (p : Nat × SV) (q : Nat × Value), ps[i]? = some p → vs[i]? = some q → p.1 = q.1 ∧ Den w X ρ p.2 q.2) →
      ∃ us', Instr.fill (places[·]?) ⟨us⟩ vs = some ⟨us'⟩ ∧ DenL w X ρ l us' := by
  intro ps
  induction ps with
  | nil =>
    intro vs cs l us h hd hl _
    cases vs with
    | nil => simp only [fillS] at h; injection h with h; subst h; exact ⟨us, by simp [Instr.fill], hd⟩
    | cons => simp at hl
  | cons p ps ih =>
    intro vs cs l us h hd hl hall
    cases vs with
    | nil => simp at hl
    | cons q vs =>
      obtain ⟨i, x⟩ := p
      obtain ⟨i', v⟩ := q
      obtain ⟨e, dx⟩ := hall 0 _ _ rfl rfl
      simp only at e dx
      subst e
      simp only [fillS] at h
      cases hf : fs[i]? with
      | none => simp [hf] at h
      | some ft =>
        obtain ⟨off, t⟩ := ft
        cases hx : cellsA x with
        | none => simp [hf, hx] at h
        | some xs =>
          simp only [hf, hx] at h
          cases hj : T t with
          | none => simp [hj] at h
          | some j =>
            simp only [hj] at h
            split at h
            · rename_i hsz
              have hpl := hp i off t j hf hj
              obtain ⟨hc1, hc2⟩ := cellsA_den hx dx
              have hvs : v.cells.size = j.size := by rw [← Array.length_toList, ← hc1.1]; exact hsz.1
              have hul : us.length = cs.length := hd.1.symm
              obtain ⟨us2, hu2, hd2⟩ := run_put hd hc1 off (by omega)
              obtain ⟨us', hr, hd'⟩ := ih vs _ l us2 h hd2 (by simpa using hl) (fun n p q h1 h2 => hall (n + 1) p q h1 h2)
              refine ⟨us', ?_, hd'⟩
              simp only [Instr.fill, hpl, hvs]
              rw [if_neg (by simp; omega), hu2]
              exact hr
            · cases h

theorem ofValue_cells {w : World} {X : Nat → Prop} {ρ : Env} {z : List SV} {v : Value} (h : ofValue v = .agg z) : DenL w X ρ z v.cells.toList := by
  have d := ofValue_den w X ρ v
  rw [h] at d
  obtain ⟨cs, rfl, hd⟩ := Den.agg_iff.1 d
  simpa [Value.cells] using hd

theorem places_eq : ∀ (gs : List Field), (∀ g ∈ gs, ∃ j, P.info? g.type = some j) →
    gs.mapM (fun (f : Field) => (P.info? f.type).map fun i => (f.offset, i.size)) = some (gs.map fun g => (g.offset, P.cellsOf g.type))
  | [], _ => rfl
  | g :: gs, h => by
    obtain ⟨j, hj⟩ := h g (by simp)
    have ih := places_eq gs (fun g hg => h g (by simp [hg]))
    simp [List.mapM_cons, hj, ih, Program.cellsOf]

/-- The table knows the types of the fields. -/
structure Closed (T : Nat → Option TI) : Prop where
  fld : ∀ t i fs, T t = some i → i.kind = .struct fs → ∀ q ∈ fs, ∃ j, T q.2 = some j

theorem run_build_ (tys : Types P T) (cl : Closed T) {w : World} {X : Nat → Prop} {ρ : Env} {t : Nat} {i : TI} {fs : List (Nat × Nat)} {z l : List SV} (ht : T t = some i) (hk : i.kind = .struct fs) (hz : i.zero = .agg z)
    (ps : List (Nat × SV)) (vs : List (Nat × Value)) (h : fillS T fs z ps = some l) (hl : ps.length = vs.length)
    (hall : ∀ (i : Nat) (p : Nat × SV) (q : Nat × Value), ps[i]? = some p → vs[i]? = some q → p.1 = q.1 ∧ Den w X ρ p.2 q.2) :
    ∃ cs, (Instr.build t vs.toArray).run P w = .ok (.agg ⟨cs⟩) w ∧ DenL w X ρ l cs := by
  have tok := tys.ok t i ht
  obtain ⟨zv, h1, h2, h3, h4, h5⟩ := tok.zero
  obtain ⟨gs, hg, hgs⟩ := tok.und_struct hk
  obtain ⟨it, hit, _, _⟩ := tok.inf
  have hzz : it.zero = some zv := by simpa [hit] using h1
  have hdz : DenL w X ρ z zv.cells.toList := ofValue_cells (v := zv) (by rw [← h2, hz])
  have hfl : ∀ g ∈ gs.toList, ∃ j, P.info? g.type = some j := by
    intro g hg'
    obtain ⟨j, hj⟩ := cl.fld t i fs ht hk (g.offset, g.type) (by rw [← hgs]; exact List.mem_map.2 ⟨g, hg', rfl⟩)
    obtain ⟨k, hk, _⟩ := (tys.ok _ j hj).inf
    exact ⟨k, hk⟩
  obtain ⟨us', hr, hd⟩ := run_fill fs tys ((gs.toList.map fun g => (g.offset, P.cellsOf g.type)).toArray) (fun n off ft j hn hj => by
    rw [← hgs] at hn
    simp only [List.getElem?_map, Option.map_eq_some_iff] at hn
    obtain ⟨g, hg1, hg2⟩ := hn
    simp only [Prod.mk.injEq] at hg2
    obtain ⟨rfl, rfl⟩ := hg2
    obtain ⟨k, hk1, hk2, _⟩ := (tys.ok _ j hj).inf
    simp [hg1, Program.cellsOf, hk1, hk2]) ps vs z l zv.cells.toList h hdz hl hall
  refine ⟨us', run_build w t _ _ ?_, hd⟩
  simp only [Program.built, hit, hg, hzz, places_eq gs.toList hfl]
  simpa using hr

theorem fill_mono {f g : Nat → Option (Nat × Nat)} (h : ∀ i p, f i = some p → g i = some p) : ∀ (l : List (Nat × Value)) (A B : Array Value), Instr.fill f A l = some B → Instr.fill g A l = some B
  | [], A, B, hf => by simpa [Instr.fill] using hf
  | (i, v) :: l, A, B, hf => by
    simp only [Instr.fill] at hf ⊢
    cases hi : f i with
    | none => rw [hi] at hf; cases hf
    | some p =>
      obtain ⟨off, size⟩ := p
      rw [hi] at hf
      rw [h i _ hi]
      simp only at hf ⊢
      split at hf
      · cases hf
      · rename_i hc
        rw [if_neg hc]
        exact fill_mono h l _ B hf
theorem run_build_arr (tys : Types P T) {w : World} {X : Nat → Prop} {ρ : Env} {t n el : Nat} {i j : TI} {z l : List SV} (ht : T t = some i) (hk : i.kind = .array n el) (hj : T el = some j) (hz : i.zero = .agg z)
    (ps : List (Nat × SV)) (vs : List (Nat × Value)) (h : fillS T ((List.range n).map fun k => (k * j.size, el)) z ps = some l) (hl : ps.length = vs.length)
    (hall : ∀ (i : Nat) (p : Nat × SV) (q : Nat × Value), ps[i]? = some p → vs[i]? = some q → p.1 = q.1 ∧ Den w X ρ p.2 q.2) :
    ∃ cs, (Instr.build t vs.toArray).run P w = .ok (.agg ⟨cs⟩) w ∧ DenL w X ρ l cs := by
  have tok := tys.ok t i ht
  obtain ⟨zv, h1, h2, h3, h4, h5⟩ := tok.zero_run
  have hdz : DenL w X ρ z zv.cells.toList := ofValue_cells (v := zv) (by rw [← h2, hz])
  obtain ⟨us', hr, hd⟩ := run_fill ((List.range n).map fun k => (k * j.size, el)) tys (((List.range n).map fun k => (k * j.size, j.size)).toArray) (fun m off ft j' hn hj' => by
    simp only [List.getElem?_map, Option.map_eq_some_iff] at hn
    obtain ⟨k, hk1, hk2⟩ := hn
    simp only [Prod.mk.injEq] at hk2
    obtain ⟨rfl, rfl⟩ := hk2
    rw [hj] at hj'
    injection hj' with hj'
    subst hj'
    simp [hk1]) ps vs z l zv.cells.toList h hdz hl hall
  have hr2 := fill_mono (g := fun i => some (i * j.size, j.size)) (fun k p hp => by
    simp only [List.getElem?_toArray, List.getElem?_map, Option.map_eq_some_iff] at hp
    obtain ⟨q, hq, rfl⟩ := hp
    have := List.getElem?_range (n := n) (i := k)
    by_cases hkn : k < n
    · rw [List.getElem?_range hkn] at hq; injection hq with hq; rw [hq]
    · rw [List.getElem?_eq_none (by simpa using hkn)] at hq; cases hq) vs _ _ hr
  refine ⟨us', ?_, hd⟩
  simp only [Instr.build, Sem.run_bind, h1, Result.andThen_ok, run_underlying (tok.und_array hk), (tys.ok el j hj).sizeOf]
  have e : zv.cells = (⟨zv.cells.toList⟩ : Array Value) := by simp
  rw [e, hr2]
  rfl

theorem partS_den {w : World} {X : Nat → Prop} {ρ : Env} {i : TI} {l : List SV} {us : List Value} {off : Nat} (hd : DenL w X ρ l us) (h : off + i.size ≤ l.length) (h1 : i.kind.aggB = false → i.size = 1) :
    Den w X ρ (partS i l off) (valAt i.shape (us.drop off) 0) := by
  have hw := TI.wid_size h1
  unfold partS
  cases hs : i.shape with
  | none =>
    rw [hs] at hw
    simp only [wid] at hw
    simp only [valAt, getN_eq]
    have h2 : off < l.length := by omega
    have h3 : off < us.length := by rw [← hd.1]; exact h2
    have := hd.2 off _ _ (List.getElem?_eq_getElem h2) (List.getElem?_eq_getElem h3)
    simpa [h2, h3] using this
  | some n =>
    rw [hs] at hw
    simp only [wid] at hw
    simp only [valAt, Nat.zero_mul, List.drop_zero, takeN_eq, dropN_eq]
    exact Den.agg_iff.2 ⟨_, rfl, hd.sub off n⟩

theorem addr_add (b o n : Nat) : (⟨b, o, none⟩ : Addr).add n = ⟨b, o + n, none⟩ := by
  unfold Addr.add; split <;> simp_all

theorem toList_dec (a b : ByteArray) : (a.toList == b.toList) = decide (a = b) := by
  rw [ByteArray.toList_eq, ByteArray.toList_eq]
  by_cases h : a = b
  · subst h; simp
  · rw [decide_eq_false h]
    simp only [beq_eq_false_iff_ne, ne_eq]
    intro e
    apply h
    cases a; cases b
    simp only [ByteArray.mk.injEq] at *
    exact Array.toList_inj.1 e
theorem pval_bin (tys : Types P T) (sz : Sizes T) {op : BinOp} {t yt : TypeId} {x y : Operand} {e : Operand → SV} {κ : SV → Prop} (h : pval T (.binOp op t x y yt) e κ) :
    ∃ v, κ v ∧ POk P (.binOp op t x y yt) e v := by
  have key : ∀ v, (∀ (a : Act) (w : World) (X : Nat → Prop) (ρ : Env), Den w X ρ (e x) (a.eval x) → Den w X ρ (e y) (a.eval y) →
      ∃ u, (do eqGuard op t x y (a.eval x) (a.eval y); binOp op t (a.eval x) (a.eval y)).run P w = .ok u w ∧ Den w X ρ v u) → POk P (.binOp op t x y yt) e v := by
    intro v hv
    refine ⟨fun o a w X ρ ho hd => ?_⟩
    obtain ⟨u, hr, hd'⟩ := hv a w X ρ (hd x (by simp [Op.operands])) (hd y (by simp [Op.operands]))
    refine ⟨u, ?_, hd'⟩
    simp only [execOp, ho, Sem.run_bind, hr, Result.andThen_ok, Sem.run_pure]
  have noI : ∀ (k j : IntKind) (a b : Int) (w : World), (eqGuard op t x y (.int k a) (.int j b)).run P w = .ok () w := by
    intro k j a b w
    cases op <;> rfl
  have noB : ∀ (a b : Bool) (w : World), (eqGuard op t x y (.bool a) (.bool b)).run P w = .ok () w := by
    intro a b w
    cases op <;> rfl
  simp only [pval] at h
  cases hx : e x with
  | int k a =>
    cases hy : e y with
    | int j b =>
      simp only [hx, hy] at h
      have fin : (∃ v u, κ v ∧ (∀ w, (binOp op t (.int k a) (.int j b)).run P w = .ok u w) ∧ ∀ w X ρ, Den w X ρ v u) → ∃ v, κ v ∧ POk P (.binOp op t x y yt) e v := by
        rintro ⟨v, u, hκ, hr, hd⟩
        refine ⟨v, hκ, key v fun a' w X ρ d1 d2 => ?_⟩
        rw [hx, Den.int_iff] at d1
        rw [hy, Den.int_iff] at d2
        rw [d1, d2]
        refine ⟨u, ?_, hd w X ρ⟩
        rw [Sem.run_bind, noI, Result.andThen_ok, hr]
      cases op
      case shl => exact fin (shI_ok h t)
      case shr => exact fin (shI_ok h t)
      all_goals
        simp only at h
        split at h
        · rename_i e1
          subst e1
          exact fin (binI_ok h t (by simp))
        · exact h.elim
    | _ => simp only [hx, hy] at h
  | bool a =>
    cases hy : e y with
    | bool b =>
      simp only [hx, hy] at h
      cases ht : T t with
      | none => simp only [ht] at h
      | some i =>
        simp only [ht] at h
        have tok := tys.ok t i ht
        have fin : ∀ (v : SV) (u : Value), κ v → i.kind = .bool → (∀ w, (binOp op t (.bool a) (.bool b)).run P w = .ok u w) → (∀ w X ρ, Den w X ρ v u) → ∃ v, κ v ∧ POk P (.binOp op t x y yt) e v := by
          intro v u hκ hk hr hd
          refine ⟨v, hκ, key v fun a' w X ρ d1 d2 => ?_⟩
          rw [hx, Den.bool_iff] at d1
          rw [hy, Den.bool_iff] at d2
          rw [d1, d2]
          refine ⟨u, ?_, hd w X ρ⟩
          rw [Sem.run_bind, noB, Result.andThen_ok, hr]
        split at h
        · rename_i hk
          have h : κ (.bool (a == b)) := by cases a <;> cases b <;> exact h
          refine fin _ _ h hk (fun w => ?_) (fun w X ρ => .bool _ _)
          simp only [binOp, Sem.run_bind, run_equal_bool w t a b (tok.und_bool hk), Result.andThen_ok, Sem.run_pure]
        · rename_i hk
          have h : κ (.bool (!(a == b))) := by cases a <;> cases b <;> exact h
          refine fin _ _ h hk (fun w => ?_) (fun w X ρ => .bool _ _)
          simp only [binOp, Sem.run_bind, run_equal_bool w t a b (tok.und_bool hk), Result.andThen_ok, Sem.run_pure]
        · exact h.elim
    | _ => simp only [hx, hy] at h
  | str a =>
    cases hy : e y with
    | str b =>
      simp only [hx, hy] at h
      cases ht : T t with
      | none => simp only [ht] at h
      | some i =>
        simp only [ht] at h
        have tok := tys.ok t i ht
        have noS : ∀ (w : World), (eqGuard op t x y (.string a) (.string b)).run P w = .ok () w := by
          intro w
          cases op <;> rfl
        have fin : ∀ (v : SV) (u : Value), κ v → (∀ w, (binOp op t (.string a) (.string b)).run P w = .ok u w) → (∀ w X ρ, Den w X ρ v u) → ∃ v, κ v ∧ POk P (.binOp op t x y yt) e v := by
          intro v u hκ hr hd
          refine ⟨v, hκ, key v fun a' w X ρ d1 d2 => ?_⟩
          rw [hx, Den.str_iff] at d1
          rw [hy, Den.str_iff] at d2
          rw [d1, d2]
          refine ⟨u, ?_, hd w X ρ⟩
          rw [Sem.run_bind, noS, Result.andThen_ok, hr]
        split at h
        · rename_i hk
          refine fin _ _ (h.get (decide (a = b)) (by simp)) (fun w => ?_) (fun w X ρ => .bool _ _)
          simp only [binOp, Op.stringOp, toList_dec, Sem.run_pure]
        · rename_i hk
          refine fin _ _ (h.get (!decide (a = b)) (by simp)) (fun w => ?_) (fun w X ρ => .bool _ _)
          simp only [binOp, Op.stringOp, toList_dec, Sem.run_pure]
        · rename_i hk
          obtain ⟨z, ⟨hz, rfl⟩, h⟩ := h.h
          refine fin _ _ h (fun w => ?_) (fun w X ρ => .str _ _)
          rw [O.hsa, binOp_string_add, run_string_add_sum w a b hz]
        · exact h.elim
    | _ => simp only [hx, hy] at h
  | agg a =>
    cases hy : e y with
    | agg b =>
      simp only [hx, hy] at h
      cases ht : T t with
      | none => simp only [ht] at h
      | some i =>
        simp only [ht] at h
        have fin : ∀ (f : Unit → Bool) (v : SV) (u : Value), κ v → i.kind.aggB = true → a.length = i.size → b.length = i.size → eqT T 8 t a b = some f →
            (∀ w (xs ys : Array Value), (Op.equalIn 10000 t (.agg xs) (.agg ys)).run P w = .ok (f ()) w → (binOp op t (.agg xs) (.agg ys)).run P w = .ok u w) → (∀ w X ρ, Den w X ρ v u) → ∃ v, κ v ∧ POk P (.binOp op t x y yt) e v := by
          intro f v u hκ hk hl1 hl2 he hr hd
          refine ⟨v, hκ, key v fun a' w X ρ d1 d2 => ?_⟩
          rw [hx, Den.agg_iff] at d1
          rw [hy, Den.agg_iff] at d2
          obtain ⟨c1, e1, d1⟩ := d1
          obtain ⟨c2, e2, d2⟩ := d2
          rw [e1, e2]
          refine ⟨u, ?_, hd w X ρ⟩
          obtain ⟨g1, g2, g3⟩ := tys.cmp t i ht hk
          rw [Sem.run_bind, run_eqGuard_agg w op t x y _ _ g2, Result.andThen_ok]
          refine hr w _ _ ?_
          have hs := eqT_sound tys sz (w := w) (X := X) (ρ := ρ) 8 t i a b c1 c2 f 9992 ht he d1 d2 hl1 hl2
          have q1 : valAt i.shape c1 0 = .agg ⟨c1⟩ := by
            simp only [TI.shape, hk, if_true, valAt, Nat.zero_mul, List.drop_zero]
            rw [List.take_of_length_le (by rw [← d1.1, hl1]; exact Nat.le_refl _)]
          have q2 : valAt i.shape c2 0 = .agg ⟨c2⟩ := by
            simp only [TI.shape, hk, if_true, valAt, Nat.zero_mul, List.drop_zero]
            rw [List.take_of_length_le (by rw [← d2.1, hl2]; exact Nat.le_refl _)]
          rw [q1, q2] at hs
          exact hs
        split at h
        · rename_i hk
          split at h
          · rename_i hl
            split at h
            · rename_i f hf
              refine fin f _ _ (h.get (f ()) (by simp)) (by rw [hk]; rfl) hl.1 hl.2 hf (fun w xs ys hr => ?_) (fun w X ρ => .bool _ _)
              rw [run_eql_struct, hr]; rfl
            · exact h.elim
          · exact h.elim
        · rename_i hk
          split at h
          · rename_i hl
            split at h
            · rename_i f hf
              refine fin f _ _ (h.get (!f ()) (by simp)) (by rw [hk]; rfl) hl.1 hl.2 hf (fun w xs ys hr => ?_) (fun w X ρ => .bool _ _)
              rw [run_neq_struct, hr]; rfl
            · exact h.elim
          · exact h.elim
        · rename_i hk
          split at h
          · rename_i hl
            split at h
            · rename_i f hf
              refine fin f _ _ (h.get (f ()) (by simp)) (by rw [hk]; rfl) hl.1 hl.2 hf (fun w xs ys hr => ?_) (fun w X ρ => .bool _ _)
              rw [run_eql_struct, hr]; rfl
            · exact h.elim
          · exact h.elim
        · rename_i hk
          split at h
          · rename_i hl
            split at h
            · rename_i f hf
              refine fin f _ _ (h.get (!f ()) (by simp)) (by rw [hk]; rfl) hl.1 hl.2 hf (fun w xs ys hr => ?_) (fun w X ρ => .bool _ _)
              rw [run_neq_struct, hr]; rfl
            · exact h.elim
          · exact h.elim
        · exact h.elim
    | _ => simp only [hx, hy] at h
  | _ => simp only [hx] at h
end Go.Proofs.YtligbjbkecmecaaDoor
