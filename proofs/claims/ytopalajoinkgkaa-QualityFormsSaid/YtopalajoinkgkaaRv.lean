/- The operations that read the call's own memory, literals of slices, and calls: the evaluator and its law. -/
import Derived.Test.YtopalajoinkgkaaMem
import Derived.Conc.EntryLaws
namespace Go.Proofs.Ytopalajoinkgkaa
open Go.RowKit
variable {P : Program} {T : Nat → Option TI}

def shEq : Option Nat → Option Nat → Bool
  | none, none => true
  | some a, some b => Nat.beq a b
  | _, _ => false
theorem shEq_eq {a b : Option Nat} (h : shEq a b = true) : a = b := by
  cases a <;> cases b <;> simp_all [shEq]

/-- Data: no reference to a resource. -/
def allPlain : List SV → Bool
  | [] => true
  | x :: l => plainB x && allPlain l
def dataB : SV → Bool
  | .agg l => allPlain l
  | x => plainB x

theorem plain_noref {x : SV} (h : plainB x = true) (r : Nat) : noref r x = true := by
  cases x <;> simp_all [plainB, noref]
theorem allPlain_get : ∀ {l : List SV}, allPlain l = true → ∀ (i : Nat) (h : i < l.length), plainB l[i] = true
  | x :: l, hl, 0, _ => by simp [allPlain] at hl; exact hl.1
  | x :: l, hl, i + 1, h => by simp [allPlain] at hl; exact allPlain_get hl.2 i (by simpa using h)
theorem allPlain_noref : ∀ {l : List SV}, allPlain l = true → ∀ r, noref.norefs r l = true
  | [], _, r => rfl
  | x :: l, h, r => by
    simp [allPlain] at h
    simp [noref.norefs, plain_noref h.1 r, allPlain_noref h.2 r]
theorem data_noref {x : SV} (h : dataB x = true) (r : Nat) : noref r x = true := by
  cases x with
  | agg l => exact allPlain_noref (by simpa [dataB] using h) r
  | _ => exact plain_noref (by simpa [dataB] using h) r
theorem allPlain_atom : ∀ {l : List SV}, allPlain l = true → allAtom l = true
  | [], _ => rfl
  | y :: l, h => by simp [allPlain] at h; simp [allAtom, plain_atom h.1, allPlain_atom h.2]
theorem data_cells {x : SV} (h : dataB x = true) : ∃ xs, cellsA x = some xs := by
  cases x <;> simp only [dataB, plainB] at h <;> first
    | (cases h; done)
    | exact ⟨_, rfl⟩
    | exact ⟨_, if_pos (allPlain_atom h)⟩
    | exact ⟨_, if_pos h⟩
theorem Den.data {w : World} {X : Nat → Prop} {ρ ρ' : Env} {x : SV} {v : Value} (h : Den w X ρ x v) (hd : dataB x = true) : Den w X ρ' x v :=
  h.env fun r => .inr (.inr (data_noref hd r))

/-- The nil of a slice type, as a list. -/
def normNil (T : Nat → Option TI) (t : Nat) (x : SV) : SV :=
  match x with
  | .nil => (match T t with
    | some i => (match i.kind with
      | .slice el => (match T el with | some j => .lst j.shape [] | none => .nil)
      | _ => .nil)
    | none => .nil)
  | x => x
theorem normNil_den {w : World} {X : Nat → Prop} {ρ : Env} {t : Nat} {x : SV} {v : Value} (h : Den w X ρ x v) : Den w X ρ (normNil T t x) v := by
  unfold normNil
  split
  · cases h
    repeat' split
    all_goals first | exact .lst0 _ _ _ _ | exact .nil _
  · exact h

/-- What a callee sees of an argument. -/
def view (T : Nat → Option TI) (mem : List Blk) (t : Nat) (x : SV) : Option SV :=
  match x with
  | .row r => (match getN .no mem r with
    | .row sh _ l => some (.lst sh l)
    | .frz sh l => some (.lst sh l)
    | _ => none)
  | .rsl r sh a n => (match getN .no mem r with
    | .row sh' _ l => if shEq sh sh' then some (.lst sh (takeN (dropN l a) n)) else none
    | _ => none)
  | x => if dataB x then some (normNil T t x) else none
def views (T : Nat → Option TI) (mem : List Blk) : List Nat → List SV → Option (List SV)
  | [], [] => some []
  | t :: ts, x :: xs => (match view T mem t x, views T mem ts xs with
    | some y, some ys => some (y :: ys)
    | _, _ => none)
  | _, _ => none
/-- Does a live row go in? -/
def lends (mem : List Blk) : List SV → Bool
  | [] => false
  | .row r :: l => (match getN .no mem r with | .row _ _ _ => true | _ => lends mem l)
  | .rsl _ _ _ _ :: _ => true
  | _ :: l => lends mem l
/-- A result that is no memory. -/
def flatB : SV → Bool
  | .bool _ | .int _ _ | .str _ | .nil | .any => true
  | _ => false
def flatsB : List SV → Bool
  | [] => true
  | x :: l => flatB x && flatsB l
def flatR : SV → Bool
  | .agg l => flatsB l
  | .tup l => flatsB l
  | x => flatB x
theorem flatsB_get : ∀ {l : List SV}, flatsB l = true → ∀ (i : Nat) (h : i < l.length), flatB l[i] = true
  | x :: l, hl, 0, _ => by simp [flatsB] at hl; exact hl.1
  | x :: l, hl, i + 1, h => by simp [flatsB] at hl; exact flatsB_get hl.2 i (by simpa using h)
theorem Den.flat1 {w w' : World} {X X' : Nat → Prop} {ρ ρ' : Env} {x : SV} {v : Value} (h : Den w X ρ x v) (hf : flatB x = true) : Den w' X' ρ' x v := by
  cases h <;> first | exact .any _ _ | exact .bool _ _ | exact .int _ _ _ | exact .str _ _ | exact .nil _ | (simp [flatB] at hf; done)
theorem Den.flat {w w' : World} {X X' : Nat → Prop} {ρ ρ' : Env} {x : SV} {v : Value} (h : Den w X ρ x v) (hf : flatR x = true) : Den w' X' ρ' x v := by
  cases h with
  | agg _ l cs hl h => exact .agg _ l cs hl fun i h1 h2 => (h i h1 h2).flat1 (flatsB_get (by simpa [flatR] using hf) i h1)
  | tup _ l cs hl h => exact .tup _ l cs hl fun i h1 h2 => (h i h1 h2).flat1 (flatsB_get (by simpa [flatR] using hf) i h1)
  | any => exact .any _ _
  | bool => exact .bool _ _
  | int => exact .int _ _ _
  | str => exact .str _ _
  | nil => exact .nil _
  | _ => simp [flatR, flatB] at hf

/-- A Go function's contract: with arguments that are so, it returns what is so, and turns nothing that was there. -/
structure ACall (P : Program) (f : FuncId) (args : List SV) (r : SV) : Prop where
  fn : ∃ fn, P.funcs[f]? = some fn ∧ fn.body.isSome = true ∧ (fn.name == "runtime.NumGoroutine") = false
  h : ∀ (w : World) (X : Nat → Prop) (vs : List Value), (∀ b, X b → b < w.heap.size) → DenL w X noEnv args vs →
    Calls P f ⟨vs⟩ w fun e w' => ∃ v, e = .returned v ∧ Den w' X noEnv r v ∧ Below w.heap.size w w'

def datasB : List SV → Bool
  | [] => true
  | x :: l => dataB x && datasB l
def dataR : SV → Bool
  | .tup l => datasB l
  | x => dataB x
theorem datasB_noref : ∀ {l : List SV}, datasB l = true → ∀ r, noref.norefs r l = true
  | [], _, r => rfl
  | x :: l, h, r => by
    simp [datasB] at h
    simp [noref.norefs, data_noref h.1 r, datasB_noref h.2 r]
theorem dataR_noref {x : SV} (h : dataR x = true) (r : Nat) : noref r x = true := by
  cases x with
  | tup l => exact datasB_noref (by simpa [dataR] using h) r
  | _ => exact data_noref (by simpa [dataR] using h) r

structure CallQ (G : Nat → List SV → SV → Prop) (f : Nat) (args : List SV) (b : Bool) (κ : SV → Prop) : Prop where
  h : ∃ r, G f args r ∧ dataR r = true ∧ (b = true → flatR r = true) ∧ κ r

theorem callq {G : Nat → List SV → SV → Prop} {f : Nat} {args : List SV} {b : Bool} {κ : SV → Prop} {r : SV} (h : G f args r) (hd : dataR r = true) (hf : b = true → flatR r = true) (k : κ r) : CallQ G f args b κ := ⟨⟨r, h, hd, hf, k⟩⟩

/-- The elements of a literal. -/
def litOk (j : TI) (y : SV) : Bool :=
  dataB y && (match cellsA y with | some xs => Nat.beq xs.length j.size | none => false) && (match y, j.shape with | .agg _, some _ => true | .agg _, none => false | _, none => true | _, _ => false)
def litL (j : TI) (e : Operand → SV) : Nat → List (Nat × Operand) → Option (List SV)
  | _, [] => some []
  | k, (i, x) :: ps => if Nat.beq i k && litOk j (e x) then (match litL j e (k + 1) ps with | some l => some (e x :: l) | none => none) else none

/-- An element of a slice of data, or a part of it, loaded. -/
def loadE (i : TI) (sh : Option Nat) (y : SV) (o : Nat) (κ : SV → Prop) : Prop :=
  if dataB y then (if Nat.beq o 0 && shEq sh i.shape then κ y else (match y, sh with
    | .agg l, some _ => if o + i.size ≤ l.length then κ (partS i l o) else False
    | _, _ => False)) else False

def rval (T : Nat → Option TI) (G : Nat → List SV → SV → Prop) (op : Op) (e : Operand → SV) (mem : List Blk) (κ : SV → Prop) : Prop :=
  match op with
  | .load t x => (match T t with
    | some i => (match e x with
      | .ptr r o => (match getN .no mem r with
        | .chunk t' y => if Nat.beq o 0 && Nat.beq t' t then κ y else (match y with
          | .agg l => if o + i.size ≤ l.length then κ (partS i l o) else False
          | _ => False)
        | _ => False)
      | .eptr sh y o => loadE i sh y o κ
      | .rptr r sh j o => (match getN .no mem r with
        | .row sh' _ l => if shEq sh sh' then QV (fun y => l[j]? = some y) (fun y => loadE i sh y o κ) else False
        | _ => False)
      | _ => False)
    | none => False)
  | .indexAddr t x ix => (match T t with
    | some i => (match i.kind with
      | .slice el => (match T el with
        | some j => (match e x, e ix with
          | .lst sh l, .int _ n => if shEq sh j.shape then QV (fun (q : Nat × SV) => n = (q.1 : Int) ∧ l[q.1]? = some q.2) (fun q => κ (.eptr sh q.2 0)) else False
          | .row r, .int _ n => (match getN .no mem r with
            | .row sh _ l => if shEq sh j.shape then QV (fun (q : Nat) => n = (q : Int) ∧ q < l.length) (fun q => κ (.rptr r sh q 0)) else False
            | .frz sh l => if shEq sh j.shape then QV (fun (q : Nat × SV) => n = (q.1 : Int) ∧ l[q.1]? = some q.2) (fun q => κ (.eptr sh q.2 0)) else False
            | _ => False)
          | _, _ => False)
        | none => False)
      | _ => False)
    | none => False)
  | .buildSlice t n ps => (match T t with
    | some i => (match i.kind with
      | .slice el => (match T el with
        | some j => if Nat.beq ps.toList.length n && Nat.ble (n * j.size) 16777216 && !(Nat.beq j.size 0) then (match litL j e 0 ps.toList with | some l => κ (.lst j.shape l) | none => False) else False
        | none => False)
      | _ => False)
    | none => False)
  | .call c => (match c.callee with
    | .value (.func f) => (match views T mem c.argTypes.toList (c.args.toList.map e) with
      | some as => CallQ G f as (lends mem (c.args.toList.map e)) κ
      | none => False)
    | .builtin .len => (match c.argTypes.toList, c.args.toList with
      | [t], [x] => (match T t with
        | some i => (match i.kind, e x with
          | .slice _, .lst _ l => Q1 (fun _ => True) (fun z => z = l.length) (fun z => κ (.int .i64 z))
          | .slice _, .nil => κ (.int .i64 0)
          | .slice _, .row r => (match getN .no mem r with
            | .row _ _ l => Q1 (fun _ => True) (fun z => z = l.length) (fun z => κ (.int .i64 z))
            | .frz _ l => Q1 (fun _ => True) (fun z => z = l.length) (fun z => κ (.int .i64 z))
            | _ => False)
          | .string, .str s => Q1 (fun _ => True) (fun z => z = s.size) (fun z => κ (.int .i64 z))
          | _, _ => False)
        | none => False)
      | _, _ => False)
    | _ => False)
  | _ => False
end Go.Proofs.Ytopalajoinkgkaa
