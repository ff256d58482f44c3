/- Calls of Go functions: contracts, and what a call does to the caller's memory. -/
import Derived.Test.YtapcbkcnokoljaaRi
import Derived.Conc.EntryLaws
namespace Go.Proofs.Ytapcbkcnokoljaa
set_option linter.unusedVariables false
set_option linter.unusedSimpArgs false
open Go.RowKit
variable {P : Program} {T : Nat → Option TI}

/-- A result that is no memory. -/
def flatB : SV → Bool
  | .bool _ | .int _ _ | .str _ | .nil | .any => true
  | _ => false
def flatsB : List SV → Bool
  | [] => true
  | x :: l => flatB x && flatsB l
def flatR : SV → Bool
  | .agg l => flatsB l
  | .tup l => flatsB l
  | x => flatB x
theorem flatsB_get : ∀ {l : List SV}, flatsB l = true → ∀ (i : Nat) (h : i < l.length), flatB l[i] = true
  | x :: l, hl, 0, _ => by simp [flatsB] at hl; exact hl.1
  | x :: l, hl, i + 1, h => by simp [flatsB] at hl; exact flatsB_get hl.2 i (by simpa using h)
theorem Den.flat1 {w w' : World} {X X' : Nat → Prop} {ρ ρ' : Env} {x : SV} {v : Value} (h : Den w X ρ x v) (hf : flatB x = true) : Den w' X' ρ' x v := by
  cases h <;> first | exact .any _ _ | exact .bool _ _ | exact .int _ _ _ | exact .str _ _ | exact .nil _ | (simp [flatB] at hf; done)
theorem Den.flat {w w' : World} {X X' : Nat → Prop} {ρ ρ' : Env} {x : SV} {v : Value} (h : Den w X ρ x v) (hf : flatR x = true) : Den w' X' ρ' x v := by
  cases h with
  | agg _ l cs hl h => exact .agg _ l cs hl fun i h1 h2 => (h i h1 h2).flat1 (flatsB_get (by simpa [flatR] using hf) i h1)
  | tup _ l cs hl h => exact .tup _ l cs hl fun i h1 h2 => (h i h1 h2).flat1 (flatsB_get (by simpa [flatR] using hf) i h1)
  | any => exact .any _ _
  | bool => exact .bool _ _
  | int => exact .int _ _ _
  | str => exact .str _ _
  | nil => exact .nil _
  | _ => simp [flatR, flatB] at hf
theorem flatsB_noref : ∀ {l : List SV}, flatsB l = true → ∀ d, noref.norefs d l = true
  | [], _, d => rfl
  | x :: l, h, d => by
    simp [flatsB] at h
    have : noref d x = true := by cases x <;> simp_all [flatB, noref]
    simp [noref.norefs, this, flatsB_noref h.2 d]

/-- A contract: the arguments; a variable that is lent by a pointer, the first argument (the type, the content); the result; the variable's content behind the call; what is new (its id in the result is 1). -/
structure CT where
  args : List SV
  lent : Option (Nat × SV)
  r : SV
  lent' : SV
  new : Blk
def inM (c : CT) : Mem := match c.lent with | some (t, x) => [(0, .chunk t x)] | none => []
def outM (c : CT) : Mem := match c.lent with
  | some (t, _) => (0, .chunk t c.lent') :: (match c.new with | .no => [] | b => [(1, b)])
  | none => (match c.new with | .no => [] | b => [(1, b)])
def lentB (l : Option (Nat × SV)) : Blk := match l with | some (t, x) => .chunk t x | none => .no
def lentB' (l : Option (Nat × SV)) (y : SV) : Blk := match l with | some (t, _) => .chunk t y | none => .no
theorem getM_in (c : CT) (q : Nat) : getM (inM c) q = if q = 0 then lentB c.lent else .no := by
  unfold inM lentB
  rcases c.lent with _ | ⟨t, x⟩
  · simp [getM]
  · simp only [getM, nbeq]
    by_cases h : q = 0
    · subst h; simp
    · rw [if_neg (Ne.symm h), if_neg h]
theorem getM_out (c : CT) (q : Nat) : getM (outM c) q = if q = 0 then lentB' c.lent c.lent' else if q = 1 then c.new else .no := by
  have hn : getM (match c.new with | .no => [] | b => [(1, b)]) q = if q = 1 then c.new else .no := by
    cases c.new <;> simp only [getM, nbeq]
    · split <;> rfl
    all_goals
      by_cases h : q = 1
      · subst h; simp
      · rw [if_neg (Ne.symm h), if_neg h]
  unfold outM lentB'
  rcases c.lent with _ | ⟨t, x⟩
  · simp only
    rw [hn]
    by_cases h : q = 0
    · subst h; simp
    · rw [if_neg h]
  · simp only [getM, nbeq]
    by_cases h : q = 0
    · subst h; simp
    · rw [if_neg (Ne.symm h), if_neg h]
      exact hn

/-- What is not forbidden lies as it lay. -/
structure KeepY (Y : Nat → Prop) (w w' : World) : Prop where
  size : w.heap.size ≤ w'.heap.size
  same : ∀ b, b < w.heap.size → ¬ Y b → w'.heap[b]? = w.heap[b]?
/-- An iterator's contract: with the captured data caps it yields the tuples xs, one behind the other. -/
structure ASeq (P : Program) (f : FuncId) (caps : List SV) (xs : List (List SV)) : Prop where
  h : ∀ (w : World) (Y : Nat → Prop) (us : List Value), DenL w Y noEnv caps us → ∀ (l : Nat) (J : Nat → World → Prop) (Jx : World → Prop) (W : World),
    (∀ k W1 W2, J k W1 → Below W1.heap.size W1 W2 → J k W2) → (∀ W1 W2, Jx W1 → Below W1.heap.size W1 W2 → Jx W2) → (∀ k W1, J k W1 → KeepY Y w W1) →
    (∀ k x vs W1, J k W1 → xs[k]? = some x → DenL w Y noEnv x vs → ∀ m, YieldAt Fence.wide m P l ⟨vs⟩ W1 fun e W' => (e = .returned (.bool true) ∧ J (k + 1) W') ∨ (e = .returned (.bool false) ∧ Jx W')) →
    J 0 W → ∀ n, CallsIn Fence.wide n P f (#[.func (.yield l) #[] #[]] ++ ⟨us⟩) W fun e W' => (∃ v, e = .returned v) ∧ (J xs.length W' ∨ Jx W')
def isSeq (c : CT) : Bool := match c.new with
  | .iter _ _ => true
  | _ => false
def untup : SV → List SV
  | .tup l => l
  | _ => []
def seqL : SV → List (List SV)
  | .tup l => l.map untup
  | _ => []
/-- An iterator's contract, as a contract. -/
def seqC (caps : List SV) (xs : List (List SV)) : CT := ⟨caps, none, .tup (xs.map .tup), .any, .iter .empty 0⟩
theorem seqC_L (caps : List SV) (xs : List (List SV)) : seqL (seqC caps xs).r = xs := by simp [seqC, seqL, Function.comp_def, untup]

/-- A Go function's contract in memory. -/
structure ACall (P : Program) (T : Nat → Option TI) (f : FuncId) (c : CT) : Prop where
  fn : ∃ fn, P.funcs[f]? = some fn ∧ fn.body.isSome = true ∧ (fn.name == "runtime.NumGoroutine") = false
  q : isSeq c = true → ASeq P f c.args (seqL c.r)
  h : isSeq c = false → ∀ (N : Nat → Prop) (w : World) (X : Nat → Prop) (ρ : Env) (vs : List Value), MRep T N w w X (inM c) ρ → DenL w (Forb X (inM c) ρ) ρ c.args vs →
    Calls P f ⟨vs⟩ w fun e w' => ∃ v ρ', e = .returned v ∧ MRep T N w w' X (outM c) ρ' ∧ ρ' 0 = ρ 0 ∧ Den w' (Forb X (outM c) ρ') ρ' c.r v

/-- The ids of a callee, as the caller names them: what is new is d. -/
def ren (d : Nat) : SV → SV
  | .ptr r o => .ptr (if Nat.beq r 1 then d else r) o
  | .row r => .row (if Nat.beq r 1 then d else r)
  | .rsl r sh a n c => .rsl (if Nat.beq r 1 then d else r) sh a n c
  | .rptr r sh i o => .rptr (if Nat.beq r 1 then d else r) sh i o
  | .obj r => .obj (if Nat.beq r 1 then d else r)
  | .agg l => .agg (rens d l)
  | .tup l => .tup (rens d l)
  | x => x
where rens (d : Nat) : List SV → List SV
  | [] => []
  | x :: l => ren d x :: rens d l
/-- Mentions the id 1 alone. -/
def only1 : SV → Bool
  | .ptr r _ => Nat.beq r 1
  | .row r => Nat.beq r 1
  | .rsl r _ _ _ _ => Nat.beq r 1
  | .rptr r _ _ _ => Nat.beq r 1
  | .obj r => Nat.beq r 1
  | .agg l => only1s l
  | .tup l => only1s l
  | _ => true
where only1s : List SV → Bool
  | [] => true
  | x :: l => only1 x && only1s l
theorem rens_length (d : Nat) : ∀ l : List SV, (ren.rens d l).length = l.length
  | [] => rfl
  | x :: l => by simp [ren.rens, rens_length d l]
theorem rens_get (d : Nat) : ∀ (l : List SV) (i : Nat) (h : i < (ren.rens d l).length), (ren.rens d l)[i] = ren d (l[i]'(by rwa [rens_length] at h))
  | [], i, h => by simp [ren.rens] at h
  | x :: l, 0, h => rfl
  | x :: l, i + 1, h => rens_get d l i (by simpa [ren.rens] using h)
theorem only1s_get : ∀ {l : List SV}, only1.only1s l = true → ∀ (i : Nat) (h : i < l.length), only1 l[i] = true
  | x :: l, hl, 0, _ => by simp [only1.only1s] at hl; exact hl.1
  | x :: l, hl, i + 1, h => by simp [only1.only1s] at hl; exact only1s_get hl.2 i (by simpa using h)
theorem Den.ren {w : World} {X : Nat → Prop} {ρ ρ' : Env} {d : Nat} {x : SV} {v : Value} (h : Den w X ρ x v) (ho : only1 x = true) (he : ρ' d = ρ 1) : Den w X ρ' (ren d x) v := by
  induction h generalizing ρ' with
  | any ρ v => exact .any _ v
  | bool ρ b => exact .bool _ b
  | int ρ k n => exact .int _ k n
  | str ρ s => exact .str _ s
  | agg ρ l cs hl h ih =>
    refine .agg _ _ cs (by rw [rens_length]; exact hl) fun i h1 h2 => ?_
    rw [rens_get]
    exact ih i (by rwa [rens_length] at h1) h2 (only1s_get (by simpa [only1] using ho) i _) he
  | tup ρ l cs hl h ih =>
    refine .tup _ _ cs (by rw [rens_length]; exact hl) fun i h1 h2 => ?_
    rw [rens_get]
    exact ih i (by rwa [rens_length] at h1) h2 (only1s_get (by simpa [only1] using ho) i _) he
  | lst0 ρ sh a cap => exact .lst0 _ sh a cap
  | lst ρ sh l b off cap us hb hx hc hu hl h1 h ih => exact .lst _ sh l b off cap us hb hx hc hu hl h1 h
  | nil ρ => exact .nil _
  | ptr ρ r off b h =>
    obtain rfl : r = 1 := nbeq.1 (by simpa [only1] using ho)
    exact .ptr _ d off b fun q hq => h q (by rw [← he]; exact hq)
  | row ρ r a n c h =>
    obtain rfl : r = 1 := nbeq.1 (by simpa [only1] using ho)
    exact .row _ d a n c fun q hq => h q (by rw [← he]; exact hq)
  | rsl ρ r sh a n c x cc hc h =>
    obtain rfl : r = 1 := nbeq.1 (by simpa [only1] using ho)
    exact .rsl _ d sh a n c x cc hc fun q hq => h q (by rw [← he]; exact hq)
  | rptr ρ r sh i off b o h =>
    obtain rfl : r = 1 := nbeq.1 (by simpa [only1] using ho)
    exact .rptr _ d sh i off b o fun q hq => h q (by rw [← he]; exact hq)
  | obj ρ r v h1 h =>
    obtain rfl : r = 1 := nbeq.1 (by simpa [only1] using ho)
    exact .obj _ d v h1 fun q hq => h q (by rw [← he]; exact hq)
  | eptr ρ sh x off b o us hb hx hu hl h ih => exact .eptr _ sh x off b o us hb hx hu hl h
  | clo ρ f caps us hl h ih => exact .clo _ f caps us hl h
  | val ρ v => exact .val _ v

def datasB : List SV → Bool
  | [] => true
  | x :: l => dataB x && datasB l
def dataR : SV → Bool
  | .tup l => datasB l
  | x => dataB x
theorem datasB_noref : ∀ {l : List SV}, datasB l = true → ∀ r, noref.norefs r l = true
  | [], _, r => rfl
  | x :: l, h, r => by
    simp [datasB] at h
    simp [noref.norefs, data_noref h.1 r, datasB_noref h.2 r]
theorem dataR_noref {x : SV} (h : dataR x = true) (r : Nat) : noref r x = true := by
  cases x with
  | tup l => exact datasB_noref (by simpa [dataR] using h) r
  | _ => exact data_noref (by simpa [dataR] using h) r

structure CallQ (G : Nat → CT → Prop) (f : Nat) (args : List SV) (lent : Option (Nat × SV)) (κ : CT → Prop) : Prop where
  h : ∃ c, G f c ∧ c.args = args ∧ c.lent = lent ∧ κ c
theorem callq {G : Nat → CT → Prop} {f : Nat} {args : List SV} {lent : Option (Nat × SV)} {κ : CT → Prop} {c : CT} (h : G f c) (ha : c.args = args) (hl : c.lent = lent) (k : κ c) : CallQ G f args lent κ := ⟨⟨c, h, ha, hl, k⟩⟩

noncomputable def callArgs (T : Nat → Option TI) (μ : Nat → Blk) : List Nat → List SV → Option (List SV × Option (Nat × Nat × SV))
  | _ :: ts, .ptr q 0 :: xs => (match μ q with
    | .chunk t x => if dataB x then (match views T μ ts xs with | some as => some (.ptr 0 0 :: as, some (q, t, x)) | none => none) else none
    | _ => none)
  | ts, xs => (match views T μ ts xs with | some as => some (as, none) | none => none)
def isNew : Blk → Bool
  | .chunk _ _ => true
  | .row _ _ _ => true
  | .rowx _ _ _ _ => true
  | .iter _ _ => true
  | .gen _ _ _ => true
  | _ => false
def okC (d : Option Nat) (c : CT) : Bool :=
  (match c.lent with | some _ => dataB c.lent' | none => true) && (match c.new with
    | .no => dataR c.r
    | .chunk _ x => dataB x && only1 c.r && d.isSome
    | .row _ _ _ => only1 c.r && d.isSome
    | .frz _ _ => false | .rowx _ _ _ _ => false | .iter _ _ => false | .gen _ _ _ => false)
/-- No row need be frozen: what comes back is no memory. -/
def flatC (c : CT) : Bool := flatR c.r && (match c.new with | .no => true | _ => false) && (match c.lent with | none => true | _ => false)
def lentU (q : Option (Nat × Nat × SV)) (y : SV) : List (Nat × Blk) := match q with | some (q, t, _) => [(q, .chunk t y)] | none => []
def newU (b : Blk) (d : Option Nat) : List (Nat × Blk) := match b, d with | .no, _ => [] | b, some d => [(d, b)] | _, none => []
def callU (μ : Nat → Blk) (d : Option Nat) (ids : List Nat) (q : Option (Nat × Nat × SV)) (c : CT) : List (Nat × Blk) :=
  (if flatC c then [] else frzU μ ids) ++ (lentU q c.lent' ++ newU c.new d)
def callR (d : Option Nat) (c : CT) : SV := match c.new, d with
  | .no, _ => c.r
  | _, some d => ren d c.r
  | _, none => .any
/-- The function that is called, and what it has captured. -/
def calleeOf (e : Operand → SV) : Callee → Option (Nat × List SV)
  | .value (.func f) => some (f, [])
  | .value o => (match e o with
    | .clo f caps => if allPlain caps then some (f, caps) else none
    | _ => none)
  | _ => none
def callV (T : Nat → Option TI) (G : Nat → CT → Prop) (d : Option Nat) (c : Call) (e : Operand → SV) (μ : Nat → Blk) (κ : SV → List (Nat × Blk) → Option Nat → Prop) : Prop :=
  match calleeOf e c.callee with
  | some (f, caps) => (match callArgs T μ c.argTypes.toList (c.args.toList.map e) with
    | some (as, q) => CallQ G f (as ++ caps) (q.map fun p => p.2) (fun ct => if okC d ct then κ (callR d ct) (callU μ d (rids.ridsL (c.args.toList.map e)) q ct) (if isNew ct.new then d else none) else False)
    | none => False)
  | none => False

theorem run_callFunc {f : FuncId} {fn : Func} (hf : P.funcs[f]? = some fn) (hb : fn.body.isSome = true) (hn : (fn.name == "runtime.NumGoroutine") = false) (args : Array Value) (w : World) :
    (callFunc f args).run P w = .ok (.enter f args) w := by
  have hb' : fn.body.isNone = false := by cases h : fn.body <;> simp_all
  simp only [callFunc, Sem.run_bind, run_program, Result.andThen_ok, hf, hn, hb', Bool.false_eq_true, if_false, Sem.run_pure]

theorem exec_call {o : Oper} {f : FuncId} {as : Array Operand} {ats : Array TypeId} {a : Act} (hop : o.op = .call { callee := .value (.func f), args := as, argTypes := ats }) : execOp a.eval o = callFunc f (as.map a.eval) := by
  have ef : a.eval (.func f) = .func (.func f) #[] #[] := rfl
  unfold execOp
  simp [hop, resolve, Deferred.ofValue, invoke, ef]

theorem exec_clo {o : Oper} {cal : Operand} {f : FuncId} {us : Array Value} {as : Array Operand} {ats : Array TypeId} {a : Act} (hop : o.op = .call { callee := .value cal, args := as, argTypes := ats }) (ef : a.eval cal = .func (.func f) #[] us) : execOp a.eval o = callFunc f (as.map a.eval ++ us) := by
  unfold execOp
  simp [hop, resolve, Deferred.ofValue, invoke, ef]
theorem callee_ok {o : Oper} {cal : Callee} {f : FuncId} {caps : List SV} {as : Array Operand} {ats : Array TypeId} {a : Act} {e : Operand → SV} {w : World} {Y : Nat → Prop} {ρ : Env} (hop : o.op = .call { callee := cal, args := as, argTypes := ats }) (hc : calleeOf e cal = some (f, caps)) (hd : ∀ y ∈ o.op.operands, Den w Y ρ (e y) (a.eval y)) :
    ∃ us : List Value, execOp a.eval o = callFunc f (as.map a.eval ++ ⟨us⟩) ∧ DenL w Y noEnv caps us ∧ allPlain caps = true := by
  unfold calleeOf at hc
  split at hc
  · injection hc with hc
    injection hc with h1 h2
    subst h1; subst h2
    exact ⟨[], by rw [exec_clo hop (us := #[]) rfl], ⟨rfl, fun i x u h => by simp at h⟩, rfl⟩
  · rename_i cal hn
    split at hc
    · rename_i f' caps' he
      split at hc
      · rename_i hp
        injection hc with hc
        injection hc with h1 h2
        subst h1; subst h2
        have hv := hd cal (by rw [hop]; simp [Op.operands, Call.operands])
        rw [he] at hv
        generalize hq : a.eval cal = v at hv
        cases hv with
        | clo _ _ _ us hl h => exact ⟨us, exec_clo hop hq, ⟨hl, fun i x u hx hu => by
            obtain ⟨h1, rfl⟩ := List.getElem?_eq_some_iff.1 hx
            obtain ⟨h2, rfl⟩ := List.getElem?_eq_some_iff.1 hu
            exact h i h1 h2⟩, hp⟩
      · cases hc
    · cases hc
  · cases hc

theorem Den.plain_env {w : World} {X : Nat → Prop} {ρ ρ' : Env} {x : SV} {v : Value} (h : Den w X ρ x v) (hd : dataR x = true) : Den w X ρ' x v := h.env fun q => .inr (.inr (dataR_noref hd q))
end Go.Proofs.Ytapcbkcnokoljaa
