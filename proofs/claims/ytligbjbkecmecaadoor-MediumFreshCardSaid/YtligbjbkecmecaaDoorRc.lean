/- Calls of Go functions: contracts, and what a call does to the caller's memory. -/
import Derived.Test.YtligbjbkecmecaaDoorRi
import Derived.Conc.EntryLaws
namespace Go.Proofs.YtligbjbkecmecaaDoor
set_option linter.unusedVariables false
set_option linter.unusedSimpArgs false
open Go.RowKit
variable {P : Program} {T : Nat → Option TI}

/-- A result that is no memory. -/
def flatB : SV → Bool
  | .bool _ | .int _ _ | .str _ | .nil | .any => true
  | _ => false
def flatsB : List SV → Bool
  | [] => true
  | x :: l => flatB x && flatsB l
def flatR : SV → Bool
  | .agg l => flatsB l
  | .tup l => flatsB l
  | x => flatB x
theorem flatsB_get : ∀ {l : List SV}, flatsB l = true → ∀ (i : Nat) (h : i < l.length), flatB l[i] = true
  | x :: l, hl, 0, _ => by simp [flatsB] at hl; exact hl.1
  | x :: l, hl, i + 1, h => by simp [flatsB] at hl; exact flatsB_get hl.2 i (by simpa using h)
theorem Den.flat1 {w w' : World} {X X' : Nat → Prop} {ρ ρ' : Env} {x : SV} {v : Value} (h : Den w X ρ x v) (hf : flatB x = true) : Den w' X' ρ' x v := by
  cases h <;> first | exact .any _ _ | exact .bool _ _ | exact .int _ _ _ | exact .str _ _ | exact .nil _ | (simp [flatB] at hf; done)
theorem Den.flat {w w' : World} {X X' : Nat → Prop} {ρ ρ' : Env} {x : SV} {v : Value} (h : Den w X ρ x v) (hf : flatR x = true) : Den w' X' ρ' x v := by
  cases h with
  | agg _ l cs hl h => exact .agg _ l cs hl fun i h1 h2 => (h i h1 h2).flat1 (flatsB_get (by simpa [flatR] using hf) i h1)
  | tup _ l cs hl h => exact .tup _ l cs hl fun i h1 h2 => (h i h1 h2).flat1 (flatsB_get (by simpa [flatR] using hf) i h1)
  | any => exact .any _ _
  | bool => exact .bool _ _
  | int => exact .int _ _ _
  | str => exact .str _ _
  | nil => exact .nil _
  | _ => simp [flatR, flatB] at hf
theorem flatsB_noref : ∀ {l : List SV}, flatsB l = true → ∀ d, noref.norefs d l = true
  | [], _, d => rfl
  | x :: l, h, d => by
    simp [flatsB] at h
    have : noref d x = true := by cases x <;> simp_all [flatB, noref]
    simp [noref.norefs, this, flatsB_noref h.2 d]

/-- A contract: the arguments; a variable that is lent by a pointer, the first argument (the type, the content); the result; the variable's content behind the call; what is new (its id in the result is 1). -/
structure CT where
  args : List SV
  lent : Option (Nat × SV)
  r : SV
  lent' : SV
  new : Blk
def inM (c : CT) : Mem := match c.lent with | some (t, x) => [(0, .chunk t x)] | none => []
def outM (c : CT) : Mem := match c.lent with
  | some (t, _) => (0, .chunk t c.lent') :: (match c.new with | .no => [] | b => [(1, b)])
  | none => (match c.new with | .no => [] | b => [(1, b)])
def lentB (l : Option (Nat × SV)) : Blk := match l with | some (t, x) => .chunk t x | none => .no
def lentB' (l : Option (Nat × SV)) (y : SV) : Blk := match l with | some (t, _) => .chunk t y | none => .no
theorem getM_in (c : CT) (q : Nat) : getM (inM c) q = if q = 0 then lentB c.lent else .no := by
  unfold inM lentB
  rcases c.lent with _ | ⟨t, x⟩
  · simp [getM]
  · simp only [getM, nbeq]
    by_cases h : q = 0
    · subst h; simp
    · rw [if_neg (Ne.symm h), if_neg h]
theorem getM_out (c : CT) (q : Nat) : getM (outM c) q = if q = 0 then lentB' c.lent c.lent' else if q = 1 then c.new else .no := by
  have hn : getM (match c.new with | .no => [] | b => [(1, b)]) q = if q = 1 then c.new else .no := by
    cases c.new <;> simp only [getM, nbeq]
    · split <;> rfl
    all_goals
      by_cases h : q = 1
      · subst h; simp
      · rw [if_neg (Ne.symm h), if_neg h]
  unfold outM lentB'
  rcases c.lent with _ | ⟨t, x⟩
  · simp only
    rw [hn]
    by_cases h : q = 0
    · subst h; simp
    · rw [if_neg h]
  · simp only [getM, nbeq]
    by_cases h : q = 0
    · subst h; simp
    · rw [if_neg (Ne.symm h), if_neg h]
      exact hn

/-- What is not forbidden lies as it lay. -/
structure KeepY (Y : Nat → Prop) (w w' : World) : Prop where
  size : w.heap.size ≤ w'.heap.size
  same : ∀ b, b < w.heap.size → ¬ Y b → w'.heap[b]? = w.heap[b]?
/-- An iterator's contract: with the captured data caps it yields the tuples xs, one behind the other. -/
structure ASeq (P : Program) (f : FuncId) (caps : List SV) (xs : List (List SV)) : Prop where
  h : ∀ (w : World) (Y : Nat → Prop) (us : List Value), DenL w Y noEnv caps us → ∀ (l : Nat) (J : Nat → World → Prop) (Jx : World → Prop) (W : World),
    (∀ k W1 W2, J k W1 → Below W1.heap.size W1 W2 → J k W2) → (∀ W1 W2, Jx W1 → Below W1.heap.size W1 W2 → Jx W2) → (∀ k W1, J k W1 → KeepY Y w W1) →
    (∀ k x vs W1, J k W1 → xs[k]? = some x → DenL w Y noEnv x vs → ∀ m, YieldAt Fence.wide m P l ⟨vs⟩ W1 fun e W' => (e = .returned (.bool true) ∧ J (k + 1) W') ∨ (e = .returned (.bool false) ∧ Jx W')) →
    J 0 W → ∀ n, CallsIn Fence.wide n P f (#[.func (.yield l) #[] #[]] ++ ⟨us⟩) W fun e W' => (∃ v, e = .returned v) ∧ (J xs.length W' ∨ Jx W')
def isSeq (c : CT) : Bool := match c.new with
  | .iter _ _ => true
  | _ => false
def untup : SV → List SV
  | .tup l => l
  | _ => []
def seqL : SV → List (List SV)
  | .tup l => l.map untup
  | _ => []
/-- An iterator's contract, as a contract. -/
def seqC (caps : List SV) (xs : List (List SV)) : CT := ⟨caps, none, .tup (xs.map .tup), .any, .iter .empty 0⟩
theorem seqC_L (caps : List SV) (xs : List (List SV)) : seqL (seqC caps xs).r = xs := by simp [seqC, seqL, Function.comp_def, untup]

/-- The contract of a function that is lent a row of the caller's own by its first argument and gives back a part of it from its beginning, k. -/
def lrC (sh : Option Nat) (e : Nat) (l az k : List SV) : CT := ⟨.row 0 :: az, some (e, .lst sh l), .row 0, .lst sh k, .frz none []⟩
def isLR (c : CT) : Bool := match c.new with
  | .frz _ _ => true
  | _ => false
/-- A variable that is lent: its id, its type, its content before and behind the call. -/
abbrev Ln := Nat × Nat × SV × SV
def encL (p : Ln) : SV := .tup [.int .i64 p.1, .int .i64 p.2.1, p.2.2.1, p.2.2.2]
/-- The contract of a closure that is lent variables: they are its arguments, or the content of a cell. -/
def gC (az : List SV) (L : List Ln) (r : SV) (b : Blk) : CT := ⟨az, some (0, .tup (L.map encL)), r, .any, b⟩
def isG (c : CT) : Bool := match c.lent with
  | some (_, .tup _) => true
  | _ => false
def inL (L : List Ln) : Mem := L.map fun p => (p.1, .chunk p.2.1 p.2.2.1)
def newM : Blk → Mem
  | .no => []
  | b => [(1, b)]
def outL (b : Blk) (L : List Ln) : Mem := (L.map fun p => (p.1, .chunk p.2.1 p.2.2.2)) ++ newM b
theorem encL_inj {p q : Ln} (h : encL p = encL q) : p = q := by
  obtain ⟨a, b, x, y⟩ := p
  obtain ⟨a', b', x', y'⟩ := q
  simp only [encL, SV.tup.injEq, List.cons.injEq, SV.int.injEq, true_and, and_true] at h
  obtain ⟨h1, h2, h3, h4⟩ := h
  have h1 : a = a' := by omega
  have h2 : b = b' := by omega
  subst h1; subst h2; subst h3; subst h4
  rfl
theorem encL_map_inj : ∀ {L L' : List Ln}, L.map encL = L'.map encL → L = L'
  | [], [], _ => rfl
  | [], _ :: _, h => by simp at h
  | _ :: _, [], h => by simp at h
  | p :: L, q :: L', h => by
    simp only [List.map_cons, List.cons.injEq] at h
    rw [encL_inj h.1, encL_map_inj h.2]
theorem gC_inj {az az' : List SV} {L L' : List Ln} {r r' : SV} {b b' : Blk} (h : gC az L r b = gC az' L' r' b') : az = az' ∧ L = L' ∧ r = r' ∧ b = b' := by
  simp only [gC, CT.mk.injEq, Option.some.injEq, Prod.mk.injEq, SV.tup.injEq, true_and, and_true] at h
  exact ⟨h.1, encL_map_inj h.2.1, h.2.2.1, h.2.2.2⟩
/-- A Go function's contract in memory. -/
structure ACall (P : Program) (T : Nat → Option TI) (f : FuncId) (c : CT) : Prop where
  fn : ∃ fn, P.funcs[f]? = some fn ∧ fn.body.isSome = true ∧ (fn.name == "runtime.NumGoroutine") = false
  q : isSeq c = true → ASeq P f c.args (seqL c.r)
  lr : ∀ sh e l az k, c = lrC sh e l az k → ∀ (N : Nat → Prop) (w : World) (X : Nat → Prop) (ρ : Env) (vs : List Value), MRep T N w w X [(0, .row sh e l)] ρ → DenL w (Forb X [(0, .row sh e l)] ρ) ρ (.row 0 :: az) vs →
    Calls P f ⟨vs⟩ w fun en w' => ∃ v l' ρ', en = .returned v ∧ MRep T N w w' X [(0, .row sh e l')] ρ' ∧ ρ' 0 = ρ 0 ∧ l'.take k.length = k ∧ Den w' (Forb X [(0, .row sh e l')] ρ') ρ' (.rsl 0 sh 0 k.length none) v
  g : ∀ az L r b, c = gC az L r b → isSeq c = false → isLR c = false → (L.map (fun p => p.1)).Nodup → ∀ (N : Nat → Prop) (w : World) (X : Nat → Prop) (ρ : Env) (vs : List Value), MRep T N w w X (inL L) ρ → DenL w (Forb X (inL L) ρ) ρ az vs →
    Calls P f ⟨vs⟩ w fun e w' => ∃ v ρ', e = .returned v ∧ MRep T N w w' X (outL b L) ρ' ∧ (∀ p ∈ L, ρ' p.1 = ρ p.1) ∧ Den w' (Forb X (outL b L) ρ') ρ' r v
  h : isSeq c = false → isLR c = false → isG c = false → ∀ (N : Nat → Prop) (w : World) (X : Nat → Prop) (ρ : Env) (vs : List Value), MRep T N w w X (inM c) ρ → DenL w (Forb X (inM c) ρ) ρ c.args vs →
    Calls P f ⟨vs⟩ w fun e w' => ∃ v ρ', e = .returned v ∧ MRep T N w w' X (outM c) ρ' ∧ ρ' 0 = ρ 0 ∧ Den w' (Forb X (outM c) ρ') ρ' c.r v

/-- The ids of a callee, as the caller names them: what is new is d. -/
def ren (d : Nat) : SV → SV
  | .ptr r o => .ptr (if Nat.beq r 1 then d else r) o
  | .row r => .row (if Nat.beq r 1 then d else r)
  | .rsl r sh a n c => .rsl (if Nat.beq r 1 then d else r) sh a n c
  | .rptr r sh i o => .rptr (if Nat.beq r 1 then d else r) sh i o
  | .obj r => .obj (if Nat.beq r 1 then d else r)
  | .agg l => .agg (rens d l)
  | .tup l => .tup (rens d l)
  | .lsx sh l => .lsx sh (rens d l)
  | x => x
where rens (d : Nat) : List SV → List SV
  | [] => []
  | x :: l => ren d x :: rens d l
/-- Mentions the id 1 alone. -/
def only1 : SV → Bool
  | .ptr r _ => Nat.beq r 1
  | .row r => Nat.beq r 1
  | .rsl r _ _ _ _ => Nat.beq r 1
  | .rptr r _ _ _ => Nat.beq r 1
  | .obj r => Nat.beq r 1
  | .agg l => only1s l
  | .tup l => only1s l
  | .lsx _ l => only1s l
  | .fcl _ _ | .cel _ | .epx _ _ _ => false
  | _ => true
where only1s : List SV → Bool
  | [] => true
  | x :: l => only1 x && only1s l
theorem rens_length (d : Nat) : ∀ l : List SV, (ren.rens d l).length = l.length
  | [] => rfl
  | x :: l => by simp [ren.rens, rens_length d l]
theorem rens_get (d : Nat) : ∀ (l : List SV) (i : Nat) (h : i < (ren.rens d l).length), (ren.rens d l)[i] = ren d (l[i]'(by rwa [rens_length] at h))
  | [], i, h => by simp [ren.rens] at h
  | x :: l, 0, h => rfl
  | x :: l, i + 1, h => rens_get d l i (by simpa [ren.rens] using h)
theorem only1s_get : ∀ {l : List SV}, only1.only1s l = true → ∀ (i : Nat) (h : i < l.length), only1 l[i] = true
  | x :: l, hl, 0, _ => by simp [only1.only1s] at hl; exact hl.1
  | x :: l, hl, i + 1, h => by simp [only1.only1s] at hl; exact only1s_get hl.2 i (by simpa using h)
theorem Den.ren {w : World} {X : Nat → Prop} {ρ ρ' : Env} {d : Nat} {x : SV} {v : Value} (h : Den w X ρ x v) (ho : only1 x = true) (he : ρ' d = ρ 1) : Den w X ρ' (ren d x) v := by
  induction h generalizing ρ' with
  | any ρ v => exact .any _ v
  | bool ρ b => exact .bool _ b
  | int ρ k n => exact .int _ k n
  | str ρ s => exact .str _ s
  | agg ρ l cs hl h ih =>
    refine .agg _ _ cs (by rw [rens_length]; exact hl) fun i h1 h2 => ?_
    rw [rens_get]
    exact ih i (by rwa [rens_length] at h1) h2 (only1s_get (by simpa [only1] using ho) i _) he
  | tup ρ l cs hl h ih =>
    refine .tup _ _ cs (by rw [rens_length]; exact hl) fun i h1 h2 => ?_
    rw [rens_get]
    exact ih i (by rwa [rens_length] at h1) h2 (only1s_get (by simpa [only1] using ho) i _) he
  | lst0 ρ sh a cap => exact .lst0 _ sh a cap
  | lst ρ sh l b off cap us hb hx hc hu hl h1 h ih => exact .lst _ sh l b off cap us hb hx hc hu hl h1 h
  | nil ρ => exact .nil _
  | ptr ρ r off b h =>
    obtain rfl : r = 1 := nbeq.1 (by simpa [only1] using ho)
    exact .ptr _ d off b fun q hq => h q (by rw [← he]; exact hq)
  | row ρ r a n c h =>
    obtain rfl : r = 1 := nbeq.1 (by simpa [only1] using ho)
    exact .row _ d a n c fun q hq => h q (by rw [← he]; exact hq)
  | rsl ρ r sh a n c x cc hc h =>
    obtain rfl : r = 1 := nbeq.1 (by simpa [only1] using ho)
    exact .rsl _ d sh a n c x cc hc fun q hq => h q (by rw [← he]; exact hq)
  | rptr ρ r sh i off b o h =>
    obtain rfl : r = 1 := nbeq.1 (by simpa [only1] using ho)
    exact .rptr _ d sh i off b o fun q hq => h q (by rw [← he]; exact hq)
  | obj ρ r v h1 h =>
    obtain rfl : r = 1 := nbeq.1 (by simpa [only1] using ho)
    exact .obj _ d v h1 fun q hq => h q (by rw [← he]; exact hq)
  | eptr ρ sh x off b o us hb hx hu hl h ih => exact .eptr _ sh x off b o us hb hx hu hl h
  | clo ρ f caps us hl h ih => exact .clo _ f caps us hl h
  | fcl ρ f caps us hl h ih => simp [only1] at ho
  | cel ρ x b o u hb hx hu h ih => simp [only1] at ho
  | epx ρ sh x off b o us hb hx hu hl h ih => simp [only1] at ho
  | lsx ρ sh l b off cap us hb hx hc hu hl h1 h ih =>
    have := Den.lsx (w := w) (X := X) ρ' sh (ren.rens d l) b off cap us hb hx (by rw [rens_length]; exact hc) hu (by rw [rens_length]; exact hl) h1 fun i h2 => by
      rw [rens_get]
      exact ih i (by rwa [rens_length] at h2) (only1s_get (by simpa [only1] using ho) i _) he
    rw [rens_length] at this
    exact this
  | val ρ v => exact .val _ v

def datasB : List SV → Bool
  | [] => true
  | x :: l => dataB x && datasB l
def dataR : SV → Bool
  | .tup l => datasB l
  | x => dataB x
theorem datasB_noref : ∀ {l : List SV}, datasB l = true → ∀ r, noref.norefs r l = true
  | [], _, r => rfl
  | x :: l, h, r => by
    simp [datasB] at h
    simp [noref.norefs, data_noref h.1 r, datasB_noref h.2 r]
theorem dataR_noref {x : SV} (h : dataR x = true) (r : Nat) : noref r x = true := by
  cases x with
  | tup l => exact datasB_noref (by simpa [dataR] using h) r
  | _ => exact data_noref (by simpa [dataR] using h) r

/-- Numbers, or rows. -/
def peekB : SV → Bool
  | .row _ => true
  | x => flatB x
def peeksB : List SV → Bool
  | [] => true
  | x :: l => peekB x && peeksB l
def peekR : SV → Bool
  | .tup l => peeksB l
  | x => peekB x
theorem peeksB_get : ∀ {l : List SV}, peeksB l = true → ∀ (i : Nat) (h : i < l.length), peekB l[i] = true
  | x :: l, hl, 0, _ => by simp [peeksB] at hl; exact hl.1
  | x :: l, hl, i + 1, h => by simp [peeksB] at hl; exact peeksB_get hl.2 i (by simpa using h)
theorem Den.peek1 {w w' : World} {X X' : Nat → Prop} {ρ : Env} {x : SV} {v : Value} (h : Den w X ρ x v) (hf : peekB x = true) : Den w' X' ρ x v := by
  cases h with
  | row _ r a n c h => exact .row _ r a n c h
  | any => exact .any _ _
  | bool => exact .bool _ _
  | int => exact .int _ _ _
  | str => exact .str _ _
  | nil => exact .nil _
  | _ => simp [peekB, flatB] at hf
theorem Den.peek {w w' : World} {X X' : Nat → Prop} {ρ : Env} {x : SV} {v : Value} (h : Den w X ρ x v) (hf : peekR x = true) : Den w' X' ρ x v := by
  cases h with
  | tup _ l cs hl h => exact .tup _ l cs hl fun i h1 h2 => (h i h1 h2).peek1 (peeksB_get (by simpa [peekR] using hf) i h1)
  | row _ r a n c h => exact .row _ r a n c h
  | any => exact .any _ _
  | bool => exact .bool _ _
  | int => exact .int _ _ _
  | str => exact .str _ _
  | nil => exact .nil _
  | _ => simp [peekR, peekB, flatB] at hf
/-- What comes back is numbers, and a new row of numbers: it cannot lie in the caller's memory. -/
structure PeekC (c : CT) : Prop where
  r : peekR c.r = true
  l : c.lent = none
  n : ∃ sh e l, c.new = .row sh e l ∧ ∀ x ∈ l, flatB x = true
structure CallQ (G : Nat → CT → Prop) (f : Nat) (args : List SV) (lent : Option (Nat × SV)) (κ : Bool → CT → Prop) (alt : Unit → Prop) : Prop where
  h : (∃ pk c, G f c ∧ c.args = args ∧ c.lent = lent ∧ (pk = true → PeekC c) ∧ κ pk c) ∨ alt ()
theorem callq {G : Nat → CT → Prop} {f : Nat} {args : List SV} {lent : Option (Nat × SV)} {κ : Bool → CT → Prop} {alt : Unit → Prop} {c : CT} (h : G f c) (ha : c.args = args) (hl : c.lent = lent) (k : κ false c) : CallQ G f args lent κ alt := ⟨.inl ⟨false, c, h, ha, hl, (fun h => by cases h), k⟩⟩
/-- The same, and the rows of the arguments stay the caller's own. -/
theorem callp {G : Nat → CT → Prop} {f : Nat} {args : List SV} {lent : Option (Nat × SV)} {κ : Bool → CT → Prop} {alt : Unit → Prop} {c : CT} (h : G f c) (ha : c.args = args) (hl : c.lent = lent) (hp : PeekC c) (k : κ true c) : CallQ G f args lent κ alt := ⟨.inl ⟨true, c, h, ha, hl, (fun _ => hp), k⟩⟩
/-- The other way: a row is lent. -/
theorem callr {G : Nat → CT → Prop} {f : Nat} {args : List SV} {lent : Option (Nat × SV)} {κ : Bool → CT → Prop} {alt : Unit → Prop} (h : alt ()) : CallQ G f args lent κ alt := ⟨.inr h⟩
structure LrQ (G : Nat → CT → Prop) (f : Nat) (sh : Option Nat) (e : Nat) (l az : List SV) (κ : List SV → Prop) : Prop where
  h : ∃ k, G f (lrC sh e l az k) ∧ κ k
theorem lrq {G : Nat → CT → Prop} {f : Nat} {sh : Option Nat} {e : Nat} {l az k : List SV} {κ : List SV → Prop} (h : G f (lrC sh e l az k)) (g : κ k) : LrQ G f sh e l az κ := ⟨⟨k, h, g⟩⟩

noncomputable def callArgs (T : Nat → Option TI) (μ : Nat → Blk) : List Nat → List SV → Option (List SV × Option (Nat × Nat × SV))
  | _ :: ts, .ptr q 0 :: xs => (match μ q with
    | .chunk t x => if dataB x then (match views T μ ts xs with | some az => some (.ptr 0 0 :: az, some (q, t, x)) | none => none) else none
    | _ => none)
  | ts, xs => (match views T μ ts xs with | some az => some (az, none) | none => none)
def isNew : Blk → Bool
  | .chunk _ _ => true
  | .row _ _ _ => true
  | .rowx _ _ _ _ => true
  | .rown _ _ _ => true
  | .iter _ _ => true
  | .gen _ _ _ => true
  | _ => false
def okC (d : Option Nat) (c : CT) : Bool :=
  (match c.lent with | some _ => dataB c.lent' | none => true) && (match c.new with
    | .no => dataR c.r
    | .chunk _ x => dataB x && only1 c.r && d.isSome
    | .row _ _ _ => only1 c.r && d.isSome
    | .frz _ _ => false | .rowx _ _ _ _ => false | .rown _ _ _ => false | .iter _ _ => false | .gen _ _ _ => false)
/-- No row need be frozen: what comes back is no memory. -/
def flatC (c : CT) : Bool := flatR c.r && (match c.new with | .no => true | _ => false) && (match c.lent with | none => true | _ => false)
def lentU (q : Option (Nat × Nat × SV)) (y : SV) : List (Nat × Blk) := match q with | some (q, t, _) => [(q, .chunk t y)] | none => []
def newU (b : Blk) (d : Option Nat) : List (Nat × Blk) := match b, d with | .no, _ => [] | b, some d => [(d, b)] | _, none => []
def callU (pk : Bool) (μ : Nat → Blk) (d : Option Nat) (ids : List Nat) (q : Option (Nat × Nat × SV)) (c : CT) : List (Nat × Blk) :=
  (if pk || flatC c then [] else frzU μ ids) ++ (lentU q c.lent' ++ newU c.new d)
def callR (d : Option Nat) (c : CT) : SV := match c.new, d with
  | .no, _ => c.r
  | _, some d => ren d c.r
  | _, none => .any
/-- The function that is called, and what it has captured. -/
def calleeOf (e : Operand → SV) : Callee → Option (Nat × List SV)
  | .value (.func f) => some (f, [])
  | .value o => (match e o with
    | .clo f caps => if allPlain caps then some (f, caps) else none
    | _ => none)
  | _ => none
def altV (G : Nat → CT → Prop) (d : Option Nat) (f : Nat) (xs caps : List SV) (μ : Nat → Blk) (κ : SV → List (Nat × Blk) → Option Nat → Prop) : Prop :=
  match xs, caps, d with
  | .row q :: az, [], some d => (match μ q with
    | .row sh e l => if allPlain az then LrQ G f sh e l az (fun k => κ (.row d) [(q, .no), (d, .row sh e k)] (some d)) else False
    | _ => False)
  | _, _, _ => False
/-! ### A matrix of the call's own as an argument -/
/-- What kind of value a cell holds. -/
def ccls : SV → Option (Nat × IntKind)
  | .int k _ => some (0, k)
  | .bool _ => some (1, .i64)
  | .str _ => some (2, .i64)
  | .lst _ _ | .nil | .row _ | .rsl _ _ _ _ _ => some (3, .i64)
  | _ => none
def cclsV : Value → Nat × IntKind
  | .int k _ => (0, k)
  | .bool _ => (1, .i64)
  | .string _ => (2, .i64)
  | .slice _ _ _ => (3, .i64)
  | _ => (9, .i64)
theorem den_cls {w : World} {X : Nat → Prop} {ρ : Env} {x : SV} {v : Value} (h : Den w X ρ x v) {c : Nat × IntKind} (hc : ccls x = some c) : cclsV v = c := by
  cases h <;> simp [ccls] at hc <;> simp [cclsV, hc]
def cellsS : SV → List SV
  | .agg l => l
  | x => [x]
/-- A cell of it is of another kind than all the cells C. -/
def awayC (C : List SV) (x : SV) : Prop := ∃ (j : Nat) (y : SV) (c : Nat × IntKind), (cellsS x)[j]? = some y ∧ ccls y = some c ∧ ∀ z ∈ C, ∃ c', ccls z = some c' ∧ c' ≠ c
/-- Nothing of it can lie in a block that has these cells. -/
inductive Away (Cs : List (List SV)) : SV → Prop
  | flat {x : SV} (h : flatB x = true) : Away Cs x
  | tup {l : List SV} (h : ∀ x ∈ l, Away Cs x) : Away Cs (.tup l)
  | agg {l : List SV} (h : ∀ x ∈ l, Away Cs x) : Away Cs (.agg l)
  | lst {sh : Option Nat} {l : List SV} (h : ∀ x ∈ l, Away Cs x) (h1 : ∀ x, l[0]? = some x → ∀ C ∈ Cs, awayC C x) : Away Cs (.lst sh l)
/-- A block whose cells are of the kinds of C. -/
def ChunkAt (w : World) (b : Nat) (C : List SV) : Prop := ∃ us ty fz, w.heap[b]? = some (.cells us ty fz) ∧ ∀ u ∈ us.toList, ∃ z ∈ C, ∀ c, ccls z = some c → cclsV u = c
theorem Den.away {Cs : List (List SV)} {w : World} {F F' : Nat → Prop} (hF : ∀ b, F' b → F b ∨ ∃ C ∈ Cs, ChunkAt w b C) {x : SV} (hA : Away Cs x) : ∀ {ρ : Env} {v : Value}, Den w F ρ x v → Den w F' ρ x v := by
  induction hA with
  | flat h => exact fun hd => hd.flat1 h
  | tup h ih =>
    intro ρ v hd
    cases hd with
    | tup _ _ cs hl hc => exact .tup _ _ cs hl fun i h1 h2 => ih _ (List.getElem_mem h1) (hc i h1 h2)
  | agg h ih =>
    intro ρ v hd
    cases hd with
    | agg _ _ cs hl hc => exact .agg _ _ cs hl fun i h1 h2 => ih _ (List.getElem_mem h1) (hc i h1 h2)
  | @lst sh l h h1 ih =>
    intro ρ v hd
    cases hd with
    | lst0 _ _ a cap => exact .lst0 _ _ a cap
    | lst _ _ _ b off cap us hb hx hc hu hl ho hel =>
      by_cases hn : l = []
      · subst hn; exact .lst0 _ _ _ _
      · have h0 : 0 < l.length := List.length_pos_iff.2 hn
        refine .lst _ _ l b off cap us hb (fun hf => ?_) hc hu hl ho fun i hi => ih _ (List.getElem_mem hi) (hel i hi)
        rcases hF b hf with hf | ⟨C, hC, us', ty, fz, hh, hcl⟩
        · exact hx hf
        · obtain ⟨j, y, c, hy, hcy, hz⟩ := h1 _ (List.getElem?_eq_getElem h0) C hC
          have hd0 := hel 0 h0
          -- the cell number j
          have key : ∃ u, us[j]? = some u ∧ cclsV u = c := by
            have hone : ∀ u, u ∈ us → ∀ cs, u ≠ .agg cs := by
              rintro u hu' cs rfl
              have := ho _ hu'
              simp [Value.oneCell'] at this
            cases hx0 : l[0] with
            | agg fs =>
              rw [hx0] at hy hd0
              obtain ⟨cs, hv, hdc⟩ := Den.agg_iff.1 hd0
              have hj : (fs)[j]? = some y := hy
              obtain ⟨hj1, hj2⟩ := List.getElem?_eq_some_iff.1 hj
              cases sh with
              | none =>
                exfalso
                simp only [valAt] at hv
                have hlen : 0 < us.length := by rw [hl]; simp [wid]; omega
                rw [List.getElem?_eq_getElem hlen] at hv
                exact hone _ (List.getElem_mem hlen) _ hv
              | some n =>
                simp only [valAt, Nat.zero_mul, List.drop_zero] at hv
                injection hv with hv
                have hv : us.take n = cs := by simpa using hv
                have hjc : j < cs.length := by rw [← hdc.1]; exact hj1
                have hju : us[j]? = some cs[j] := by
                  have : (us.take n)[j]? = some cs[j] := by rw [hv]; exact List.getElem?_eq_getElem hjc
                  rw [List.getElem?_take] at this
                  split at this
                  · exact this
                  · cases this
                exact ⟨cs[j], hju, den_cls (hdc.2 j y _ hj (List.getElem?_eq_getElem hjc)) hcy⟩
            | _ =>
              rw [hx0] at hy hd0
              have hj : j = 0 ∧ y = l[0] := by
                cases j with
                | zero => simp [cellsS] at hy; exact ⟨rfl, by rw [hx0]; exact hy.symm⟩
                | succ j => simp [cellsS] at hy
              obtain ⟨rfl, rfl⟩ := hj
              rw [hx0] at hcy
              have hcv := den_cls hd0 hcy
              cases sh with
              | none =>
                simp only [valAt] at hcv
                have hlen : 0 < us.length := by rw [hl]; simp [wid]; omega
                rw [List.getElem?_eq_getElem hlen] at hcv
                exact ⟨us[0], List.getElem?_eq_getElem hlen, hcv⟩
              | some n =>
                exfalso
                simp only [valAt, cclsV] at hcv
                subst hcv
                simp [ccls] at hcy
          obtain ⟨u, hju, hcu⟩ := key
          have hcell := hu j u hju
          rw [cell_of_row w b (off + j) us' ty fz hh] at hcell
          obtain ⟨z, hzC, hzc⟩ := hcl u (List.mem_of_getElem? (by rw [Array.getElem?_toList]; exact hcell))
          obtain ⟨c', hc1, hc2⟩ := hz z hzC
          exact hc2 ((hzc c' hc1).symm.trans hcu)
    | _ => skip
/-- The rows of a matrix: its ids and what they hold. -/
def matV (T : Nat → Option TI) (μ : Nat → Blk) : List SV → Option (List (Nat × List SV))
  | [] => some []
  | .rsl q none 0 n _ :: l => (match μ q, matV T μ l with
    | .chunk t (.agg k), some ms => (match T t with
      | some i => if (Nat.beq k.length n && Nat.beq i.size n) && (shEq i.shape (some n) && flatsB k) then some ((q, k) :: ms) else none
      | none => none)
    | _, _ => none)
  | _ => none
def matL : List (Nat × List SV) → List SV
  | [] => []
  | (_, k) :: l => .lst none k :: matL l
def matC : List (Nat × List SV) → List (List SV)
  | [] => []
  | (_, k) :: l => k :: matC l
structure MatQ (G : Nat → CT → Prop) (f : Nat) (args : List SV) (Cs : List (List SV)) (κ : SV → Prop) : Prop where
  h : ∃ r, G f ⟨args, none, r, .any, .no⟩ ∧ dataR r = true ∧ Away Cs r ∧ κ r
/-- A matrix of the call's own is looked at by a call, and stays its own. -/
theorem matq {G : Nat → CT → Prop} {f : Nat} {args : List SV} {Cs : List (List SV)} {κ : SV → Prop} {r : SV} (h : G f ⟨args, none, r, .any, .no⟩) (ha : Away Cs r) (hd : dataR r = true) (k : κ r) : MatQ G f args Cs κ := ⟨⟨r, h, hd, ha, k⟩⟩
noncomputable def altK (T : Nat → Option TI) (G : Nat → CT → Prop) (f : Nat) (ats : List Nat) (xs caps : List SV) (μ : Nat → Blk) (κ : SV → List (Nat × Blk) → Option Nat → Prop) : Prop :=
  match ats, xs, caps with
  | _ :: ts, .rsl q none 0 n _ :: az, [] => (match μ q with
    | .chunk t (.agg l) => (match T t with
      | some i => if (Nat.beq l.length n && Nat.beq i.size n) && shEq i.shape (some n) then (match matV T μ l, views T μ ts az with
        | some ms, some az' => MatQ G f (.lst none (matL ms) :: az') (l :: matC ms) (fun r => κ r (frzU μ (rids.ridsL az)) none)
        | _, _ => False) else False
      | none => False)
    | _ => False)
  | _, _, _ => False
/-- A closure that is lent variables. -/
def fclOf (e : Operand → SV) : Callee → Option (Nat × List SV)
  | .value o => (match e o with
    | .fcl f caps => some (f, caps)
    | _ => none)
  | _ => none
def cap1 (μ : Nat → Blk) (pos : Nat) : SV → Option (SV × List (Nat × Nat × Nat × SV))
  | .ptr q o => if Nat.beq o 0 then (match μ q with
    | .chunk t z => if dataB z then some (.ptr (900 + pos) 0, [(q, 900 + pos, t, z)]) else none
    | _ => none) else none
  | .cel (.ptr q o) => if Nat.beq o 0 then (match μ q with
    | .chunk t z => if dataB z then some (.cel (.ptr 0 0), [(q, 0, t, z)]) else none
    | _ => none) else none
  | x => if plainB x then some (x, []) else none
def capsG (μ : Nat → Blk) : Nat → List SV → Option (List SV × List (Nat × Nat × Nat × SV))
  | _, [] => some ([], [])
  | pos, x :: l => (match cap1 μ pos x, capsG μ (pos + 1) l with
    | some (y, Q), some (ys, QS) => some (y :: ys, Q ++ QS)
    | _, _ => none)
structure GenQ (G : Nat → CT → Prop) (f : Nat) (az : List SV) (QS : List (Nat × Nat × Nat × SV)) (κ : SV → List SV → Blk → Prop) : Prop where
  h : ∃ L r b, G f (gC az L r b) ∧ L.map (fun p => (p.1, p.2.1, p.2.2.1)) = QS.map (fun p => p.2) ∧ κ r (L.map fun p => p.2.2.2) b
theorem genq {G : Nat → CT → Prop} {f : Nat} {az az' : List SV} {QS : List (Nat × Nat × Nat × SV)} {κ : SV → List SV → Blk → Prop} {L : List Ln} {r : SV} {b : Blk} (h : G f (gC az' L r b)) (ha : az' = az) (hl : L.map (fun p => (p.1, p.2.1, p.2.2.1)) = QS.map (fun p => p.2)) (k : κ r (L.map fun p => p.2.2.2) b) : GenQ G f az QS κ := by
  subst ha; exact ⟨⟨L, r, b, h, hl, k⟩⟩
def memN (q : Nat) : List Nat → Bool
  | [] => false
  | x :: l => Nat.beq x q || memN q l
def nodupN : List Nat → Bool
  | [] => true
  | x :: l => !(memN x l) && nodupN l
theorem memN_iff {q : Nat} : ∀ {l : List Nat}, memN q l = true ↔ q ∈ l
  | [] => by simp [memN]
  | x :: l => by
    simp only [memN, Bool.or_eq_true, Nat.beq_eq, memN_iff (l := l), List.mem_cons]
    exact or_congr_left eq_comm
theorem nodupN_ok : ∀ {l : List Nat}, nodupN l = true → l.Nodup
  | [], _ => List.nodup_nil
  | x :: l, h => by
    simp only [nodupN, Bool.and_eq_true, Bool.not_eq_true'] at h
    refine List.nodup_cons.2 ⟨fun hm => ?_, nodupN_ok h.2⟩
    rw [memN_iff.2 hm] at h
    cases h.1
def updG : List (Nat × Nat × Nat × SV) → List SV → List (Nat × Blk)
  | (q, _, t, _) :: l, y :: ys => (q, .chunk t y) :: updG l ys
  | _, _ => []
def qsOf : List (Nat × Nat × Nat × SV) → List Nat
  | [] => []
  | (q, _, _, _) :: l => q :: qsOf l
def csOf : List (Nat × Nat × Nat × SV) → List Nat
  | [] => []
  | (_, c, _, _) :: l => c :: csOf l
/-- What such a call may give back. -/
def okG (d : Option Nat) (r : SV) (ys : List SV) : Blk → Bool
  | .no => dataR r && datasB ys
  | .chunk _ x => dataB x && (only1 r && only1.only1s ys) && d.isSome
  | .row _ _ _ => (only1 r && only1.only1s ys) && d.isSome
  | _ => false
def renG (d : Option Nat) (b : Blk) (x : SV) : SV := match b, d with
  | .no, _ => x
  | _, some d => ren d x
  | _, none => .any
def renGs (d : Option Nat) (b : Blk) : List SV → List SV
  | [] => []
  | x :: l => renG d b x :: renGs d b l
noncomputable def genV (T : Nat → Option TI) (G : Nat → CT → Prop) (d : Option Nat) (f : Nat) (ats : List Nat) (xs caps : List SV) (μ : Nat → Blk) (κ : SV → List (Nat × Blk) → Option Nat → Prop) : Prop :=
  match views T μ ats xs with
  | some az => (match capsG μ xs.length caps with
    | some (cs, QS) => if nodupN (qsOf QS) && nodupN (csOf QS) then GenQ G f (az ++ cs) QS (fun r ys b => if okG d r ys b then κ (renG d b r) (frzU μ (rids.ridsL xs) ++ (updG QS (renGs d b ys) ++ newU b d)) (if isNew b then d else none) else False) else False
    | none => False)
  | none => False
noncomputable def callV (T : Nat → Option TI) (G : Nat → CT → Prop) (d : Option Nat) (c : Call) (e : Operand → SV) (μ : Nat → Blk) (κ : SV → List (Nat × Blk) → Option Nat → Prop) : Prop :=
  match fclOf e c.callee with
  | some (f, caps) => genV T G d f c.argTypes.toList (c.args.toList.map e) caps μ κ
  | none => match calleeOf e c.callee with
  | some (f, caps) => (match callArgs T μ c.argTypes.toList (c.args.toList.map e) with
    | some (az, q) => CallQ G f (az ++ caps) (q.map fun p => p.2) (fun pk ct => if okC d ct then κ (callR d ct) (callU pk μ d (rids.ridsL (c.args.toList.map e)) q ct) (if isNew ct.new then d else none) else False) (fun _ => altV G d f (c.args.toList.map e) caps μ κ)
    | none => altK T G f c.argTypes.toList (c.args.toList.map e) caps μ κ)
  | none => False

theorem run_callFunc {f : FuncId} {fn : Func} (hf : P.funcs[f]? = some fn) (hb : fn.body.isSome = true) (hn : (fn.name == "runtime.NumGoroutine") = false) (args : Array Value) (w : World) :
    (callFunc f args).run P w = .ok (.enter f args) w := by
  have hb' : fn.body.isNone = false := by cases h : fn.body <;> simp_all
  simp only [callFunc, Sem.run_bind, run_program, Result.andThen_ok, hf, hn, hb', Bool.false_eq_true, if_false, Sem.run_pure]

theorem exec_call {o : Oper} {f : FuncId} {az : Array Operand} {ats : Array TypeId} {a : Act} (hop : o.op = .call { callee := .value (.func f), args := az, argTypes := ats }) : execOp a.eval o = callFunc f (az.map a.eval) := by
  have ef : a.eval (.func f) = .func (.func f) #[] #[] := rfl
  unfold execOp
  simp [hop, resolve, Deferred.ofValue, invoke, ef]

theorem exec_clo {o : Oper} {cal : Operand} {f : FuncId} {us : Array Value} {az : Array Operand} {ats : Array TypeId} {a : Act} (hop : o.op = .call { callee := .value cal, args := az, argTypes := ats }) (ef : a.eval cal = .func (.func f) #[] us) : execOp a.eval o = callFunc f (az.map a.eval ++ us) := by
  unfold execOp
  simp [hop, resolve, Deferred.ofValue, invoke, ef]
theorem callee_ok {o : Oper} {cal : Callee} {f : FuncId} {caps : List SV} {az : Array Operand} {ats : Array TypeId} {a : Act} {e : Operand → SV} {w : World} {Y : Nat → Prop} {ρ : Env} (hop : o.op = .call { callee := cal, args := az, argTypes := ats }) (hc : calleeOf e cal = some (f, caps)) (hd : ∀ y ∈ o.op.operands, Den w Y ρ (e y) (a.eval y)) :
    ∃ us : List Value, execOp a.eval o = callFunc f (az.map a.eval ++ ⟨us⟩) ∧ DenL w Y noEnv caps us ∧ allPlain caps = true := by
  unfold calleeOf at hc
  split at hc
  · injection hc with hc
    injection hc with h1 h2
    subst h1; subst h2
    exact ⟨[], by rw [exec_clo hop (us := #[]) rfl], ⟨rfl, fun i x u h => by simp at h⟩, rfl⟩
  · rename_i cal hn
    split at hc
    · rename_i f' caps' he
      split at hc
      · rename_i hp
        injection hc with hc
        injection hc with h1 h2
        subst h1; subst h2
        have hv := hd cal (by rw [hop]; simp [Op.operands, Call.operands])
        rw [he] at hv
        generalize hq : a.eval cal = v at hv
        cases hv with
        | clo _ _ _ us hl h => exact ⟨us, exec_clo hop hq, ⟨hl, fun i x u hx hu => by
            obtain ⟨h1, rfl⟩ := List.getElem?_eq_some_iff.1 hx
            obtain ⟨h2, rfl⟩ := List.getElem?_eq_some_iff.1 hu
            exact h i h1 h2⟩, hp⟩
      · cases hc
    · cases hc
  · cases hc

theorem Den.plain_env {w : World} {X : Nat → Prop} {ρ ρ' : Env} {x : SV} {v : Value} (h : Den w X ρ x v) (hd : dataR x = true) : Den w X ρ' x v := h.env fun q => .inr (.inr (dataR_noref hd q))
end Go.Proofs.YtligbjbkecmecaaDoor
