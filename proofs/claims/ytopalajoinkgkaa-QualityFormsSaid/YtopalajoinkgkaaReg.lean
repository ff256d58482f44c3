/- The state of a walk; one operation; a region in the text's order, or in any order that its edges allow. -/
import Derived.Test.YtopalajoinkgkaaWv
namespace Go.Proofs.Ytopalajoinkgkaa
open Go.RowKit
variable {P : Program} {T : Nat → Option TI} {G : Nat → List SV → SV → Prop}

structure St where
  slots : List SV
  mem : List Blk

def St.ev (s : St) : Operand → SV
  | .tmp t => getN .any s.slots t
  | .const v => ofValue v
  | .func f => .val (.func (.func f) #[] #[])
  | .global g => .val (.pointer (some ⟨g, 0, none⟩))
def St.put (s : St) (d : Option Nat) (x : SV) : St := match d with
  | some d => ⟨setN x s.slots d, s.mem⟩
  | none => s
def St.fresh (s : St) (d : Nat) : Bool :=
  Nat.blt d s.slots.length && Nat.blt d s.mem.length && (match getN .no s.mem d with | .no => true | _ => false) && noref.norefs d s.slots && memNoref d s.mem

inductive Cls where
  | p | r | c | w
def cls : Op → Cls
  | .load _ _ | .indexAddr _ _ _ | .buildSlice _ _ _ => .r
  | .call c => (match c.callee with | .builtin .min | .builtin .max => .p | _ => .r)
  | .box _ _ | .alloc _ => .c
  | .store _ _ _ => .w
  | _ => .p

/-- x mentions none of the ids D but the operation's own. -/
def nrD (d : Option Nat) (x : SV) : List Nat → Bool
  | [] => true
  | q :: D => (noref q x || (match d with | some p => Nat.beq p q | none => false)) && nrD d x D
def nbD (b : Blk) : List Nat → Bool
  | [] => true
  | q :: D => bNoref q b && nbD b D
/-- How a drawn region is walked: the ids it makes, and whether stores lie among them. -/
structure Dr where
  ids : List Nat
  fp : Bool
def memB (q : Nat) : List Nat → Bool
  | [] => false
  | x :: l => Nat.beq x q || memB q l
/-- x mentions ids of F alone. -/
def mIn (F : List Nat) : SV → Bool
  | .ptr q _ | .row q | .rsl q _ _ _ | .rptr q _ _ _ => memB q F
  | .agg l | .tup l => mIns F l
  | _ => true
where mIns (F : List Nat) : List SV → Bool
  | [] => true
  | x :: l => mIn F x && mIns F l
def findDst (d : Nat) : List Oper → Option Op
  | [] => none
  | o :: l => (match o.dst with | some q => if Nat.beq q d then some o.op else findDst d l | none => findDst d l)
/-- The variables whose memory an operand may point at, by the text of the region. -/
def rootsOf (all : List Oper) : Nat → Operand → List Nat
  | 0, _ => []
  | n + 1, .tmp a => (match findDst a all with
    | none => [a]
    | some (.fieldAddr _ x _) => rootsOf all n x
    | some (.move x) => rootsOf all n x
    | some (.alloc _) => [a]
    | some (.box _ _) => [a]
    | some _ => [])
  | _ + 1, _ => []
def footL (all : List Oper) : List Operand → List Nat
  | [] => []
  | y :: l => rootsOf all 8 y ++ footL all l
def foot (all : Array Oper) (o : Oper) : List Nat := footL all.toList o.op.operands.toList
def allIn (F : List Nat) (e : Operand → SV) : List Operand → Bool
  | [] => true
  | y :: l => mIn F (e y) && allIn F e l
def fpB (D : Dr) (all : Array Oper) (o : Oper) (e : Operand → SV) : Bool := if D.fp then allIn (foot all o) e o.op.operands.toList else true
theorem memB_iff {q : Nat} : ∀ {l : List Nat}, memB q l = true ↔ q ∈ l
  | [] => by simp [memB]
  | x :: l => by
    simp only [memB, Bool.or_eq_true, Nat.beq_eq, memB_iff (l := l), List.mem_cons]
    exact or_congr_left eq_comm
theorem mIn_spec {F : List Nat} {q : Nat} : ∀ {x : SV}, mIn F x = true → noref q x = false → q ∈ F
  | .ptr r o, h, g => by simp [noref] at g; subst g; exact memB_iff.1 h
  | .row r, h, g => by simp [noref] at g; subst g; exact memB_iff.1 h
  | .rsl r _ _ _, h, g => by simp [noref] at g; subst g; exact memB_iff.1 h
  | .rptr r _ _ _, h, g => by simp [noref] at g; subst g; exact memB_iff.1 h
  | .agg l, h, g => go (l := l) h g
  | .tup l, h, g => go (l := l) h g
  | .any, _, g | .bool _, _, g | .int _ _, _, g | .str _, _, g | .lst _ _, _, g | .nil, _, g | .eptr _ _ _, _, g | .val _, _, g => by simp [noref] at g
where go {F : List Nat} {q : Nat} : ∀ {l : List SV}, mIn.mIns F l = true → noref.norefs q l = false → q ∈ F
  | [], _, g => by simp [noref.norefs] at g
  | x :: l, h, g => by
    simp only [mIn.mIns, Bool.and_eq_true] at h
    simp only [noref.norefs, Bool.and_eq_false_iff] at g
    rcases g with g | g
    · exact mIn_spec h.1 g
    · exact go h.2 g
theorem allIn_spec {F : List Nat} {e : Operand → SV} {q : Nat} : ∀ {l : List Operand}, allIn F e l = true → (∃ y ∈ l, noref q (e y) = false) → q ∈ F
  | [], _, ⟨y, hy, _⟩ => by simp at hy
  | x :: l, h, ⟨y, hy, hn⟩ => by
    simp only [allIn, Bool.and_eq_true] at h
    rcases List.mem_cons.1 hy with rfl | hy
    · exact mIn_spec h.1 hn
    · exact allIn_spec h.2 ⟨y, hy, hn⟩
theorem fpB_spec {D : Dr} {all : Array Oper} {o : Oper} {e : Operand → SV} {q : Nat} (hD : D.fp = true) (h : fpB D all o e = true) (hq : ∃ y ∈ o.op.operands, noref q (e y) = false) : q ∈ foot all o := by
  unfold fpB at h
  rw [if_pos hD] at h
  obtain ⟨y, hy, hn⟩ := hq
  exact allIn_spec h ⟨y, by simpa using hy, hn⟩
theorem nbD_get {b : Blk} : ∀ {D : List Nat}, nbD b D = true → ∀ q ∈ D, bNoref q b = true
  | [], _, q, h => by simp at h
  | p :: D, hn, q, hq => by
    simp only [nbD, Bool.and_eq_true] at hn
    rcases List.mem_cons.1 hq with rfl | hq
    · exact hn.1
    · exact nbD_get hn.2 q hq

def opS (T : Nat → Option TI) (G : Nat → List SV → SV → Prop) (D : Dr) (all : Array Oper) (o : Oper) (s : St) (k : St → Prop) : Prop :=
  match cls o.op with
  | .p => pval T o.op s.ev (fun x => if nrD o.dst x D.ids then k (s.put o.dst x) else False)
  | .r => if fpB D all o s.ev then rval T G o.op s.ev s.mem (fun x => if nrD o.dst x D.ids then k (s.put o.dst x) else False) else False
  | .c => (match o.dst with
    | some d => if s.fresh d then cval T d o.op s.ev (fun x b => if nrD o.dst x D.ids && nbD b D.ids then k ⟨setN x s.slots d, setN b s.mem d⟩ else False) else False
    | none => False)
  | .w => (match o.dst with
    | none => if fpB D all o s.ev then wblk T o.op s.ev s.mem (fun r b => if nbD b D.ids then k ⟨s.slots, setN b s.mem r⟩ else False) else False
    | some _ => False)

def opG (T : Nat → Option TI) (G : Nat → List SV → SV → Prop) (D : Dr) (all : Array Oper) (o : Oper) (s : St) (k : St → Prop) : Prop :=
  match o.guard with
  | none => opS T G D all o s k
  | some (j, want) => (match (all[j]?).bind (·.dst) with
    | some t => (match getN .any s.slots t, want with
      | .bool b, true => br b (fun _ => opS T G D all o s k) (fun _ => k (s.put o.dst .any))
      | .bool b, false => br b (fun _ => k (s.put o.dst .any)) (fun _ => opS T G D all o s k)
      | _, _ => False)
    | none => False)

def opsG (T : Nat → Option TI) (G : Nat → List SV → SV → Prop) (D : Dr) (all : Array Oper) : List Oper → St → (St → Prop) → Prop
  | [], s, k => k s
  | o :: l, s, k => opG T G D all o s (fun s => opsG T G D all l s k)

/-- What is known of a frame and a world. -/
structure Rep (T : Nat → Option TI) (N : Nat) (w0 : World) (X : Nat → Prop) (s : St) (a : Act) (w : World) (ρ : Env) : Prop where
  m : MRep T N w0 w X s.mem ρ
  defers : a.defers = []
  size : a.tmps.size = s.slots.length
  slot : ∀ t : Nat, Den w (Forb X s.mem ρ) ρ (getN .any s.slots t) (a.tmps.getD t undef)

theorem Rep.ev {N : Nat} {w0 : World} {X : Nat → Prop} {s : St} {a : Act} {w : World} {ρ : Env} (h : Rep T N w0 X s a w ρ) (y : Operand) : Den w (Forb X s.mem ρ) ρ (s.ev y) (a.eval y) := by
  cases y with
  | tmp t => exact h.slot t
  | const v => exact ofValue_den _ _ _ v
  | func f => exact .val _ _
  | global g => exact .val _ _

/-- The guard, decided. -/
def gd (all : Array Oper) (o : Oper) (s : St) : Option Bool :=
  match o.guard with
  | none => some true
  | some (j, want) => (match (all[j]?).bind (·.dst) with
    | some t => (match getN .any s.slots t with | .bool b => some (b == want) | _ => none)
    | none => none)

inductive Res (P : Program) (T : Nat → Option TI) (G : Nat → List SV → SV → Prop) (D : Dr) (all : Array Oper) (o : Oper) : St → St → Prop
  | skip (s : St) (hg : gd all o s = some false) : Res P T G D all o s (s.put o.dst .any)
  | p (s : St) (x : SV) (e : Operand → SV) (hg : gd all o s = some true) (hc : cls o.op = .p) (he : ∀ y ∈ o.op.operands, s.ev y = e y) (h : POk P o.op e x) (hn : nrD o.dst x D.ids = true) : Res P T G D all o s (s.put o.dst x)
  | r (s : St) (x : SV) (e : Operand → SV) (m : List Blk) (hg : gd all o s = some true) (hc : cls o.op = .r) (he : ∀ y ∈ o.op.operands, s.ev y = e y)
      (hm : ∀ r, (∃ y ∈ o.op.operands, noref r (e y) = false) → getN .no s.mem r = getN .no m r) (h : rval T G o.op e m (fun z => z = x)) (hn : nrD o.dst x D.ids = true) (hf : fpB D all o e = true) : Res P T G D all o s (s.put o.dst x)
  | c (s : St) (d : Nat) (x : SV) (b : Blk) (e : Operand → SV) (hg : gd all o s = some true) (hc : cls o.op = .c) (hd : o.dst = some d) (hf : s.fresh d = true) (he : ∀ y ∈ o.op.operands, s.ev y = e y)
      (h : COk P T o d e x b) (hn : nrD o.dst x D.ids = true) (hb : nbD b D.ids = true) : Res P T G D all o s ⟨setN x s.slots d, setN b s.mem d⟩
  | w (s : St) (r : Nat) (b : Blk) (e : Operand → SV) (m : List Blk) (hg : gd all o s = some true) (hc : cls o.op = .w) (hd : o.dst = none) (he : ∀ y ∈ o.op.operands, s.ev y = e y)
      (hm : ∀ r, (∃ y ∈ o.op.operands, noref r (e y) = false) → getN .no s.mem r = getN .no m r) (h : wblk T o.op e m (fun r' b' => r' = r ∧ b' = b)) (hr : ∃ y ∈ o.op.operands, noref r (e y) = false) (hb : nbD b D.ids = true) (hf : fpB D all o e = true) : Res P T G D all o s ⟨s.slots, setN b s.mem r⟩

def Chain (P : Program) (T : Nat → Option TI) (G : Nat → List SV → SV → Prop) (D : Dr) (all : Array Oper) : List Oper → St → (St → Prop) → Prop
  | [], s, k => k s
  | o :: l, s, k => ∃ s', Res P T G D all o s s' ∧ Chain P T G D all l s' k

/-- What the table must satisfy. -/
structure Tab (P : Program) (T : Nat → Option TI) : Prop where
  tys : Types P T
  sz : Sizes T
  cl : Closed T
  z : ∀ t i, T t = some i → ∀ d, noref d i.zero = true

theorem rval_det {op : Op} {e : Operand → SV} {mem : List Blk} {κ : SV → Prop} (h : rval T G op e mem κ) : ∃ x, κ x ∧ rval T G op e mem (fun z => z = x) := by
  have q1 : ∀ {req : Unit → Prop} {p : Int → Prop} {k : Int → Prop} {n : Int}, (∀ z, p z ↔ z = n) → Q1 req p k → ∃ x, k x ∧ Q1 req p (fun z => z = x) := fun hp h => ⟨_, h.h.2 _ ((hp _).2 rfl), ⟨h.h.1, fun z hz => (hp z).1 hz⟩⟩
  have q2 : ∀ {req : Unit → Prop} {n : Int} {κ : SV → Prop}, Q1 req (fun z => z = n) (fun z => κ (.int .i64 z)) → ∃ x, κ x ∧ Q1 req (fun z => z = n) (fun z => (SV.int .i64 z) = x) := fun h => ⟨_, h.h.2 _ rfl, ⟨h.h.1, fun z hz => by rw [hz]⟩⟩
  have le : ∀ {i : TI} {sh : Option Nat} {y : SV} {o : Nat} {κ : SV → Prop}, loadE i sh y o κ → ∃ x, κ x ∧ loadE i sh y o (fun z => z = x) := by
    intro i sh y o κ h
    unfold loadE at h ⊢
    by_cases h1 : dataB y = true
    · rw [if_pos h1] at h
      by_cases h2 : (Nat.beq o 0 && shEq sh i.shape) = true
      · rw [if_pos h2] at h
        exact ⟨_, h, by rw [if_pos h1, if_pos h2]⟩
      · rw [if_neg h2] at h
        simp only [if_pos h1, if_neg h2]
        cases y with
        | agg l =>
          cases sh with
          | none => exact h.elim
          | some n =>
            simp only at h ⊢
            by_cases h3 : o + i.size ≤ l.length
            · rw [if_pos h3] at h
              exact ⟨_, h, by rw [if_pos h3]⟩
            · rw [if_neg h3] at h
              exact h.elim
        | _ => exact h.elim
    · rw [if_neg h1] at h
      exact h.elim
  cases op
  case load t x =>
    simp only [rval] at h ⊢
    cases ht : T t with
    | none => simp only [ht] at h
    | some i =>
      simp only [ht] at h ⊢
      cases hx : e x with
      | ptr r o =>
        simp only [hx] at h ⊢
        cases hm : getN Blk.no mem r with
        | chunk t' y =>
          simp only [hm] at h ⊢
          split at h
          · rename_i hc; exact ⟨_, h, by rw [if_pos hc]⟩
          · rename_i hc
            cases hy : y with
            | agg l =>
              simp only [hy] at h
              split at h
              · rename_i hl; exact ⟨_, h, by simp only [if_neg hc, if_pos hl]⟩
              · exact h.elim
            | _ => simp only [hy] at h
        | _ => simp only [hm] at h
      | eptr sh y o => simp only [hx] at h ⊢; exact le h
      | rptr r sh j o =>
        simp only [hx] at h ⊢
        cases hm : getN Blk.no mem r with
        | row sh' el l =>
          simp only [hm] at h ⊢
          split at h
          · rename_i hc
            obtain ⟨y, hy, h⟩ := h.h
            obtain ⟨v, hv, h⟩ := le h
            exact ⟨v, hv, by rw [if_pos hc]; exact ⟨⟨y, hy, h⟩⟩⟩
          · exact h.elim
        | _ => simp only [hm] at h
      | _ => simp only [hx] at h
  case indexAddr t x ix =>
    simp only [rval] at h ⊢
    cases ht : T t with
    | none => simp only [ht] at h
    | some i =>
      simp only [ht] at h ⊢
      cases hk : i.kind with
      | slice el =>
        simp only [hk] at h ⊢
        cases he : T el with
        | none => simp only [he] at h
        | some j =>
          simp only [he] at h ⊢
          cases hx : e x with
          | lst sh l =>
            cases hi : e ix with
            | int k n =>
              simp only [hx, hi] at h ⊢
              split at h
              · rename_i hc
                obtain ⟨q, hq, h⟩ := h.h
                exact ⟨_, h, by rw [if_pos hc]; exact ⟨⟨q, hq, rfl⟩⟩⟩
              · exact h.elim
            | _ => simp only [hx, hi] at h
          | row r =>
            cases hi : e ix with
            | int k n =>
              simp only [hx, hi] at h ⊢
              cases hm : getN Blk.no mem r with
              | row sh el' l =>
                simp only [hm] at h ⊢
                split at h
                · rename_i hc
                  obtain ⟨q, hq, h⟩ := h.h
                  exact ⟨_, h, by rw [if_pos hc]; exact ⟨⟨q, hq, rfl⟩⟩⟩
                · exact h.elim
              | frz sh l =>
                simp only [hm] at h ⊢
                split at h
                · rename_i hc
                  obtain ⟨q, hq, h⟩ := h.h
                  exact ⟨_, h, by rw [if_pos hc]; exact ⟨⟨q, hq, rfl⟩⟩⟩
                · exact h.elim
              | _ => simp only [hm] at h
            | _ => simp only [hx, hi] at h
          | _ => simp only [hx] at h
      | _ => simp only [hk] at h
  case buildSlice t n ps =>
    simp only [rval] at h ⊢
    cases ht : T t with
    | none => simp only [ht] at h
    | some i =>
      simp only [ht] at h ⊢
      cases hk : i.kind with
      | slice el =>
        simp only [hk] at h ⊢
        cases he : T el with
        | none => simp only [he] at h
        | some j =>
          simp only [he] at h ⊢
          split at h
          · rename_i hc
            cases hl : litL j e 0 ps.toList with
            | none => simp only [hl] at h
            | some l => simp only [hl] at h; exact ⟨_, h, by simp only [if_pos hc]⟩
          · exact h.elim
      | _ => simp only [hk] at h
  case call c =>
    simp only [rval] at h ⊢
    cases hc : c.callee with
    | value f =>
      cases f with
      | func f =>
        simp only [hc] at h ⊢
        cases hv : views T mem c.argTypes.toList (c.args.toList.map e) with
        | none => simp only [hv] at h
        | some as =>
          simp only [hv] at h ⊢
          obtain ⟨r, h1, h2, h3, h4⟩ := h.h
          exact ⟨r, h4, ⟨r, h1, h2, h3, rfl⟩⟩
      | _ => simp only [hc] at h
    | builtin b =>
      cases b
      case len =>
        simp only [hc] at h ⊢
        rcases hat : c.argTypes.toList with _ | ⟨t, _ | ⟨t2, ts⟩⟩
        · simp only [hat] at h
        rotate_left
        · simp only [hat] at h
        rcases har : c.args.toList with _ | ⟨x, _ | ⟨x2, xs⟩⟩
        · simp only [hat, har] at h
        rotate_left
        · simp only [hat, har] at h
        simp only [hat, har] at h ⊢
        cases ht : T t with
        | none => simp only [ht] at h
        | some i =>
          simp only [ht] at h ⊢
          cases hk : i.kind with
          | slice el =>
            cases hx : e x with
            | lst sh l => simp only [hk, hx] at h ⊢; exact q2 h
            | nil => simp only [hk, hx] at h ⊢; exact ⟨_, h, rfl⟩
            | row r =>
              simp only [hk, hx] at h ⊢
              cases hm : getN Blk.no mem r with
              | row sh el' l => simp only [hm] at h ⊢; exact q2 h
              | frz sh l => simp only [hm] at h ⊢; exact q2 h
              | _ => simp only [hm] at h
            | _ => simp only [hk, hx] at h
          | string =>
            cases hx : e x with
            | str s => simp only [hk, hx] at h ⊢; exact q2 h
            | _ => simp only [hk, hx] at h
          | _ => simp only [hk] at h
      all_goals simp only [hc] at h
    | invoke r s => simp only [hc] at h
  all_goals exact h.elim

theorem views_mem {m m' : List Blk} : ∀ (ts : List Nat) (xs : List SV), (∀ r, (∃ y ∈ xs, noref r y = false) → getN Blk.no m r = getN Blk.no m' r) → views T m ts xs = views T m' ts xs
  | [], [], _ => rfl
  | [], _ :: _, _ => rfl
  | _ :: _, [], _ => rfl
  | t :: ts, x :: xs, h => by
    have e1 : view T m t x = view T m' t x := by
      cases x with
      | row r => simp only [view]; rw [h r ⟨.row r, by simp, by simp [noref]⟩]
      | rsl r sh a n => simp only [view]; rw [h r ⟨.rsl r sh a n, by simp, by simp [noref]⟩]
      | _ => rfl
    simp only [views]
    rw [e1, views_mem ts xs (fun r ⟨y, hy, hn⟩ => h r ⟨y, by simp [hy], hn⟩)]
theorem lends_mem {m m' : List Blk} : ∀ (xs : List SV), (∀ r, (∃ y ∈ xs, noref r y = false) → getN Blk.no m r = getN Blk.no m' r) → lends m xs = lends m' xs
  | [], _ => rfl
  | x :: xs, h => by
    have ih := lends_mem (m := m) (m' := m') xs (fun r ⟨y, hy, hn⟩ => h r ⟨y, by simp [hy], hn⟩)
    cases x with
    | row r => simp only [lends]; rw [h r ⟨.row r, by simp, by simp [noref]⟩, ih]
    | rsl r sh a n => rfl
    | _ => exact ih

/-- Only what the operands mention is read. -/
theorem rval_mem {op : Op} {e : Operand → SV} {m m' : List Blk} (h : ∀ r, (∃ y ∈ op.operands, noref r (e y) = false) → getN Blk.no m r = getN Blk.no m' r) {κ : SV → Prop} (hv : rval T G op e m κ) : rval T G op e m' κ := by
  have ptr : ∀ {x : Operand} {r o : Nat}, x ∈ op.operands → e x = .ptr r o → getN Blk.no m r = getN Blk.no m' r := fun hx he => h _ ⟨_, hx, by rw [he]; simp [noref]⟩
  have row : ∀ {x : Operand} {r : Nat}, x ∈ op.operands → e x = .row r → getN Blk.no m r = getN Blk.no m' r := fun hx he => h _ ⟨_, hx, by rw [he]; simp [noref]⟩
  have rptr : ∀ {x : Operand} {r i o : Nat} {sh : Option Nat}, x ∈ op.operands → e x = .rptr r sh i o → getN Blk.no m r = getN Blk.no m' r := fun hx he => h _ ⟨_, hx, by rw [he]; simp [noref]⟩
  cases op
  case load t x =>
    have hx0 : x ∈ (Op.load t x).operands := by simp [Op.operands]
    simp only [rval] at hv ⊢
    cases ht : T t with
    | none => simp only [ht] at hv
    | some i =>
      simp only [ht] at hv ⊢
      cases hx : e x with
      | ptr r o => simp only [hx] at hv ⊢; rw [← ptr hx0 hx]; exact hv
      | eptr sh y o => simp only [hx] at hv ⊢; exact hv
      | rptr r sh j o => simp only [hx] at hv ⊢; rw [← rptr hx0 hx]; exact hv
      | _ => simp only [hx] at hv
  case indexAddr t x ix =>
    have hx0 : x ∈ (Op.indexAddr t x ix).operands := by simp [Op.operands]
    simp only [rval] at hv ⊢
    cases ht : T t with
    | none => simp only [ht] at hv
    | some i =>
      simp only [ht] at hv ⊢
      cases hk : i.kind with
      | slice el =>
        simp only [hk] at hv ⊢
        cases he : T el with
        | none => simp only [he] at hv
        | some j =>
          simp only [he] at hv ⊢
          cases hx : e x with
          | lst sh l =>
            cases hi : e ix with
            | int k n => simp only [hx, hi] at hv ⊢; exact hv
            | _ => simp only [hx, hi] at hv
          | row r =>
            cases hi : e ix with
            | int k n => simp only [hx, hi] at hv ⊢; rw [← row hx0 hx]; exact hv
            | _ => simp only [hx, hi] at hv
          | _ => simp only [hx] at hv
      | _ => simp only [hk] at hv
  case buildSlice t n ps => exact hv
  case call c =>
    simp only [rval] at hv ⊢
    have hargs : ∀ r, (∃ y ∈ c.args.toList.map e, noref r y = false) → getN Blk.no m r = getN Blk.no m' r := by
      rintro r ⟨y, hy, hn⟩
      obtain ⟨z, hz, rfl⟩ := List.mem_map.1 hy
      exact h r ⟨z, by simp only [Op.operands, Call.operands]; simp; exact .inr (by simpa using hz), hn⟩
    cases hc : c.callee with
    | value f =>
      cases f with
      | func f =>
        simp only [hc] at hv ⊢
        rw [← views_mem _ _ hargs, ← lends_mem _ hargs]
        exact hv
      | _ => simp only [hc] at hv
    | builtin b =>
      cases b
      case len =>
        simp only [hc] at hv ⊢
        rcases hat : c.argTypes.toList with _ | ⟨t, _ | ⟨t2, ts⟩⟩
        · simp only [hat] at hv
        rotate_left
        · simp only [hat] at hv
        rcases har : c.args.toList with _ | ⟨x, _ | ⟨x2, xs⟩⟩
        · simp only [hat, har] at hv
        rotate_left
        · simp only [hat, har] at hv
        simp only [hat, har] at hv ⊢
        cases ht : T t with
        | none => simp only [ht] at hv
        | some i =>
          simp only [ht] at hv ⊢
          cases hk : i.kind with
          | slice el =>
            cases hx : e x with
            | row r =>
              simp only [hk, hx] at hv ⊢
              rw [← hargs r ⟨.row r, by rw [har]; simp [hx], by simp [noref]⟩]
              exact hv
            | lst sh l => simp only [hk, hx] at hv ⊢; exact hv
            | nil => simp only [hk, hx] at hv ⊢; exact hv
            | _ => simp only [hk, hx] at hv
          | string =>
            cases hx : e x with
            | str s => simp only [hk, hx] at hv ⊢; exact hv
            | _ => simp only [hk, hx] at hv
          | _ => simp only [hk] at hv
      all_goals simp only [hc] at hv
    | invoke r s => simp only [hc] at hv
  all_goals exact hv.elim

theorem cval_det (tab : Tab P T) {o : Oper} {d : Nat} {e : Operand → SV} {κ : SV → Blk → Prop} (h : cval T d o.op e κ) : ∃ x B, κ x B ∧ COk P T o d e x B := cval_ok tab.tys tab.sz tab.z h

/-- One operation, resolved. -/
theorem opS_res (tab : Tab P T) {D : Dr} {all : Array Oper} {o : Oper} {s : St} {k : St → Prop} (hg : gd all o s = some true) (h : opS T G D all o s k) : ∃ s', Res P T G D all o s s' ∧ k s' := by
  unfold opS at h
  cases hc : cls o.op with
  | p =>
    simp only [hc] at h
    obtain ⟨x, hx, hp⟩ := pval_ok tab.tys tab.sz tab.cl h
    split at hx
    · rename_i hn
      exact ⟨_, .p s x s.ev hg hc (fun _ _ => rfl) hp hn, hx⟩
    · exact hx.elim
  | r =>
    simp only [hc] at h
    split at h
    · rename_i hf
      obtain ⟨x, hx, hr⟩ := rval_det h
      split at hx
      · rename_i hn
        exact ⟨_, .r s x s.ev s.mem hg hc (fun _ _ => rfl) (fun _ _ => rfl) hr hn hf, hx⟩
      · exact hx.elim
    · exact h.elim
  | c =>
    simp only [hc] at h
    cases hd : o.dst with
    | none => simp only [hd] at h
    | some d =>
      simp only [hd] at h
      split at h
      · rename_i hf
        obtain ⟨x, B, hx, hk⟩ := cval_det tab h
        split at hx
        · rename_i hn
          simp only [Bool.and_eq_true] at hn
          exact ⟨_, .c s d x B s.ev hg hc hd hf (fun _ _ => rfl) hk (by rw [hd]; exact hn.1) hn.2, hx⟩
        · exact hx.elim
      · exact h.elim
  | w =>
    simp only [hc] at h
    cases hd : o.dst with
    | some d => simp only [hd] at h
    | none =>
      simp only [hd] at h
      split at h
      · rename_i hf
        obtain ⟨r, b, hx, hw, hr⟩ := wblk_det h
        split at hx
        · rename_i hn
          exact ⟨_, .w s r b s.ev s.mem hg hc hd (fun _ _ => rfl) (fun _ _ => rfl) hw hr hn hf, hx⟩
        · exact hx.elim
      · exact h.elim

theorem opG_res (tab : Tab P T) {D : Dr} {all : Array Oper} {o : Oper} {s : St} {k : St → Prop} (h : opG T G D all o s k) : ∃ s', Res P T G D all o s s' ∧ k s' := by
  unfold opG at h
  cases hg : o.guard with
  | none =>
    simp only [hg] at h
    exact opS_res tab (by simp [gd, hg]) h
  | some jw =>
    obtain ⟨j, want⟩ := jw
    simp only [hg] at h
    cases ht : (all[j]?).bind (·.dst) with
    | none => simp only [ht] at h
    | some t =>
      simp only [ht] at h
      cases hx : getN SV.any s.slots t with
      | bool b =>
        simp only [hx] at h
        cases want <;> cases b <;> simp only [br] at h
        · exact opS_res tab (by simp [gd, hg, ht, hx]) h
        · exact ⟨_, .skip s (by simp [gd, hg, ht, hx]), h⟩
        · exact ⟨_, .skip s (by simp [gd, hg, ht, hx]), h⟩
        · exact opS_res tab (by simp [gd, hg, ht, hx]) h
      | _ => simp only [hx] at h

theorem opsG_chain (tab : Tab P T) {D : Dr} {all : Array Oper} : ∀ (l : List Oper) (s : St) (k : St → Prop), opsG T G D all l s k → Chain P T G D all l s k
  | [], s, k, h => h
  | o :: l, s, k, h => by
    obtain ⟨s', hr, h⟩ := opG_res tab h
    exact ⟨s', hr, opsG_chain tab l s' k h⟩
end Go.Proofs.Ytopalajoinkgkaa
