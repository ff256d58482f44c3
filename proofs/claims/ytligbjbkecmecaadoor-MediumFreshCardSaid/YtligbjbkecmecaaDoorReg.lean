/- The state of a walk; one operation; a region in the text's order. -/
import Derived.Test.YtligbjbkecmecaaDoorXq
namespace Go.Proofs.YtligbjbkecmecaaDoor
set_option linter.unusedVariables false
set_option linter.unusedSimpArgs false
open Go.RowKit
variable {P : Program} {T : Nat → Option TI} {G : Nat → CT → Prop}

structure St where
  slots : List SV
  mem : Mem

def St.ev (s : St) : Operand → SV
  | .tmp t => getN .any s.slots t
  | .const v => ofValue v
  | .func f => .clo f []
  | .global g => (match glob g with | some x => x | none => .val (.pointer (some ⟨g, 0, none⟩)))
def St.put (s : St) (d : Option Nat) (x : SV) : St := match d with
  | some d => ⟨setN x s.slots d, s.mem⟩
  | none => s
def isNo : Blk → Bool
  | .no => true
  | _ => false
def St.fresh (s : St) (d : Nat) : Bool := !(Nat.beq d 0) && Nat.blt d s.slots.length && isNo (getM s.mem d) && noref.norefs d s.slots && memNoref d s.mem

def memB (q : Nat) : List Nat → Bool
  | [] => false
  | x :: l => Nat.beq x q || memB q l
theorem memB_iff {q : Nat} : ∀ {l : List Nat}, memB q l = true ↔ q ∈ l
  | [] => by simp [memB]
  | x :: l => by
    simp only [memB, Bool.or_eq_true, Nat.beq_eq, memB_iff (l := l), List.mem_cons]
    exact or_congr_left eq_comm
/-- The ids in a value. -/
def idsV : SV → List Nat
  | .ptr r _ => [r]
  | .row r => [r]
  | .rsl r _ _ _ _ => [r]
  | .rptr r _ _ _ => [r]
  | .obj r => [r]
  | .agg l => idsVs l
  | .tup l => idsVs l
  | .fcl _ l => idsVs l
  | .cel x => idsV x
  | .lsx _ l => idsVs l
  | .epx _ x _ => idsV x
  | _ => []
where idsVs : List SV → List Nat
  | [] => []
  | x :: l => idsV x ++ idsVs l
theorem idsV_noref {q : Nat} : ∀ {x : SV}, q ∈ idsV x → noref q x = false
  | .ptr r o, h => by simp [idsV] at h; simp [noref, h]
  | .row r, h => by simp [idsV] at h; simp [noref, h]
  | .rsl r _ _ _ _, h => by simp [idsV] at h; simp [noref, h]
  | .rptr r _ _ _, h => by simp [idsV] at h; simp [noref, h]
  | .obj r, h => by simp [idsV] at h; simp [noref, h]
  | .agg l, h => go (l := l) h
  | .tup l, h => go (l := l) h
  | .fcl _ l, h => go (l := l) h
  | .cel x, h => idsV_noref (x := x) h
  | .lsx _ l, h => go (l := l) h
  | .epx _ x _, h => idsV_noref (x := x) h
  | .any, h | .bool _, h | .int _ _, h | .str _, h | .lst _ _, h | .nil, h | .eptr _ _ _, h | .clo _ _, h | .val _, h => by simp [idsV] at h
where go {q : Nat} : ∀ {l : List SV}, q ∈ idsV.idsVs l → noref.norefs q l = false
  | [], h => by simp [idsV.idsVs] at h
  | x :: l, h => by
    simp only [idsV.idsVs, List.mem_append] at h
    simp only [noref.norefs, Bool.and_eq_false_iff]
    rcases h with h | h
    · exact .inl (idsV_noref h)
    · exact .inr (go h)
def opIds (e : Operand → SV) : List Operand → List Nat
  | [] => []
  | y :: l => idsV (e y) ++ opIds e l
theorem opIds_mem {e : Operand → SV} {q : Nat} : ∀ {l : List Operand}, q ∈ opIds e l → ∃ y ∈ l, noref q (e y) = false
  | [], h => by simp [opIds] at h
  | y :: l, h => by
    simp only [opIds, List.mem_append] at h
    rcases h with h | h
    · exact ⟨y, by simp, idsV_noref h⟩
    · obtain ⟨z, hz, hn⟩ := opIds_mem h
      exact ⟨z, by simp [hz], hn⟩

inductive Cls where
  | p | r | s | m | w | f
def cls : Op → Cls
  | .load _ _ | .indexAddr _ _ _ => .r
  | .slice _ _ _ _ _ | .index _ _ _ | .convert _ _ _ | .range _ _ | .next _ _ => .s
  | .box _ _ | .alloc _ | .makeSlice _ _ _ | .buildSlice _ _ _ | .makeFunc _ _ _ | .makeMap _ _ => .m
  | .lookup _ _ _ _ => .s
  | .store _ _ _ | .mapUpdate _ _ _ _ => .w
  | .call c => (match c.callee with | .builtin .min | .builtin .max => .p | .builtin .len | .builtin .cap => .r | .builtin .append | .builtin .copy | .builtin .clear => .w | .value _ => .f | _ => .p)
  | _ => .p
def Cls.reads : Cls → Bool
  | .p => false
  | _ => true
theorem isO_reads {op : Op} {e : Operand → SV} {μ : Nat → Blk} (h : isO op e μ = true) : (cls op).reads = true := by
  cases op with
  | call c =>
    simp only [isO] at h
    split at h
    · rename_i hc _
      simp [cls, hc, Cls.reads]
    · cases h
  | range | next | convert | indexAddr | store => rfl
  | _ => simp [isO] at h
theorem isP_reads {op : Op} {e : Operand → SV} (h : isP op e = true ∨ isP2 op e = true) : (cls op).reads = true := by
  cases op with
  | call c =>
    obtain ⟨cal, args, ats⟩ := c
    rcases h with h | h
    · simp only [isP] at h
      split at h
      · first | rfl | (rename_i hc _; first | (subst hc; rfl) | (simp only at hc; subst hc; rfl))
      · first | rfl | (rename_i hc _; first | (subst hc; rfl) | (simp only at hc; subst hc; rfl))
      · cases h
    · simp only [isP2] at h
      split at h
      · first | rfl | (rename_i hc _; first | (subst hc; rfl) | (simp only at hc; subst hc; rfl))
      · cases h
  | makeMap | lookup | mapUpdate | makeSlice | slice => rfl
  | _ => rcases h with h | h <;> simp [isP, isP2] at h
theorem isN_reads {op : Op} {e : Operand → SV} (h : isN op e = true ∨ isN2 op e = true) (hf : ∀ s x f, op ≠ .fieldAddr s x f) : (cls op).reads = true := by
  cases op with
  | call c =>
    obtain ⟨cal, args, ats⟩ := c
    rcases h with h | h
    · simp only [isN] at h
      split at h
      · first | rfl | (rename_i hc _; first | (subst hc; rfl) | (simp only at hc; subst hc; rfl))
      · first | rfl | (rename_i hc _; first | (subst hc; rfl) | (simp only at hc; subst hc; rfl))
      · cases h
    · simp [isN2] at h
  | fieldAddr s x f => exact absurd rfl (hf s x f)
  | indexAddr | load | buildSlice => rfl
  | _ => rcases h with h | h <;> simp [isN, isN2] at h
/-- An operation that may give something new at its own slot. -/
def maker (o : Oper) : Bool := match o.op with
  | .range _ _ => true
  | .convert _ _ _ => true
  | _ => (match cls o.op with
    | .m => true
    | .f => true
    | .w => true
    | _ => false)
def isInt : SV → Bool
  | .int _ _ => true
  | _ => false
def seen (R : List Nat) (m : Mem) (q : Nat) : Blk := if memB q R then getM m q else .no
theorem seen_sees {R : List Nat} {m : Mem} : Sees (seen R m) m := by
  intro q
  unfold seen
  split
  · exact .inr rfl
  · exact .inl rfl

/-- One operation: its value, the blocks that turn, what is new; the ids that it looks at. -/
def opV0 (T : Nat → Option TI) (G : Nat → CT → Prop) (o : Oper) (s : St) (R : List Nat) (κ : SV → List (Nat × Blk) → Option Nat → Prop) : Prop :=
  match cls o.op with
  | .p => pval T o.op s.ev (fun x => κ x [] none)
  | .r => rvalX T o.op s.ev (seen R s.mem) (fun x => κ x [] none)
  | .s => (match o.op with
    | .convert a b x => if isInt (s.ev x) then pval T (.convert a b x) s.ev (fun x => κ x [] none) else sval T (.convert a b x) s.ev (seen R s.mem) (fun x => κ x [] none)
    | op => sval T op s.ev (seen R s.mem) (fun x => κ x [] none))
  | .m => (match o.dst with
    | some d => mval T d o.op s.ev (seen R s.mem) (fun x U => κ x U (some d))
    | none => False)
  | .w => (match o.op with
    | .call c => (match c.callee, o.dst with
      | .builtin .append, some d => wval T (some d) (.call c) s.ev (seen R s.mem) (fun x U => κ x U (some d))
      | .builtin .copy, d => wval T d (.call c) s.ev (seen R s.mem) (fun x U => κ x U none)
      | _, _ => False)
    | .store t x v => wvalX T none (.store t x v) s.ev (seen R s.mem) (fun x U => κ x U none)
    | _ => False)
  | .f => (match o.op with
    | .call c => callV T G o.dst c s.ev (seen R s.mem) κ
    | _ => False)

/-- The same, with the operations that have rules of their own. -/
noncomputable def opV (T : Nat → Option TI) (G : Nat → CT → Prop) (o : Oper) (s : St) (R : List Nat) (κ : SV → List (Nat × Blk) → Option Nat → Prop) : Prop :=
  if isN o.op s.ev then nvO T o.dst o.op s.ev (seen R s.mem) κ else
  if isN2 o.op s.ev then Chp (fun _ => opV0 T G o s R κ) (fun _ => nvO T o.dst o.op s.ev (seen R s.mem) κ) else
  if isO o.op s.ev (seen R s.mem) then oval T o.dst o.op s.ev (seen R s.mem) κ else
  if isP o.op s.ev then pvO T o.dst o.op s.ev (seen R s.mem) κ else
  if isP2 o.op s.ev then Chp (fun _ => opV0 T G o s R κ) (fun _ => pvO T o.dst o.op s.ev (seen R s.mem) κ) else
  opV0 T G o s R κ

/-- x mentions none of the ids D but the operation's own. -/
def nrD (d : Option Nat) (x : SV) : List Nat → Bool
  | [] => true
  | q :: D => (noref q x || (match d with | some p => Nat.beq p q | none => false)) && nrD d x D
def nbD (b : Blk) : List Nat → Bool
  | [] => true
  | q :: D => bNoref q b && nbD b D
def nbU (D : List Nat) : List (Nat × Blk) → Bool
  | [] => true
  | (_, b) :: U => nbD b D && nbU D U
def freshC (s : St) : Option Nat → Bool
  | some d => s.fresh d
  | none => true
def writesL (cr : Option Nat) : List (Nat × Blk) → List Nat
  | [] => []
  | (q, _) :: U => (match cr with | some d => if Nat.beq d q then writesL cr U else q :: writesL cr U | none => q :: writesL cr U)
theorem writesL_mem {cr : Option Nat} : ∀ {U : List (Nat × Blk)} {q : Nat} {b : Blk}, (q, b) ∈ U → cr = some q ∨ q ∈ writesL cr U
  | [], q, b, h => by simp at h
  | (k, c) :: U, q, b, h => by
    rcases List.mem_cons.1 h with h | h
    · injection h with h1 h2
      subst h1
      cases cr with
      | none => right; simp [writesL]
      | some d =>
        by_cases hd : d = q
        · left; rw [hd]
        · right; simp [writesL, nbeq, hd]
    · rcases writesL_mem h with g | g
      · exact .inl g
      · right
        cases cr with
        | none => simp [writesL, g]
        | some d =>
          simp only [writesL]
          split
          · exact g
          · simp [g]
/-- What an operation looked at and wrote. -/
abbrev FP := List Nat × List Nat

def nxt (o : Oper) (s : St) (x : SV) (U : List (Nat × Blk)) : St := ⟨(s.put o.dst x).slots, appU U s.mem⟩

def opS (T : Nat → Option TI) (G : Nat → CT → Prop) (D : List Nat) (o : Oper) (s : St) (k : FP → St → Prop) : Prop :=
  opV T G o s (opIds s.ev o.op.operands.toList) (fun x U cr => if freshC s cr && nrD o.dst x D && nbU D U then k (if (cls o.op).reads then opIds s.ev o.op.operands.toList else [], writesL cr U) (nxt o s x U) else False)

def opG (T : Nat → Option TI) (G : Nat → CT → Prop) (D : List Nat) (all : Array Oper) (o : Oper) (s : St) (k : FP → St → Prop) : Prop :=
  match o.guard with
  | none => opS T G D o s k
  | some (j, want) => (match (all[j]?).bind (·.dst) with
    | some t => (match getN .any s.slots t, want with
      | .bool b, true => br b (fun _ => opS T G D o s k) (fun _ => k ([], []) (s.put o.dst (.val (.tuple #[]))))
      | .bool b, false => br b (fun _ => k ([], []) (s.put o.dst (.val (.tuple #[])))) (fun _ => opS T G D o s k)
      | .val (.tuple _), _ => k ([], []) (s.put o.dst (.val (.tuple #[])))
      | _, _ => False)
    | none => False)

/-- The first of a list of lists, and the others. -/
def hdL : List (List Nat) → List Nat
  | [] => []
  | a :: _ => a
def tlL : List (List Nat) → List (List Nat)
  | [] => []
  | _ :: l => l
theorem hdL_eq (l : List (List Nat)) : hdL l = l.getD 0 [] := by cases l <;> rfl
theorem tlL_get (l : List (List Nat)) (i : Nat) : (tlL l).getD i [] = l.getD (i + 1) [] := by cases l <;> simp [tlL]
/-- D: for each operation, the ids that its effects must not mention. -/
def opsG (T : Nat → Option TI) (G : Nat → CT → Prop) : List (List Nat) → Array Oper → List Oper → List FP → St → (List FP → St → Prop) → Prop
  | _, _, [], fs, s, k => k fs s
  | D, all, o :: l, fs, s, k => opG T G (hdL D) all o s (fun f s => opsG T G (tlL D) all l (f :: fs) s k)

/-- The marks of loops over functions among the deferred calls: their blocks lie as they lay. -/
structure DefOk (N : Nat → Prop) (w : World) (Y : Nat → Prop) (ds : List Deferred) : Prop where
  h : ∃ Ds : List Nat, ds = Ds.map (fun D => { target := .collected D, args := #[] }) ∧ Ds.Nodup ∧ ∀ D ∈ Ds, N D ∧ ¬ Y D ∧ w.heap[D]? = some (.deferred (some []))
theorem DefOk.nil (N : Nat → Prop) (w : World) (Y : Nat → Prop) : DefOk N w Y [] := ⟨[], rfl, List.nodup_nil, fun _ h => by cases h⟩
theorem DefOk.turn {N : Nat → Prop} {w w' : World} {Y Y' : Nat → Prop} {ρ ρ' : Env} {d : Option Nat} {ds : List Deferred} (h : DefOk N w Y ds) (t : Turn w Y ρ w' Y' ρ' d) : DefOk N w' Y' ds := by
  obtain ⟨Ds, h1, h2, h3⟩ := h.h
  refine ⟨Ds, h1, h2, fun D hD => ?_⟩
  obtain ⟨g1, g2, g3⟩ := h3 D hD
  obtain ⟨k1, k2⟩ := t.keep D (heap_lt g3) g2
  exact ⟨g1, k1, k2.trans g3⟩
theorem DefOk.sub {N : Nat → Prop} {w : World} {Y Y' : Nat → Prop} {ds : List Deferred} (h : DefOk N w Y ds) (hY : ∀ b, Y' b → Y b) : DefOk N w Y' ds := by
  obtain ⟨Ds, h1, h2, h3⟩ := h.h
  exact ⟨Ds, h1, h2, fun D hD => by obtain ⟨g1, g2, g3⟩ := h3 D hD; exact ⟨g1, fun h => g2 (hY D h), g3⟩⟩
/-- What a walk holds fast: what the id 0 is; temporaries that it does not write; how many there are. -/
structure Anc where
  z : Option Value
  fx : Nat → Option Value
  len : Option Nat
  nd : Bool

/-- What is known of a frame and a world. -/
structure Rep (T : Nat → Option TI) (N : Nat → Prop) (w0 : World) (X : Nat → Prop) (z : Anc) (s : St) (a : Act) (w : World) (ρ : Env) : Prop where
  m : MRep T N w0 w X s.mem ρ
  defers : DefOk N w (Forb X s.mem ρ) a.defers
  size : a.tmps.size = s.slots.length
  slot : ∀ t : Nat, Den w (Forb X s.mem ρ) ρ (getN .any s.slots t) (a.tmps.getD t undef)
  anch : ∀ v, z.z = some v → getM s.mem 0 ≠ .no → ρ 0 = some v
  fix : ∀ t v, z.fx t = some v → a.tmps.getD t undef = v
  len : ∀ k, z.len = some k → a.tmps.size = k
  nod : z.nd = true → a.defers = []

theorem MRep.some0 {N : Nat → Prop} {w0 w : World} {X : Nat → Prop} {mem : Mem} {ρ : Env} (m : MRep T N w0 w X mem ρ) (r : Nat) : (getM mem r = .no → ρ r = none) ∧ (ρ r = none → getM mem r = .no) := by
  have hb := m.blk r
  constructor
  · intro h; rw [h] at hb; exact hb
  · intro h
    rw [h] at hb
    cases hm : getM mem r with
    | no => rfl
    | chunk t x => rw [hm] at hb; obtain ⟨_, _, _, _, _, h, _⟩ := hb; cases h
    | row sh e l => rw [hm] at hb; obtain ⟨_, h, _⟩ := hb; cases h
    | frz sh l => rw [hm] at hb; obtain ⟨_, h, _⟩ := hb; cases h
    | rowx e l i x => rw [hm] at hb; obtain ⟨_, _, _, _, h, _⟩ := hb; cases h
    | rown sh e l => rw [hm] at hb; obtain ⟨_, _, _, _, h, _⟩ := hb; cases h
    | iter s p => rw [hm] at hb; obtain ⟨_, h, _⟩ := hb; cases h
    | gen _ _ _ => rw [hm] at hb; obtain ⟨_, _, _, h, _⟩ := hb; cases h
theorem Turn.env0 {w w' : World} {Y Y' : Nat → Prop} {ρ ρ' : Env} {d : Option Nat} (t : Turn w Y ρ w' Y' ρ' d) (h : d ≠ some 0) : ρ' 0 = none ∨ ρ' 0 = ρ 0 := by
  rcases t.env 0 with e | e | e
  · exact .inl e
  · exact .inr e
  · exact absurd e h
/-- The anchor holds through a turn. -/
theorem anch_turn {N : Nat → Prop} {w0 w w' : World} {X : Nat → Prop} {mem mem' : Mem} {ρ ρ' : Env} {z : Option Value} (m : MRep T N w0 w X mem ρ) (m' : MRep T N w0 w' X mem' ρ') (h : ∀ v, z = some v → getM mem 0 ≠ .no → ρ 0 = some v) (t : ρ' 0 = none ∨ ρ' 0 = ρ 0) :
    ∀ v, z = some v → getM mem' 0 ≠ .no → ρ' 0 = some v := by
  intro v hz hn
  rcases t with t | t
  · exact absurd ((m'.some0 0).2 t) hn
  · rw [t]
    refine h v hz fun h0 => ?_
    rw [(m.some0 0).1 h0] at t
    exact hn ((m'.some0 0).2 t)
theorem Rep.ev {N : Nat → Prop} {w0 : World} {X : Nat → Prop} {z : Anc} {s : St} {a : Act} {w : World} {ρ : Env} (h : Rep T N w0 X z s a w ρ) (y : Operand) : Den w (Forb X s.mem ρ) ρ (s.ev y) (a.eval y) := by
  cases y with
  | tmp t => exact h.slot t
  | const v => exact ofValue_den _ _ _ v
  | func f => exact .clo _ f [] [] rfl (fun i h1 h2 => by simp at h1)
  | global g =>
    simp only [St.ev]
    cases hg : glob g with
    | none => exact .val _ _
    | some x =>
      obtain ⟨h1, h2⟩ := h.m.gl g x hg
      exact h2.env fun r => .inr (.inr (plain_noref h1 r))

/-- The guard, decided. -/
def gd (all : Array Oper) (o : Oper) (s : St) : Option Bool :=
  match o.guard with
  | none => some true
  | some (j, want) => (match (all[j]?).bind (·.dst) with
    | some t => (match getN .any s.slots t with | .bool b => some (b == want) | .val (.tuple _) => some false | _ => none)
    | none => none)

/-- One operation, resolved. -/
inductive Stp (P : Program) (T : Nat → Option TI) (all : Array Oper) (o : Oper) : St → SV → List (Nat × Blk) → Option Nat → FP → Prop
  | skip (s : St) (hg : gd all o s = some false) : Stp P T all o s (.val (.tuple #[])) [] none ([], [])
  | run (s : St) (x : SV) (U : List (Nat × Blk)) (cr : Option Nat) (f : FP) (e : Operand → SV) (μ : Nat → Blk) (hg : gd all o s = some true) (he : ∀ y ∈ o.op.operands, s.ev y = e y)
      (hμ : ∀ q, μ q = .no ∨ (q ∈ f.1 ∧ μ q = getM s.mem q)) (hR : ∀ q ∈ f.1, ∃ y ∈ o.op.operands, noref q (e y) = false) (hU : ∀ q b, (q, b) ∈ U → cr = some q ∨ (q ∈ f.1 ∧ q ∈ f.2))
      (hc : ∀ d, cr = some d → o.dst = some d ∧ s.fresh d = true ∧ maker o = true) (h : Eff P T o e μ x U cr) : Stp P T all o s x U cr f

def Chain (P : Program) (T : Nat → Option TI) : List (List Nat) → Array Oper → List Oper → List FP → St → (List FP → St → Prop) → Prop
  | _, _, [], fs, s, k => k fs s
  | D, all, o :: l, fs, s, k => ∃ x U cr f, Stp P T all o s x U cr f ∧ nrD o.dst x (hdL D) = true ∧ nbU (hdL D) U = true ∧ Chain P T (tlL D) all l (f :: fs) (nxt o s x U) k

/-- What the table must satisfy. -/
structure Tab (P : Program) (T : Nat → Option TI) : Prop where
  tys : Types P T
  sz : Sizes T
  cl : Closed T
  z : ∀ t i, T t = some i → ∀ d, noref d i.zero = true
  mp : ∀ t m, mapT t = some m → MapOk P t m

theorem opV0_eff (tab : Tab P T) (hG : ∀ f c, G f c → ACall P T f c) {o : Oper} {s : St} {R : List Nat} {κ : SV → List (Nat × Blk) → Option Nat → Prop} (h : opV0 T G o s R κ) :
    ∃ x U cr, κ x U cr ∧ (∀ q b, (q, b) ∈ U → cr = some q ∨ (seen R s.mem q).own = true) ∧ (∀ k, cr = some k → o.dst = some k ∧ maker o = true) ∧ ((cls o.op).reads = false → U = [] ∧ cr = none ∧ ∀ μ, Eff P T o s.ev μ x U cr) ∧ Eff P T o s.ev (seen R s.mem) x U cr := by
  have pure : ∀ {x : SV}, ((cls o.op).reads = false → ∀ μ, Eff P T o s.ev μ x [] none) → Eff P T o s.ev (seen R s.mem) x [] none → κ x [] none → ∃ x U cr, κ x U cr ∧ (∀ q b, (q, b) ∈ U → cr = some q ∨ (seen R s.mem q).own = true) ∧ (∀ k, cr = some k → o.dst = some k ∧ maker o = true) ∧ ((cls o.op).reads = false → U = [] ∧ cr = none ∧ ∀ μ, Eff P T o s.ev μ x U cr) ∧ Eff P T o s.ev (seen R s.mem) x U cr :=
    fun hμ he hk => ⟨_, [], none, hk, (fun q b h => by simp at h), (fun k h => by cases h), (fun h => ⟨rfl, rfl, hμ h⟩), he⟩
  unfold opV0 at h
  have mk : ∀ {c : Cls}, cls o.op = c → (c = .m ∨ c = .f ∨ c = .w) → maker o = true := by
    intro c h1 h2
    unfold maker
    split
    · rfl
    · rfl
    · rw [h1]
      rcases h2 with rfl | rfl | rfl <;> rfl
  cases hc : cls o.op with
  | p =>
    simp only [hc] at h
    obtain ⟨x, hx, hp⟩ := pval_ok tab.tys tab.sz tab.cl h
    exact hc ▸ pure (fun _ μ => hp.eff μ) (hp.eff _) hx
  | r =>
    simp only [hc] at h
    obtain ⟨x, hx, hr⟩ := rvalX_ok tab.tys tab.sz h
    exact hc ▸ pure (fun h => by rw [hc] at h; cases h) hr.eff hx
  | s =>
    simp only [hc] at h
    split at h
    · rename_i a b x ho
      split at h
      · rw [← ho] at h
        obtain ⟨x, hx, hp⟩ := pval_ok tab.tys tab.sz tab.cl h
        exact hc ▸ pure (fun h => by rw [hc] at h; cases h) (hp.eff _) hx
      · rw [← ho] at h
        obtain ⟨x, hx, hr⟩ := sval_ok tab.tys tab.sz h
        exact hc ▸ pure (fun h => by rw [hc] at h; cases h) hr.eff hx
    · obtain ⟨x, hx, hr⟩ := sval_ok tab.tys tab.sz h
      exact hc ▸ pure (fun h => by rw [hc] at h; cases h) hr.eff hx
  | m =>
    simp only [hc] at h
    cases hd : o.dst with
    | none => simp only [hd] at h
    | some d =>
      simp only [hd] at h
      obtain ⟨x, U, hx, hU, he⟩ := mval_ok (P := P) tab.tys tab.sz tab.z h
      exact ⟨x, U, some d, hx, (fun q b hq => (hU q b hq).imp (fun e => by rw [e]) id), (fun k hk => by injection hk with hk; subst hk; exact ⟨rfl, mk hc (by simp)⟩), (fun h => by cases h), he⟩
  | w =>
    simp only [hc] at h
    split at h
    · rename_i c ho
      split at h
      · rename_i d hcal hd
        obtain ⟨x, U, hx, hU, he⟩ := append_ok (P := P) tab.tys tab.sz hcal ho h
        exact ⟨x, U, some d, hx, (fun q b hq => (hU q b hq).imp (fun e => by rw [e]) id), (fun k hk => by injection hk with hk; subst hk; exact ⟨hd, mk hc (by simp)⟩), (fun h => by cases h), he⟩
      · rename_i hcal
        obtain ⟨x, U, hx, hU, he⟩ := copy_ok (P := P) tab.tys tab.sz hcal ho h
        exact ⟨x, U, none, hx, (fun q b hq => .inr (hU q b hq)), (fun k hk => by cases hk), (fun h => by cases h), he⟩
      · exact h.elim
    · rename_i t x v ho
      obtain ⟨x, U, hx, hU, he⟩ := storeX_ok (P := P) tab.tys tab.sz ho h
      exact ⟨x, U, none, hx, (fun q b hq => .inr (hU q b hq)), (fun k hk => by cases hk), (fun h => by cases h), he⟩
    · exact h.elim
  | f =>
    simp only [hc] at h
    split at h
    · rename_i c ho
      obtain ⟨x, U, cr, hx, hU, hcr, he⟩ := call_ok hG ho h
      exact ⟨x, U, cr, hx, hU, (fun k hk => ⟨hcr k hk, mk hc (by simp)⟩), (fun h => by cases h), he⟩
    · exact h.elim

theorem opV_eff (tab : Tab P T) (hG : ∀ f c, G f c → ACall P T f c) {o : Oper} {s : St} {R : List Nat} {κ : SV → List (Nat × Blk) → Option Nat → Prop} (h : opV T G o s R κ) :
    ∃ x U cr, κ x U cr ∧ (∀ q b, (q, b) ∈ U → cr = some q ∨ (seen R s.mem q).own = true) ∧ (∀ k, cr = some k → o.dst = some k ∧ maker o = true) ∧ ((cls o.op).reads = false → U = [] ∧ cr = none ∧ ∀ μ, Eff P T o s.ev μ x U cr) ∧ Eff P T o s.ev (seen R s.mem) x U cr := by
  have room : (isP o.op s.ev = true ∨ isP2 o.op s.ev = true) → pvO T o.dst o.op s.ev (seen R s.mem) κ → ∃ x U cr, κ x U cr ∧ (∀ q b, (q, b) ∈ U → cr = some q ∨ (seen R s.mem q).own = true) ∧ (∀ k, cr = some k → o.dst = some k ∧ maker o = true) ∧ ((cls o.op).reads = false → U = [] ∧ cr = none ∧ ∀ μ, Eff P T o s.ev μ x U cr) ∧ Eff P T o s.ev (seen R s.mem) x U cr := by
    intro hi h
    obtain ⟨x, U, cr, hx, hU, hcr, he⟩ := pvO_ok tab.tys tab.sz tab.mp h
    refine ⟨x, U, cr, hx, hU, (fun k hk => ⟨(hcr k hk).1, ?_⟩), (fun hr => ?_), he⟩
    · rcases (hcr k hk).2 with ⟨a, e⟩ | ⟨a, b, c, e⟩ <;> simp [maker, cls, e]
    · rw [isP_reads hi] at hr; cases hr
  have named : (isN o.op s.ev = true ∨ isN2 o.op s.ev = true) → nvO T o.dst o.op s.ev (seen R s.mem) κ → ∃ x U cr, κ x U cr ∧ (∀ q b, (q, b) ∈ U → cr = some q ∨ (seen R s.mem q).own = true) ∧ (∀ k, cr = some k → o.dst = some k ∧ maker o = true) ∧ ((cls o.op).reads = false → U = [] ∧ cr = none ∧ ∀ μ, Eff P T o s.ev μ x U cr) ∧ Eff P T o s.ev (seen R s.mem) x U cr := by
    intro hi h
    obtain ⟨x, U, cr, hx, hU, hcr, hf, he⟩ := nvO_ok tab.tys tab.sz h
    refine ⟨x, U, cr, hx, hU, (fun k hk => ⟨(hcr k hk).1, ?_⟩), (fun hr => ?_), he⟩
    · obtain ⟨c, e1, e2⟩ := (hcr k hk).2
      simp [maker, cls, e1, e2]
    · by_cases hff : ∃ s' x' f', o.op = .fieldAddr s' x' f'
      · obtain ⟨s', x', f', e1⟩ := hff
        exact hf s' x' f' e1
      · rw [isN_reads hi (fun s' x' f' e => hff ⟨s', x', f', e⟩)] at hr; cases hr
  unfold opV at h
  split at h
  · rename_i hi; exact named (.inl hi) h
  split at h
  · rename_i hi
    rcases h.h with h | h
    · exact opV0_eff tab hG h
    · exact named (.inr hi) h
  split at h
  · rename_i hi
    obtain ⟨x, U, cr, hx, hU, hcr, he⟩ := oval_ok tab.tys tab.sz hi h
    refine ⟨x, U, cr, hx, hU, (fun k hk => ⟨(hcr k hk).1, ?_⟩), (fun hr => ?_), he⟩
    · rcases (hcr k hk).2 with ⟨a, b, e⟩ | ⟨a, b, c, e⟩ <;> simp [maker, e]
    · rw [isO_reads hi] at hr; cases hr
  · split at h
    · rename_i hi; exact room (.inl hi) h
    · split at h
      · rename_i hi
        rcases h.h with h | h
        · exact opV0_eff tab hG h
        · exact room (.inr hi) h
      · exact opV0_eff tab hG h

theorem seen_own {R : List Nat} {m : Mem} {q : Nat} (h : (seen R m q).own = true) : q ∈ R := by
  unfold seen at h
  split at h
  · rename_i hq; exact memB_iff.1 hq
  · simp [Blk.own] at h

theorem opS_res (tab : Tab P T) (hG : ∀ f c, G f c → ACall P T f c) {D : List Nat} {all : Array Oper} {o : Oper} {s : St} {k : FP → St → Prop} (hg : gd all o s = some true) (h : opS T G D o s k) :
    ∃ x U cr f, Stp P T all o s x U cr f ∧ nrD o.dst x D = true ∧ nbU D U = true ∧ k f (nxt o s x U) := by
  obtain ⟨x, U, cr, hk, hU, hcr, hp, he⟩ := opV_eff tab hG h
  split at hk
  case isFalse => exact hk.elim
  rename_i hc
  simp only [Bool.and_eq_true] at hc
  obtain ⟨⟨c1, c2⟩, c3⟩ := hc
  have hfr : ∀ d, cr = some d → o.dst = some d ∧ s.fresh d = true ∧ maker o = true := by
    intro d hd
    subst hd
    exact ⟨(hcr d rfl).1, c1, (hcr d rfl).2⟩
  refine ⟨x, U, cr, _, ?_, c2, c3, hk⟩
  cases hr : (cls o.op).reads with
  | true =>
    refine .run s x U cr _ s.ev (seen (opIds s.ev o.op.operands.toList) s.mem) hg (fun _ _ => rfl) (fun q => ?_) (fun q hq => ?_) (fun q b hq => ?_) hfr he
    · unfold seen
      split
      · rename_i hq; exact .inr ⟨memB_iff.1 hq, rfl⟩
      · exact .inl rfl
    · obtain ⟨y, hy, hn⟩ := opIds_mem hq
      exact ⟨y, by simpa using hy, hn⟩
    · rcases writesL_mem (cr := cr) hq with g | g
      · exact .inl g
      · rcases hU q b hq with g' | g'
        · exact .inl g'
        · exact .inr ⟨seen_own g', g⟩
  | false =>
    obtain ⟨rfl, rfl, hp⟩ := hp hr
    exact .run s x [] none _ s.ev (fun _ => .no) hg (fun _ _ => rfl) (fun q => .inl rfl) (fun q hq => by simp at hq) (fun q b hq => by simp at hq) hfr (hp _)

theorem nbU_nil (D : List Nat) : nbU D [] = true := rfl
theorem nrD_any (d : Option Nat) : ∀ D, nrD d .any D = true
  | [] => rfl
  | q :: D => by simp [nrD, noref, nrD_any d D]
theorem nrD_skip (d : Option Nat) : ∀ D, nrD d (.val (.tuple #[])) D = true
  | [] => by simp [nrD]
  | q :: D => by simp [nrD, noref, nrD_skip d D]
theorem nxt_skip (o : Oper) (s : St) : nxt o s (.val (.tuple #[])) [] = s.put o.dst (.val (.tuple #[])) := by unfold nxt St.put; cases o.dst <;> rfl

theorem opG_res (tab : Tab P T) (hG : ∀ f c, G f c → ACall P T f c) {D : List Nat} {all : Array Oper} {o : Oper} {s : St} {k : FP → St → Prop} (h : opG T G D all o s k) :
    ∃ x U cr f, Stp P T all o s x U cr f ∧ nrD o.dst x D = true ∧ nbU D U = true ∧ k f (nxt o s x U) := by
  unfold opG at h
  cases hg : o.guard with
  | none =>
    simp only [hg] at h
    exact opS_res tab hG (by simp [gd, hg]) h
  | some jw =>
    obtain ⟨j, want⟩ := jw
    simp only [hg] at h
    cases ht : (all[j]?).bind (·.dst) with
    | none => simp only [ht] at h
    | some t =>
      simp only [ht] at h
      cases hx : getN SV.any s.slots t with
      | bool b =>
        simp only [hx] at h
        have skip : gd all o s = some false → k ([], []) (s.put o.dst (.val (.tuple #[]))) → ∃ x U cr f, Stp P T all o s x U cr f ∧ nrD o.dst x D = true ∧ nbU D U = true ∧ k f (nxt o s x U) :=
          fun hg hk => ⟨.val (.tuple #[]), [], none, ([], []), .skip s hg, nrD_skip _ D, rfl, by rw [nxt_skip]; exact hk⟩
        cases want <;> cases b <;> simp only [br] at h
        · exact opS_res tab hG (by simp [gd, hg, ht, hx]) h
        · exact skip (by simp [gd, hg, ht, hx]) h
        · exact skip (by simp [gd, hg, ht, hx]) h
        · exact opS_res tab hG (by simp [gd, hg, ht, hx]) h
      | val v =>
        cases v with
        | tuple us =>
          simp only [hx] at h
          exact ⟨.val (.tuple #[]), [], none, ([], []), .skip s (by simp [gd, hg, ht, hx]), nrD_skip _ D, rfl, by rw [nxt_skip]; exact h⟩
        | _ => simp only [hx] at h
      | _ => simp only [hx] at h

theorem opsG_chain (tab : Tab P T) (hG : ∀ f c, G f c → ACall P T f c) {all : Array Oper} : ∀ (l : List Oper) (D : List (List Nat)) (fs : List FP) (s : St) (k : List FP → St → Prop), opsG T G D all l fs s k → Chain P T D all l fs s k
  | [], D, fs, s, k, h => by unfold opsG at h; unfold Chain; exact h
  | o :: l, D, fs, s, k, h => by
    unfold opsG at h
    obtain ⟨x, U, cr, f, h1, h2, h3, h4⟩ := opG_res tab hG h
    unfold Chain
    exact ⟨x, U, cr, f, h1, h2, h3, opsG_chain tab hG l _ _ _ k h4⟩

/-! ### A region in the text's order -/
theorem wanted_gd {N : Nat → Prop} {w0 : World} {X : Nat → Prop} {z : Anc} {s : St} {a : Act} {w : World} {ρ : Env} (h : Rep T N w0 X z s a w ρ) {all : Array Oper} {o : Oper} {b : Bool} (hg : gd all o s = some b) : Region.wanted o (yielded all a.tmps) = b := by
  unfold gd at hg
  unfold Region.wanted
  cases ho : o.guard with
  | none => simp only [ho] at hg ⊢; injection hg
  | some jw =>
    obtain ⟨j, want⟩ := jw
    simp only [ho] at hg ⊢
    cases ht : (all[j]?).bind (·.dst) with
    | none => simp only [ht] at hg; cases hg
    | some t =>
      simp only [ht] at hg
      cases hx : getN SV.any s.slots t with
      | bool c =>
        simp only [hx] at hg
        injection hg with hg
        have hd := h.slot t
        rw [hx, Den.bool_iff] at hd
        have ht' : a.tmps[t]? = some (.bool c) := by
          cases hq : a.tmps[t]? with
          | none => simp [hq, undef] at hd
          | some v => simp [hq] at hd; rw [hd]
        simp only [yielded, ht, Option.bind_some, ht', ← hg]
        cases c <;> cases want <;> rfl
      | val v =>
        cases v with
        | tuple us =>
          simp only [hx] at hg
          injection hg with hg
          have hd := h.slot t
          rw [hx] at hd
          generalize hq : a.tmps.getD t undef = q at hd
          cases hd
          have ht' : yielded all a.tmps j = none := by
            cases hq' : a.tmps[t]? with
            | none => simp only [yielded, ht, Option.bind_some, hq']
            | some v => simp [hq'] at hq; simp only [yielded, ht, Option.bind_some, hq', hq]
          rw [ht', ← hg]
          rfl
        | _ => simp only [hx] at hg; cases hg
      | _ => simp only [hx] at hg; cases hg

theorem norefs_getN {r : Nat} : ∀ {l : List SV}, noref.norefs r l = true → ∀ t, noref r (getN .any l t) = true
  | [], _, t => by simp [getN, noref]
  | x :: l, h, 0 => by simp [noref.norefs] at h; simpa [getN] using h.1
  | x :: l, h, t + 1 => by simp [noref.norefs] at h; simpa [getN] using norefs_getN h.2 t

theorem Rep.put {N : Nat → Prop} {w0 : World} {X : Nat → Prop} {z : Anc} {s : St} {a : Act} {w w' : World} {ρ ρ' : Env} (h : Rep T N w0 X z s a w ρ) {dst d : Option Nat} {x : SV} {u : Value} {mem' : Mem}
    (m' : MRep T N w0 w' X mem' ρ') (hx : Den w' (Forb X mem' ρ') ρ' x u) (t : Turn w (Forb X s.mem ρ) ρ w' (Forb X mem' ρ') ρ' d) (hn : ∀ q, d = some q → ∀ t : Nat, noref q (getN .any s.slots t) = true) (h00 : d ≠ some 0) (hfx : ∀ q, dst = some q → z.fx q = none) :
    Rep T N w0 X z ⟨(s.put dst x).slots, mem'⟩ (a.put dst u) w' ρ' := by
  refine ⟨m', ?_, ?_, fun k => ?_, anch_turn h.m m' h.anch (t.env0 h00), fun k v hk => ?_, fun k hk => ?_, fun hnd => by cases dst <;> exact h.nod hnd⟩
  rotate_left 3
  · have old := h.fix k v hk
    cases dst with
    | none => exact old
    | some q =>
      have hne : q ≠ k := by rintro rfl; rw [hfx q rfl] at hk; cases hk
      simp only [Act.put]
      rw [← old]
      simp [Array.getElem?_setIfInBounds_ne hne]
  · have old := h.len k hk
    cases dst with
    | none => exact old
    | some q => simp only [Act.put, Array.size_setIfInBounds]; exact old
  · have := h.defers.turn t
    cases dst <;> exact this
  · cases dst with
    | none => exact h.size
    | some q => simp only [Act.put, St.put, Array.size_setIfInBounds, setN_length]; exact h.size
  · have old := t.den (fun q hq => hn q hq k) (h.slot k)
    cases dst with
    | none => exact old
    | some q =>
      simp only [St.put, Act.put]
      by_cases hq : q < s.slots.length
      · rw [getN_setN _ _ _ _ _ hq]
        by_cases hk : k = q
        · subst hk
          rw [if_pos rfl]
          have hk' : k < a.tmps.size := by rw [h.size]; exact hq
          simpa [hk'] using hx
        · rw [if_neg hk]
          have : (a.tmps.setIfInBounds q u).getD k undef = a.tmps.getD k undef := by simp [Array.getElem?_setIfInBounds_ne (Ne.symm hk)]
          rw [this]
          exact old
      · have e1 : setN x s.slots q = s.slots := by rw [setN_eq, List.set_eq_of_length_le (by omega)]
        rw [e1]
        have : (a.tmps.setIfInBounds q u).getD k undef = a.tmps.getD k undef := by
          rw [Array.setIfInBounds_eq_of_size_le (by rw [h.size]; omega)]
        rw [this]
        exact old

def Step1 (r : Option Nat) (n : Nat) (P : Program) (all : Array Oper) (o : Oper) (K : Act → World → Prop) (Q : Exit → Act → World → Prop) (a : Act) (w : World) : Prop :=
  if Region.wanted o (yielded all a.tmps) then o.wpIn (FR r) n P a w K Q else (∀ f, o.about P w a.eval = some f → (FR r).fn f) ∧ K (a.put o.dst undef) w

theorem ofValue_noref (d : Nat) (v : Value) : noref d (ofValue v) = true := by
  unfold ofValue
  split
  · rename_i cs
    show noref.norefs d (cs.toList.map ofAtom) = true
    generalize cs.toList = l
    induction l with
    | nil => rfl
    | cons v l ih =>
      simp only [List.map_cons, noref.norefs, ih, Bool.and_true]
      unfold ofAtom
      split <;> rfl
  · unfold ofAtom
    split <;> rfl
theorem noref_ev {s : St} {d : Nat} (h : noref.norefs d s.slots = true) (y : Operand) : noref d (s.ev y) = true := by
  cases y with
  | tmp t => exact norefs_getN h t
  | const v => exact ofValue_noref d v
  | func f => rfl
  | global g =>
    simp only [St.ev]
    split
    · rename_i h; exact glob_noref h d
    · rfl
theorem fresh_ne {s : St} {d : Nat} (h : s.fresh d = true) : d ≠ 0 := by rintro rfl; simp [St.fresh] at h
theorem fresh_iff0 {s : St} {d : Nat} : s.fresh d = true ↔ d ≠ 0 ∧ d < s.slots.length ∧ getM s.mem d = .no ∧ noref.norefs d s.slots = true ∧ memNoref d s.mem = true := by
  unfold St.fresh
  simp only [Bool.and_eq_true, Nat.blt_eq, Bool.not_eq_true']
  constructor
  · rintro ⟨⟨⟨⟨f0, f1⟩, f2⟩, f3⟩, f4⟩
    refine ⟨fun h => by subst h; simp at f0, f1, ?_, f3, f4⟩
    cases hm : getM s.mem d <;> simp_all [isNo]
  · rintro ⟨f0, f1, f2, f3, f4⟩
    exact ⟨⟨⟨⟨by cases h : Nat.beq d 0; rfl; exact absurd (nbeq.1 h) f0, f1⟩, by rw [f2]; rfl⟩, f3⟩, f4⟩
theorem fresh_iff {s : St} {d : Nat} (h0 : d ≠ 0) : s.fresh d = true ↔ d < s.slots.length ∧ getM s.mem d = .no ∧ noref.norefs d s.slots = true ∧ memNoref d s.mem = true := by
  rw [fresh_iff0]
  exact ⟨fun h => h.2, fun h => ⟨h0, h⟩⟩

theorem Stp.sound {all : Array Oper} {o : Oper} {s : St} {x : SV} {U : List (Nat × Blk)} {cr : Option Nat} {f : FP} (hr : Stp P T all o s x U cr f) {N : Nat → Prop} {w0 : World} {X : Nat → Prop} {z : Anc} {a : Act} {w : World} {ρ : Env} (h : Rep T N w0 X z s a w ρ)
    {K : Act → World → Prop} {Q : Exit → Act → World → Prop} (hK : ∀ a' w' ρ', Rep T N w0 X z (nxt o s x U) a' w' ρ' → K a' w') (hfx : ∀ q, o.dst = some q → z.fx q = none) (ro : Option Nat) (nn : Nat) : Step1 ro nn P all o K Q a w := by
  unfold Step1
  cases hr with
  | skip hg =>
    rw [wanted_gd h hg]
    simp only [Bool.false_eq_true, if_false]
    refine ⟨fun _ _ => trivial, ?_⟩
    exact hK _ _ ρ (h.put (dst := o.dst) (x := .val (.tuple #[])) (u := undef) h.m (.val _ _) (Turn.refl _ _ _ none) (fun q hq => by cases hq) (by simp) hfx)
  | run _ _ _ _ e μ hg he hμ hR hU hc hd =>
    rw [wanted_gd h hg, if_pos rfl]
    refine hd.h s.mem (fun q => (hμ q).imp id And.right) (fun d hcr => ?_) a N w0 w X ρ h.m (fun y hy => by rw [← he y hy]; exact h.ev y) K Q (fun u w' ρ' m' hx t => ?_) ro nn
    · obtain ⟨f1, f2, f3, f4⟩ := (fresh_iff (fresh_ne (hc d hcr).2.1)).1 (hc d hcr).2.1
      exact ⟨f2, f4, fun y hy => by rw [← he y hy]; exact noref_ev f3 y⟩
    · refine hK _ _ ρ' (h.put m' hx t (fun q hq k => ?_) (fun h0 => ?_) ?_)
      · exact norefs_getN ((fresh_iff (fresh_ne (hc q hq).2.1)).1 (hc q hq).2.1).2.2.1 k
      · have := (hc 0 h0).2.1
        simp [St.fresh] at this
      · exact hfx

theorem chain_list {all : Array Oper} {N : Nat → Prop} {w0 : World} {X : Nat → Prop} {z : Anc} {k : List FP → St → Prop} {Q : Exit → Act → World → Prop}
    (ro : Option Nat) (nn : Nat) (hQ : ∀ fs s a w ρ, k fs s → Rep T N w0 X z s a w ρ → Q .normal a w) : ∀ (l : List Oper) (D : List (List Nat)) (fs : List FP) (s : St) (a : Act) (w : World) (ρ : Env), Chain P T D all l fs s k → Rep T N w0 X z s a w ρ → (∀ o ∈ l, ∀ q, o.dst = some q → z.fx q = none) → wpListIn (FR ro) nn P all Q l a w
  | [], D, fs, s, a, w, ρ, h, hr, _ => hQ fs s a w ρ (by unfold Chain at h; exact h) hr
  | o :: l, D, fs, s, a, w, ρ, h, hr, hfx => by
    unfold Chain at h
    obtain ⟨x, U, cr, f, h1, _, _, h2⟩ := h
    have := h1.sound hr (K := wpListIn (FR ro) nn P all Q l) (Q := Q) (fun a' w' ρ' hr' => chain_list ro nn hQ l _ _ _ a' w' ρ' h2 hr' (fun p hp => hfx p (by simp [hp]))) (hfx o (by simp)) ro nn
    unfold Step1 at this
    unfold wpListIn
    exact this

theorem reg_seq (tab : Tab P T) (hG : ∀ f c, G f c → ACall P T f c) {id : Nat} {ops : Array Oper} {N : Nat → Prop} {w0 : World} {X : Nat → Prop} {z : Anc} {s : St} {k : St → Prop} {Q : Exit → Act → World → Prop} {a : Act} {w : World} {ρ : Env}
    (h : opsG T G [] ops ops.toList [] s (fun _ s => k s)) (hr : Rep T N w0 X z s a w ρ) (hQ : ∀ s a w ρ, k s → Rep T N w0 X z s a w ρ → Q .normal a w) (hfx : ∀ o ∈ ops.toList, ∀ q, o.dst = some q → z.fx q = none) (ro : Option Nat) (nn : Nat) : (Code.region id ops false).wpIn (FR ro) nn P Q a w :=
  wpIn_region_list (chain_list ro nn (fun fs s a w ρ => hQ s a w ρ) _ _ _ s a w ρ (opsG_chain tab hG _ _ _ _ _ h) hr hfx)
end Go.Proofs.YtligbjbkecmecaaDoor
