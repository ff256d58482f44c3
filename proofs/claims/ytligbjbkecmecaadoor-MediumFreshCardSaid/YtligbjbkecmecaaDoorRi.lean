/- Reading operations, more of them: slices of slices and strings, bytes of strings, strings of bytes. -/
import Derived.Test.YtligbjbkecmecaaDoorXw
import Derived.Laws.Slices
import Derived.Laws.BytesString
import Derived.Laws.BytesArg
namespace Go.Proofs.YtligbjbkecmecaaDoor
set_option linter.unusedVariables false
set_option linter.unusedSimpArgs false
open Go.RowKit
variable {P : Program} {T : Nat → Option TI}

theorem run_slice_gen (w : World) {t el : TypeId} {size : Nat} (ht : P.underlying t = some (.slice el)) (hs : ∀ w, (sizeOf el).run P w = .ok size w) (a : Option Addr) (len cap l h m : Nat) (lo hi mx : Option Value)
    (hm : (mx = none ∧ m = cap) ∨ ∃ k z, mx = some (.int k z) ∧ 0 ≤ z ∧ z ≤ cap ∧ m = z.toNat) (hh : (hi = none ∧ mx = none ∧ h = len) ∨ ∃ k z, hi = some (.int k z) ∧ 0 ≤ z ∧ z ≤ m ∧ h = z.toNat)
    (hl : (lo = none ∧ l = 0) ∨ ∃ k z, lo = some (.int k z) ∧ 0 ≤ z ∧ z ≤ h ∧ l = z.toNat) :
    (Instr.sliceAt t (.slice a len cap) lo hi mx).run P w = .ok (.slice (if m = l then a else a.map (·.add (l * size))) (h - l) (m - l)) w := by
  rcases hm with ⟨rfl, rfl⟩ | ⟨km, zm, rfl, m1, m2, rfl⟩ <;> rcases hh with ⟨rfl, hx, rfl⟩ | ⟨kh, zh, rfl, h1, h2, rfl⟩ <;> rcases hl with ⟨rfl, rfl⟩ | ⟨kl, zl, rfl, l1, l2, rfl⟩ <;>
    first
    | (cases hx; done)
    | (try have em := Int.toNat_of_nonneg m1
       try have eh := Int.toNat_of_nonneg h1
       try have el := Int.toNat_of_nonneg l1
       simp only [Instr.sliceAt, Instr.slice, Instr.sliceBounds, run_underlying ht, Sem.run_bind, Sem.run_pure, Result.andThen_ok, hs, Option.isSome_none, Option.isSome_some, if_true, Bool.false_eq_true, if_false]
       (try rw [run_sliceBound _ _ _ _ _ m1 (by omega)]); (try simp only [Result.andThen_ok, Sem.run_pure])
       (try rw [run_sliceBound _ _ _ _ _ h1 (by omega)]); (try simp only [Result.andThen_ok, Sem.run_pure])
       (try rw [run_sliceBound _ _ _ _ _ l1 (by omega)]); (try simp only [Result.andThen_ok, Sem.run_pure])
       try simp)

theorem run_slice_str (w : World) {t : TypeId} (ht : P.underlying t = some .string) (s : ByteArray) (l h : Nat) (lo hi : Option Value)
    (hh : (hi = none ∧ h = s.size) ∨ ∃ k z, hi = some (.int k z) ∧ 0 ≤ z ∧ z ≤ s.size ∧ h = z.toNat)
    (hl : (lo = none ∧ l = 0) ∨ ∃ k z, lo = some (.int k z) ∧ 0 ≤ z ∧ z ≤ h ∧ l = z.toNat) :
    (Instr.sliceAt t (.string s) lo hi none).run P w = .ok (.string (s.extract l h)) w := by
  rcases hh with ⟨rfl, rfl⟩ | ⟨kh, zh, rfl, h1, h2, rfl⟩ <;> rcases hl with ⟨rfl, rfl⟩ | ⟨kl, zl, rfl, l1, l2, rfl⟩ <;>
    first
    | (cases hx; done)
    | (try have eh := Int.toNat_of_nonneg h1
       try have el := Int.toNat_of_nonneg l1
       simp only [Instr.sliceAt, Instr.slice, Instr.sliceBounds, run_underlying ht, Sem.run_bind, Sem.run_pure, Result.andThen_ok, Option.isSome_none, Bool.false_eq_true, if_false]
       (try rw [run_sliceBound _ _ _ _ _ h1 (by omega)]); (try simp only [Result.andThen_ok])
       (try rw [run_sliceBound _ _ _ _ _ l1 (by omega)]); (try simp only [Result.andThen_ok])
       try simp)
theorem run_slice_arr (w : World) {t el n : Nat} {size : Nat} (ht : P.underlying t = some (.array n el)) (hs : ∀ w, (sizeOf el).run P w = .ok size w) (a : Addr) (l h : Nat) (lo hi : Option Value)
    (hh : (hi = none ∧ h = n) ∨ ∃ k z, hi = some (.int k z) ∧ 0 ≤ z ∧ z ≤ n ∧ h = z.toNat)
    (hl : (lo = none ∧ l = 0) ∨ ∃ k z, lo = some (.int k z) ∧ 0 ≤ z ∧ z ≤ h ∧ l = z.toNat) :
    (Instr.sliceAt t (.pointer (some a)) lo hi none).run P w = .ok (.slice (some (if n = l then a else a.add (l * size))) (h - l) (n - l)) w := by
  rcases hh with ⟨rfl, rfl⟩ | ⟨kh, zh, rfl, h1, h2, rfl⟩ <;> rcases hl with ⟨rfl, rfl⟩ | ⟨kl, zl, rfl, l1, l2, rfl⟩ <;>
    first
    | (cases hx; done)
    | (try have eh := Int.toNat_of_nonneg h1
       try have el := Int.toNat_of_nonneg l1
       simp only [Instr.sliceAt, Instr.sureAddr, asAddr, Instr.sliceBounds, run_underlying ht, Sem.run_bind, Sem.run_pure, Result.andThen_ok, hs, Option.isSome_none, Bool.false_eq_true, if_false]
       (try rw [run_sliceBound _ _ _ _ _ h1 (by omega)]); (try simp only [Result.andThen_ok, Sem.run_pure])
       (try rw [run_sliceBound _ _ _ _ _ l1 (by omega)]); (try simp only [Result.andThen_ok, Sem.run_pure])
       try simp)
/-- A bound of a slice expression. -/
def optI (e : Operand → SV) : Option Operand → Option (Option Int)
  | none => some none
  | some y => (match e y with | .int _ n => some (some n) | _ => none)
def subL (l : List SV) (lo hi : Option Int) : List SV :=
  match lo, hi with
  | none, none => l
  | some a, none => l.drop a.toNat
  | none, some b => l.take b.toNat
  | some a, some b => (l.drop a.toNat).take (b.toNat - a.toNat)
def optSub (c : Option Nat) (k : Nat) : Option Nat := match c with | some c => some (c - k) | none => none
def loN (lo : Option Int) : Nat := match lo with | none => 0 | some a => a.toNat
def subS (s : ByteArray) (lo hi : Option Int) : ByteArray := s.extract (loN lo) (match hi with | none => s.size | some b => b.toNat)
/-- The bounds hold. -/
def bndQ (lo hi mx : Option Int) (len : Nat) (k : Prop) : Prop :=
  match lo, hi, mx with
  | none, none, none => k
  | some a, none, none => Rq (fun _ => 0 ≤ a ∧ a ≤ len) (fun _ => k)
  | none, some b, none => Rq (fun _ => 0 ≤ b ∧ b ≤ len) (fun _ => k)
  | some a, some b, none => Rq (fun _ => 0 ≤ a ∧ a ≤ b ∧ b ≤ len) (fun _ => k)
  | none, some b, some m => Rq (fun _ => 0 ≤ b ∧ b ≤ m ∧ m ≤ len) (fun _ => k)
  | some a, some b, some m => Rq (fun _ => 0 ≤ a ∧ a ≤ b ∧ b ≤ m ∧ m ≤ len) (fun _ => k)
  | _, none, some _ => False
theorem bndQ_k {lo hi mx : Option Int} {len : Nat} {k : Prop} (h : bndQ lo hi mx len k) : k := by
  cases lo <;> cases hi <;> cases mx <;> simp only [bndQ] at h <;> first | exact h | exact h.k | exact h.elim
/-- The length of a part. -/
def subN (lo hi : Option Int) (len : Nat) : Nat := match hi with | none => len - loN lo | some b => b.toNat - loN lo
def byteAt (s : ByteArray) (n : Int) : Int := ((s.data.toList[n.toNat]?).getD 0).toNat

noncomputable def subLO (l : List SV) (lo hi : Option Int) : List SV :=
  match lo, hi with
  | none, none => l
  | some a, none => O.dr a l
  | none, some b => O.tk b l
  | some a, some b => O.sg l (O.tn a) (O.si b a)
theorem subLO_eq (l : List SV) (lo hi : Option Int) : subLO l lo hi = subL l lo hi := by
  cases lo <;> cases hi <;> simp [subLO, subL, O.hdr, O.htk, O.hsg, O.htn, O.hsi]
noncomputable def loA (a : Nat) (lo : Option Int) : Nat := match lo with | none => a | some z => O.ad a z
theorem loA_eq (a : Nat) (lo : Option Int) : loA a lo = a + loN lo := by cases lo <;> simp [loA, loN, O.had]
noncomputable def subNO (lo hi : Option Int) (n : Nat) : Nat := match lo, hi with
  | none, none => n
  | some a, none => O.sb n a
  | none, some b => O.tn b
  | some a, some b => O.si b a
theorem subNO_eq (lo hi : Option Int) (n : Nat) : subNO lo hi n = subN lo hi n := by
  cases lo <;> cases hi <;> simp [subNO, subN, loN, O.hsb, O.htn, O.hsi]
noncomputable def subI (m : Int) (lo : Option Int) : Nat := match lo with | none => O.tn m | some a => O.si m a
theorem subI_eq (m : Int) (lo : Option Int) : subI m lo = m.toNat - loN lo := by cases lo <;> simp [subI, loN, O.htn, O.hsi]
noncomputable def optSubO (c : Option Nat) (lo : Option Int) : Option Nat := match c, lo with
  | none, _ => none
  | some c, none => some c
  | some c, some a => some (O.sb c a)
theorem optSubO_eq (c : Option Nat) (lo : Option Int) : optSubO c lo = optSub c (loN lo) := by cases c <;> cases lo <;> simp [optSubO, optSub, loN, O.hsb]

def sval (T : Nat → Option TI) (op : Op) (e : Operand → SV) (μ : Nat → Blk) (κ : SV → Prop) : Prop :=
  match op with
  | .slice t x lo hi mx => (match T t, optI e lo, optI e hi, optI e mx with
    | some i, some lo, some hi, some mx => (match i.kind with
      | .slice el => (match T el with
        | some j => (match listOf μ j.shape (e x) with
          | some l => bndQ lo hi mx (O.ln l) (match e x with
            | .lst s l => κ (.lst s (subLO l lo hi))
            | .nil => κ .nil
            | .row r => (match μ r with
              | .row _ _ _ => (match mx with | some m => κ (.rsl r j.shape (loA 0 lo) (subNO lo hi (O.ln l)) (some (subI m lo))) | none => κ (.rsl r j.shape (loA 0 lo) (subNO lo hi (O.ln l)) none))
              | _ => κ (.lst j.shape (subLO l lo hi)))
            | .rsl r s a n c => (match mx with
              | none => κ (.rsl r s (loA a lo) (subNO lo hi n) (optSubO c lo))
              | some m => κ (.rsl r s (loA a lo) (subNO lo hi n) (some (subI m lo))))
            | _ => False)
          | none => False)
        | none => False)
      | .array n el => (match T el, e x, mx with
        | some j, .ptr r o, none => if shEq none j.shape && Nat.beq j.size 1 then bndQ lo hi none n (κ (.rsl r none (loA o lo) (subNO lo hi n) (some (subI n lo)))) else False
        | some j, .eptr (some _) (.agg l) o, none => if shEq none j.shape && Nat.beq j.size 1 && Nat.ble (o + n) l.length && allIntB ((l.drop o).take n) then bndQ lo hi none n (κ (.lst none (subLO ((l.drop o).take n) lo hi))) else False
        | _, _, _ => False)
      | .string => (match e x, mx with
        | .str s, none => bndQ lo hi none s.size (QV (fun z => z = subS s lo hi) (fun z => κ (.str z)))
        | _, _ => False)
      | _ => False)
    | _, _, _, _ => False)
  | .index t x ix => (match T t, e ix with
    | some i, .int _ n => (match i.kind, e x with
      | .string, .str s => Q1 (fun _ => 0 ≤ n ∧ n < s.size) (fun z => z = byteAt s n) (fun z => κ (.int .u8 z))
      | _, _ => False)
    | _, _ => False)
  | .convert s t x => (match T s, T t with
    | some i, some j => (match i.kind, j.kind with
      | .slice el, .string => (match T el with
        | some k => (match k.kind, listOf μ none (e x) with
          | .int .u8, some l => QV (fun bs => l = O.by' bs) (fun bs => κ (.str bs))
          | _, _ => False)
        | none => False)
      | _, _ => False)
    | _, _ => False)
  | _ => False

theorem optI_some {e : Operand → SV} {y : Option Operand} {z : Option Int} (h : optI e y = some z) {w : World} {X : Nat → Prop} {ρ : Env} {a : Act} (hd : ∀ x, y = some x → Den w X ρ (e x) (a.eval x)) :
    (y.map a.eval = none ∧ z = none) ∨ ∃ k n, y.map a.eval = some (.int k n) ∧ z = some n := by
  cases y with
  | none => simp only [optI] at h; injection h with h; exact .inl ⟨rfl, h.symm⟩
  | some x =>
    simp only [optI] at h
    cases hx : e x with
    | int k n =>
      rw [hx] at h
      injection h with h
      have := hd x rfl
      rw [hx, Den.int_iff] at this
      exact .inr ⟨k, n, by simp [this], h.symm⟩
    | _ => rw [hx] at h; cases h

theorem bndQ_mono {lo hi mx : Option Int} {len len' : Nat} {k : Prop} (h : bndQ lo hi mx len k) (hl : len ≤ len') (hx : hi = none → len = len') : bndQ lo hi mx len' k := by
  cases lo <;> cases hi <;> cases mx <;> simp only [bndQ] at h ⊢ <;> first
    | exact h
    | (have := hx rfl; subst this; exact h)
    | (refine ⟨?_, h.k⟩; have := h.p; omega)

/-- The bounds as the model has them. -/
theorem bnd_run {lo hi mx : Option Int} {len cap : Nat} {k : Prop} (h : bndQ lo hi mx len k) (hc : len ≤ cap) {vl vh vm : Option Value} (hl : (vl = none ∧ lo = none) ∨ ∃ k n, vl = some (.int k n) ∧ lo = some n) (hh : (vh = none ∧ hi = none) ∨ ∃ k n, vh = some (.int k n) ∧ hi = some n) (hm : (vm = none ∧ mx = none) ∨ ∃ k n, vm = some (.int k n) ∧ mx = some n) :
    ∃ l hh' m : Nat, ((vm = none ∧ m = cap) ∨ ∃ k z, vm = some (.int k z) ∧ 0 ≤ z ∧ z ≤ cap ∧ m = z.toNat) ∧ ((vh = none ∧ vm = none ∧ hh' = len) ∨ ∃ k z, vh = some (.int k z) ∧ 0 ≤ z ∧ z ≤ m ∧ hh' = z.toNat) ∧ ((vl = none ∧ l = 0) ∨ ∃ k z, vl = some (.int k z) ∧ 0 ≤ z ∧ z ≤ hh' ∧ l = z.toNat) ∧
      l = loN lo ∧ hh' - l = subN lo hi len ∧ l ≤ hh' ∧ hh' ≤ len ∧ hh' ≤ m ∧ m ≤ cap ∧ (mx = none → m = cap) ∧ (∀ z, mx = some z → m = z.toNat ∧ m ≤ len) := by
  rcases hl with ⟨rfl, rfl⟩ | ⟨kl, zl, rfl, rfl⟩ <;> rcases hh with ⟨rfl, rfl⟩ | ⟨kh, zh, rfl, rfl⟩ <;> rcases hm with ⟨rfl, rfl⟩ | ⟨km, zm, rfl, rfl⟩ <;> simp only [bndQ] at h
  · exact ⟨0, len, cap, .inl ⟨rfl, rfl⟩, .inl ⟨rfl, rfl, rfl⟩, .inl ⟨rfl, rfl⟩, rfl, rfl, by omega, by omega, hc, by omega, fun _ => rfl, fun z hz => by cases hz⟩
  · have hp := h.p
    exact ⟨0, zh.toNat, cap, .inl ⟨rfl, rfl⟩, .inr ⟨_, _, rfl, by omega, by omega, rfl⟩, .inl ⟨rfl, rfl⟩, rfl, by simp [subN, loN], by omega, by omega, by omega, by omega, fun _ => rfl, fun z hz => by cases hz⟩
  · have hp := h.p
    exact ⟨0, zh.toNat, zm.toNat, .inr ⟨_, _, rfl, by omega, by omega, rfl⟩, .inr ⟨_, _, rfl, by omega, by omega, rfl⟩, .inl ⟨rfl, rfl⟩, rfl, by simp [subN, loN], by omega, by omega, by omega, by omega, (fun hx => by cases hx), fun z hz => by injection hz with hz; subst hz; exact ⟨rfl, by omega⟩⟩
  · have hp := h.p
    exact ⟨zl.toNat, len, cap, .inl ⟨rfl, rfl⟩, .inl ⟨rfl, rfl, rfl⟩, .inr ⟨_, _, rfl, by omega, by omega, rfl⟩, rfl, by simp [subN, loN], by omega, by omega, hc, by omega, fun _ => rfl, fun z hz => by cases hz⟩
  · have hp := h.p
    exact ⟨zl.toNat, zh.toNat, cap, .inl ⟨rfl, rfl⟩, .inr ⟨_, _, rfl, by omega, by omega, rfl⟩, .inr ⟨_, _, rfl, by omega, by omega, rfl⟩, rfl, by simp [subN, loN], by omega, by omega, by omega, by omega, fun _ => rfl, fun z hz => by cases hz⟩
  · have hp := h.p
    exact ⟨zl.toNat, zh.toNat, zm.toNat, .inr ⟨_, _, rfl, by omega, by omega, rfl⟩, .inr ⟨_, _, rfl, by omega, by omega, rfl⟩, .inr ⟨_, _, rfl, by omega, by omega, rfl⟩, rfl, by simp [subN, loN], by omega, by omega, by omega, by omega, (fun hx => by cases hx), fun z hz => by injection hz with hz; subst hz; exact ⟨rfl, by omega⟩⟩

theorem subL_eq {l : List SV} {lo hi : Option Int} : subL l lo hi = (l.drop (loN lo)).take (subN lo hi l.length) := by
  cases lo <;> cases hi <;> simp only [subL, subN, loN]
  · simp
  · simp
  · rw [List.take_of_length_le (by simp)]

theorem sval_ok (tys : Types P T) (sz : Sizes T) {o : Oper} {e : Operand → SV} {μ : Nat → Blk} {κ : SV → Prop} (h : sval T o.op e μ κ) : ∃ v, κ v ∧ RdOk P T o e μ v := by
  generalize ho : o.op = op at h
  cases op
  case slice t x lo hi mx =>
    simp only [sval, O.hln, subLO_eq, loA_eq, subNO_eq, subI_eq, optSubO_eq, Nat.zero_add] at h
    split at h <;> try exact h.elim
    rename_i i zlo zhi zmx ht hlo hhi hmx
    have hops : ∀ (mem : Mem) (a : Act) (w : World) (X : Nat → Prop) (ρ : Env), (∀ y ∈ o.op.operands, Den w X ρ (e y) (a.eval y)) → Den w X ρ (e x) (a.eval x) ∧ ((lo.map a.eval = none ∧ zlo = none) ∨ ∃ k n, lo.map a.eval = some (.int k n) ∧ zlo = some n) ∧
        ((hi.map a.eval = none ∧ zhi = none) ∨ ∃ k n, hi.map a.eval = some (.int k n) ∧ zhi = some n) ∧ ((mx.map a.eval = none ∧ zmx = none) ∨ ∃ k n, mx.map a.eval = some (.int k n) ∧ zmx = some n) := by
      intro mem a w X ρ hd
      rw [ho] at hd
      simp only [Op.operands] at hd
      exact ⟨hd x (by simp), optI_some hlo (fun y hy => hd y (by simp [hy])), optI_some hhi (fun y hy => hd y (by simp [hy])), optI_some hmx (fun y hy => hd y (by simp [hy]))⟩
    split at h <;> try exact h.elim
    · rename_i el hk
      split at h <;> try exact h.elim
      rename_i j hj
      split at h <;> try exact h.elim
      rename_i l hl
      have ti := tys.ok t i ht
      have tj := tys.ok el j hj
      have hw := TI.wid_size (sz.one _ _ hj)
      have key : ∀ v, (∀ (mem : Mem), Sees μ mem → ∀ (a : Act) (N : Nat → Prop) (w0 w : World) (X : Nat → Prop) (ρ : Env), MRep T N w0 w X mem ρ → Den w (Forb X mem ρ) ρ (e x) (a.eval x) → ∀ ad c, a.eval x = .slice ad l.length c → l.length ≤ c → ∀ l1 h1 m1 : Nat, l1 = loN zlo → h1 - l1 = subN zlo zhi l.length → l1 ≤ h1 → h1 ≤ l.length → h1 ≤ m1 → m1 ≤ c → (zmx = none → m1 = c) → (∀ z, zmx = some z → m1 = z.toNat ∧ m1 ≤ l.length) →
          Den w (Forb X mem ρ) ρ v (.slice (if m1 = l1 then ad else ad.map (·.add (l1 * j.size))) (h1 - l1) (m1 - l1))) → RdOk P T o e μ v := by
        intro v hv
        refine ⟨fun mem hμ a N w0 w X ρ m hd => ?_⟩
        obtain ⟨d1, d2, d3, d4⟩ := hops mem a w _ ρ hd
        obtain ⟨ad, c, e1, e2, _⟩ := listOf_den hμ m hl d1
        obtain ⟨l1, h1, m1, g1, g2, g3, g4, g5, g6, g7, g8, g9, g10, g11⟩ := bnd_run h e2 d2 d3 d4
        have hr := run_slice_gen (P := P) w (ti.und_slice hk) (fun w => tj.sizeOf w) ad l.length c l1 h1 m1 _ _ _ g1 g2 g3
        refine ⟨_, by simp only [execOp, ho, e1, Sem.run_bind, hr, Result.andThen_ok, Sem.run_pure], hv mem hμ a N w0 w X ρ m d1 ad c e1 e2 l1 h1 m1 g4 g5 g6 g7 g8 g9 g10 g11⟩
      have onList : live μ (e x) = false → RdOk P T o e μ (.lst j.shape (subL l zlo zhi)) := by
        intro hlive
        refine key _ fun mem hμ a N w0 w X ρ m hd ad c e1 e2 l1 h1 m1 g4 g5 g6 g7 g8 g9 g10 g11 => ?_
        obtain ⟨ad', c', f1, f2, f3⟩ := listOf_den hμ m hl hd
        rw [e1] at f1
        injection f1 with f1 _ f4
        subst f1; subst f4
        rw [subL_eq, ← g4, ← g5]
        by_cases hm : m1 = l1
        · rw [if_pos hm]
          have : h1 - l1 = 0 := by omega
          rw [this, List.take_zero]
          exact .lst0 _ _ _ _
        · rw [if_neg hm]
          rcases f3 with rfl | ⟨b, off, us, rfl, p1, p2, p3, p6, p4, p5⟩
          · have : h1 - l1 = 0 := by simp at g7; omega
            rw [this, List.take_zero]
            exact .lst0 _ _ _ _
          · have hx : ¬ Forb X mem ρ b := p2.resolve_right fun h => by rw [hlive] at h; cases h.2
            have := SliceAt.part (w := w) (Y := Forb X mem ρ) (ok := fun b => ¬ Forb X mem ρ b) (a := l1) (n := h1 - l1) (c := m1 - l1) p1 hx p3 p6 p4 p5 (by omega) (by omega)
            have := this.lst (Z := Forb X mem ρ) (ρ := ρ) (fun b _ h => h) (fun b h => h)
            simpa [hw, addr_add] using this
      have hk' := bndQ_k h
      cases hx : e x with
      | lst s l' =>
        simp only [hx] at hk' hl
        simp only [listOf] at hl
        split at hl
        case isFalse => cases hl
        rename_i hs
        have hs := shEq_eq hs
        injection hl with hl
        subst hl; subst hs
        exact ⟨_, hk', onList (by rw [hx]; rfl)⟩
      | nil =>
        simp only [hx] at hk' hl
        simp only [listOf] at hl
        injection hl with hl
        subst hl
        refine ⟨_, hk', key _ fun mem hμ a N w0 w X ρ m hd ad c e1 e2 l1 h1 m1 g4 g5 g6 g7 g8 g9 g10 g11 => ?_⟩
        rw [hx] at hd
        rw [e1] at hd
        cases hd
        simp at g7 g9
        subst g7; subst g9
        have : l1 = 0 := by omega
        subst this
        simp
        exact .nil _
      | row r =>
        simp only [hx] at hk' hl
        cases hm : μ r with
        | row s' e' l' =>
          simp only [hm] at hk'
          have core : ∀ c2 : Option Nat, (zmx = none → c2 = none) → (∀ z, zmx = some z → c2 = some (z.toNat - loN zlo)) → RdOk P T o e μ (.rsl r j.shape (loN zlo) (subN zlo zhi l.length) c2) := by
            intro c2 hc1 hc2
            refine key _ fun mem hμ a N w0 w X ρ m hd ad c e1 e2 l1 h1 m1 g4 g5 g6 g7 g8 g9 g10 g11 => ?_
            rw [hx] at hd
            rw [e1] at hd
            rw [← g4, ← g5]
            cases hd with
            | row _ _ _ _ _ hr =>
              refine .rsl _ _ _ _ _ _ _ _ (by omega) fun q hq => ?_
              have := hr _ hq
              subst this
              refine .inl ⟨ad, _, _, rfl, by omega, by omega, fun hz => ?_, fun z hz => ?_, ?_⟩
              · cases hzm : zmx with
                | none => rw [g10 hzm]
                | some z => rw [hc2 z hzm] at hz; cases hz
              · cases hzm : zmx with
                | none => rw [hc1 hzm] at hz; cases hz
                | some z' => rw [hc2 z' hzm] at hz; injection hz with hz; rw [(g11 z' hzm).1, g4]; exact hz
              · by_cases hml : m1 = l1
                · exact .inl (by omega)
                · rw [if_neg hml]
                  right
                  obtain ⟨rv, q1, _, q4⟩ := hμ.rowAt m hm
                  rw [hq] at q1
                  injection q1 with q1
                  rcases q4 with ⟨a0, rfl, _⟩ | ⟨b, off, cap, cur, rfl, _⟩
                  · injection q1 with _ _ q5
                    omega
                  · injection q1 with q1 _ _
                    exact ⟨b, off, q1, by rw [q1]; simp [addr_add, hw]⟩
          cases hz : zmx with
          | none =>
            simp only [hz] at hk'
            exact ⟨_, hk', core _ (fun _ => rfl) (fun z hz' => by rw [hz] at hz'; cases hz')⟩
          | some m0 =>
            simp only [hz] at hk'
            exact ⟨_, hk', core _ (fun hz' => by rw [hz] at hz'; cases hz') (fun z hz' => by rw [hz] at hz'; injection hz' with hz'; subst hz'; rfl)⟩
        | frz s' l' =>
          simp only [hm] at hk'
          exact ⟨_, hk', onList (by rw [hx]; simp [live, hm, liveB])⟩
        | _ => rw [listOf, hm] at hl; simp [listB] at hl
      | rsl r s a n c =>
        simp only [hx] at hk' hl
        have hsj : s = j.shape := by
          simp only [listOf] at hl
          split at hl
          · rename_i hs; exact shEq_eq hs
          · cases hl
        have core : ∀ c2 : Option Nat, (zmx = none → c2 = optSub c (loN zlo)) → (∀ z, zmx = some z → c2 = some (z.toNat - loN zlo)) → RdOk P T o e μ (.rsl r s (a + loN zlo) (subN zlo zhi n) c2) := by
          intro c2 hc1 hc2
          refine key _ fun mem hμ ac N w0 w X ρ m hd ad c' e1 e2 l1 h1 m1 g4 g5 g6 g7 g8 g9 g10 g11 => ?_
          rw [hx] at hd
          rw [e1] at hd
          have hns : ∃ q A B C, ρ r = some q ∧ q = .slice A B C := by
            simp only [listOf] at hl
            split at hl
            case isFalse => cases hl
            cases hl' : listB j.shape (μ r) with
            | none => rw [hl'] at hl; cases hl
            | some k =>
              obtain ⟨q, g1, A, C, g2, _⟩ := listB_den hμ m hl'
              exact ⟨q, A, _, C, g1, g2⟩
          generalize hll : l.length = L at *
          cases hd with
          | rsl _ _ _ _ _ _ _ _ hcc hr =>
            rw [← g4, ← g5]
            refine .rsl _ _ _ _ _ _ _ _ (by omega) fun q hq => ?_
            obtain ⟨x0, len, cap, e3, e4, e5, e6, e7, e8⟩ := (hr _ hq).resolve_right (by
              rintro ⟨_, h, _⟩
              obtain ⟨q', A, B, C, k1, k2⟩ := hns
              rw [hq] at k1
              injection k1 with k1
              rw [k1, k2] at h
              cases h)
            refine .inl ⟨x0, len, cap, e3, by omega, by omega, fun hz => ?_, fun z hz => ?_, ?_⟩
            · cases hzm : zmx with
              | none =>
                rw [hc1 hzm] at hz
                cases c with
                | none => rw [g10 hzm, e6 rfl]; omega
                | some k => cases hz
              | some z => rw [hc2 z hzm] at hz; cases hz
            · cases hzm : zmx with
              | none =>
                rw [hc1 hzm] at hz
                cases c with
                | none => cases hz
                | some k => injection hz with hz; rw [g10 hzm, e7 k rfl, g4]; exact hz
              | some z' => rw [hc2 z' hzm] at hz; injection hz with hz; rw [(g11 z' hzm).1, g4]; exact hz
            · by_cases hml : m1 = l1
              · exact .inl (by omega)
              · rw [if_neg hml]
                right
                rcases e8 with e8 | ⟨b, off, e8, e9⟩
                · omega
                · refine ⟨b, off, e8, ?_⟩
                  rw [e9]
                  simp only [Option.map_some, addr_add, hsj, ← hw, Nat.add_mul, Nat.add_assoc]
        cases hz : zmx with
        | none =>
          simp only [hz] at hk'
          exact ⟨_, hk', core _ (fun _ => rfl) (fun z hz' => by rw [hz] at hz'; cases hz')⟩
        | some m0 =>
          simp only [hz] at hk'
          exact ⟨_, hk', core _ (fun hz' => by rw [hz] at hz'; cases hz') (fun z hz' => by rw [hz] at hz'; injection hz' with hz'; subst hz'; rfl)⟩
      | _ => simp only [hx] at hk'
    · rename_i n el hk
      split at h <;> try exact h.elim
      · rename_i j r o hj hx
        split at h
        case isFalse => exact h.elim
        rename_i hc
        simp only [Bool.and_eq_true] at hc
        have hsz : j.size = 1 := Nat.eq_of_beq_eq_true hc.2
        have ti := tys.ok t i ht
        have tj := tys.ok el j hj
        refine ⟨_, bndQ_k h, ⟨fun mem hμ a N w0 w X ρ m hd => ?_⟩⟩
        obtain ⟨d1, d2, d3, d4⟩ := hops mem a w _ ρ hd
        rw [hx] at d1
        have d4' : mx.map a.eval = none := by
          rcases d4 with d4 | ⟨_, _, _, d4⟩
          · exact d4.1
          · cases d4
        obtain ⟨l1, h1, m1, g1, g2, g3, g4, g5, g6, g7, g8, g9, g10, g11⟩ := bnd_run h (Nat.le_refl _) d2 d3 (.inl ⟨d4', rfl⟩)
        have hm1 : m1 = n := g10 rfl
        subst hm1
        generalize hv : a.eval x = v at d1
        cases d1 with
        | ptr _ _ _ b hb =>
          have hr := run_slice_arr (P := P) w (ti.und_array hk) (fun w => tj.sizeOf w) ⟨b, o, none⟩ l1 h1 _ _ (g2.imp (fun g => ⟨g.1, g.2.2⟩) (fun ⟨k, z, a1, a2, a3, a4⟩ => ⟨k, z, a1, a2, a3, a4⟩)) g3
          refine ⟨.slice (some (if m1 = l1 then ⟨b, o, none⟩ else Addr.add ⟨b, o, none⟩ (l1 * j.size))) (h1 - l1) (m1 - l1), by simp only [execOp, ho, hv, d4', Sem.run_bind, hr, Result.andThen_ok, Sem.run_pure], ?_⟩
          rw [← g4, ← g5]
          refine .rsl _ _ _ _ _ _ _ _ (by omega) fun q hq => .inr ⟨b, hb q hq, rfl, ?_, fun m hm => ?_⟩
          · by_cases hm : m1 = l1
            · exact .inl (by omega)
            · right
              rw [if_neg hm]
              (try simp [hsz, addr_add])
          · injection hm with hm
            (try rw [← hm])
      rename_i j q l o hj hx
      split at h
      case isFalse => exact h.elim
      rename_i hc
      simp only [Bool.and_eq_true] at hc
      have c1 := hc.1.1.2
      have c2 : o + n ≤ l.length := Nat.le_of_ble_eq_true hc.1.2
      have c3 := hc.2
      have hsz : j.size = 1 := Nat.eq_of_beq_eq_true c1
      have ti := tys.ok t i ht
      have tj := tys.ok el j hj
      refine ⟨_, bndQ_k h, ⟨fun mem hμ a N w0 w X ρ m hd => ?_⟩⟩
      obtain ⟨d1, d2, d3, d4⟩ := hops mem a w _ ρ hd
      rw [hx] at d1
      have d4' : mx.map a.eval = none := by
        rcases d4 with d4 | ⟨_, _, _, d4⟩
        · exact d4.1
        · cases d4
      obtain ⟨l1, h1, m1, g1, g2, g3, g4, g5, g6, g7, g8, g9, g10, g11⟩ := bnd_run h (Nat.le_refl _) d2 d3 (.inl ⟨d4', rfl⟩)
      have hm1 : m1 = n := g10 rfl
      subst hm1
      generalize hv : a.eval x = v at d1
      cases d1 with
      | eptr _ _ _ _ b oo us hb hx' hu hl hd' =>
        have hr := run_slice_arr (P := P) w (ti.und_array hk) (fun w => tj.sizeOf w) ⟨b, oo + o, none⟩ l1 h1 _ _ (g2.imp (fun g => ⟨g.1, g.2.2⟩) (fun ⟨k, z, a1, a2, a3, a4⟩ => ⟨k, z, a1, a2, a3, a4⟩)) g3
        refine ⟨.slice (some (if m1 = l1 then ⟨b, oo + o, none⟩ else Addr.add ⟨b, oo + o, none⟩ (l1 * j.size))) (h1 - l1) (m1 - l1), by simp only [execOp, ho, hv, d4', Sem.run_bind, hr, Result.andThen_ok, Sem.run_pure], ?_⟩
        have hL : ((l.drop o).take m1).length = m1 := by simp; omega
        rw [subL_eq, hL, ← g4, ← g5]
        by_cases hm : m1 = l1
        · rw [if_pos hm]
          have : h1 - l1 = 0 := by omega
          rw [this, List.take_zero]
          exact .lst0 _ _ _ _
        · rw [if_neg hm]
          rw [valAt_some_full (by simp only [wid] at hl; omega)] at hd'
          obtain ⟨cs, hcs, hdl⟩ := Den.agg_iff.1 hd'
          injection hcs with hcs
          injection hcs with hcs
          subst hcs
          have hK : ((((l.drop o).take m1).drop l1).take (h1 - l1)).length = h1 - l1 := by rw [List.length_take, List.length_drop, hL]; omega
          have hget : ∀ (i : Nat) (x : SV), ((((l.drop o).take m1).drop l1).take (h1 - l1))[i]? = some x → l[o + l1 + i]? = some x ∧ ((l.drop o).take m1)[l1 + i]? = some x ∧ i < h1 - l1 := by
            intro i x hi
            have hlt : i < h1 - l1 := by have := (List.getElem?_eq_some_iff.1 hi).1; omega
            rw [List.getElem?_take, if_pos hlt, List.getElem?_drop] at hi
            refine ⟨?_, hi, hlt⟩
            rw [List.getElem?_take, if_pos (by omega), List.getElem?_drop] at hi
            rw [← hi]; congr 1; omega
          have key := Den.lst (w := w) (X := Forb X mem ρ) ρ none ((((l.drop o).take m1).drop l1).take (h1 - l1)) b (oo + o + l1) (m1 - l1) ((us.drop (o + l1)).take (h1 - l1)) hb hx' (by rw [hK]; omega)
            (fun k u hk => by
              have hlt : k < h1 - l1 := by
                have := (List.getElem?_eq_some_iff.1 hk).1
                simp at this; omega
              rw [List.getElem?_take, if_pos hlt, List.getElem?_drop] at hk
              have := hu _ u hk
              rw [← this]; congr 2; omega)
            (by rw [hK]; have := hdl.1; simp [wid]; omega)
            (fun u hu' => by
              obtain ⟨k, hk⟩ := List.mem_iff_getElem?.1 hu'
              have hlt : k < h1 - l1 := by
                have := (List.getElem?_eq_some_iff.1 hk).1
                simp at this; omega
              rw [List.getElem?_take, if_pos hlt, List.getElem?_drop] at hk
              have hkl : k < ((((l.drop o).take m1).drop l1).take (h1 - l1)).length := by omega
              obtain ⟨e1, e2, _⟩ := hget k _ (List.getElem?_eq_getElem hkl)
              obtain ⟨kk, z, hz⟩ := allIntB_get c3 _ _ e2
              have := hdl.2 _ _ _ e1 hk
              rw [hz, Den.int_iff] at this
              rw [this]; rfl)
            (fun k hk => by
              obtain ⟨e1, e2, e3⟩ := hget k _ (List.getElem?_eq_getElem hk)
              have hlu : o + l1 + k < us.length := by have := hdl.1; omega
              have := hdl.2 _ _ _ e1 (List.getElem?_eq_getElem hlu)
              simp only [valAt, List.getElem?_take, if_pos e3, List.getElem?_drop, List.getElem?_eq_getElem hlu, Option.getD_some]
              exact this)
          rw [hK] at key
          simpa [hsz, addr_add, Nat.add_assoc] using key
    · rename_i hk
      split at h <;> try exact h.elim
      rename_i s hx
      obtain ⟨zz, hzz, hkk⟩ := (bndQ_k h).h
      subst hzz
      refine ⟨_, hkk, ⟨fun mem hμ a N w0 w X ρ m hd => ?_⟩⟩
      obtain ⟨d1, d2, d3, d4⟩ := hops mem a w _ ρ hd
      rw [hx, Den.str_iff] at d1
      have d4' : mx.map a.eval = none := by
        rcases d4 with d4 | ⟨_, _, _, d4⟩
        · exact d4.1
        · cases d4
      obtain ⟨l1, h1, m1, g1, g2, g3, g4, g5, g6, g7, g8, g9, g10, g11⟩ := bnd_run h (Nat.le_refl _) d2 d3 (.inl ⟨d4', rfl⟩)
      have hm1 : m1 = s.size := g10 rfl
      have hr := run_slice_str (P := P) w ((tys.ok t i ht).und_string hk) s l1 h1 _ _ (g2.imp (fun g => ⟨g.1, g.2.2⟩) (fun ⟨k, z, a1, a2, a3, a4⟩ => ⟨k, z, a1, a2, by omega, a4⟩)) g3
      refine ⟨.string (s.extract l1 h1), by simp only [execOp, ho, d1, d4', Sem.run_bind, hr, Result.andThen_ok, Sem.run_pure], ?_⟩
      have : s.extract l1 h1 = subS s zlo zhi := by
        unfold subS
        rw [g4]
        congr 1
        rcases d3 with ⟨d3, rfl⟩ | ⟨k, n, d3, rfl⟩
        · rcases g2 with ⟨_, _, g2⟩ | ⟨k, z, g2, _⟩
          · exact g2
          · rw [d3] at g2; cases g2
        · rcases g2 with ⟨g2, _⟩ | ⟨k', z, g2, _, _, g2'⟩
          · rw [d3] at g2; cases g2
          · rw [d3] at g2; injection g2 with g2; injection g2 with _ g2; rw [g2', g2]
      rw [this]
      exact .str _ _
  case index t x ix =>
    simp only [sval] at h
    split at h <;> try exact h.elim
    rename_i i k n ht hix
    split at h <;> try exact h.elim
    rename_i s hk hx
    have hp := h.h.1
    refine ⟨_, h.h.2 _ rfl, ⟨fun mem hμ a N w0 w X ρ m hd => ?_⟩⟩
    rw [ho] at hd
    have d1 := hd x (by simp [Op.operands])
    have d2 := hd ix (by simp [Op.operands])
    rw [hx, Den.str_iff] at d1
    rw [hix, Den.int_iff] at d2
    have hlt : n.toNat < s.size := by omega
    refine ⟨.int .u8 (byteAt s n), ?_, .int _ _ _⟩
    have hb : byteAt s n = (s[n.toNat]'hlt).toNat := by
      simp only [byteAt]
      rw [List.getElem?_eq_getElem (by simpa using hlt)]
      rfl
    simp only [execOp, ho, d1, d2, Instr.index, asIntOf, Sem.run_bind, Sem.run_pure, Result.andThen_ok, run_underlying ((tys.ok t i ht).und_string hk), if_pos hp.1]
    rw [getElem?_pos s n.toNat hlt]
    simp [hb]
  case convert s t x =>
    simp only [sval, O.by_eq] at h
    split at h <;> try exact h.elim
    rename_i i j hs ht
    split at h <;> try exact h.elim
    rename_i el hk hk2
    split at h <;> try exact h.elim
    rename_i k hel
    split at h <;> try exact h.elim
    rename_i l hk3 hl
    obtain ⟨bs, rfl, h'⟩ := h.h
    refine ⟨_, h', ⟨fun mem hμ a N w0 w X ρ m hd => ?_⟩⟩
    rw [ho] at hd
    have hd := hd x (by simp [Op.operands])
    obtain ⟨ad, c, e1, e2, e3⟩ := listOf_den hμ m hl hd
    have us := (tys.ok s i hs).und_slice hk
    have ue := (tys.ok el k hel).und_int hk3
    have ud := (tys.ok t j ht).und_string hk2
    refine ⟨.string bs, ?_, .str _ _⟩
    have hbl : (bytesSV bs).length = bs.size := by simp [bytesSV]
    have hr : (convert s t (a.eval x)).run P w = .ok (.string bs) w := by
      rw [e1]
      by_cases h0 : bs.size = 0
      · have hbs : bs = .empty := by
          apply ByteArray.ext
          exact Array.eq_empty_of_size_eq_zero h0
        subst hbs
        cases ad with
        | none => exact run_convert_bytes_nil w s el us ue _ _ t ud
        | some q =>
          rw [run_convert_bytes_string w s t el _ _ _ us ue ud]
          simp [hbl, Conv.bytesToString, loadCells, loadCellsFrom]
      · rcases e3 with e3 | ⟨b, off, us', rfl, p1, p2, p3, p6, p4, p5⟩
        · rw [e3] at hbl; simp at hbl; omega
        · have hget : ∀ q, q < bs.size → us'[q]? = some (.int .u8 ((bs.data.toList.map (fun b => (b.toNat : Int))).getD q 0)) := by
            intro q hq
            have hq' : q < (bytesSV bs).length := by omega
            have h5 := p5 q hq'
            have e4 : (bytesSV bs)[q] = .int .u8 ((bs.data.toList.map (fun b => (b.toNat : Int))).getD q 0) := by
              have h6 : q < bs.data.toList.length := by simpa [bytesSV] using hq'
              have h6' : q < bs.data.size := by simpa using h6
              simp [bytesSV, List.getD, Array.getElem?_eq_getElem h6']
            rw [e4, Den.int_iff] at h5
            simp only [valAt] at h5
            cases h7 : us'[q]? with
            | none => rw [h7] at h5; simp [undef] at h5
            | some u => simp only [h7, Option.getD_some] at h5; rw [h5]
          have := run_convert_bytes_arg w s el us ue b off (bytesSV bs).length c (bs.data.toList.map fun b => (b.toNat : Int)) (by simp [bytesSV]) (fun q hq => p4 q _ (hget q (by omega))) t ud
          rw [this]
          have e5 : strOfNums (bs.data.toList.map fun b => (b.toNat : Int)) = bs := by
            apply ByteArray.ext
            apply Array.ext'
            rw [strOfNums_data, List.map_map]
            conv => rhs; rw [← List.map_id bs.data.toList]
            apply List.map_congr_left
            intro b _
            simp
          rw [e5]
    simp only [execOp, ho, Sem.run_bind, hr, Result.andThen_ok, Sem.run_pure]
  all_goals exact h.elim
end Go.Proofs.YtligbjbkecmecaaDoor
