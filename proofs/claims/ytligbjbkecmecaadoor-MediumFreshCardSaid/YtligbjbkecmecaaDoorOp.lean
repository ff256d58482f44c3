/- The operations that touch no memory: what each gives, as a predicate transformer on abstract values, and that the model gives a value of which this is true. -/
import Derived.Test.YtligbjbkecmecaaDoorSv
import Derived.IntWalk
import Derived.Laws.BitsLemmas
import Derived.Laws.Bits64
import Derived.Laws.BitsAllLaws
namespace Go.Proofs.YtligbjbkecmecaaDoor
set_option linter.unusedVariables false
set_option linter.unusedSimpArgs false
open Go.RowKit

inductive TK where
  | bool | int (k : IntKind) | string
  | struct (fs : List (Nat × Nat)) | array (n e : Nat) | slice (e : Nat) | other

def TK.of : TypeDesc → TK
  | .bool => .bool
  | .int k => .int k
  | .string => .string
  | .struct fs => .struct (fs.toList.map fun f => (f.offset, f.type))
  | .array n e => .array n e
  | .slice e => .slice e
  | _ => .other

/-- What is known of a type: its kind, its cells, its bytes, its zero. -/
structure TI where
  kind : TK
  size : Nat
  bytes : Nat
  zero : SV
def TK.aggB : TK → Bool
  | .struct _ | .array _ _ => true
  | _ => false
def TI.shape (i : TI) : Option Nat := if i.kind.aggB then some i.size else none

/-- The abstract value of a constant. -/
def ofAtom : Value → SV
  | .bool b => .bool b
  | .int k n => .int k n
  | .string s => .str s
  | .slice none 0 0 => .nil
  | v => .val v
def ofValue : Value → SV
  | .agg cs => .agg (cs.toList.map ofAtom)
  | v => ofAtom v

theorem ofAtom_den (w : World) (X : Nat → Prop) (ρ : Env) (v : Value) : Den w X ρ (ofAtom v) v := by
  unfold ofAtom
  split <;> first | exact .bool _ _ | exact .int _ _ _ | exact .str _ _ | exact .nil _ | exact .val _ _
theorem ofValue_den (w : World) (X : Nat → Prop) (ρ : Env) (v : Value) : Den w X ρ (ofValue v) v := by
  unfold ofValue
  split
  · rename_i cs
    have : (Value.agg cs) = .agg ⟨cs.toList⟩ := by simp
    rw [this]
    refine .agg ρ _ _ (by simp) fun i h1 h2 => ?_
    simp only [List.getElem_map]
    exact ofAtom_den w X ρ _
  · exact ofAtom_den w X ρ _

/-- The program's type t is as i says. -/
structure TOk (P : Program) (t : Nat) (i : TI) : Prop where
  kind : (P.underlying t).map TK.of = some i.kind
  info : (P.info? t).map (fun x => (x.size, x.bytes)) = some (i.size, i.bytes)
  zero : ∃ z, (P.info? t).map (·.zero) = some (some z) ∧ i.zero = ofValue z ∧ z.cells.size = i.size ∧ (z.cells.all (·.oneCell')) = true ∧ ((∃ cs, z = .agg cs) ↔ i.kind.aggB = true)

structure Q1 (req : Unit → Prop) (p : Int → Prop) (k : Int → Prop) : Prop where
  h : req () ∧ ∀ z, p z → k z
structure Rq (p : Unit → Prop) (k : Unit → Prop) : Prop where
  p : p ()
  k : k ()
theorem rq {p : Unit → Prop} {A : Prop} (h : p ()) (g : A) : Rq p (fun _ => A) := ⟨h, g⟩
structure QC (p : Unit → Prop) (k : Bool → Prop) : Prop where
  t : p () → k true
  f : ¬ p () → k false
theorem QC.tt {p : Unit → Prop} {k : Bool → Prop} (h : p ()) (g : k true) : QC p k := ⟨fun _ => g, fun n => absurd h n⟩
theorem QC.ff {p : Unit → Prop} {k : Bool → Prop} (h : ¬ p ()) (g : k false) : QC p k := ⟨fun n => absurd n h, fun _ => g⟩
theorem QC.get {p : Unit → Prop} {k : Bool → Prop} (h : QC p k) (b : Bool) (hb : b = true ↔ p ()) : k b := by
  cases b
  · exact h.f (fun e => by simpa using hb.2 e)
  · exact h.t (hb.1 rfl)
structure QV {A : Type} (p : A → Prop) (k : A → Prop) : Prop where
  h : ∃ z, p z ∧ k z

theorem q1 {req : Unit → Prop} {p k : Int → Prop} (h : req ()) (g : ∀ z, p z → k z) : Q1 req p k := ⟨⟨h, g⟩⟩

theorem mul9 {a b : Int} (h : 0 ≤ a ∧ a ≤ 1000000000) (g : 0 ≤ b ∧ b ≤ 1000000000) : -9223372036854775808 ≤ a * b ∧ a * b ≤ 9223372036854775807 := by
  have h1 : 0 ≤ a * b := Int.mul_nonneg h.1 g.1
  have h2 : a * b ≤ 1000000000 * 1000000000 := Int.mul_le_mul h.2 g.2 g.1 (by omega)
  omega
theorem pow62 (e : Int) (h : e ≤ 62) : -9223372036854775808 ≤ 1 * (2 : Int) ^ e.toNat ∧ 1 * (2 : Int) ^ e.toNat ≤ 9223372036854775807 := by
  have h1 : (2 : Int) ^ e.toNat ≤ 2 ^ 62 := by
    have : (2 : Nat) ^ e.toNat ≤ 2 ^ 62 := Nat.pow_le_pow_right (by omega) (by omega)
    exact_mod_cast this
  have h2 : (0 : Int) ≤ 2 ^ e.toNat := Int.pow_nonneg (by omega)
  omega

def br (b : Bool) (t e : Unit → Prop) : Prop := match b with | true => t () | false => e ()
theorem br_mk {b : Bool} {t e : Unit → Prop} (h : b = true → t ()) (g : b = false → e ()) : br b t e := by
  cases b
  · exact g rfl
  · exact h rfl

theorem br_mk2 {b : Bool} {A B : Prop} (h : b = true → A) (g : b = false → B) : br b (fun _ => A) (fun _ => B) := br_mk h g

def inR (k : IntKind) (n : Int) : Prop := k.min ≤ n ∧ n ≤ k.max

def arith (k : IntKind) (e : Unit → Int) (r : Int → Prop) : Prop :=
  match k with
  | .i8 => Q1 (fun _ => -128 ≤ e () ∧ e () ≤ 127) (fun z => z = e ()) r
  | .i16 => Q1 (fun _ => -32768 ≤ e () ∧ e () ≤ 32767) (fun z => z = e ()) r
  | .i32 => Q1 (fun _ => -2147483648 ≤ e () ∧ e () ≤ 2147483647) (fun z => z = e ()) r
  | .i64 => Q1 (fun _ => -9223372036854775808 ≤ e () ∧ e () ≤ 9223372036854775807) (fun z => z = e ()) r
  | .u8 => Q1 (fun _ => True) (fun z => z = e () % 256) r
  | .u16 => Q1 (fun _ => True) (fun z => z = e () % 65536) r
  | .u32 => Q1 (fun _ => True) (fun z => z = e () % 4294967296) r
  | .u64 => Q1 (fun _ => True) (fun z => z = e () % 18446744073709551616) r

theorem arith_ok {k : IntKind} {e : Unit → Int} {r : Int → Prop} (h : arith k e r) : r (k.wrap (e ())) := by
  cases k <;> simp only [arith] at h <;> obtain ⟨h1, h2⟩ := h.h
  · exact h2 _ (IntWalk.i8_in _ h1)
  · exact h2 _ (IntWalk.i16_in _ h1)
  · exact h2 _ (IntWalk.i32_in _ h1)
  · exact h2 _ (IntWalk.i64_in _ h1)
  · exact h2 _ (IntKind.wrap_u8 _)
  · exact h2 _ (IntKind.wrap_u16 _)
  · exact h2 _ (IntKind.wrap_u32 _)
  · exact h2 _ (IntKind.wrap_u64 _)

/-- A whole number's upper end. -/
def hi : IntKind → Int
  | .i8 => 127 | .i16 => 32767 | .i32 => 2147483647 | .i64 => 9223372036854775807
  | .u8 => 255 | .u16 => 65535 | .u32 => 4294967295 | .u64 => 18446744073709551615
def lo : IntKind → Int
  | .i8 => -128 | .i16 => -32768 | .i32 => -2147483648 | .i64 => -9223372036854775808
  | .u8 => 0 | .u16 => 0 | .u32 => 0 | .u64 => 0
theorem wrap_in {k : IntKind} {n : Int} (h0 : lo k ≤ n) (h1 : n ≤ hi k) : k.wrap n = n := by
  cases k <;> simp only [hi] at h1 <;> simp only [lo] at h0
  · exact IntWalk.i8_in _ (by omega)
  · exact IntWalk.i16_in _ (by omega)
  · exact IntWalk.i32_in _ (by omega)
  · exact IntWalk.i64_in _ (by omega)
  · rw [IntKind.wrap_u8]; omega
  · rw [IntKind.wrap_u16]; omega
  · rw [IntKind.wrap_u32]; omega
  · rw [IntKind.wrap_u64]; omega
theorem lo_hi (k : IntKind) : lo k ≤ 0 ∧ (lo k < 0 → lo k = - hi k - 1) ∧ 0 ≤ hi k := by cases k <;> simp [lo, hi]
theorem wrap_nn {k : IntKind} {n : Int} (h0 : 0 ≤ n) (h1 : n ≤ hi k) : k.wrap n = n := by
  cases k <;> simp only [hi] at h1
  · exact IntWalk.i8_in _ (by omega)
  · exact IntWalk.i16_in _ (by omega)
  · exact IntWalk.i32_in _ (by omega)
  · exact IntWalk.i64_in _ (by omega)
  · rw [IntKind.wrap_u8]; omega
  · rw [IntKind.wrap_u16]; omega
  · rw [IntKind.wrap_u32]; omega
  · rw [IntKind.wrap_u64]; omega

/-- An operation on two numbers of one kind. -/
def binH (op : BinOp) (k : IntKind) (L H : Int) (a b : Int) (κ : SV → Prop) : Prop :=
  match op with
  | .add => arith k (fun _ => a + b) (fun z => κ (.int k z))
  | .sub => arith k (fun _ => a - b) (fun z => κ (.int k z))
  | .mul => arith k (fun _ => a * b) (fun z => κ (.int k z))
  | .quo => Q1 (fun _ => 0 < b ∧ L ≤ a ∧ a ≤ H) (fun z => (0 ≤ a → z = a / b) ∧ (a < 0 → z = -(-a / b))) (fun z => κ (.int k z))
  | .rem => Q1 (fun _ => 0 < b) (fun z => z = a.tmod b ∧ (0 ≤ a → z = a % b)) (fun z => κ (.int k z))
  | .and => Q1 (fun _ => 0 ≤ a ∧ a ≤ H ∧ 0 ≤ b ∧ b ≤ H) (fun z => z = ((a.toNat &&& b.toNat : Nat) : Int)) (fun z => κ (.int k z))
  | .or => Q1 (fun _ => 0 ≤ a ∧ a ≤ H ∧ 0 ≤ b ∧ b ≤ H) (fun z => z = ((a.toNat ||| b.toNat : Nat) : Int)) (fun z => κ (.int k z))
  | .xor => Q1 (fun _ => 0 ≤ a ∧ a ≤ H ∧ 0 ≤ b ∧ b ≤ H) (fun z => z = ((a.toNat ^^^ b.toNat : Nat) : Int)) (fun z => κ (.int k z))
  | .andNot => Q1 (fun _ => 0 ≤ a ∧ a ≤ H ∧ 0 ≤ b ∧ b ≤ H) (fun z => z = ((a.toNat ^^^ (a.toNat &&& b.toNat) : Nat) : Int)) (fun z => κ (.int k z))
  | .lss => QC (fun _ => a < b) (fun z => κ (.bool z))
  | .leq => QC (fun _ => a ≤ b) (fun z => κ (.bool z))
  | .gtr => QC (fun _ => b < a) (fun z => κ (.bool z))
  | .geq => QC (fun _ => b ≤ a) (fun z => κ (.bool z))
  | .eql => QC (fun _ => a = b) (fun z => κ (.bool z))
  | .neq => QC (fun _ => a ≠ b) (fun z => κ (.bool z))
  | _ => False

def binI (op : BinOp) (k : IntKind) (a b : Int) (κ : SV → Prop) : Prop := binH op k (lo k) (hi k) a b κ

theorem bits_hi (k : IntKind) {n : Int} (h0 : 0 ≤ n) (h1 : n ≤ hi k) : n.toNat < 2 ^ k.bits := by
  cases k <;> simp only [hi] at h1 <;> simp only [IntKind.bits] <;> omega
theorem nn_hi (k : IntKind) {n : Int} {m : Nat} (h1 : n ≤ hi k) (hm : m ≤ n.toNat) (h0 : 0 ≤ n) : (m : Int) ≤ hi k := by omega
theorem or_hi (k : IntKind) {a b : Int} (h0 : 0 ≤ a) (h1 : a ≤ hi k) (h2 : 0 ≤ b) (h3 : b ≤ hi k) (f : Nat → Nat → Nat) (hf : ∀ n x y, x < 2 ^ n → y < 2 ^ n → f x y < 2 ^ n) : ((f a.toNat b.toNat : Nat) : Int) ≤ hi k := by
  have hk : ∃ n, hi k = (2 : Int) ^ n - 1 := by
    cases k
    · exact ⟨7, by decide⟩
    · exact ⟨15, by decide⟩
    · exact ⟨31, by decide⟩
    · exact ⟨63, by decide⟩
    · exact ⟨8, by decide⟩
    · exact ⟨16, by decide⟩
    · exact ⟨32, by decide⟩
    · exact ⟨64, by decide⟩
  obtain ⟨n, hn⟩ := hk
  rw [hn] at h1 h3 ⊢
  have e : ((2 ^ n : Nat) : Int) = (2 : Int) ^ n := by simp
  have := hf n a.toNat b.toNat (by omega) (by omega)
  omega
theorem ofInt_toNat (k : IntKind) {n : Int} (h0 : 0 ≤ n) (h1 : n ≤ hi k) : (BitVec.ofInt k.bits n).toNat = n.toNat := by
  have := bits_hi k h0 h1
  rw [BitVec.toNat_ofInt]
  have e : ((2 ^ k.bits : Nat) : Int) = ((2 ^ k.bits : Nat) : Int) := rfl
  rw [Int.emod_eq_of_lt h0 (by omega)]

variable {P : Program}

theorem andNot_nat (w : Nat) (x y : BitVec w) : (x &&& ~~~y).toNat = x.toNat ^^^ (x.toNat &&& y.toNat) := by
  have e : x &&& ~~~y = x ^^^ (x &&& y) := by
    apply BitVec.eq_of_getElem_eq
    intro i hi
    simp
    cases x[i] <;> cases y[i] <;> rfl
  rw [e]
  simp

theorem binI_ok {op : BinOp} {k : IntKind} {a b : Int} {κ : SV → Prop} (h : binI op k a b κ) (t : TypeId) (hop : op ≠ .shl ∧ op ≠ .shr) :
    ∃ x u, κ x ∧ (∀ w, (binOp op t (.int k a) (.int k b)).run P w = .ok u w) ∧ ∀ w X ρ, Den w X ρ x u := by
  unfold binI at h
  cases op <;> simp only [binH] at h <;> (try exact h.elim)
  case add => exact ⟨_, _, arith_ok h, fun w => by simp [binOp, Op.intArith], fun w X ρ => .int _ _ _⟩
  case sub => exact ⟨_, _, arith_ok h, fun w => by simp [binOp, Op.intArith], fun w X ρ => .int _ _ _⟩
  case mul => exact ⟨_, _, arith_ok h, fun w => by simp [binOp, Op.intArith], fun w X ρ => .int _ _ _⟩
  case quo =>
    obtain ⟨⟨h1, h2, h3⟩, h4⟩ := h.h
    have hd : (0 ≤ a → a.tdiv b = a / b) ∧ (a < 0 → a.tdiv b = -(-a / b)) := ⟨fun h => Int.tdiv_eq_ediv_of_nonneg h, fun h => by
      have e : a = - (-a) := by omega
      conv => lhs; rw [e, Int.neg_tdiv, Int.tdiv_eq_ediv_of_nonneg (by omega)]⟩
    refine ⟨_, _, h4 _ hd, fun w => ?_, fun w X ρ => .int _ _ _⟩
    have hr : lo k ≤ a.tdiv b ∧ a.tdiv b ≤ hi k := by
      have := lo_hi k
      rcases Int.lt_or_le a 0 with g | g
      · rw [hd.2 g]
        have g1 : (-a) / b ≤ -a := Int.ediv_le_self _ (by omega)
        have g2 : 0 ≤ (-a) / b := Int.ediv_nonneg (by omega) (by omega)
        omega
      · rw [hd.1 g]
        have g1 : a / b ≤ a := Int.ediv_le_self _ g
        have g2 : 0 ≤ a / b := Int.ediv_nonneg g (by omega)
        omega
    simp [binOp, Op.intDiv, show b ≠ 0 by omega, wrap_in hr.1 hr.2]
  case rem =>
    obtain ⟨h1, h4⟩ := h.h
    refine ⟨_, _, h4 _ ⟨rfl, fun h0 => Int.tmod_eq_emod_of_nonneg h0⟩, fun w => ?_, fun w X ρ => .int _ _ _⟩
    simp [binOp, Op.intDiv, show b ≠ 0 by omega]
  case and =>
    obtain ⟨⟨h1, h2, h3, h5⟩, h4⟩ := h.h
    refine ⟨_, _, h4 _ rfl, fun w => ?_, fun w X ρ => .int _ _ _⟩
    have hb := nn_hi k h2 (Nat.and_le_left (n := a.toNat) (m := b.toNat)) h1
    simp [binOp, Op.intBits, ofInt_toNat k h1 h2, ofInt_toNat k h3 h5, wrap_nn (Int.natCast_nonneg _) hb]
  case or =>
    obtain ⟨⟨h1, h2, h3, h5⟩, h4⟩ := h.h
    refine ⟨_, _, h4 _ rfl, fun w => ?_, fun w X ρ => .int _ _ _⟩
    have hb := or_hi k h1 h2 h3 h5 (fun x y => x ||| y) (fun n x y hx hy => Nat.or_lt_two_pow hx hy)
    simp [binOp, Op.intBits, ofInt_toNat k h1 h2, ofInt_toNat k h3 h5, wrap_nn (Int.natCast_nonneg _) hb]
  case xor =>
    obtain ⟨⟨h1, h2, h3, h5⟩, h4⟩ := h.h
    refine ⟨_, _, h4 _ rfl, fun w => ?_, fun w X ρ => .int _ _ _⟩
    have hb := or_hi k h1 h2 h3 h5 (fun x y => x ^^^ y) (fun n x y hx hy => Nat.xor_lt_two_pow hx hy)
    simp [binOp, Op.intBits, ofInt_toNat k h1 h2, ofInt_toNat k h3 h5, wrap_nn (Int.natCast_nonneg _) hb]
  case andNot =>
    obtain ⟨⟨h1, h2, h3, h5⟩, h4⟩ := h.h
    refine ⟨_, _, h4 _ rfl, fun w => ?_, fun w X ρ => .int _ _ _⟩
    have hb := or_hi k h1 h2 h3 h5 (fun x y => x ^^^ (x &&& y)) (fun n x y hx hy => Nat.xor_lt_two_pow hx (Nat.and_lt_two_pow _ hy))
    have hx := andNot_nat k.bits (BitVec.ofInt k.bits a) (BitVec.ofInt k.bits b)
    rw [ofInt_toNat k h1 h2, ofInt_toNat k h3 h5] at hx
    simp only [binOp, Op.intBits, Sem.run_pure, if_neg (show ¬ k ≠ k by simp), hx, wrap_nn (Int.natCast_nonneg _) hb]
  case lss => exact ⟨.bool (decide (a < b)), _, h.get _ (by simp), fun w => by simp [binOp, Op.intCmp], fun w X ρ => .bool _ _⟩
  case leq => exact ⟨.bool (decide (a ≤ b)), _, h.get _ (by simp), fun w => by simp [binOp, Op.intCmp], fun w X ρ => .bool _ _⟩
  case gtr => exact ⟨.bool (decide (b < a)), _, h.get _ (by simp), fun w => by simp [binOp, Op.intCmp], fun w X ρ => .bool _ _⟩
  case geq => exact ⟨.bool (decide (b ≤ a)), _, h.get _ (by simp), fun w => by simp [binOp, Op.intCmp], fun w X ρ => .bool _ _⟩
  case eql => exact ⟨.bool (a == b), .bool (a == b), h.get _ (by simp), fun w => by simp [binOp, Op.intCmp], fun w X ρ => .bool _ _⟩
  case neq => exact ⟨.bool (a != b), .bool (a != b), h.get _ (by simp), fun w => by simp [binOp, Op.intCmp], fun w X ρ => .bool _ _⟩

/-- A shift. -/
def nb : IntKind → Int
  | .i8 | .u8 => 8 | .i16 | .u16 => 16 | .i32 | .u32 => 32 | .i64 | .u64 => 64
theorem nb_eq (k : IntKind) : nb k = k.bits := by cases k <;> rfl
def shH (op : BinOp) (k : IntKind) (H : Int) (a b : Int) (κ : SV → Prop) : Prop :=
  match op with
  | .shl => Rq (fun _ => 0 ≤ b ∧ b ≤ H) (fun _ => arith k (fun _ => a * 2 ^ b.toNat) (fun z => κ (.int k z)))
  | .shr => Q1 (fun _ => 0 ≤ b ∧ b ≤ H) (fun z => z = a / 2 ^ b.toNat) (fun z => κ (.int k z))
  | _ => False
/-- How far a left shift may go. -/
def nbl : IntKind → Int
  | .u8 | .u16 | .u32 | .u64 => 18446744073709551615
  | k => nb k
theorem shl_pm (a : Int) (n m : Nat) (h : m ≤ n) : a * (2 : Int) ^ n % 2 ^ m = 0 := by
  obtain ⟨d, rfl⟩ := Nat.exists_eq_add_of_le h
  have : a * (2 : Int) ^ (m + d) = (a * 2 ^ d) * 2 ^ m := by rw [Int.pow_add]; ac_rfl
  rw [this]
  exact Int.mul_emod_left _ _
theorem shl_min (k : IntKind) (a b : Int) (hb : 0 ≤ b ∧ b ≤ nbl k) : k.wrap (a * 2 ^ (min b.toNat k.bits)) = k.wrap (a * 2 ^ b.toNat) := by
  rcases Nat.le_total b.toNat k.bits with h | h
  · rw [Nat.min_eq_left h]
  · rw [Nat.min_eq_right h]
    obtain ⟨m, hm⟩ : ∃ m, m = IntKind.bits k := ⟨_, rfl⟩
    rw [← hm] at h ⊢
    have e1 := shl_pm a _ _ h
    have e2 := shl_pm a _ _ (Nat.le_refl m)
    have hs : (nbl k = nb k) ∨ (k = .u8 ∨ k = .u16 ∨ k = .u32 ∨ k = .u64) := by cases k <;> simp [nbl]
    rcases hs with hs | hs
    · have h2 : b ≤ nb k := by rw [← hs]; exact hb.2
      rw [nb_eq, ← hm] at h2
      have : b.toNat = m := by omega
      rw [this]
    · rcases hs with rfl | rfl | rfl | rfl <;> (change m = _ at hm; subst hm; simp only [IntKind.wrap_u8, IntKind.wrap_u16, IntKind.wrap_u32, IntKind.wrap_u64]; exact e2.trans e1.symm)
def shI (op : BinOp) (k : IntKind) (a b : Int) (κ : SV → Prop) : Prop := shH op k (match op with | .shl => nbl k | _ => nb k) a b κ
theorem shI_ok {op : BinOp} {k j : IntKind} {a b : Int} {κ : SV → Prop} (h : shI op k a b κ) (t : TypeId) :
    ∃ x u, κ x ∧ (∀ w, (binOp op t (.int k a) (.int j b)).run P w = .ok u w) ∧ ∀ w X ρ, Den w X ρ x u := by
  unfold shI at h
  cases op <;> simp only [shH] at h <;> (try exact h.elim)
  case shl =>
    obtain ⟨⟨h1, h2⟩, h4⟩ := h
    refine ⟨_, _, arith_ok h4, fun w => ?_, fun w X ρ => .int _ _ _⟩
    have := shl_min k a b ⟨h1, h2⟩
    simp [binOp, Op.shift, show ¬ b < 0 by omega, this]
  case shr =>
    rw [nb_eq] at h
    obtain ⟨⟨h1, h2⟩, h4⟩ := h.h
    refine ⟨_, _, h4 _ rfl, fun w => ?_, fun w X ρ => .int _ _ _⟩
    have : min b.toNat k.bits = b.toNat := by omega
    have hp : (0 : Int) ≤ 2 ^ b.toNat := Int.pow_nonneg (by omega)
    simp [binOp, Op.shift, show ¬ b < 0 by omega, this, Int.fdiv_eq_ediv_of_nonneg _ hp]
end Go.Proofs.YtligbjbkecmecaaDoor
