/- Abstract values and what they say of the model's values: the words of a small calculus for walks. No program in sight. -/
import Derived.WalkKit
import Derived.WalkLawsBesides
import Derived.WalkSpells
import Derived.Below
import Derived.Laws.OwnMore
namespace Go.Proofs.Ytopalajoinkgkaa
open Go.RowKit

def getN {A : Type} (d : A) : List A → Nat → A
  | [], _ => d
  | a :: _, 0 => a
  | _ :: l, n + 1 => getN d l n
def setN {A : Type} (v : A) : List A → Nat → List A
  | [], _ => []
  | _ :: l, 0 => v :: l
  | a :: l, n + 1 => a :: setN v l n

theorem getN_eq {A : Type} (d : A) : ∀ (l : List A) (i : Nat), getN d l i = (l[i]?).getD d
  | [], _ => by simp [getN]
  | a :: l, 0 => by simp [getN]
  | a :: l, n + 1 => by simp [getN, getN_eq d l n]
theorem setN_eq {A : Type} (v : A) : ∀ (l : List A) (i : Nat), setN v l i = l.set i v
  | [], _ => by simp [setN]
  | a :: l, 0 => by simp [setN]
  | a :: l, n + 1 => by simp [setN, setN_eq v l n]

/-- An abstract value. -/
inductive SV where
  | any
  | bool (b : Bool)
  | int (k : IntKind) (n : Int)
  | str (s : ByteArray)
  | agg (l : List SV)
  | tup (l : List SV)
  | lst (sh : Option Nat) (l : List SV)
  | nil
  | ptr (r off : Nat)
  | row (r : Nat)
  | rsl (r : Nat) (sh : Option Nat) (a n : Nat)
  | rptr (r : Nat) (sh : Option Nat) (i off : Nat)
  | eptr (sh : Option Nat) (x : SV) (off : Nat)
  | val (v : Value)

instance : Inhabited SV := ⟨.any⟩

/-- How many cells an element of this shape has. -/
def wid : Option Nat → Nat
  | none => 1
  | some n => n
/-- The element number i of the cells us. -/
def valAt (sh : Option Nat) (us : List Value) (i : Nat) : Value :=
  match sh with
  | none => (us[i]?).getD undef
  | some n => .agg ⟨(us.drop (i * n)).take n⟩

abbrev Env := Nat → Option Value
def noEnv : Env := fun _ => none

inductive Den (w : World) (X : Nat → Prop) : Env → SV → Value → Prop
  | any (ρ : Env) (v : Value) : Den w X ρ .any v
  | bool (ρ : Env) (b : Bool) : Den w X ρ (.bool b) (.bool b)
  | int (ρ : Env) (k : IntKind) (n : Int) : Den w X ρ (.int k n) (.int k n)
  | str (ρ : Env) (s : ByteArray) : Den w X ρ (.str s) (.string s)
  | agg (ρ : Env) (l : List SV) (cs : List Value) (hl : l.length = cs.length) (h : ∀ i (h1 : i < l.length) (h2 : i < cs.length), Den w X ρ l[i] cs[i]) : Den w X ρ (.agg l) (.agg ⟨cs⟩)
  | tup (ρ : Env) (l : List SV) (cs : List Value) (hl : l.length = cs.length) (h : ∀ i (h1 : i < l.length) (h2 : i < cs.length), Den w X ρ l[i] cs[i]) : Den w X ρ (.tup l) (.tuple ⟨cs⟩)
  | lst0 (ρ : Env) (sh : Option Nat) (a : Option Addr) (cap : Nat) : Den w X ρ (.lst sh []) (.slice a 0 cap)
  | lst (ρ : Env) (sh : Option Nat) (l : List SV) (b off cap : Nat) (us : List Value) (hb : b < w.heap.size) (hx : ¬ X b)
      (hc : l.length ≤ cap) (hu : ∀ j u, us[j]? = some u → w.cell? ⟨b, off + j, none⟩ = some u) (hl : us.length = l.length * wid sh)
      (h : ∀ i (h1 : i < l.length), Den w X noEnv l[i] (valAt sh us i)) : Den w X ρ (.lst sh l) (.slice (some ⟨b, off, none⟩) l.length cap)
  | nil (ρ : Env) : Den w X ρ .nil (.slice none 0 0)
  | ptr (ρ : Env) (r off b : Nat) (h : ∀ q, ρ r = some q → q = .pointer (some ⟨b, 0, none⟩)) : Den w X ρ (.ptr r off) (.pointer (some ⟨b, off, none⟩))
  | row (ρ : Env) (r : Nat) (a : Option Addr) (n c : Nat) (h : ∀ q, ρ r = some q → q = .slice a n c) : Den w X ρ (.row r) (.slice a n c)
  | rsl (ρ : Env) (r : Nat) (sh : Option Nat) (a n b c : Nat) (hc : n ≤ c) (h : ∀ q, ρ r = some q → ∃ len cap, q = .slice (some ⟨b, 0, none⟩) len cap ∧ a + n ≤ len) : Den w X ρ (.rsl r sh a n) (.slice (some ⟨b, a * wid sh, none⟩) n c)
  | rptr (ρ : Env) (r : Nat) (sh : Option Nat) (i off b : Nat) (h : ∀ q, ρ r = some q → ∃ len cap, q = .slice (some ⟨b, 0, none⟩) len cap) : Den w X ρ (.rptr r sh i off) (.pointer (some ⟨b, i * wid sh + off, none⟩))
  | eptr (ρ : Env) (sh : Option Nat) (x : SV) (off b o : Nat) (us : List Value) (hb : b < w.heap.size) (hx : ¬ X b)
      (hu : ∀ j u, us[j]? = some u → w.cell? ⟨b, o + j, none⟩ = some u) (hl : us.length = wid sh) (h : Den w X noEnv x (valAt sh us 0)) : Den w X ρ (.eptr sh x off) (.pointer (some ⟨b, o + off, none⟩))
  | val (ρ : Env) (v : Value) : Den w X ρ (.val v) v

theorem cell_keep {w w' : World} {X X' : Nat → Prop} (hk : ∀ b, b < w.heap.size → ¬ X b → ¬ X' b ∧ w'.heap[b]? = w.heap[b]?) {b : Nat} (hb : b < w.heap.size) (hx : ¬ X b) (o : Nat) :
    w'.cell? ⟨b, o, none⟩ = w.cell? ⟨b, o, none⟩ := World.cell?_of_block (w := w) (hk b hb hx).2

theorem Den.mono {w w' : World} {X X' : Nat → Prop} (hs : w.heap.size ≤ w'.heap.size) (hk : ∀ b, b < w.heap.size → ¬ X b → ¬ X' b ∧ w'.heap[b]? = w.heap[b]?)
    {ρ : Env} {x : SV} {v : Value} (h : Den w X ρ x v) : Den w' X' ρ x v := by
  induction h with
  | any ρ v => exact .any ρ v
  | bool ρ b => exact .bool ρ b
  | int ρ k n => exact .int ρ k n
  | str ρ s => exact .str ρ s
  | agg ρ l cs hl h ih => exact .agg ρ l cs hl ih
  | tup ρ l cs hl h ih => exact .tup ρ l cs hl ih
  | lst0 ρ sh a cap => exact .lst0 ρ sh a cap
  | lst ρ sh l b off cap us hb hx hc hu hl h ih =>
    exact .lst ρ sh l b off cap us (by omega) (hk b hb hx).1 hc (fun j u hj => by rw [cell_keep hk hb hx]; exact hu j u hj) hl ih
  | nil ρ => exact .nil ρ
  | ptr ρ r off b h => exact .ptr ρ r off b h
  | row ρ r a n c h => exact .row ρ r a n c h
  | rsl ρ r sh a n b c hc h => exact .rsl ρ r sh a n b c hc h
  | rptr ρ r sh i off b h => exact .rptr ρ r sh i off b h
  | eptr ρ sh x off b o us hb hx hu hl h ih =>
    exact .eptr ρ sh x off b o us (by omega) (hk b hb hx).1 (fun j u hj => by rw [cell_keep hk hb hx]; exact hu j u hj) hl ih
  | val ρ v => exact .val ρ v

/-- Does the value not mention resource r? -/
def noref (r : Nat) : SV → Bool
  | .ptr q _ | .row q | .rsl q _ _ _ | .rptr q _ _ _ => !(Nat.beq q r)
  | .agg l | .tup l => norefs r l
  | _ => true
where norefs (r : Nat) : List SV → Bool
  | [] => true
  | x :: l => noref r x && norefs r l

theorem norefs_get {r : Nat} : ∀ {l : List SV}, noref.norefs r l = true → ∀ i (h : i < l.length), noref r l[i] = true
  | [], _, i, h => by simp at h
  | x :: l, hn, 0, _ => by simp [noref.norefs] at hn; exact hn.1
  | x :: l, hn, i + 1, h => by
    simp [noref.norefs] at hn
    exact norefs_get hn.2 i (by simpa using h)

theorem Den.env {w : World} {X : Nat → Prop} {ρ ρ' : Env} {x : SV} {v : Value} (h : Den w X ρ x v)
    (he : ∀ r, ρ' r = none ∨ ρ' r = ρ r ∨ noref r x = true) : Den w X ρ' x v := by
  induction h generalizing ρ' with
  | any ρ v => exact .any _ v
  | bool ρ b => exact .bool _ b
  | int ρ k n => exact .int _ k n
  | str ρ s => exact .str _ s
  | agg ρ l cs hl h ih =>
    refine .agg _ l cs hl fun i h1 h2 => ih i h1 h2 fun r => ?_
    rcases he r with e | e | e
    · exact .inl e
    · exact .inr (.inl e)
    · exact .inr (.inr (norefs_get (by simpa [noref] using e) i h1))
  | tup ρ l cs hl h ih =>
    refine .tup _ l cs hl fun i h1 h2 => ih i h1 h2 fun r => ?_
    rcases he r with e | e | e
    · exact .inl e
    · exact .inr (.inl e)
    · exact .inr (.inr (norefs_get (by simpa [noref] using e) i h1))
  | lst0 ρ sh a cap => exact .lst0 _ sh a cap
  | lst ρ sh l b off cap us hb hx hc hu hl h ih => exact .lst _ sh l b off cap us hb hx hc hu hl h
  | nil ρ => exact .nil _
  | ptr ρ r off b h =>
    refine .ptr _ r off b fun q hq => ?_
    rcases he r with e | e | e
    · rw [e] at hq; cases hq
    · exact h q (e ▸ hq)
    · simp [noref] at e
  | row ρ r a n c h =>
    refine .row _ r a n c fun q hq => ?_
    rcases he r with e | e | e
    · rw [e] at hq; cases hq
    · exact h q (e ▸ hq)
    · simp [noref] at e
  | rsl ρ r sh a n b c hc h =>
    refine .rsl _ r sh a n b c hc fun q hq => ?_
    rcases he r with e | e | e
    · rw [e] at hq; cases hq
    · exact h q (e ▸ hq)
    · simp [noref] at e
  | rptr ρ r sh i off b h =>
    refine .rptr _ r sh i off b fun q hq => ?_
    rcases he r with e | e | e
    · rw [e] at hq; cases hq
    · exact h q (e ▸ hq)
    · simp [noref] at e
  | eptr ρ sh x off b o us hb hx hu hl h ih => exact .eptr _ sh x off b o us hb hx hu hl h
  | val ρ v => exact .val _ v

theorem Den.to_no {w : World} {X : Nat → Prop} {ρ : Env} {x : SV} {v : Value} (h : Den w X ρ x v) : Den w X noEnv x v := h.env fun _ => .inl rfl
end Go.Proofs.Ytopalajoinkgkaa
