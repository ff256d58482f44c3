/- Abstract values and what they say of the model's values: the words of a small calculus for walks. No program in sight. -/
import Derived.WalkKit
import Derived.WalkLawsBesides
import Derived.WalkSpells
import Derived.Below
import Derived.Laws.OwnMore
namespace Go.Proofs.YtligbjbkecmecaaDoor
set_option linter.unusedVariables false
set_option linter.unusedSimpArgs false
open Go.RowKit

def getN {A : Type} (d : A) : List A → Nat → A
  | [], _ => d
  | a :: _, 0 => a
  | _ :: l, n + 1 => getN d l n
def setN {A : Type} (v : A) : List A → Nat → List A
  | [], _ => []
  | _ :: l, 0 => v :: l
  | a :: l, n + 1 => a :: setN v l n

theorem getN_eq {A : Type} (d : A) : ∀ (l : List A) (i : Nat), getN d l i = (l[i]?).getD d
  | [], _ => by simp [getN]
  | a :: l, 0 => by simp [getN]
  | a :: l, n + 1 => by simp [getN, getN_eq d l n]
theorem setN_eq {A : Type} (v : A) : ∀ (l : List A) (i : Nat), setN v l i = l.set i v
  | [], _ => by simp [setN]
  | a :: l, 0 => by simp [setN]
  | a :: l, n + 1 => by simp [setN, setN_eq v l n]

/-- An abstract value. -/
inductive SV where
  | any
  | bool (b : Bool)
  | int (k : IntKind) (n : Int)
  | str (s : ByteArray)
  | agg (l : List SV)
  | tup (l : List SV)
  | lst (sh : Option Nat) (l : List SV)
  | nil
  | ptr (r off : Nat)
  | row (r : Nat)
  | rsl (r : Nat) (sh : Option Nat) (a n : Nat) (c : Option Nat)
  | rptr (r : Nat) (sh : Option Nat) (i off : Nat)
  | eptr (sh : Option Nat) (x : SV) (off : Nat)
  | clo (f : Nat) (caps : List SV)
  | val (v : Value)
  | obj (r : Nat)
  | fcl (f : Nat) (caps : List SV)
  | cel (x : SV)
  | lsx (sh : Option Nat) (l : List SV)
  | epx (sh : Option Nat) (x : SV) (off : Nat)

instance : Inhabited SV := ⟨.any⟩

/-- Operations on lists and numbers that an evaluation leaves as they stand. -/
structure LO where
  tk : Int → List SV → List SV
  dr : Int → List SV → List SV
  ap : List SV → List SV → List SV
  st : List SV → Nat → SV → List SV
  rp : Int → SV → List SV
  ln : List SV → Nat
  by' : ByteArray → List SV
  sa : ByteArray → ByteArray → ByteArray
  cp : List SV → Nat → Nat → List SV → List SV
  sg : List SV → Nat → Nat → List SV
  tn : Int → Nat
  ad : Nat → Int → Nat
  sb : Nat → Int → Nat
  si : Int → Int → Nat
  htk : ∀ n l, tk n l = l.take n.toNat
  hdr : ∀ n l, dr n l = l.drop n.toNat
  hap : ∀ l k, ap l k = l ++ k
  hst : ∀ l i x, st l i x = l.set i x
  hrp : ∀ n x, rp n x = List.replicate n.toNat x
  hln : ∀ l, ln l = l.length
  hby : ∀ s, by' s = s.data.toList.map fun b => .int .u8 b.toNat
  hsa : ∀ a b, sa a b = a ++ b
  hcp : ∀ l a n ys, cp l a n ys = l.take a ++ ys.take n ++ l.drop (a + min ys.length n)
  hsg : ∀ l a n, sg l a n = (l.drop a).take n
  htn : ∀ n, tn n = n.toNat
  had : ∀ a n, ad a n = a + n.toNat
  hsb : ∀ a n, sb a n = a - n.toNat
  hsi : ∀ a n, si a n = a.toNat - n.toNat
theorem lo_ex : Nonempty LO := ⟨⟨fun n l => l.take n.toNat, fun n l => l.drop n.toNat, fun l k => l ++ k, fun l i x => l.set i x, fun n x => List.replicate n.toNat x, fun l => l.length, fun s => s.data.toList.map fun b => .int .u8 b.toNat, fun a b => a ++ b,
  fun l a n ys => l.take a ++ ys.take n ++ l.drop (a + min ys.length n), fun l a n => (l.drop a).take n, fun n => n.toNat, fun a n => a + n.toNat, fun a n => a - n.toNat, fun a n => a.toNat - n.toNat,
  fun _ _ => rfl, fun _ _ => rfl, fun _ _ => rfl, fun _ _ _ => rfl, fun _ _ => rfl, fun _ => rfl, fun _ => rfl, fun _ _ => rfl, fun _ _ _ _ => rfl, fun _ _ _ => rfl, fun _ => rfl, fun _ _ => rfl, fun _ _ => rfl, fun _ _ => rfl⟩⟩
noncomputable def O : LO := Classical.choice lo_ex

/-- A block of the call's own memory: nothing known; a variable; a growable slice; a slice that nobody writes any more. -/
inductive Blk where
  | no
  | chunk (t : Nat) (x : SV)
  | row (sh : Option Nat) (e : Nat) (l : List SV)
  | frz (sh : Option Nat) (l : List SV)
  | rowx (e : Nat) (l : List SV) (i : Nat) (x : SV)
  | iter (s : ByteArray) (p : Nat)
  | gen (tag k : Nat) (l : List SV)
  | rown (sh : Option Nat) (e : Nat) (l : List SV)
instance : Inhabited Blk := ⟨.no⟩
abbrev Mem := List (Nat × Blk)
def getM : Mem → Nat → Blk
  | [], _ => .no
  | (k, b) :: m, r => if Nat.beq k r then b else getM m r
def setM (b : Blk) : Mem → Nat → Mem
  | [], r => [(r, b)]
  | (k, c) :: m, r => if Nat.blt k r then (k, c) :: setM b m r else if Nat.beq k r then (k, b) :: m else (r, b) :: (k, c) :: m
theorem nbeq {a b : Nat} : (Nat.beq a b = true) ↔ a = b := by rw [Nat.beq_eq]
theorem nblt {a b : Nat} : (Nat.blt a b = true) ↔ a < b := by simp [Nat.blt_eq]
theorem getM_setM (b : Blk) : ∀ (m : Mem) (r q : Nat), getM (setM b m r) q = if q = r then b else getM m q
  | [], r, q => by
    simp only [setM, getM, nbeq]
    by_cases h : q = r
    · subst h; simp
    · rw [if_neg (Ne.symm h), if_neg h]
  | (k, c) :: m, r, q => by
    simp only [setM, nblt, nbeq]
    by_cases h1 : k < r
    · rw [if_pos h1]
      simp only [getM, nbeq, getM_setM b m r q]
      by_cases h2 : k = q
      · rw [if_pos h2, if_neg (by omega), if_pos h2]
      · rw [if_neg h2, if_neg h2]
    · rw [if_neg h1]
      by_cases h2 : k = r
      · rw [if_pos h2]
        simp only [getM, nbeq]
        by_cases h3 : k = q
        · rw [if_pos h3, if_pos (by omega)]
        · rw [if_neg h3, if_neg (by omega), if_neg h3]
      · rw [if_neg h2]
        simp only [getM, nbeq]
        by_cases h3 : q = r
        · rw [if_pos h3, if_pos h3.symm]
        · rw [if_neg h3, if_neg (Ne.symm h3)]
theorem setM_comm (b c : Blk) : ∀ (m : Mem) (q r : Nat), q ≠ r → setM b (setM c m r) q = setM c (setM b m q) r
  | [], q, r, h => by
    simp only [setM, nblt, nbeq]
    rcases Nat.lt_or_gt_of_ne h with h | h
    · rw [if_neg (by omega), if_neg (by omega), if_pos h]
    · rw [if_pos h, if_neg (by omega), if_neg (by omega)]
  | (k, d) :: m, q, r, h => by
    have ih := setM_comm b c m q r h
    by_cases k1 : k < q <;> by_cases k2 : k < r
    · simp only [setM, nblt, nbeq, if_pos k1, if_pos k2, ih]
    · by_cases k3 : k = r
      · simp only [setM, nblt, nbeq, if_pos k1, if_neg k2, if_pos k3]
      · have : r < q := by omega
        simp only [setM, nblt, nbeq, if_pos k1, if_neg k2, if_neg k3, if_pos this]
    · by_cases k3 : k = q
      · simp only [setM, nblt, nbeq, if_neg k1, if_pos k2, if_pos k3]
      · have : q < r := by omega
        simp only [setM, nblt, nbeq, if_neg k1, if_neg k3, if_pos k2, if_pos this]
    · by_cases k3 : k = q
      · have : r < q := by omega
        simp only [setM, nblt, nbeq, if_neg k1, if_neg k2, if_neg (show ¬ k = r by omega), if_pos k3, if_pos this]
      · by_cases k4 : k = r
        · have : q < r := by omega
          have : ¬ r < q := by omega
          subst k4
          simp only [setM, nblt, nbeq, if_neg k1, if_neg k2, if_neg k3, if_true, if_pos (show q < k by omega), if_neg (show ¬ k < q by omega), if_neg (show ¬ k < k by omega), if_neg (show ¬ k = q by omega)]
        · simp only [setM, nblt, nbeq, if_neg k1, if_neg k2, if_neg k3, if_neg k4]
          rcases Nat.lt_or_gt_of_ne h with h' | h'
          · rw [if_neg (by omega), if_neg (by omega), if_pos h']
          · rw [if_pos h', if_neg (by omega), if_neg (by omega)]

/-- How many cells an element of this shape has. -/
def wid : Option Nat → Nat
  | none => 1
  | some n => n
/-- The element number i of the cells us. -/
def valAt (sh : Option Nat) (us : List Value) (i : Nat) : Value :=
  match sh with
  | none => (us[i]?).getD undef
  | some n => .agg ⟨(us.drop (i * n)).take n⟩

abbrev Env := Nat → Option Value
def noEnv : Env := fun _ => none

inductive Den (w : World) (X : Nat → Prop) : Env → SV → Value → Prop
  | any (ρ : Env) (v : Value) : Den w X ρ .any v
  | bool (ρ : Env) (b : Bool) : Den w X ρ (.bool b) (.bool b)
  | int (ρ : Env) (k : IntKind) (n : Int) : Den w X ρ (.int k n) (.int k n)
  | str (ρ : Env) (s : ByteArray) : Den w X ρ (.str s) (.string s)
  | agg (ρ : Env) (l : List SV) (cs : List Value) (hl : l.length = cs.length) (h : ∀ i (h1 : i < l.length) (h2 : i < cs.length), Den w X ρ l[i] cs[i]) : Den w X ρ (.agg l) (.agg ⟨cs⟩)
  | tup (ρ : Env) (l : List SV) (cs : List Value) (hl : l.length = cs.length) (h : ∀ i (h1 : i < l.length) (h2 : i < cs.length), Den w X ρ l[i] cs[i]) : Den w X ρ (.tup l) (.tuple ⟨cs⟩)
  | lst0 (ρ : Env) (sh : Option Nat) (a : Option Addr) (cap : Nat) : Den w X ρ (.lst sh []) (.slice a 0 cap)
  | lst (ρ : Env) (sh : Option Nat) (l : List SV) (b off cap : Nat) (us : List Value) (hb : b < w.heap.size) (hx : ¬ X b)
      (hc : l.length ≤ cap) (hu : ∀ j u, us[j]? = some u → w.cell? ⟨b, off + j, none⟩ = some u) (hl : us.length = l.length * wid sh) (ho : ∀ u ∈ us, u.oneCell' = true)
      (h : ∀ i (h1 : i < l.length), Den w X noEnv l[i] (valAt sh us i)) : Den w X ρ (.lst sh l) (.slice (some ⟨b, off, none⟩) l.length cap)
  | nil (ρ : Env) : Den w X ρ .nil (.slice none 0 0)
  | ptr (ρ : Env) (r off b : Nat) (h : ∀ q, ρ r = some q → q = .pointer (some ⟨b, 0, none⟩)) : Den w X ρ (.ptr r off) (.pointer (some ⟨b, off, none⟩))
  | row (ρ : Env) (r : Nat) (a : Option Addr) (n c : Nat) (h : ∀ q, ρ r = some q → q = .slice a n c) : Den w X ρ (.row r) (.slice a n c)
  | rsl (ρ : Env) (r : Nat) (sh : Option Nat) (a n : Nat) (c : Option Nat) (x : Option Addr) (cc : Nat) (hc : n ≤ cc)
      (h : ∀ q, ρ r = some q → (∃ x0 len cap, q = .slice x0 len cap ∧ a + n ≤ len ∧ a + cc ≤ cap ∧ (c = none → cc = cap - a) ∧ (∀ m, c = some m → cc = m) ∧
        (cc = 0 ∨ ∃ b off, x0 = some ⟨b, off, none⟩ ∧ x = some ⟨b, off + a * wid sh, none⟩)) ∨
        ∃ b, q = .pointer (some ⟨b, 0, none⟩) ∧ sh = none ∧ (cc = 0 ∨ x = some ⟨b, a, none⟩) ∧ ∀ m, c = some m → cc = m) : Den w X ρ (.rsl r sh a n c) (.slice x n cc)
  | rptr (ρ : Env) (r : Nat) (sh : Option Nat) (i off b o : Nat) (h : ∀ q, ρ r = some q → ∃ len cap, q = .slice (some ⟨b, o, none⟩) len cap) : Den w X ρ (.rptr r sh i off) (.pointer (some ⟨b, o + i * wid sh + off, none⟩))
  | eptr (ρ : Env) (sh : Option Nat) (x : SV) (off b o : Nat) (us : List Value) (hb : b < w.heap.size) (hx : ¬ X b)
      (hu : ∀ j u, us[j]? = some u → w.cell? ⟨b, o + j, none⟩ = some u) (hl : us.length = wid sh) (h : Den w X noEnv x (valAt sh us 0)) : Den w X ρ (.eptr sh x off) (.pointer (some ⟨b, o + off, none⟩))
  | clo (ρ : Env) (f : Nat) (caps : List SV) (us : List Value) (hl : caps.length = us.length) (h : ∀ i (h1 : i < caps.length) (h2 : i < us.length), Den w X noEnv caps[i] us[i]) : Den w X ρ (.clo f caps) (.func (.func f) #[] ⟨us⟩)
  | val (ρ : Env) (v : Value) : Den w X ρ (.val v) v
  | obj (ρ : Env) (r : Nat) (v : Value) (h1 : v.oneCell' = true) (h : ∀ q, ρ r = some q → q = v) : Den w X ρ (.obj r) v
  | fcl (ρ : Env) (f : Nat) (caps : List SV) (us : List Value) (hl : caps.length = us.length) (h : ∀ i (h1 : i < caps.length) (h2 : i < us.length), Den w X ρ caps[i] us[i]) : Den w X ρ (.fcl f caps) (.func (.func f) #[] ⟨us⟩)
  | cel (ρ : Env) (x : SV) (b o : Nat) (u : Value) (hb : b < w.heap.size) (hx : ¬ X b) (hu : w.cell? ⟨b, o, none⟩ = some u) (h : Den w X ρ x u) : Den w X ρ (.cel x) (.pointer (some ⟨b, o, none⟩))
  | lsx (ρ : Env) (sh : Option Nat) (l : List SV) (b off cap : Nat) (us : List Value) (hb : b < w.heap.size) (hx : ¬ X b)
      (hc : l.length ≤ cap) (hu : ∀ j u, us[j]? = some u → w.cell? ⟨b, off + j, none⟩ = some u) (hl : us.length = l.length * wid sh) (ho : ∀ u ∈ us, u.oneCell' = true)
      (h : ∀ i (h1 : i < l.length), Den w X ρ l[i] (valAt sh us i)) : Den w X ρ (.lsx sh l) (.slice (some ⟨b, off, none⟩) l.length cap)
  | epx (ρ : Env) (sh : Option Nat) (x : SV) (off b o : Nat) (us : List Value) (hb : b < w.heap.size) (hx : ¬ X b)
      (hu : ∀ j u, us[j]? = some u → w.cell? ⟨b, o + j, none⟩ = some u) (hl : us.length = wid sh) (h : Den w X ρ x (valAt sh us 0)) : Den w X ρ (.epx sh x off) (.pointer (some ⟨b, o + off, none⟩))

theorem cell_keep {w w' : World} {X X' : Nat → Prop} (hk : ∀ b, b < w.heap.size → ¬ X b → ¬ X' b ∧ w'.heap[b]? = w.heap[b]?) {b : Nat} (hb : b < w.heap.size) (hx : ¬ X b) (o : Nat) :
    w'.cell? ⟨b, o, none⟩ = w.cell? ⟨b, o, none⟩ := World.cell?_of_block (w := w) (hk b hb hx).2

theorem Den.mono {w w' : World} {X X' : Nat → Prop} (hs : w.heap.size ≤ w'.heap.size) (hk : ∀ b, b < w.heap.size → ¬ X b → ¬ X' b ∧ w'.heap[b]? = w.heap[b]?)
    {ρ : Env} {x : SV} {v : Value} (h : Den w X ρ x v) : Den w' X' ρ x v := by
  induction h with
  | any ρ v => exact .any ρ v
  | bool ρ b => exact .bool ρ b
  | int ρ k n => exact .int ρ k n
  | str ρ s => exact .str ρ s
  | agg ρ l cs hl h ih => exact .agg ρ l cs hl ih
  | tup ρ l cs hl h ih => exact .tup ρ l cs hl ih
  | lst0 ρ sh a cap => exact .lst0 ρ sh a cap
  | lst ρ sh l b off cap us hb hx hc hu hl ho h ih =>
    exact .lst ρ sh l b off cap us (by omega) (hk b hb hx).1 hc (fun j u hj => by rw [cell_keep hk hb hx]; exact hu j u hj) hl ho ih
  | nil ρ => exact .nil ρ
  | ptr ρ r off b h => exact .ptr ρ r off b h
  | row ρ r a n c h => exact .row ρ r a n c h
  | rsl ρ r sh a n c x cc hc h => exact .rsl ρ r sh a n c x cc hc h
  | rptr ρ r sh i off b o h => exact .rptr ρ r sh i off b o h
  | eptr ρ sh x off b o us hb hx hu hl h ih =>
    exact .eptr ρ sh x off b o us (by omega) (hk b hb hx).1 (fun j u hj => by rw [cell_keep hk hb hx]; exact hu j u hj) hl ih
  | clo ρ f caps us hl h ih => exact .clo ρ f caps us hl ih
  | val ρ v => exact .val ρ v
  | obj ρ r v h1 h => exact .obj ρ r v h1 h
  | fcl ρ f caps us hl h ih => exact .fcl ρ f caps us hl ih
  | cel ρ x b o u hb hx hu h ih => exact .cel ρ x b o u (by omega) (hk b hb hx).1 (by rw [cell_keep hk hb hx]; exact hu) ih
  | lsx ρ sh l b off cap us hb hx hc hu hl ho h ih =>
    exact .lsx ρ sh l b off cap us (by omega) (hk b hb hx).1 hc (fun j u hj => by rw [cell_keep hk hb hx]; exact hu j u hj) hl ho ih
  | epx ρ sh x off b o us hb hx hu hl h ih =>
    exact .epx ρ sh x off b o us (by omega) (hk b hb hx).1 (fun j u hj => by rw [cell_keep hk hb hx]; exact hu j u hj) hl ih

/-- Does the value not mention resource r? -/
def noref (r : Nat) : SV → Bool
  | .ptr q _ | .row q | .rsl q _ _ _ _ | .rptr q _ _ _ | .obj q => !(Nat.beq q r)
  | .agg l | .tup l | .fcl _ l | .lsx _ l => norefs r l
  | .cel x => noref r x
  | .epx _ x _ => noref r x
  | _ => true
where norefs (r : Nat) : List SV → Bool
  | [] => true
  | x :: l => noref r x && norefs r l

theorem norefs_get {r : Nat} : ∀ {l : List SV}, noref.norefs r l = true → ∀ i (h : i < l.length), noref r l[i] = true
  | [], _, i, h => by simp at h
  | x :: l, hn, 0, _ => by simp [noref.norefs] at hn; exact hn.1
  | x :: l, hn, i + 1, h => by
    simp [noref.norefs] at hn
    exact norefs_get hn.2 i (by simpa using h)

theorem Den.env {w : World} {X : Nat → Prop} {ρ ρ' : Env} {x : SV} {v : Value} (h : Den w X ρ x v)
    (he : ∀ r, ρ' r = none ∨ ρ' r = ρ r ∨ noref r x = true) : Den w X ρ' x v := by
  induction h generalizing ρ' with
  | any ρ v => exact .any _ v
  | bool ρ b => exact .bool _ b
  | int ρ k n => exact .int _ k n
  | str ρ s => exact .str _ s
  | agg ρ l cs hl h ih =>
    refine .agg _ l cs hl fun i h1 h2 => ih i h1 h2 fun r => ?_
    rcases he r with e | e | e
    · exact .inl e
    · exact .inr (.inl e)
    · exact .inr (.inr (norefs_get (by simpa [noref] using e) i h1))
  | tup ρ l cs hl h ih =>
    refine .tup _ l cs hl fun i h1 h2 => ih i h1 h2 fun r => ?_
    rcases he r with e | e | e
    · exact .inl e
    · exact .inr (.inl e)
    · exact .inr (.inr (norefs_get (by simpa [noref] using e) i h1))
  | lst0 ρ sh a cap => exact .lst0 _ sh a cap
  | lst ρ sh l b off cap us hb hx hc hu hl ho h ih => exact .lst _ sh l b off cap us hb hx hc hu hl ho h
  | nil ρ => exact .nil _
  | ptr ρ r off b h =>
    refine .ptr _ r off b fun q hq => ?_
    rcases he r with e | e | e
    · rw [e] at hq; cases hq
    · exact h q (e ▸ hq)
    · simp [noref] at e
  | row ρ r a n c h =>
    refine .row _ r a n c fun q hq => ?_
    rcases he r with e | e | e
    · rw [e] at hq; cases hq
    · exact h q (e ▸ hq)
    · simp [noref] at e
  | rsl ρ r sh a n c x cc hc h =>
    refine .rsl _ r sh a n c x cc hc fun q hq => ?_
    rcases he r with e | e | e
    · rw [e] at hq; cases hq
    · exact h q (e ▸ hq)
    · simp [noref] at e
  | rptr ρ r sh i off b o h =>
    refine .rptr _ r sh i off b o fun q hq => ?_
    rcases he r with e | e | e
    · rw [e] at hq; cases hq
    · exact h q (e ▸ hq)
    · simp [noref] at e
  | eptr ρ sh x off b o us hb hx hu hl h ih => exact .eptr _ sh x off b o us hb hx hu hl h
  | clo ρ f caps us hl h ih => exact .clo _ f caps us hl h
  | val ρ v => exact .val _ v
  | obj ρ r v h1 h =>
    refine .obj _ r v h1 fun q hq => ?_
    rcases he r with e | e | e
    · rw [e] at hq; cases hq
    · exact h q (e ▸ hq)
    · simp [noref] at e
  | fcl ρ f l cs hl h ih =>
    refine .fcl _ f l cs hl fun i h1 h2 => ih i h1 h2 fun r => ?_
    rcases he r with e | e | e
    · exact .inl e
    · exact .inr (.inl e)
    · exact .inr (.inr (norefs_get (by simpa [noref] using e) i h1))
  | cel ρ x b o u hb hx hu h ih => exact .cel _ x b o u hb hx hu (ih fun r => by simpa only [noref] using he r)
  | lsx ρ sh l b off cap us hb hx hc hu hl ho h ih =>
    refine .lsx _ sh l b off cap us hb hx hc hu hl ho fun i h1 => ih i h1 fun r => ?_
    rcases he r with e | e | e
    · exact .inl e
    · exact .inr (.inl e)
    · exact .inr (.inr (norefs_get (by simpa [noref] using e) i h1))
  | epx ρ sh x off b o us hb hx hu hl h ih => exact .epx _ sh x off b o us hb hx hu hl (ih fun r => by simpa only [noref] using he r)

theorem Den.to_no {w : World} {X : Nat → Prop} {ρ : Env} {x : SV} {v : Value} (h : Den w X ρ x v) : Den w X noEnv x v := h.env fun _ => .inl rfl
end Go.Proofs.YtligbjbkecmecaaDoor
