/- The operations that read no memory, with the abstract values of their operands: what each gives; that the model agrees. -/
import Derived.Test.YtligbjbkecmecaaDoorOp
import Derived.Laws.StructEq
import Derived.ChangeKeysEq
import Derived.Laws.Concat
namespace Go.Proofs.YtligbjbkecmecaaDoor
set_option linter.unusedVariables false
set_option linter.unusedSimpArgs false
open Go.RowKit

/-- An abstract value of one cell. -/
def atomB : SV → Bool
  | .any | .agg _ | .tup _ => false
  | .val v => v.oneCell'
  | _ => true
def allAtom : List SV → Bool
  | [] => true
  | x :: l => atomB x && allAtom l
def cellsA : SV → Option (List SV)
  | .agg l => if allAtom l then some l else none
  | x => if atomB x then some [x] else none

def DenL (w : World) (X : Nat → Prop) (ρ : Env) (xs : List SV) (us : List Value) : Prop :=
  xs.length = us.length ∧ ∀ (i : Nat) (x : SV) (u : Value), xs[i]? = some x → us[i]? = some u → Den w X ρ x u

theorem Den.agg_iff {w : World} {X : Nat → Prop} {ρ : Env} {l : List SV} {v : Value} : Den w X ρ (.agg l) v ↔ ∃ cs, v = .agg ⟨cs⟩ ∧ DenL w X ρ l cs := by
  constructor
  · intro h
    cases h with
    | agg _ l cs hl h => exact ⟨cs, rfl, hl, fun i x u hx hu => by
        obtain ⟨h1, rfl⟩ := List.getElem?_eq_some_iff.1 hx
        obtain ⟨h2, rfl⟩ := List.getElem?_eq_some_iff.1 hu
        exact h i h1 h2⟩
  · rintro ⟨cs, rfl, hl, h⟩
    exact .agg ρ l cs hl fun i h1 h2 => h i _ _ (List.getElem?_eq_getElem h1) (List.getElem?_eq_getElem h2)
theorem Den.tup_iff {w : World} {X : Nat → Prop} {ρ : Env} {l : List SV} {v : Value} : Den w X ρ (.tup l) v ↔ ∃ cs, v = .tuple ⟨cs⟩ ∧ DenL w X ρ l cs := by
  constructor
  · intro h
    cases h with
    | tup _ l cs hl h => exact ⟨cs, rfl, hl, fun i x u hx hu => by
        obtain ⟨h1, rfl⟩ := List.getElem?_eq_some_iff.1 hx
        obtain ⟨h2, rfl⟩ := List.getElem?_eq_some_iff.1 hu
        exact h i h1 h2⟩
  · rintro ⟨cs, rfl, hl, h⟩
    exact .tup ρ l cs hl fun i h1 h2 => h i _ _ (List.getElem?_eq_getElem h1) (List.getElem?_eq_getElem h2)
theorem Den.bool_iff {w : World} {X : Nat → Prop} {ρ : Env} {b : Bool} {v : Value} : Den w X ρ (.bool b) v ↔ v = .bool b :=
  ⟨fun h => by cases h; rfl, fun h => by subst h; exact .bool _ _⟩
theorem Den.int_iff {w : World} {X : Nat → Prop} {ρ : Env} {k : IntKind} {n : Int} {v : Value} : Den w X ρ (.int k n) v ↔ v = .int k n :=
  ⟨fun h => by cases h; rfl, fun h => by subst h; exact .int _ _ _⟩
theorem Den.str_iff {w : World} {X : Nat → Prop} {ρ : Env} {s : ByteArray} {v : Value} : Den w X ρ (.str s) v ↔ v = .string s :=
  ⟨fun h => by cases h; rfl, fun h => by subst h; exact .str _ _⟩

theorem Den.one {w : World} {X : Nat → Prop} {ρ : Env} {x : SV} {v : Value} (h : Den w X ρ x v) (ha : atomB x = true) : v.oneCell' = true := by
  cases h <;> first | rfl | (simp [atomB] at ha; done) | exact ha | assumption

theorem one_cells {v : Value} (h : v.oneCell' = true) : v.cells = #[v] := by
  cases v <;> first | rfl | (simp [Value.oneCell'] at h)

/-- Plain data of one cell: no reference to a resource. -/
def plainB : SV → Bool
  | .bool _ | .int _ _ | .str _ | .lst _ _ | .nil | .eptr _ _ _ | .clo _ _ => true
  | .val v => v.oneCell'
  | _ => false
theorem plain_atom {x : SV} (h : plainB x = true) : atomB x = true := by
  cases x <;> simp_all [plainB, atomB]

/-! ### Equality -/
def leafEq : TK → SV → SV → Option (Unit → Bool)
  | .bool, .bool a, .bool b => some fun _ => decide (a = b)
  | .int _, .int k a, .int j b => if k = j then some fun _ => decide (a = b) else none
  | .string, .str a, .str b => some fun _ => a == b
  | _, _, _ => none
def leaf1 (k : TK) : List SV → List SV → Option (Unit → Bool)
  | [x], [y] => leafEq k x y
  | _, _ => none
def andO (a b : Option (Unit → Bool)) : Option (Unit → Bool) :=
  match a, b with
  | some f, some g => some fun _ => f () && g ()
  | _, _ => none
def takeN {A : Type} : List A → Nat → List A
  | _, 0 => []
  | [], _ => []
  | a :: l, n + 1 => a :: takeN l n
def dropN {A : Type} : List A → Nat → List A
  | l, 0 => l
  | [], _ => []
  | _ :: l, n + 1 => dropN l n
theorem takeN_eq {A : Type} : ∀ (l : List A) (n : Nat), takeN l n = l.take n
  | l, 0 => by cases l <;> simp [takeN]
  | [], n + 1 => by simp [takeN]
  | a :: l, n + 1 => by simp [takeN, takeN_eq l n]
theorem dropN_eq {A : Type} : ∀ (l : List A) (n : Nat), dropN l n = l.drop n
  | l, 0 => by cases l <;> simp [dropN]
  | [], n + 1 => by simp [dropN]
  | a :: l, n + 1 => by simp [dropN, dropN_eq l n]

def eqT (T : Nat → Option TI) : Nat → Nat → List SV → List SV → Option (Unit → Bool)
  | 0, _, _, _ => none
  | m + 1, t, xs, ys =>
    match T t with
    | none => none
    | some i =>
      match i.kind with
      | .struct fs => eqFs T m xs ys fs
      | .array n el => (match T el with
        | none => none
        | some j => eqIs T m el j.size xs ys (List.range n))
      | k => leaf1 k xs ys
where
  eqFs (T : Nat → Option TI) (m : Nat) (xs ys : List SV) : List (Nat × Nat) → Option (Unit → Bool)
    | [] => some fun _ => true
    | (off, t) :: fs =>
      match T t with
      | none => none
      | some i => andO (eqT T m t (takeN (dropN xs off) i.size) (takeN (dropN ys off) i.size)) (eqFs T m xs ys fs)
  eqIs (T : Nat → Option TI) (m el c : Nat) (xs ys : List SV) : List Nat → Option (Unit → Bool)
    | [] => some fun _ => true
    | k :: ks => if k * c + c ≤ xs.length ∧ k * c + c ≤ ys.length then andO (eqT T m el (takeN (dropN xs (k * c)) c) (takeN (dropN ys (k * c)) c)) (eqIs T m el c xs ys ks) else none

/-- A type whose values may be compared cell by cell. -/
structure CmpOk (P : Program) (t : Nat) : Prop where
  held : P.stoodInHeld t = false
  guard : P.eqGuardType P.depth t = false
  names : ∀ fs, P.underlying t = some (.struct fs) → (fs.toList.all fun f => f.name != "_") = true

structure Types (P : Program) (T : Nat → Option TI) : Prop where
  ok : ∀ t i, T t = some i → TOk P t i
  cmp : ∀ t i, T t = some i → i.kind.aggB = true → P.stoodInHeld t = false ∧ P.eqGuardType P.depth t = false ∧ ∀ fs, P.underlying t = some (.struct fs) → (fs.toList.all fun f => f.name != "_") = true

variable {P : Program} {T : Nat → Option TI}

theorem TOk.desc {t : Nat} {i : TI} (h : TOk P t i) : ∃ d, P.underlying t = some d ∧ TK.of d = i.kind := by
  have := h.kind
  cases hu : P.underlying t with
  | none => simp [hu] at this
  | some d => exact ⟨d, rfl, by simpa [hu] using this⟩
theorem TOk.und_int {t : Nat} {i : TI} {k : IntKind} (h : TOk P t i) (hk : i.kind = .int k) : P.underlying t = some (.int k) := by
  obtain ⟨d, hd, e⟩ := h.desc
  rw [hk] at e
  cases d <;> simp [TK.of] at e
  subst e; exact hd
theorem TOk.und_bool {t : Nat} {i : TI} (h : TOk P t i) (hk : i.kind = .bool) : P.underlying t = some .bool := by
  obtain ⟨d, hd, e⟩ := h.desc
  rw [hk] at e
  cases d <;> simp [TK.of] at e
  exact hd
theorem TOk.und_string {t : Nat} {i : TI} (h : TOk P t i) (hk : i.kind = .string) : P.underlying t = some .string := by
  obtain ⟨d, hd, e⟩ := h.desc
  rw [hk] at e
  cases d <;> simp [TK.of] at e
  exact hd
theorem TOk.und_slice {t : Nat} {i : TI} {el : Nat} (h : TOk P t i) (hk : i.kind = .slice el) : P.underlying t = some (.slice el) := by
  obtain ⟨d, hd, e⟩ := h.desc
  rw [hk] at e
  cases d <;> simp [TK.of] at e
  subst e; exact hd
theorem TOk.und_array {t : Nat} {i : TI} {n el : Nat} (h : TOk P t i) (hk : i.kind = .array n el) : P.underlying t = some (.array n el) := by
  obtain ⟨d, hd, e⟩ := h.desc
  rw [hk] at e
  cases d <;> simp [TK.of] at e
  obtain ⟨rfl, rfl⟩ := e; exact hd
theorem TOk.und_struct {t : Nat} {i : TI} {fs : List (Nat × Nat)} (h : TOk P t i) (hk : i.kind = .struct fs) : ∃ gs, P.underlying t = some (.struct gs) ∧ gs.toList.map (fun f => (f.offset, f.type)) = fs := by
  obtain ⟨d, hd, e⟩ := h.desc
  rw [hk] at e
  cases d <;> simp [TK.of] at e
  exact ⟨_, hd, e⟩
theorem TOk.inf {t : Nat} {i : TI} (h : TOk P t i) : ∃ j, P.info? t = some j ∧ j.size = i.size ∧ j.bytes = i.bytes := by
  have := h.info
  cases hu : P.info? t with
  | none => simp [hu] at this
  | some d => simp [hu] at this; exact ⟨d, rfl, this.1, this.2⟩
theorem TOk.sizeOf {t : Nat} {i : TI} (h : TOk P t i) (w : World) : (sizeOf t).run P w = .ok i.size w := by
  obtain ⟨j, h1, h2, _⟩ := h.inf
  simp [Go.sizeOf, typeInfo, h1, h2]
theorem TOk.isAgg {t : Nat} {i : TI} (h : TOk P t i) (w : World) : (isAgg t).run P w = .ok i.kind.aggB w := by
  obtain ⟨d, hd, e⟩ := h.desc
  simp only [Go.isAgg, Sem.run_bind, run_underlying hd, Result.andThen_ok]
  rw [← e]
  cases d <;> simp [TK.of, TK.aggB]
theorem TOk.zero_run {t : Nat} {i : TI} (h : TOk P t i) : ∃ z, (∀ w, (zeroValue t).run P w = .ok z w) ∧ i.zero = ofValue z ∧ z.cells.size = i.size ∧ (z.cells.all (·.oneCell')) = true ∧ ((∃ cs, z = .agg cs) ↔ i.kind.aggB = true) := by
  obtain ⟨z, hz, h1⟩ := h.zero
  refine ⟨z, fun w => ?_, h1⟩
  cases hu : P.info? t with
  | none => simp [hu] at hz
  | some d => simp [hu] at hz; simp [zeroValue, typeInfo, hu, hz]

/-- The value that the model reads at type t off the cells cs at off. -/
theorem run_part {t : Nat} {i : TI} (h : TOk P t i) (cs : List Value) (off : Nat) (hl : off + i.size ≤ cs.length) (h1 : i.kind.aggB = false → i.size = 1) (w : World) :
    (part t ⟨cs⟩ off).run P w = .ok (valAt i.shape (cs.drop off) 0) w := by
  simp only [part, Sem.run_bind, h.isAgg, Result.andThen_ok, TI.shape]
  cases hb : i.kind.aggB
  · simp only [Bool.false_eq_true, if_false, valAt]
    have : off < cs.length := by have := h1 hb; omega
    simp [this]
  · simp only [if_true, Sem.run_bind, h.sizeOf, Result.andThen_ok, Sem.run_pure, valAt]
    simp [List.take_drop]

theorem DenL.sub {w : World} {X : Nat → Prop} {ρ : Env} {xs : List SV} {us : List Value} (h : DenL w X ρ xs us) (off n : Nat) : DenL w X ρ ((xs.drop off).take n) ((us.drop off).take n) := by
  refine ⟨by simp [h.1], fun i x u hx hu => h.2 (off + i) x u ?_ ?_⟩
  · rw [List.getElem?_take] at hx
    split at hx
    · simpa using hx
    · cases hx
  · rw [List.getElem?_take] at hu
    split at hu
    · simpa using hu
    · cases hu

/-- What the cells xs of type t denote. -/
theorem DenL.val {w : World} {X : Nat → Prop} {ρ : Env} {xs : List SV} {us : List Value} (h : DenL w X ρ xs us) (n : Nat) (hn : xs.length = n) : Den w X ρ (.agg xs) (valAt (some n) us 0) := by
  have : us.take n = us := List.take_of_length_le (by rw [← h.1, hn]; exact Nat.le_refl _)
  simp only [valAt, Nat.zero_mul, List.drop_zero, this]
  exact Den.agg_iff.2 ⟨us, rfl, h⟩

theorem leaf_sound (tys : Types P T) {w : World} {X : Nat → Prop} {ρ : Env} {t : Nat} {i : TI} (ht : T t = some i) {x y : SV} {u v : Value} {f : Unit → Bool} (h : leafEq i.kind x y = some f) (dx : Den w X ρ x u) (dy : Den w X ρ y v) (d : Nat) :
    (Op.equalIn (d + 1) t u v).run P w = .ok (f ()) w := by
  have tok := tys.ok t i ht
  cases hk : i.kind with
  | bool =>
    rw [hk] at h
    cases x <;> cases y <;> simp only [leafEq] at h <;> first | (cases h; done) | skip
    injection h with h; subst h
    rw [Den.bool_iff.1 dx, Den.bool_iff.1 dy]
    exact run_equalIn_bool w _ _ _ _ (tok.und_bool hk)
  | int k =>
    rw [hk] at h
    cases x <;> cases y <;> simp only [leafEq] at h <;> first | (cases h; done) | skip
    split at h
    · rename_i e
      injection h with h; subst h; subst e
      rw [Den.int_iff.1 dx, Den.int_iff.1 dy]
      exact run_equalIn_int w _ _ _ _ _ _ (tok.und_int hk)
    · cases h
  | string =>
    rw [hk] at h
    cases x <;> cases y <;> simp only [leafEq] at h <;> first | (cases h; done) | skip
    injection h with h; subst h
    rw [Den.str_iff.1 dx, Den.str_iff.1 dy, run_equalIn_string w _ _ _ _ (tok.und_string hk), beq_toListBytes]
  | struct fs => rw [hk] at h; cases x <;> cases y <;> simp only [leafEq] at h <;> cases h
  | array n e => rw [hk] at h; cases x <;> cases y <;> simp only [leafEq] at h <;> cases h
  | slice e => rw [hk] at h; cases x <;> cases y <;> simp only [leafEq] at h <;> cases h
  | other => rw [hk] at h; cases x <;> cases y <;> simp only [leafEq] at h <;> cases h

theorem andO_some {a b : Option (Unit → Bool)} {f : Unit → Bool} (h : andO a b = some f) : ∃ p q, a = some p ∧ b = some q ∧ f () = (p () && q ()) := by
  cases a <;> cases b <;> simp only [andO] at h <;> first | (cases h; done) | skip
  injection h with h; subst h
  exact ⟨_, _, rfl, rfl, rfl⟩

/-- Sizes: a type that is no struct and no array has one cell. -/
structure Sizes (T : Nat → Option TI) : Prop where
  one : ∀ t i, T t = some i → i.kind.aggB = false → i.size = 1
  fit : ∀ t i fs, T t = some i → i.kind = .struct fs → ∀ off ft j, (off, ft) ∈ fs → T ft = some j → off + j.size ≤ i.size

theorem valAt_drop (sh : Option Nat) (us : List Value) (off n : Nat) (hn : n = wid sh) (h : off + n ≤ us.length) : valAt sh (us.drop off) 0 = valAt sh ((us.drop off).take n) 0 := by
  cases sh with
  | none => simp only [wid] at hn; subst hn; simp [valAt]
  | some m => simp only [wid] at hn; subst hn; simp [valAt, List.take_take]

theorem TI.wid_size {i : TI} (h : i.kind.aggB = false → i.size = 1) : i.size = wid i.shape := by
  unfold TI.shape
  cases hb : i.kind.aggB
  · simp [wid, h hb]
  · simp [wid]

theorem eqT_sound (tys : Types P T) (sz : Sizes T) {w : World} {X : Nat → Prop} {ρ : Env} (m : Nat) : ∀ (t : Nat) (i : TI) (xs ys : List SV) (us vs : List Value) (f : Unit → Bool) (d : Nat),
    T t = some i → eqT T m t xs ys = some f → DenL w X ρ xs us → DenL w X ρ ys vs → xs.length = i.size → ys.length = i.size →
    (Op.equalIn (d + m) t (valAt i.shape us 0) (valAt i.shape vs 0)).run P w = .ok (f ()) w := by
  induction m with
  | zero => intro t i xs ys us vs f d _ h; simp [eqT] at h
  | succ m ih =>
    intro t i xs ys us vs f d ht h hx hy hxl hyl
    have tok := tys.ok t i ht
    have leaf : i.kind.aggB = false → leaf1 i.kind xs ys = some f → (Op.equalIn (d + (m + 1)) t (valAt i.shape us 0) (valAt i.shape vs 0)).run P w = .ok (f ()) w := by
      intro hb h
      unfold leaf1 at h
      split at h
      · rename_i x y
        have hu : us.length = 1 := by rw [← hx.1]; rfl
        have hv : vs.length = 1 := by rw [← hy.1]; rfl
        obtain ⟨u, rfl⟩ : ∃ u, us = [u] := List.length_eq_one_iff.1 hu
        obtain ⟨v, rfl⟩ : ∃ v, vs = [v] := List.length_eq_one_iff.1 hv
        simp only [TI.shape, hb, Bool.false_eq_true, if_false, valAt]
        exact leaf_sound tys ht h (hx.2 0 _ _ rfl rfl) (hy.2 0 _ _ rfl rfl) (d + m)
      · cases h
    cases hk : i.kind with
    | struct fs =>
      have hh : eqT.eqFs T m xs ys fs = some f := by simpa only [eqT, ht, hk] using h
      clear h
      have h := hh
      clear hh
      obtain ⟨gs, hg, hgs⟩ := tok.und_struct hk
      obtain ⟨h1, h2, h3⟩ := tys.cmp t i ht (by rw [hk]; rfl)
      have hf : P.fieldsOf t = gs := by simp [Program.fieldsOf, hg]
      have e1 : valAt i.shape us 0 = .agg ⟨us⟩ := by
        simp only [TI.shape, hk, TK.aggB, if_true, valAt, Nat.zero_mul, List.drop_zero]
        rw [List.take_of_length_le (by rw [← hx.1, hxl]; exact Nat.le_refl _)]
      have e2 : valAt i.shape vs 0 = .agg ⟨vs⟩ := by
        simp only [TI.shape, hk, TK.aggB, if_true, valAt, Nat.zero_mul, List.drop_zero]
        rw [List.take_of_length_le (by rw [← hy.1, hyl]; exact Nat.le_refl _)]
      rw [e1, e2, show d + (m + 1) = d + m + 1 from rfl, run_equalIn_struct w (d + m) t _ _ (by rw [hf]; exact hg) h1, hf]
      have hn := h3 gs hg
      have hin : ∀ q ∈ fs, ∀ j, T q.2 = some j → q.1 + j.size ≤ i.size := fun q hq j hj => sz.fit t i fs ht hk q.1 q.2 j hq hj
      clear hg hf h2 h3 e1 e2 leaf hk
      generalize gs.toList = gl at hgs hn
      subst hgs
      induction gl generalizing f with
      | nil => simp only [List.map_nil, eqT.eqFs] at h; injection h with h; subst h; simp [Op.eqFields]
      | cons g gl ihg =>
        simp only [List.map_cons, eqT.eqFs] at h
        cases hj : T g.type with
        | none => simp [hj] at h
        | some j =>
          simp only [hj] at h
          obtain ⟨p, q, hp, hq, hfe⟩ := andO_some h
          simp only [List.all_cons, Bool.and_eq_true] at hn
          have hfit := hin (g.offset, g.type) (by simp) j hj
          simp only at hfit
          have tj := tys.ok _ j hj
          have hpx := run_part tj us g.offset (by rw [← hx.1, hxl]; exact hfit) (sz.one _ _ hj) w
          have hpy := run_part tj vs g.offset (by rw [← hy.1, hyl]; exact hfit) (sz.one _ _ hj) w
          rw [takeN_eq, dropN_eq, takeN_eq, dropN_eq] at hp
          have hr := ih g.type j _ _ _ _ p d hj hp (hx.sub g.offset j.size) (hy.sub g.offset j.size) (by simp; omega) (by simp; omega)
          have w1 := TI.wid_size (sz.one _ _ hj)
          rw [← valAt_drop j.shape us g.offset j.size w1 (by rw [← hx.1, hxl]; exact hfit), ← valAt_drop j.shape vs g.offset j.size w1 (by rw [← hy.1, hyl]; exact hfit)] at hr
          have hne : g.name ≠ "_" := by simpa using hn.1
          simp only [Op.eqFields, hne, ne_eq, not_false_eq_true, if_true, Sem.run_bind, hpx, hpy, hr, Result.andThen_ok, hfe]
          cases hpv : p ()
          · simp
          · simp only [Bool.not_true, Bool.false_eq_true, if_false, Bool.true_and]
            have hin' : ∀ q ∈ List.map (fun f => (f.offset, f.type)) gl, ∀ (j : TI), T q.2 = some j → q.1 + j.size ≤ i.size := fun r hr => hin r (List.mem_cons_of_mem _ hr)
            first | exact ihg q hn.2 hq hin' | exact ihg q hn.2 hin' hq
    | bool => simp only [eqT, ht, hk] at h; exact leaf (by rw [hk]; rfl) (by rw [hk]; exact h)
    | int k => simp only [eqT, ht, hk] at h; exact leaf (by rw [hk]; rfl) (by rw [hk]; exact h)
    | string => simp only [eqT, ht, hk] at h; exact leaf (by rw [hk]; rfl) (by rw [hk]; exact h)
    | slice e => simp only [eqT, ht, hk] at h; exact leaf (by rw [hk]; rfl) (by rw [hk]; exact h)
    | other => simp only [eqT, ht, hk] at h; exact leaf (by rw [hk]; rfl) (by rw [hk]; exact h)
    | array n e =>
      have hh : (match T e with | none => none | some j => eqT.eqIs T m e j.size xs ys (List.range n)) = some f := by simpa only [eqT, ht, hk] using h
      clear h
      have h := hh
      clear hh
      cases hj : T e with
      | none => simp [hj] at h
      | some j =>
        simp only [hj] at h
        have tj := tys.ok _ j hj
        obtain ⟨ti, hti, hsz, _⟩ := tj.inf
        have e1 : valAt i.shape us 0 = .agg ⟨us⟩ := by
          simp only [TI.shape, hk, TK.aggB, if_true, valAt, Nat.zero_mul, List.drop_zero]
          rw [List.take_of_length_le (by rw [← hx.1, hxl]; exact Nat.le_refl _)]
        have e2 : valAt i.shape vs 0 = .agg ⟨vs⟩ := by
          simp only [TI.shape, hk, TK.aggB, if_true, valAt, Nat.zero_mul, List.drop_zero]
          rw [List.take_of_length_le (by rw [← hy.1, hyl]; exact Nat.le_refl _)]
        have hc : P.cellsOf e = j.size := by simp [Program.cellsOf, hti, hsz]
        rw [e1, e2, show d + (m + 1) = d + m + 1 from rfl, run_equalIn_array w (d + m) _ _ (tok.und_array hk) hti, hc]
        have w1 := TI.wid_size (sz.one _ _ hj)
        clear e1 e2 leaf hk
        generalize List.range n = is at h
        induction is generalizing f with
        | nil => simp only [eqT.eqIs] at h; injection h with h; subst h; simp [Op.eqItems]
        | cons k ks ihg =>
          simp only [eqT.eqIs] at h
          split at h
          · rename_i hfit
            obtain ⟨p, q, hp, hq, hfe⟩ := andO_some h
            have hpx := run_part tj us (k * j.size) (by rw [← hx.1]; exact hfit.1) (sz.one _ _ hj) w
            have hpy := run_part tj vs (k * j.size) (by rw [← hy.1]; exact hfit.2) (sz.one _ _ hj) w
            rw [takeN_eq, dropN_eq, takeN_eq, dropN_eq] at hp
            have hr := ih e j _ _ _ _ p d hj hp (hx.sub (k * j.size) j.size) (hy.sub (k * j.size) j.size) (by simp; omega) (by simp; omega)
            rw [← valAt_drop j.shape us (k * j.size) j.size w1 (by rw [← hx.1]; exact hfit.1), ← valAt_drop j.shape vs (k * j.size) j.size w1 (by rw [← hy.1]; exact hfit.2)] at hr
            simp only [Op.eqItems, Sem.run_bind, hpx, hpy, hr, Result.andThen_ok, hfe]
            cases hpv : p ()
            · simp
            · simp only [Bool.not_true, Bool.false_eq_true, if_false, Bool.true_and]
              exact ihg q hq
          · cases h
end Go.Proofs.YtligbjbkecmecaaDoor
