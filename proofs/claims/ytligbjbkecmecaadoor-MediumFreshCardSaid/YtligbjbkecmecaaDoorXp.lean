/- Operations on a row whose room is used: made with room, appended to in place, its capacity, a part up to its capacity, cleared; a map as a set of keys. -/
import Derived.Test.YtligbjbkecmecaaDoorXo
import Derived.DeepKeys3
namespace Go.Proofs.YtligbjbkecmecaaDoor
set_option linter.unusedVariables false
set_option linter.unusedSimpArgs false
open Go.RowKit
variable {P : Program} {T : Nat → Option TI}
/-- Two ways to go on; the proof chooses (the first of itself). -/
structure Chp (a b : Unit → Prop) : Prop where
  h : a () ∨ b ()
theorem chpA {a b : Unit → Prop} (h : a ()) : Chp a b := ⟨.inl h⟩
theorem chpB {a b : Unit → Prop} (h : b ()) : Chp a b := ⟨.inr h⟩
/-- What is known of a map type. -/
structure MapOk (P : Program) (t : Nat) (m : Nat × Nat × List IntKind) : Prop where
  und : P.underlying t = some (.map m.1 m.2.1)
  zero : ∀ w, (zeroValue m.2.1).run P w = .ok (.bool false) w
  law : WideMaps.KeyLaw P m.1
  fits : ∀ ys us, KFit m.2.2 ys us → ∃ l, keyOf P m.1 (.agg ⟨us⟩) = some l
def kfitQ : List IntKind → List SV → Prop
  | [], [] => True
  | k :: ks, .int j n :: ys => (if k = j then k.min ≤ n ∧ n ≤ k.max else False) ∧ kfitQ ks ys
  | _, _ => False
theorem kfit_den {w : World} {X : Nat → Prop} {ρ : Env} : ∀ {ks : List IntKind} {ys : List SV} {us : List Value}, kfitQ ks ys → DenL w X ρ ys us → KFit ks ys us
  | [], [], us, _, h => by
    have := h.1
    cases us with
    | nil => exact .nil
    | cons => simp at this
  | k :: ks, y :: ys, [], _, h => by have := h.1; simp at this
  | k :: ks, y :: ys, u :: us, hq, h => by
    cases y with
    | int j n =>
      simp only [kfitQ] at hq
      obtain ⟨h1, h2⟩ := hq
      split at h1
      · rename_i e
        subst e
        have h0 := h.2 0 _ _ rfl rfl
        rw [Den.int_iff] at h0
        subst h0
        exact .cons h1 (kfit_den h2 ⟨by have := h.1; simpa using this, fun i x u hx hu => h.2 (i + 1) x u hx hu⟩)
      · exact h1.elim
    | _ => exact hq.elim
  | [], _ :: _, _, hq, _ => hq.elim
  | _ :: _, [], _, hq, _ => hq.elim
theorem KFit.val {ks : List IntKind} {ys : List SV} {us us' : List Value} (h : KFit ks ys us) (h' : KFit ks ys us') : us = us' := by
  induction h generalizing us' with
  | nil => cases h'; rfl
  | cons h r ih => cases h' with | cons h2 r2 => rw [ih r2]
theorem KFit.key {ks : List IntKind} {ys ys' : List SV} {us : List Value} (h : KFit ks ys us) (h' : KFit ks ys' us) : ys = ys' := by
  induction h generalizing ys' with
  | nil => cases h'; rfl
  | cons h r ih => cases h' with | cons h2 r2 => rw [ih r2]

/-- Operations that only these rules know. -/
def isP (op : Op) (e : Operand → SV) : Bool :=
  match op with
  | .makeMap _ none => true
  | .lookup _ x _ false => (match e x with | .obj _ => true | _ => false)
  | .mapUpdate _ m _ _ => (match e m with | .obj _ => true | _ => false)
  | .call c => (match c.callee, c.args.toList with
    | .builtin .cap, [x] => (match e x with | .rsl _ _ _ _ (some _) => true | _ => false)
    | .builtin .clear, [x] => (match e x with | .rsl _ _ _ _ _ => true | _ => false)
    | _, _ => false)
  | _ => false
/-- Operations for which these rules are a second way. -/
def isP2 (op : Op) (e : Operand → SV) : Bool :=
  match op with
  | .makeSlice _ (.const (.int _ z)) _ => decide (z = 0)
  | .slice _ x _ (some _) none => (match e x with | .rsl _ _ _ _ _ => true | _ => false)
  | .call c => (match c.callee, c.args.toList with
    | .builtin .append, [x, _] => (match e x with | .rsl _ _ _ _ _ => true | _ => false)
    | _, _ => false)
  | _ => false
def capFits (c : Option Nat) (n : Nat) : Prop := match c with | some m => n ≤ m | none => True
def capLess (c : Option Nat) (n : Nat) : Option Nat := match c with | some m => some (m - n) | none => none
noncomputable def pvO (T : Nat → Option TI) (d : Option Nat) (op : Op) (e : Operand → SV) (μ : Nat → Blk) (κ : SV → List (Nat × Blk) → Option Nat → Prop) : Prop :=
  match op with
  | .makeMap t none => (match mapT t, d with
    | some _, some d => κ (.obj d) [(d, .gen 1 t [])] (some d)
    | _, _ => False)
  | .lookup t x k false => (match mapT t, e x, e k with
    | some m, .obj r, .agg ys => (match μ r with
      | .gen 1 t' l => if Nat.beq t' t then Rq (fun _ => kfitQ m.2.2 ys) (fun _ => QC (fun _ => SV.agg ys ∈ l) (fun b => κ (.bool b) [] none)) else False
      | _ => False)
    | _, _, _ => False)
  | .mapUpdate t x k v => (match mapT t, e x, e k, e v with
    | some m, .obj r, .agg ys, .bool true => (match μ r with
      | .gen 1 t' l => if Nat.beq t' t then Rq (fun _ => kfitQ m.2.2 ys) (fun _ => κ .any [(r, .gen 1 t' (O.ap l [.agg ys]))] none) else False
      | _ => False)
    | _, _, _, _ => False)
  | .makeSlice t n c => (match T t, d with
    | some i, some d => (match i.kind with
      | .slice el => (match T el, e n, e c with
        | some j, .int _ n, .int _ c => if chunkOk j j.zero && !(Nat.beq j.size 0) then
            QV (fun (m : Nat) => n = 0 ∧ c = (m : Int) ∧ c ≤ 9223372036854775807 ∧ (j.bytes : Int) * c ≤ 140737488355328) (fun m => κ (.rsl d j.shape 0 0 (some m)) [(d, .row j.shape el (O.rp c j.zero))] (some d)) else False
        | _, _, _ => False)
      | _ => False)
    | _, _ => False)
  | .call c => (match c.callee, c.argTypes.toList, c.args.toList with
    | .builtin .append, [t, t2], [s, x] => (match T t with
      | some i => (match i.kind with
        | .slice el => (match T el with
          | some j => if isSrc (T t2) && !(Nat.beq j.size 0) then (match e s, srcOf μ j.shape (e x) with
            | .rsl q sh a n c, some ys => (match μ q with
              | .row s' el' l => if shEq sh j.shape && shEq s' j.shape then
                  QV (fun (r : Nat × Nat × Nat) => r.1 = n + O.ln ys ∧ capFits c r.1 ∧ a + r.1 ≤ O.ln l ∧ r.2.1 = a + n ∧ r.2.2 = O.ln ys) (fun r => κ (.rsl q sh a r.1 c) [(q, .row s' el' (O.cp l r.2.1 r.2.2 ys))] none) else False
              | _ => False)
            | _, _ => False) else False
          | none => False)
        | _ => False)
      | none => False)
    | .builtin .cap, [t], [s] => (match T t with
      | some i => (match i.kind, e s with
        | .slice _, .rsl q sh _ _ (some c) => (match listB sh (μ q) with
          | some _ => Q1 (fun _ => True) (fun z => z = (c : Int)) (fun z => κ (.int .i64 z) [] none)
          | none => False)
        | _, _ => False)
      | none => False)
    | .builtin .clear, [t], [s] => (match T t with
      | some i => (match i.kind with
        | .slice el => (match T el, e s with
          | some j, .rsl q sh a n _ => (match μ q with
            | .row s' el' l => if shEq sh j.shape && shEq s' j.shape && chunkOk j j.zero && !(Nat.beq j.size 0) then Rq (fun _ => a + n ≤ O.ln l) (fun _ => κ .any [(q, .row s' el' (O.cp l a n (O.rp n j.zero)))] none) else False
            | _ => False)
          | _, _ => False)
        | _ => False)
      | none => False)
    | _, _, _ => False)
  | .slice t x lo (some hi) none => (match T t with
    | some i => (match i.kind with
      | .slice el => (match T el, e x, optI e lo, e hi with
        | some j, .rsl q sh a _ c, some zl, .int _ zh => (match listB j.shape (μ q) with
          | some l => if shEq sh j.shape then
              QV (fun (r : Nat × Nat × Option Nat) => ∃ lo hi : Nat, (match zl with | some z => z | none => 0) = (lo : Int) ∧ zh = (hi : Int) ∧ lo ≤ hi ∧ a + hi ≤ O.ln l ∧ capFits c hi ∧ r = (a + lo, hi - lo, capLess c lo)) (fun r => κ (.rsl q sh r.1 r.2.1 r.2.2) [] none) else False
          | none => False)
        | _, _, _, _ => False)
      | _ => False)
    | none => False)
  | _ => False
/-- An append that has room. -/
theorem run_append_into (w : World) (t t2 ty e : TypeId) (d2 : TypeDesc) (i : TypeInfo) (size : Nat) (ht : P.underlying t = some (.slice e)) (ht2 : P.underlying t2 = some d2) (hd2 : d2 = .string ∨ ∃ e', d2 = .slice e') (hi : P.info? e = some i) (hsz : i.size = size)
    (b off n cap : Nat) (cur : Array Value) (eb : TypeId) (hg : w.heap[b]? = some (.cells cur eb (0, 0))) (x : Value) (m : Nat) (news : List Value) (hn1 : ∀ u ∈ news, u.oneCell' = true)
    (hlen : ∀ w', (Builtin.lenOf x).run P w' = .ok m w') (hfc : (Builtin.firstCells size m x).run P w = .ok news.toArray w) (hroom : n + m ≤ cap) (hfit : off + n * size + news.length ≤ cur.size) :
    (Builtin.append_ #[t, t2] ty #[.slice (some ⟨b, off, none⟩) n cap, x]).run P w = .ok (.slice (some ⟨b, off, none⟩) (n + m) cap) (w.setRow b (cur.toList.take (off + n * size) ++ news ++ cur.toList.drop (off + n * size + news.length)).toArray) := by
  have hst := run_storeCells_at P b (off + n * size) eb news 0 cur w hg (by omega) hn1
  simp only [Nat.add_zero] at hst
  rcases hd2 with rfl | ⟨e', rfl⟩ <;> simp [Builtin.append_, run_underlying ht, run_underlying ht2, sizeOf, typeInfo, hi, hsz, hfc, hlen, hroom, addr_add, hst]
theorem run_append_none (w : World) (t t2 ty e : TypeId) (d2 : TypeDesc) (i : TypeInfo) (size : Nat) (ht : P.underlying t = some (.slice e)) (ht2 : P.underlying t2 = some d2) (hd2 : d2 = .string ∨ ∃ e', d2 = .slice e') (hi : P.info? e = some i) (hsz : i.size = size)
    (a : Option Addr) (n cap : Nat) (hnc : n ≤ cap) (x : Value) (hlen : ∀ w', (Builtin.lenOf x).run P w' = .ok 0 w') (hfc : (Builtin.firstCells size 0 x).run P w = .ok #[] w) :
    (Builtin.append_ #[t, t2] ty #[.slice a n cap, x]).run P w = .ok (.slice a n cap) w := by
  rcases hd2 with rfl | ⟨e', rfl⟩
  all_goals cases a <;> simp [Builtin.append_, run_underlying ht, run_underlying ht2, sizeOf, typeInfo, hi, hsz, hfc, hlen, storeCells, hnc]
/-- Elements written over others of a row, from a on. -/
theorem row_splice {N : Nat → Prop} {w0 w : World} {X : Nat → Prop} {mem : Mem} {ρ : Env} (m : MRep T N w0 w X mem ρ) {q : Nat} {sh : Option Nat} {el : Nat} {l ys : List SV} (hg : getM mem q = .row sh el l) (hp : 0 < wid sh)
    {b off cap : Nat} {cur : Array Value} (hv : ρ q = some (.slice (some ⟨b, off, none⟩) l.length cap)) (k1 : N b) (k2 : w.heap[b]? = some (.cells cur el (0, 0))) (k3 : l.length ≤ cap) (k4 : cap ≤ maxLen) (k5 : off + cap * wid sh ≤ cur.size) (k6 : 0 < cap)
    (k7 : ∀ u ∈ cur.toList, u.oneCell' = true) (k8 : ∀ (i : Nat) (h : i < l.length), Den w (Forb X mem ρ) noEnv l[i] (valAt sh (cur.toList.drop off) i)) {a : Nat} {us : List Value} (u1 : us.length = ys.length * wid sh) (u2 : ∀ u ∈ us, u.oneCell' = true)
    (u3 : ∀ (i : Nat) (h : i < ys.length), Den w (Forb X mem ρ) noEnv ys[i] (valAt sh us i)) (ha : a + ys.length ≤ l.length) :
    off + a * wid sh + us.length ≤ cur.size ∧ MRep T N w0 (w.setRow b (cur.toList.take (off + a * wid sh) ++ us ++ cur.toList.drop (off + a * wid sh + us.length)).toArray) X (setM (.row sh el (O.cp l a (O.ln ys) ys)) mem q) ρ ∧
      Turn w (Forb X mem ρ) ρ (w.setRow b (cur.toList.take (off + a * wid sh) ++ us ++ cur.toList.drop (off + a * wid sh + us.length)).toArray) (Forb X (setM (.row sh el (O.cp l a (O.ln ys) ys)) mem q) ρ) ρ none := by
  have e0 : O.cp l a (O.ln ys) ys = l.take a ++ ys ++ l.drop (a + ys.length) := by rw [O.hcp, O.hln, List.take_length, Nat.min_self]
  rw [e0]
  have hcl : cur.toList.length = cur.size := Array.length_toList
  have hle : l.length * wid sh ≤ cap * wid sh := Nat.mul_le_mul_right _ k3
  have hle2 : (a + ys.length) * wid sh ≤ l.length * wid sh := Nat.mul_le_mul_right _ ha
  have hadd : (a + ys.length) * wid sh = a * wid sh + ys.length * wid sh := Nat.add_mul _ _ _
  have hfit : off + a * wid sh + us.length ≤ cur.toList.length := by omega
  have hll : (l.take a ++ ys ++ l.drop (a + ys.length)).length = l.length := by
    simp only [List.length_append, List.length_take, List.length_drop]
    omega
  refine ⟨by omega, row_write (l' := l.take a ++ ys ++ l.drop (a + ys.length)) m hg hll hv k1 k2 k3 k4 k5 k6 k7 (off + a * wid sh) us (by omega) u2 (fun k hk => ?_)⟩
  have hk' : k < l.length := by omega
  have hkl : k * wid sh + wid sh ≤ l.length * wid sh := by rw [← Nat.succ_mul]; exact Nat.mul_le_mul_right _ hk'
  have hlen : ((cur.toList.take (off + a * wid sh) ++ us ++ cur.toList.drop (off + a * wid sh + us.length)).drop off).length = cur.size - off := by
    rw [List.length_drop, splice_len hfit, hcl]
  have hgetl : (l.take a ++ ys ++ l.drop (a + ys.length))[k]? = if a ≤ k ∧ k < a + ys.length then ys[k - a]? else l[k]? := by
    by_cases c1 : k < a
    · rw [if_neg (by omega), List.append_assoc, List.getElem?_append_left (by rw [List.length_take]; omega), List.getElem?_take, if_pos c1]
    · by_cases c2 : k < a + ys.length
      · rw [if_pos (by omega), List.append_assoc, List.getElem?_append_right (by rw [List.length_take]; omega), List.getElem?_append_left (by rw [List.length_take]; omega)]
        congr 1
        rw [List.length_take]
        omega
      · rw [if_neg (by omega), List.getElem?_append_right (by rw [List.length_append, List.length_take]; omega), List.getElem?_drop]
        congr 1
        rw [List.length_append, List.length_take]
        omega
  rw [List.getElem?_eq_getElem hk] at hgetl
  split at hgetl
  · rename_i hin
    have hky : k - a < ys.length := by omega
    rw [List.getElem?_eq_getElem hky] at hgetl
    injection hgetl with hgetl
    rw [hgetl]
    have e1 : (k - a) * wid sh + wid sh ≤ ys.length * wid sh := by rw [← Nat.succ_mul]; exact Nat.mul_le_mul_right _ (by omega)
    have e2 : k * wid sh = a * wid sh + (k - a) * wid sh := by rw [← Nat.add_mul]; congr 1; omega
    have : valAt sh ((cur.toList.take (off + a * wid sh) ++ us ++ cur.toList.drop (off + a * wid sh + us.length)).drop off) k = valAt sh us (k - a) := by
      rw [valAt_seg _ _ k (by omega), valAt_seg sh us (k - a) (by omega)]
      congr 1
      apply List.ext_getElem?
      intro p
      rw [List.getElem?_take, List.getElem?_take]
      split
      · rw [List.getElem?_drop, List.getElem?_drop, List.getElem?_drop, splice_get hfit, if_pos (by omega)]
        congr 1
        omega
      · rfl
    rw [this]
    exact u3 _ hky
  · rename_i hin
    rw [List.getElem?_eq_getElem hk'] at hgetl
    injection hgetl with hgetl
    rw [hgetl]
    have e1 : k < a → k * wid sh + wid sh ≤ a * wid sh := fun h => by rw [← Nat.succ_mul]; exact Nat.mul_le_mul_right _ h
    have e2 : ¬ k < a → (a + ys.length) * wid sh ≤ k * wid sh := fun h => Nat.mul_le_mul_right _ (by omega)
    rw [valAt_ext (vs := cur.toList.drop off) (by omega) (by rw [List.length_drop]; omega) (fun p h1 h2 => by
      rw [List.getElem?_drop, List.getElem?_drop, splice_get hfit, if_neg]
      by_cases c1 : k < a
      · have := e1 c1; omega
      · have := e2 c1; omega)]
    exact k8 k hk'
theorem cp_nil (l : List SV) (a : Nat) : O.cp l a 0 [] = l := by rw [O.hcp]; simp
theorem rp_get (n : Int) (z : SV) (i : Nat) (h : i < (O.rp n z).length) : (O.rp n z)[i] = z := by
  have h' := h
  simp only [O.hrp] at h'
  have : (O.rp n z)[i]? = some z := by rw [O.hrp, List.getElem?_replicate, if_pos (by simpa using h')]
  rw [List.getElem?_eq_getElem h] at this
  exact Option.some.inj this
/-- The law. -/
theorem pvO_ok (tys : Types P T) (sz : Sizes T) (mp : ∀ t m, mapT t = some m → MapOk P t m) {o : Oper} {e : Operand → SV} {μ : Nat → Blk} {κ : SV → List (Nat × Blk) → Option Nat → Prop} (h : pvO T o.dst o.op e μ κ) :
    ∃ x U cr, κ x U cr ∧ (∀ q b, (q, b) ∈ U → cr = some q ∨ (μ q).own = true) ∧ (∀ k, cr = some k → o.dst = some k ∧ ((∃ t, o.op = .makeMap t none) ∨ ∃ t n c, o.op = .makeSlice t n c)) ∧ Eff P T o e μ x U cr := by
  generalize ho : o.op = op at h
  cases op
  case makeMap t r =>
    cases r with
    | some r => exact h.elim
    | none =>
    simp only [pvO] at h
    split at h <;> try exact h.elim
    rename_i mt d hmt hd
    refine ⟨_, _, _, h, (fun q b hq => by simp at hq; exact .inl (by rw [hq.1])), (fun k hk => ⟨by rw [hd, ← hk], .inl ⟨_, rfl⟩⟩), .of_run fun mem hμ hcr a N w0 w X ρ m hden => ?_⟩
    obtain ⟨hno, hnr, hn⟩ := hcr d rfl
    have hbel : Below w.heap.size w (w.alloc (.map #[] 0)) := (Below.refl _ _).alloc (Nat.le_refl _) _
    obtain ⟨m', t'⟩ := m.create (w' := w.alloc (.map #[] 0)) hno hnr (B := .gen 1 t []) (v := .map (some w.heap.size)) (fun b hb => by simp only [vblock] at hb; injection hb with hb; subst hb; exact ⟨Nat.le_refl _, by show _ < (w.heap.push _).size; simp⟩) hbel
      (fun _ => ⟨_, w.heap.size, _, rfl, rfl, m.szN _ (Nat.le_refl _), heap_alloc_new w _, mt, hmt, rfl, #[], 0, rfl, by simp, by simp⟩)
    refine ⟨_, .map (some w.heap.size), _, _, ?_, .inl rfl, m', .obj _ d _ rfl (fun q hq => ?_), t'⟩
    · simp only [execOp, ho, Option.map_none, Instr.makeMap, newObj]
      rfl
    · simp only [upd, if_true] at hq
      injection hq with hq
      exact hq.symm
  case lookup t x k ok =>
    cases ok with
    | true => exact h.elim
    | false =>
    simp only [pvO] at h
    split at h <;> try exact h.elim
    rename_i mt r ys hmt hx hk
    split at h <;> try exact h.elim
    rename_i t' l hm
    split at h <;> try exact h.elim
    rename_i htt
    have htt : t' = t := Nat.eq_of_beq_eq_true htt
    subst htt
    obtain ⟨hfit, h⟩ := h
    have key : ∀ b : Bool, (b = true ↔ SV.agg ys ∈ l) → Eff P T o e μ (.bool b) [] none := by
      intro b hb
      refine .of_run fun mem hμ hcr a N w0 w X ρ m hden => ?_
      obtain ⟨hgm, v, bl, ob, h1, h2, h3, h4, mt', g0, rfl, es, clock, rfl, g1, g2⟩ := hμ.gen m hm
      rw [hmt] at g0
      injection g0 with g0
      subst g0
      have mo := mp _ _ hmt
      have hdx := hden x (by simp [ho, Op.operands])
      have hdk := hden k (by simp [ho, Op.operands])
      rw [hx] at hdx
      rw [hk] at hdk
      obtain ⟨us, hku, hus⟩ := Den.agg_iff.1 hdk
      have fk := kfit_den hfit hus
      obtain ⟨lx, hlx⟩ := mo.fits _ _ fk
      generalize hax : a.eval x = u at hdx
      cases hdx with
      | obj _ _ _ _ hob =>
        obtain rfl := hob _ h1
        have hall : ∀ z ∈ es.toList, ∃ l, keyOf P mt.1 z.key = some l := fun z hz => by
          obtain ⟨_, ys', us', f1, f2, _⟩ := g1 z hz
          rw [f2]; exact mo.fits _ _ f1
        have hchk := mo.law.check w es.isEmpty hlx
        have hfind : ∃ r : Option (Nat × Value), (Instr.findKey mt.1 (.agg ⟨us⟩) es.toList).run P w = .ok r w ∧ ((r = none ∧ b = false) ∨ ∃ j, r = some (j, .bool true) ∧ b = true) := by
          rcases mo.law.find w hlx es.toList hall with ⟨f1, f2⟩ | ⟨j, z, f1, f2, f3⟩
          · refine ⟨_, f1, .inl ⟨rfl, ?_⟩⟩
            cases hbb : b with
            | false => rfl
            | true =>
              obtain ⟨ys', us', z, e1, e2, e3, e4⟩ := g2 _ (hb.1 hbb)
              injection e1 with e1
              subst e1
              rw [e2.val fk] at e4
              exact absurd e4 (f2 z e3)
          · have hz : z ∈ es.toList := List.mem_of_getElem? f2
            obtain ⟨e1, ys', us', e2, e3, e4⟩ := g1 z hz
            rw [f3] at e3
            injection e3 with e3
            injection e3 with e3
            subst e3
            rw [e2.key fk] at e4
            refine ⟨_, f1, .inr ⟨j, by rw [e1], hb.2 e4⟩⟩
        obtain ⟨rr, hf1, hf2⟩ := hfind
        refine ⟨_, .bool b, w, ρ, ?_, .inl rfl, m, .bool _ _, Turn.refl _ _ _ _⟩
        have hgo : (getObj bl).run P w = .ok (.map es clock) w := by simp [getObj, Sem.run, h4]
        simp only [execOp, ho, hax, hku, Instr.lookup, run_underlying mo.und, Sem.run_bind, Result.andThen_ok, hgo, Sem.run_pure, hchk, hf1]
        rcases hf2 with ⟨rfl, rfl⟩ | ⟨j, rfl, rfl⟩
        · simp [mo.zero w]
        · simp
    by_cases hmem : SV.agg ys ∈ l
    · exact ⟨_, _, _, h.t hmem, (fun q b hq => by simp at hq), (fun k hk => by cases hk), key true (by simp [hmem])⟩
    · exact ⟨_, _, _, h.f hmem, (fun q b hq => by simp at hq), (fun k hk => by cases hk), key false (by simp [hmem])⟩
  case mapUpdate t x k vo =>
    simp only [pvO] at h
    split at h <;> try exact h.elim
    rename_i mt r ys hmt hx hk hvo
    split at h <;> try exact h.elim
    rename_i t' l hm
    split at h <;> try exact h.elim
    rename_i htt
    have htt : t' = t := Nat.eq_of_beq_eq_true htt
    subst htt
    obtain ⟨hfit, h⟩ := h
    rw [O.hap] at h
    refine ⟨_, _, _, h, (fun q b hq => by simp at hq; rw [hq.1, hm]; exact .inr rfl), (fun k hk => by cases hk), .of_run fun mem hμ hcr a N w0 w X ρ m hden => ?_⟩
    obtain ⟨hgm, v, bl, ob, h1, h2, h3, h4, mt', g0, rfl, es, clock, rfl, g1, g2⟩ := hμ.gen m hm
    rw [hmt] at g0
    injection g0 with g0
    subst g0
    have mo := mp _ _ hmt
    have hdx := hden x (by simp [ho, Op.operands])
    have hdk := hden k (by simp [ho, Op.operands])
    have hdv := hden vo (by simp [ho, Op.operands])
    rw [hx] at hdx
    rw [hk] at hdk
    rw [hvo, Den.bool_iff] at hdv
    obtain ⟨us, hku, hus⟩ := Den.agg_iff.1 hdk
    have fk := kfit_den hfit hus
    obtain ⟨lx, hlx⟩ := mo.fits _ _ fk
    generalize hax : a.eval x = u at hdx
    cases hdx with
    | obj _ _ _ _ hob =>
      obtain rfl := hob _ h1
      have hall : ∀ z ∈ es.toList, ∃ l, keyOf P mt.1 z.key = some l := fun z hz => by
        obtain ⟨_, ys', us', f1, f2, _⟩ := g1 z hz
        rw [f2]; exact mo.fits _ _ f1
      have hchk := mo.law.check w false hlx
      have hgo : (getObj bl).run P w = .ok (.map es clock) w := by simp [getObj, Sem.run, h4]
      have up := fun (es' : Array MapEntry) (clock' : Nat) (c1 : ∀ z ∈ es'.toList, z.val = .bool true ∧ ∃ zs us, KFit mt.2.2 zs us ∧ z.key = .agg ⟨us⟩ ∧ SV.agg zs ∈ l ++ [SV.agg ys]) (c2 : ∀ z ∈ l ++ [SV.agg ys], ∃ zs us e, z = .agg zs ∧ KFit mt.2.2 zs us ∧ e ∈ es'.toList ∧ e.key = .agg ⟨us⟩) =>
        m.update (w' := { w with heap := w.heap.setIfInBounds bl (.map es' clock') }) h1 (by rw [hgm]; rfl) (b := bl) rfl ⟨rfl, rfl, rfl, by simp, fun k hk => by simp [Array.getElem?_setIfInBounds, show bl ≠ k by omega]⟩ (fun k hk => by simp [Array.getElem?_setIfInBounds, Ne.symm hk])
          (B := .gen 1 t' (l ++ [.agg ys])) (fun _ => ⟨_, bl, _, rfl, rfl, h3, by simp [Array.getElem?_setIfInBounds, heap_lt h4], mt, hmt, rfl, es', clock', rfl, c1, c2⟩)
      rcases mo.law.find w hlx es.toList hall with ⟨f1, f2⟩ | ⟨j, z, f1, f2, f3⟩
      · obtain ⟨m', tn⟩ := up (es.push { key := .agg ⟨us⟩, val := .bool true, born := clock }) (clock + 1) (fun z hz => by
          simp only [Array.toList_push, List.mem_append, List.mem_singleton] at hz
          rcases hz with hz | rfl
          · obtain ⟨e1, ys', us', e2, e3, e4⟩ := g1 z hz
            exact ⟨e1, ys', us', e2, e3, List.mem_append_left _ e4⟩
          · exact ⟨rfl, ys, us, fk, rfl, by simp⟩) (fun z hz => by
          rcases List.mem_append.1 hz with hz | hz
          · obtain ⟨ys', us', z', e1, e2, e3, e4⟩ := g2 z hz
            exact ⟨ys', us', z', e1, e2, by simp [e3], e4⟩
          · simp only [List.mem_singleton] at hz
            exact ⟨ys, us, { key := .agg ⟨us⟩, val := .bool true, born := clock }, hz, fk, by simp, rfl⟩)
        refine ⟨_, undef, _, ρ, ?_, .inr ⟨rfl, rfl⟩, m', .any _ _, tn⟩
        simp only [execOp, ho, hax, hku, hdv, Instr.mapUpdate, run_underlying mo.und, Sem.run_bind, Result.andThen_ok, hgo, Sem.run_pure, hchk, f1]
        simp [setObj, Sem.run, h4]
      · have hz : z ∈ es.toList := List.mem_of_getElem? f2
        obtain ⟨e1, ys', us', e2, e3, e4⟩ := g1 z hz
        have hself : es.modify j (fun e => { e with key := .agg ⟨us⟩, val := .bool true }) = es := by
          apply Array.ext'
          have hj : es[j]? = some z := by simpa using f2
          obtain ⟨hj1, hj2⟩ := Array.getElem?_eq_some_iff.1 hj
          simp only [Array.toList_modify]
          apply List.ext_getElem?
          intro i
          rw [List.getElem?_modify]
          by_cases hij : j = i
          · subst hij
            rw [f2]
            simp only [if_true, Option.map_some, Option.some.injEq]
            obtain ⟨zk, zv, zb⟩ := z
            simp only at f3 e1
            subst f3; subst e1
            rfl
          · simp [hij]
        obtain ⟨m', tn⟩ := up es clock (fun z hz => by
          obtain ⟨e1, ys', us', e2, e3, e4⟩ := g1 z hz
          exact ⟨e1, ys', us', e2, e3, List.mem_append_left _ e4⟩) (fun y hy => by
          rcases List.mem_append.1 hy with hy | hy
          · exact g2 y hy
          · simp only [List.mem_singleton] at hy
            exact ⟨ys, us, z, hy, fk, hz, f3⟩)
        refine ⟨_, undef, _, ρ, ?_, .inr ⟨rfl, rfl⟩, m', .any _ _, tn⟩
        have hj : es[j]? = some z := by simpa using f2
        simp only [execOp, ho, hax, hku, hdv, Instr.mapUpdate, run_underlying mo.und, Sem.run_bind, Result.andThen_ok, hgo, Sem.run_pure, hchk, f1, hj, Option.map_some, Option.getD_some, f3, mo.law.stays w hlx, hself]
        simp [setObj, Sem.run, h4]
  case makeSlice t n c =>
    simp only [pvO] at h
    split at h <;> try exact h.elim
    rename_i i d ht hd
    split at h <;> try exact h.elim
    rename_i el hk
    split at h <;> try exact h.elim
    rename_i j kn nv kc cv hj hn hc
    split at h <;> try exact h.elim
    rename_i hck
    simp only [Bool.and_eq_true, Bool.not_eq_true'] at hck
    obtain ⟨cm, ⟨g1, g2, g3, g4⟩, h⟩ := h.h
    rw [O.hrp] at h
    refine ⟨_, _, _, h, (fun q b hq => by simp at hq; exact .inl (by rw [hq.1])), (fun k hk => ⟨by rw [hd, ← hk], .inr ⟨_, _, _, rfl⟩⟩), .of_run fun mem hμ hcr a N w0 w X ρ m hden => ?_⟩
    obtain ⟨hno, hnr, _⟩ := hcr d rfl
    have d1 := hden n (by simp [ho, Op.operands])
    have d2 := hden c (by simp [ho, Op.operands])
    rw [hn, Den.int_iff] at d1
    rw [hc, Den.int_iff] at d2
    have tj := tys.ok el j hj
    have ti := tys.ok t i ht
    obtain ⟨ji, j1, j2, j3⟩ := tj.inf
    obtain ⟨z, z1, z2, z3, z4, z5⟩ := tj.zero
    have hz : ji.zero = some z := by rw [j1] at z1; simpa using z1
    have hw := TI.wid_size (sz.one _ _ hj)
    have hp : 0 < wid j.shape := by
      rcases Nat.eq_zero_or_pos (wid j.shape) with h0 | h0
      · rw [hw, h0] at hck; simp at hck
      · exact h0
    have hdz : ∀ Y ρ, Den w Y ρ j.zero z := fun Y ρ => by rw [z2]; exact ofValue_den _ _ _ _
    obtain ⟨c1, c2, c3⟩ := chunk_den (sz.one el j hj) hck.1 (hdz (Forb X mem ρ) noEnv)
    have hrun := run_make (P := P) w t el ji z (ti.und_slice hk) j1 hz kn kc nv cv (by omega) (by omega) (by rw [j3]; omega) (by omega)
    rw [j2] at hrun
    have hcm : cv.toNat = cm := by omega
    have hsz : (madeCells z.cells (cv.toNat * j.size)).size = cv.toNat * wid j.shape := by rw [size_madeCells, hw]
    obtain ⟨ρ', m', d', t'⟩ := new_row (e := el) (sh := j.shape) (l := List.replicate cv.toNat j.zero) m hno hnr (madeCells z.cells (cv.toNat * j.size)) cv.toNat (by simp) (by simp only [maxLen]; omega) hsz
      (made_one z4 (by omega) _) (fun i hi => by
        rw [List.getElem_replicate, show madeCells z.cells (cv.toNat * j.size) = (Array.range (cv.toNat * j.size)).map (z.cells[· % z.cells.size]!) from rfl]
        rw [valAt_made (n := cv.toNat) (by omega) c3 (by simpa using hi) _ (by rw [hw]; exact Nat.le_refl _)]
        exact hdz _ _)
    refine ⟨_, .slice (some ⟨w.heap.size, 0, none⟩) nv.toNat cv.toNat, _, ρ', ?_, .inl rfl, m', ?_, t'⟩
    · simp only [execOp, ho, d1, d2, Sem.run_bind, hrun, Result.andThen_ok, Sem.run_pure]
    · rw [g1, hcm]
      refine .rsl _ _ _ _ _ _ _ _ (by simp) fun q hq => ?_
      cases d' with
      | row _ _ _ _ _ hr =>
        have := hr q hq
        subst this
        refine .inl ⟨_, _, _, rfl, by omega, by omega, (fun h => by cases h), (fun m hm => by injection hm), .inr ⟨w.heap.size, 0, rfl, by simp⟩⟩
  case slice t x lo hi mx =>
    cases mx with
    | some _ => cases hi <;> exact h.elim
    | none =>
    cases hi with
    | none => exact h.elim
    | some hi =>
    simp only [pvO] at h
    split at h <;> try exact h.elim
    rename_i i ht
    split at h <;> try exact h.elim
    rename_i el hk
    split at h <;> try exact h.elim
    rename_i j q sh av nv c zl kz zh hj hx hlo hhi
    split at h <;> try exact h.elim
    rename_i l hm
    split at h <;> try exact h.elim
    rename_i hsh
    have hs1 := shEq_eq hsh
    subst hs1
    obtain ⟨r, ⟨lov, hiv, b1, b2, b3, b4, b5, rfl⟩, h⟩ := h.h
    rw [O.hln] at b4
    simp only at h
    refine ⟨_, _, _, h, (fun q b hq => by simp at hq), (fun k hk => by cases hk), .of_run fun mem hμ hcr a N w0 w X ρ m hden => ?_⟩
    have ti := tys.ok t i ht
    have tj := tys.ok el j hj
    have hw := TI.wid_size (sz.one _ _ hj)
    rw [ho] at hden
    simp only [Op.operands] at hden
    have dx := hden x (by simp)
    have dh := hden hi (by simp)
    rw [hx] at dx
    rw [hhi, Den.int_iff] at dh
    have dl := optI_some (a := a) hlo (w := w) (X := Forb X mem ρ) (ρ := ρ) (fun y hy => hden y (by simp [hy]))
    obtain ⟨v, hv, ad0, c0, hv0, hle0, _⟩ := listB_den hμ m hm
    obtain ⟨ad, cc, x0, len, cap, e1, e2, e3, e4, e5, e6, e7, e8⟩ := rsl_at dx hv (by rintro b rfl; cases hv0)
    have hlen : len = l.length ∧ len ≤ cap := by
      rw [hv0] at e3; injection e3 with _ e3 e3'; omega
    have hhc : hiv ≤ cc := by
      cases c with
      | none => rw [e6 rfl]; omega
      | some m0 => rw [e7 m0 rfl]; exact b5
    have hr := run_slice_gen (P := P) w (ti.und_slice hk) (fun w => tj.sizeOf w) ad nv cc lov hiv cc (lo.map a.eval) (some (a.eval hi)) none (.inl ⟨rfl, rfl⟩) (.inr ⟨_, _, by rw [dh], by omega, by omega, by omega⟩)
      (by
        rcases dl with ⟨d1, d2⟩ | ⟨k, z, d1, d2⟩
        · subst d2; exact .inl ⟨d1, by simp at b1; omega⟩
        · subst d2; simp only at b1; exact .inr ⟨k, z, d1, by omega, by omega, by omega⟩)
    refine ⟨_, _, w, ρ, by simp only [execOp, ho, e1, Option.map_some, Option.map_none, Sem.run_bind, hr, Result.andThen_ok, Sem.run_pure]; rfl, .inl rfl, m, ?_, Turn.refl _ _ _ _⟩
    refine .rsl _ _ _ _ _ _ _ _ (by omega) fun q' hq' => ?_
    rw [hv] at hq'
    injection hq' with hq'
    subst hq'
    refine .inl ⟨x0, len, cap, e3, by omega, by omega, fun hz => ?_, fun z hz => ?_, ?_⟩
    · cases c with
      | none => rw [e6 rfl]; omega
      | some _ => cases hz
    · cases c with
      | none => cases hz
      | some m0 => simp only [capLess] at hz; injection hz with hz; rw [e7 m0 rfl, hz]
    · by_cases hml : cc = lov
      · exact .inl (by omega)
      · rw [if_neg hml]
        rcases e8 with e8 | ⟨b, off, e8, e9⟩
        · exact .inl (by omega)
        · refine .inr ⟨b, off, e8, ?_⟩
          rw [e9]
          simp [addr_add, hw, Nat.add_mul, Nat.add_assoc]
  case call cl =>
    obtain ⟨cal, args, ats⟩ := cl
    simp only [pvO] at h
    split at h <;> try exact h.elim
    · rename_i t t2 s x hat har
      obtain rfl : args = #[s, x] := by apply Array.ext'; simpa using har
      obtain rfl : ats = #[t, t2] := by apply Array.ext'; simpa using hat
      split at h <;> try exact h.elim
      rename_i i ht
      split at h <;> try exact h.elim
      rename_i el hk
      split at h <;> try exact h.elim
      rename_i j hj
      split at h <;> try exact h.elim
      rename_i hck
      simp only [Bool.and_eq_true, Bool.not_eq_true'] at hck
      have hpos : j.size ≠ 0 := by intro h0; rw [h0] at hck; simp at hck
      split at h <;> try exact h.elim
      rename_i q sh av nv c ys hs hsrc
      split at h <;> try exact h.elim
      rename_i s' el' l hm
      split at h <;> try exact h.elim
      rename_i hsh
      simp only [Bool.and_eq_true] at hsh
      have hs1 := shEq_eq hsh.1
      have hs2 := shEq_eq hsh.2
      subst hs1; subst hs2
      obtain ⟨⟨p, pa, pl⟩, ⟨b1, b2, b3, b4, b5⟩, h⟩ := h.h
      simp only at b1 b2 b3 b4 b5 h
      subst b4; subst b5
      rw [O.hln] at b1 b3
      refine ⟨_, _, _, h, (fun q b hq => by simp at hq; rw [hq.1, hm]; exact .inr rfl), (fun k hk => by cases hk), .of_run fun mem hμ hcr ac N w0 w X ρ m hd => ?_⟩
      have ti := tys.ok t i ht
      have tj := tys.ok el j hj
      have hw := TI.wid_size (sz.one _ _ hj)
      obtain ⟨ji, j1, j2, j3⟩ := tj.inf
      obtain ⟨d2, hd2, hd3⟩ := isSrc_und tys hck.1
      obtain ⟨us, u1, u2, u3, u4, u5⟩ := (src_den (P := P) hμ m hsrc (hd x (by simp [ho, Op.operands, Call.operands]))).h
      have dx := hd s (by simp [ho, Op.operands, Call.operands])
      rw [hs] at dx
      obtain ⟨v, hv, hg, hcase⟩ := hμ.rowAt m hm
      obtain ⟨ad, cc, x0, len, cap, e1, e2, e3, e4, e5, e6, e7, e8⟩ := rsl_at dx hv (by rintro b rfl; rcases hcase with ⟨_, h, _⟩ | ⟨_, _, _, _, h, _⟩ <;> cases h)
      have hexec : execOp ac.eval o = (do let v ← Builtin.append_ #[t, t2] o.type #[ac.eval s, ac.eval x]; pure (.value v)) := by
        simp [execOp, ho, resolve, invoke, builtin]
      have hlen : len = l.length ∧ len ≤ cap := by
        rcases hcase with ⟨a0, r1, r2⟩ | ⟨b, off, cap', cur, r1, _, _, r4, _⟩
        · rw [r1] at e3; injection e3 with _ e3 e3'; subst r2; simp; omega
        · rw [r1] at e3; injection e3 with _ e3 e3'; omega
      have hpc : p ≤ cc := by
        cases c with
        | none => rw [e6 rfl]; omega
        | some m0 => rw [e7 m0 rfl]; exact b2
      by_cases h0 : ys.length = 0
      · have hys : ys = [] := List.eq_nil_of_length_eq_zero h0
        subst hys
        have hus : us = [] := List.eq_nil_of_length_eq_zero (by rw [u1]; simp)
        subst hus
        have hr := run_append_none (P := P) w t t2 o.type el d2 ji (wid j.shape) (ti.und_slice hk) hd2 hd3 j1 (by rw [j2, hw]) ad nv cc e2 (ac.eval x) u4 (by have := u5 w 0 rfl (Nat.zero_le _); simpa using this)
        have hsame : ∀ q', getM (appU [(q, .row j.shape el' (O.cp l (av + nv) (O.ln []) []))] mem) q' = getM mem q' := by
          intro q'
          simp only [appU, getM_setM]
          split
          · rename_i hq; rw [hq, hg, O.hln, List.length_nil, cp_nil]
          · rfl
        refine ⟨_, .slice ad nv cc, w, ρ, ?_, .inl rfl, m.congr hsame, ?_, ?_⟩
        · rw [hexec, e1]
          simp only [Sem.run_bind, hr, Result.andThen_ok, Sem.run_pure]
        · rw [forb_congr hsame]
          have : p = nv := by simpa using b1
          rw [this, ← e1]
          exact dx
        · rw [forb_congr hsame]
          exact Turn.refl _ _ _ _
      · have hcc : ¬ cc = 0 := by omega
        obtain ⟨b, off, e8, e9⟩ := e8.resolve_left hcc
        subst e8; subst e9
        rcases hcase with ⟨a0, hc1, rfl⟩ | ⟨b', off', cap', cur, hc1, k1, k2, k3, k4, k5, k6, k7, k8⟩
        · simp at b3; omega
        · rw [e3] at hc1
          injection hc1 with hc1 hc2 hc3
          simp only [Option.some.injEq, Addr.mk.injEq, and_true] at hc1
          obtain ⟨rfl, rfl⟩ := hc1
          subst hc2; subst hc3
          have hmul : (av + nv) * wid j.shape = av * wid j.shape + nv * wid j.shape := Nat.add_mul _ _ _
          obtain ⟨hfit, m', tn⟩ := row_splice (ys := ys) (us := us) (a := av + nv) m hg (by omega) (by rw [hv, e3]) k1 k2 k3 k4 k5 k6 k7 k8 u1 u2 u3 (by omega)
          have hr := run_append_into (P := P) w t t2 o.type el d2 ji (wid j.shape) (ti.und_slice hk) hd2 hd3 j1 (by rw [j2, hw]) b (off + av * wid j.shape) nv cc cur el' k2 (ac.eval x) ys.length us u2 u4
            (by have := u5 w ys.length rfl (Nat.le_refl _); rw [List.take_of_length_le (by omega)] at this; exact this) (by omega) (by omega)
          rw [show off + av * wid j.shape + nv * wid j.shape = off + (av + nv) * wid j.shape by omega] at hr
          refine ⟨_, .slice (some ⟨b, off + av * wid j.shape, none⟩) p cc, _, ρ, ?_, .inl rfl, m', ?_, tn⟩
          · rw [hexec, e1, b1]
            simp only [Sem.run_bind, hr, Result.andThen_ok, Sem.run_pure]
          · refine .rsl _ _ _ _ _ _ _ _ hpc fun q' hq' => ?_
            rw [hv] at hq'
            injection hq' with hq'
            subst hq'
            exact .inl ⟨_, _, _, e3, by omega, e5, e6, e7, .inr ⟨b, off, rfl, rfl⟩⟩
    · rename_i t s hat har
      obtain rfl : args = #[s] := by apply Array.ext'; simpa using har
      obtain rfl : ats = #[t] := by apply Array.ext'; simpa using hat
      split at h <;> try exact h.elim
      rename_i i ht
      split at h <;> try exact h.elim
      rename_i el q sh av nv c hk hs
      split at h <;> try exact h.elim
      rename_i l hm
      have h := h.h.2 _ rfl
      refine ⟨_, _, _, h, (fun q b hq => by simp at hq), (fun k hk => by cases hk), .of_run fun mem hμ hcr ac N w0 w X ρ m hd => ?_⟩
      have dx := hd s (by simp [ho, Op.operands, Call.operands])
      rw [hs] at dx
      obtain ⟨v, hv, _, _, hv0, _⟩ := listB_den hμ m hm
      obtain ⟨ad, cc, x0, len, cap, e1, e2, e3, e4, e5, e6, e7, e8⟩ := rsl_at dx hv (by rintro b rfl; cases hv0)
      refine ⟨_, .int .i64 (c : Int), w, ρ, ?_, .inl rfl, m, .int _ _ _, Turn.refl _ _ _ _⟩
      simp [execOp, ho, resolve, invoke, builtin, e1, Builtin.cap_, run_underlying ((tys.ok t i ht).und_slice hk), goInt, e7 c rfl]
    · rename_i t s hat har
      obtain rfl : args = #[s] := by apply Array.ext'; simpa using har
      obtain rfl : ats = #[t] := by apply Array.ext'; simpa using hat
      split at h <;> try exact h.elim
      rename_i i ht
      split at h <;> try exact h.elim
      rename_i el hk
      split at h <;> try exact h.elim
      rename_i j q sh av nv c hj hs
      split at h <;> try exact h.elim
      rename_i s' el' l hm
      split at h <;> try exact h.elim
      rename_i hsh
      simp only [Bool.and_eq_true, Bool.not_eq_true'] at hsh
      have hs1 := shEq_eq hsh.1.1.1
      have hs2 := shEq_eq hsh.1.1.2
      subst hs1; subst hs2
      have hpos : j.size ≠ 0 := by intro h0; rw [h0] at hsh; simp at hsh
      obtain ⟨b3, h⟩ := h
      rw [O.hln] at b3
      refine ⟨_, _, _, h, (fun q b hq => by simp at hq; rw [hq.1, hm]; exact .inr rfl), (fun k hk => by cases hk), .of_run fun mem hμ hcr ac N w0 w X ρ m hd => ?_⟩
      have ti := tys.ok t i ht
      have tj := tys.ok el j hj
      have hw := TI.wid_size (sz.one _ _ hj)
      have dx := hd s (by simp [ho, Op.operands, Call.operands])
      rw [hs] at dx
      obtain ⟨v, hv, hg, hcase⟩ := hμ.rowAt m hm
      obtain ⟨ad, cc, x0, len, cap, e1, e2, e3, e4, e5, e6, e7, e8⟩ := rsl_at dx hv (by rintro b rfl; rcases hcase with ⟨_, h, _⟩ | ⟨_, _, _, _, h, _⟩ <;> cases h)
      obtain ⟨z, zr, z2, z3, z4, z5⟩ := tj.zero_run
      have hp : 0 < wid j.shape := by omega
      have hdz : ∀ Y ρ, Den w Y ρ j.zero z := fun Y ρ => by rw [z2]; exact ofValue_den _ _ _ _
      obtain ⟨c1, c2, c3⟩ := chunk_den (sz.one el j hj) hsh.1.2 (hdz (Forb X mem ρ) noEnv)
      have hexec : execOp ac.eval o = (do let v ← Builtin.clear_ #[t] o.type #[ac.eval s]; pure (.value v)) := by
        simp [execOp, ho, resolve, invoke, builtin]
      have hrl : (O.rp (nv : Int) j.zero).length = nv := by rw [O.hrp]; simp
      by_cases h0 : nv = 0
      · subst h0
        have hnil : O.rp ((0 : Nat) : Int) j.zero = [] := List.eq_nil_of_length_eq_zero hrl
        have hsame : ∀ q', getM (appU [(q, .row j.shape el' (O.cp l av 0 (O.rp ((0 : Nat) : Int) j.zero)))] mem) q' = getM mem q' := by
          intro q'
          simp only [appU, getM_setM]
          split
          · rename_i hq; rw [hq, hg, hnil, cp_nil]
          · rfl
        refine ⟨_, .tuple #[], w, ρ, ?_, .inl rfl, m.congr hsame, .any _ _, ?_⟩
        · rw [hexec, e1]
          cases ad <;> simp [Builtin.clear_, run_underlying (ti.und_slice hk)]
        · rw [forb_congr hsame]
          exact Turn.refl _ _ _ _
      · obtain ⟨b, off, e8, e9⟩ := e8.resolve_left (by omega)
        subst e8; subst e9
        rcases hcase with ⟨a0, hc1, rfl⟩ | ⟨b', off', cap', cur, hc1, k1, k2, k3, k4, k5, k6, k7, k8⟩
        · simp at b3; omega
        · rw [e3] at hc1
          injection hc1 with hc1 hc2 hc3
          simp only [Option.some.injEq, Addr.mk.injEq, and_true] at hc1
          obtain ⟨rfl, rfl⟩ := hc1
          subst hc2; subst hc3
          have hzz : Builtin.zeroCells z.cells nv = (Array.range (nv * z.cells.size)).map (z.cells[· % z.cells.size]!) := rfl
          obtain ⟨hfit, m', tn⟩ := row_splice (ys := O.rp (nv : Int) j.zero) (us := (Builtin.zeroCells z.cells nv).toList) (a := av) m hg (by omega) (by rw [hv, e3]) k1 k2 k3 k4 k5 k6 k7 k8 (by rw [hzz, hrl]; simp; rw [z3, hw])
            (by rw [hzz]; exact made_one z4 (by omega) _) (fun i hi => by
              rw [rp_get, hzz, valAt_made (n := nv) (by omega) c3 (by omega) _ (by rw [z3, hw]; exact Nat.le_refl _)]
              exact hdz _ _) (by omega)
          rw [O.hln, hrl] at m' tn
          have hst := run_storeCells_at P b (off + av * wid j.shape) el' (Builtin.zeroCells z.cells nv).toList 0 cur w k2 (by omega) (by rw [hzz]; exact made_one z4 (by omega) _)
          simp only [Nat.add_zero] at hst
          refine ⟨_, .tuple #[], _, ρ, ?_, .inl rfl, m', .any _ _, tn⟩
          rw [hexec, e1]
          obtain ⟨nv', rfl⟩ : ∃ n', nv = n' + 1 := ⟨nv - 1, by omega⟩
          simp [Builtin.clear_, run_underlying (ti.und_slice hk), zr w, hst]
  all_goals exact h.elim
end Go.Proofs.YtligbjbkecmecaaDoor
