/- A drawn region: the text's order serves for every order that its edges allow. -/
import Derived.Test.YtligbjbkecmecaaDoorReg
namespace Go.Proofs.YtligbjbkecmecaaDoor
set_option linter.unusedVariables false
set_option linter.unusedSimpArgs false
open Go.RowKit
variable {P : Program} {T : Nat → Option TI} {G : Nat → CT → Prop} {D : List Nat} {all : Array Oper}

theorem nrD_get {d : Option Nat} {x : SV} : ∀ {D : List Nat}, nrD d x D = true → ∀ q ∈ D, d ≠ some q → noref q x = true
  | [], _, q, h, _ => by simp at h
  | p :: D, hn, q, hq, hd => by
    simp only [nrD, Bool.and_eq_true, Bool.or_eq_true] at hn
    rcases List.mem_cons.1 hq with rfl | hq
    · rcases hn.1 with h | h
      · exact h
      · cases d with
        | none => simp at h
        | some p => simp only at h; exact absurd (by rw [Nat.eq_of_beq_eq_true h]) hd
    · exact nrD_get hn.2 q hq hd
theorem nbD_get {b : Blk} : ∀ {D : List Nat}, nbD b D = true → ∀ q ∈ D, bNoref q b = true
  | [], _, q, h => by simp at h
  | p :: D, hn, q, hq => by
    simp only [nbD, Bool.and_eq_true] at hn
    rcases List.mem_cons.1 hq with rfl | hq
    · exact hn.1
    · exact nbD_get hn.2 q hq
theorem nbU_get : ∀ {U : List (Nat × Blk)}, nbU D U = true → ∀ q b, (q, b) ∈ U → ∀ d ∈ D, bNoref d b = true
  | [], _, q, b, h, _, _ => by simp at h
  | (k, c) :: U, hn, q, b, h, d, hd => by
    simp only [nbU, Bool.and_eq_true] at hn
    rcases List.mem_cons.1 h with h | h
    · injection h with h1 h2; subst h2; exact nbD_get hn.1 d hd
    · exact nbU_get hn.2 q b h d hd
theorem ev_put {s : St} {dst : Option Nat} {x : SV} {m : Mem} {y : Operand} (h : ∀ d, dst = some d → y ≠ .tmp d) : (⟨(s.put dst x).slots, m⟩ : St).ev y = s.ev y := by
  cases dst with
  | none => cases y <;> rfl
  | some d =>
    cases y with
    | tmp t =>
      simp only [St.ev, St.put]
      by_cases hd : d < s.slots.length
      · rw [getN_setN _ _ _ _ _ hd, if_neg (fun e => h d rfl (by rw [e]))]
      · rw [setN_eq, List.set_eq_of_length_le (by omega)]
    | _ => rfl
theorem looks_op {o : Oper} {y : Operand} {d : Nat} (h : d ∉ o.looksAt all) (hy : y ∈ o.op.operands) : y ≠ .tmp d := by
  rintro rfl
  exact h (List.mem_append_left _ (List.mem_filterMap.2 ⟨.tmp d, by simpa using hy, rfl⟩))
theorem gd_put {s : St} {dst : Option Nat} {x : SV} {m : Mem} {o : Oper} (h : ∀ d, dst = some d → d ∉ o.looksAt all) : gd all o ⟨(s.put dst x).slots, m⟩ = gd all o s := by
  unfold gd
  cases hg : o.guard with
  | none => rfl
  | some jw =>
    obtain ⟨j, want⟩ := jw
    simp only
    cases ht : (all[j]?).bind (·.dst) with
    | none => rfl
    | some t =>
      simp only
      have : getN SV.any (s.put dst x).slots t = getN SV.any s.slots t := by
        cases dst with
        | none => rfl
        | some d =>
          have hne : t ≠ d := fun e => h d rfl (by subst e; simp [Oper.looksAt, hg, ht])
          simp only [St.put]
          by_cases hd : d < s.slots.length
          · rw [getN_setN _ _ _ _ _ hd, if_neg hne]
          · rw [setN_eq, List.set_eq_of_length_le (by omega)]
      rw [this]
theorem norefs_iff {d : Nat} : ∀ {l : List SV}, noref.norefs d l = true ↔ ∀ t, noref d (getN .any l t) = true
  | [] => by simp [noref.norefs, getN, noref]
  | x :: l => by
    constructor
    · intro h t; exact norefs_getN h t
    · intro h
      simp only [noref.norefs, Bool.and_eq_true]
      exact ⟨h 0, norefs_iff.2 fun t => h (t + 1)⟩
theorem put_len (s : St) (d : Option Nat) (x : SV) : (s.put d x).slots.length = s.slots.length := by
  cases d <;> simp [St.put, setN_length]
theorem getN_put (s : St) (d : Option Nat) (x : SV) (t : Nat) : getN SV.any (s.put d x).slots t = getN SV.any s.slots t ∨ (d = some t ∧ getN SV.any (s.put d x).slots t = x) := by
  cases d with
  | none => exact .inl rfl
  | some q =>
    simp only [St.put]
    by_cases hq : q < s.slots.length
    · rw [getN_setN _ _ _ _ _ hq]
      by_cases ht : t = q
      · subst ht; exact .inr ⟨rfl, by rw [if_pos rfl]⟩
      · rw [if_neg ht]; exact .inl rfl
    · rw [setN_eq, List.set_eq_of_length_le (by omega)]; exact .inl rfl
theorem appU_set {q : Nat} {b : Blk} : ∀ {U : List (Nat × Blk)} {m : Mem}, (∀ q' b', (q', b') ∈ U → q ≠ q') → appU U (setM b m q) = setM b (appU U m) q
  | [], _, _ => rfl
  | (q', b') :: U, m, h => by
    simp only [appU]
    rw [setM_comm b' b m q' q (Ne.symm (h q' b' (by simp))), appU_set (fun q'' b'' h' => h q'' b'' (by simp [h']))]
theorem appU_comm : ∀ {U V : List (Nat × Blk)} {m : Mem}, (∀ q b q' b', (q, b) ∈ U → (q', b') ∈ V → q ≠ q') → appU U (appU V m) = appU V (appU U m)
  | [], _, _, _ => rfl
  | (q, b) :: U, V, m, h => by
    simp only [appU]
    rw [← appU_set (fun q' b' h' => h q b q' b' (by simp) h'), appU_comm (fun q b q' b' h1 h2 => h q b q' b' (by simp [h1]) h2)]

theorem men_out {o : Oper} {e : Operand → SV} {s : St} {q : Nat} (hq : ∃ y ∈ o.op.operands, noref q (e y) = false) (he : ∀ y ∈ o.op.operands, s.ev y = e y) (h : noref.norefs q s.slots = true) : False := by
  obtain ⟨y, hy, hn⟩ := hq
  rw [← he y hy, noref_ev h] at hn
  cases hn

/-- What a step looks at, and where else it may be done. -/
structure Port (P : Program) (T : Nat → Option TI) (all : Array Oper) (o : Oper) (s : St) (x : SV) (U : List (Nat × Blk)) (cr : Option Nat) (f : FP) : Prop where
  crs : ∀ d, cr = some d → o.dst = some d ∧ s.fresh d = true ∧ maker o = true
  upd : ∀ q b, (q, b) ∈ U → cr = some q ∨ (q ∈ f.1 ∧ q ∈ f.2)
  men : ∀ q ∈ f.1, ∃ y ∈ o.op.operands, noref q (s.ev y) = false
  go : ∀ s0 : St, (∀ y ∈ o.op.operands, s0.ev y = s.ev y) → gd all o s0 = gd all o s → (∀ q ∈ f.1, getM s0.mem q = getM s.mem q) → (∀ d, cr = some d → s0.fresh d = true) → Stp P T all o s0 x U cr f
theorem port {o : Oper} {s : St} {x : SV} {U : List (Nat × Blk)} {cr : Option Nat} {f : FP} (h : Stp P T all o s x U cr f) : Port P T all o s x U cr f := by
  cases h with
  | skip hg => exact ⟨(fun d h => by cases h), (fun q b h => by simp at h), (fun q h => by simp at h), fun s0 _ hg0 _ _ => .skip s0 (by rw [hg0]; exact hg)⟩
  | run _ _ _ _ e μ hg he hμ hR hU hc h =>
    refine ⟨hc, hU, fun q hq => ?_, fun s0 hev hg0 hm hf => ?_⟩
    · obtain ⟨y, hy, hn⟩ := hR q hq
      exact ⟨y, hy, by rw [he y hy]; exact hn⟩
    · exact .run s0 x U cr f e μ (by rw [hg0]; exact hg) (fun y hy => by rw [hev y hy]; exact he y hy) (fun q => (hμ q).imp id fun ⟨h1, h2⟩ => ⟨h1, by rw [hm q h1]; exact h2⟩) hR hU (fun d hd => ⟨(hc d hd).1, hf d hd, (hc d hd).2.2⟩) h

theorem swap {oj oi : Oper} {s : St} {xj xi : SV} {Uj Ui : List (Nat × Blk)} {cj ci : Option Nat} {fj fi : FP} (h1 : Stp P T all oj s xj Uj cj fj) (h2 : Stp P T all oi (nxt oj s xj Uj) xi Ui ci fi) (hap : oj.apart all oi = true)
    (hW1 : ∀ q ∈ fj.2, q ∉ fi.1) (hW2 : ∀ q ∈ fi.2, q ∉ fj.1) (hM : ∀ d, maker oi = true → oi.dst = some d → memNoref d s.mem = true) (nri : nrD oi.dst xi D = true) (nbi : nbU D Ui = true)
    (hDj : ∀ d, maker oj = true → oj.dst = some d → d ∈ D) (hclean : ∀ q d, maker oi = true → oi.dst = some q → oj.dst = some d → noref q (getN SV.any s.slots d) = true) :
    Stp P T all oi s xi Ui ci fi ∧ Stp P T all oj (nxt oi s xi Ui) xj Uj cj fj ∧ nxt oj (nxt oi s xi Ui) xj Uj = nxt oi (nxt oj s xj Uj) xi Ui := by
  obtain ⟨a1, a2, a3⟩ := Oper.apart_spec hap
  have pj := port h1
  have pi := port h2
  have evi : ∀ y ∈ oi.op.operands, (nxt oj s xj Uj).ev y = s.ev y := fun y hy => ev_put (fun d hd => looks_op (a1 d hd) hy)
  have gdi : gd all oi (nxt oj s xj Uj) = gd all oi s := gd_put a1
  have slots : ∀ d, ci = some d → noref.norefs d s.slots = true := by
    intro d hc
    obtain ⟨hd, hf, hmk⟩ := pi.crs d hc
    obtain ⟨f1, f3, f4, f5⟩ := (fresh_iff (fresh_ne hf)).1 hf
    refine norefs_iff.2 fun t => ?_
    rcases getN_put s oj.dst xj t with e | ⟨e, _⟩
    · rw [← e]; exact norefs_getN f4 t
    · exact hclean d t hmk hd e
  have crne : ∀ d, cj = some d → ci = some d → False := fun d h h' => a2 d (pj.crs d h).1 (pi.crs d h').1
  have mi : ∀ q ∈ fi.1, ∃ y ∈ oi.op.operands, noref q (s.ev y) = false := fun q hq => by
    obtain ⟨y, hy, hn⟩ := pi.men q hq
    exact ⟨y, hy, by rw [← evi y hy]; exact hn⟩
  have freshj : ∀ d, cj = some d → noref.norefs d s.slots = true := fun d h => ((fresh_iff (fresh_ne (pj.crs d h).2.1)).1 (pj.crs d h).2.1).2.2.1
  have ne : ∀ q b q' b', (q, b) ∈ Uj → (q', b') ∈ Ui → q ≠ q' := by
    rintro q b q' b' hq hq' rfl
    rcases pj.upd q b hq with h | ⟨g1, g2⟩ <;> rcases pi.upd q b' hq' with h' | ⟨g1', g2'⟩
    · exact crne q h h'
    · exact men_out (mi q g1') (fun _ _ => rfl) (freshj q h)
    · exact men_out (pj.men q g1) (fun _ _ => rfl) (slots q h')
    · exact hW1 q g2 g1'
  have ri := pi.go s (fun y hy => (evi y hy).symm) gdi.symm (fun q hq => by
      show getM s.mem q = getM (appU Uj s.mem) q
      rw [appU_ne]
      rintro q' b hq' rfl
      rcases pj.upd _ b hq' with h | ⟨g1, g2⟩
      · exact men_out (mi _ hq) (fun _ _ => rfl) (freshj _ h)
      · exact hW1 _ g2 hq) (fun d hc => by
    obtain ⟨hd, hf, hmk⟩ := pi.crs d hc
    obtain ⟨f1, f3, f4, f5⟩ := (fresh_iff (fresh_ne hf)).1 hf
    unfold nxt at f1 f3
    simp only [put_len] at f1
    simp only at f3
    rw [appU_ne] at f3
    · exact (fresh_iff (fresh_ne hf)).2 ⟨f1, f3, slots d hc, hM d hmk hd⟩
    · rintro q b hq rfl
      rcases pj.upd _ b hq with h | ⟨g, _⟩
      · exact crne _ h hc
      · exact men_out (pj.men _ g) (fun _ _ => rfl) (slots _ hc))
  have rj := pj.go (nxt oi s xi Ui) (fun y hy => ev_put (fun d hd => looks_op (a3 d hd) hy)) (gd_put a3) (fun q hq => by
      show getM (appU Ui s.mem) q = getM s.mem q
      rw [appU_ne]
      rintro q' b hq' rfl
      rcases pi.upd _ b hq' with h | ⟨g1, g2⟩
      · exact men_out (pj.men _ hq) (fun _ _ => rfl) (slots _ h)
      · exact hW2 _ g2 hq) (fun d hc => by
      obtain ⟨hd, hf, hmk⟩ := pj.crs d hc
      obtain ⟨f1, f3, f4, f5⟩ := (fresh_iff (fresh_ne hf)).1 hf
      have hD := hDj d hmk hd
      have hne : oi.dst ≠ some d := a2 d hd
      refine (fresh_iff (fresh_ne hf)).2 ⟨by show d < (s.put oi.dst xi).slots.length; rw [put_len]; exact f1, ?_, norefs_iff.2 fun t => ?_, appU_noref f5 (fun q b hq => nbU_get nbi q b hq d hD)⟩
      · show getM (appU Ui s.mem) d = .no
        rw [appU_ne]
        · exact f3
        · rintro q b hq rfl
          rcases pi.upd _ b hq with h | ⟨g, _⟩
          · exact crne _ hc h
          · exact men_out (mi _ g) (fun _ _ => rfl) f4
      · show noref d (getN SV.any (s.put oi.dst xi).slots t) = true
        rcases getN_put s oi.dst xi t with e | ⟨e, e2⟩
        · rw [e]; exact norefs_getN f4 t
        · rw [e2]; exact nrD_get nri d hD hne)
  refine ⟨ri, rj, ?_⟩
  unfold nxt
  have e1 : ((⟨(s.put oi.dst xi).slots, appU Ui s.mem⟩ : St).put oj.dst xj).slots = ((⟨(s.put oj.dst xj).slots, appU Uj s.mem⟩ : St).put oi.dst xi).slots := by
    cases hj : oj.dst with
    | none => cases oi.dst <;> rfl
    | some d =>
      cases hi : oi.dst with
      | none => rfl
      | some d' =>
        have hne : d ≠ d' := fun e => a2 d hj (by rw [hi, e])
        simp only [St.put, setN_eq]
        exact List.set_comm _ _ (Ne.symm hne)
  simp only
  rw [e1, appU_comm ne]

/-! ### Any order -/
inductive ChainI (P : Program) (T : Nat → Option TI) (D : Nat → List Nat) (all : Array Oper) (F : Nat → FP) : List Nat → St → St → Prop
  | nil (s : St) : ChainI P T D all F [] s s
  | cons (i : Nat) (L : List Nat) (s s' : St) (o : Oper) (x : SV) (U : List (Nat × Blk)) (cr : Option Nat) (f : FP) (ho : all[i]? = some o) (h : Stp P T all o s x U cr f) (hn : nrD o.dst x (D i) = true) (hb : nbU (D i) U = true)
      (hf : (∀ q ∈ f.1, q ∈ (F i).1) ∧ ∀ q ∈ f.2, q ∈ (F i).2) (t : ChainI P T D all F L (nxt o s x U) s') : ChainI P T D all F (i :: L) s s'

theorem chain_I {k : List FP → St → Prop} {DD : Nat → List Nat} : ∀ (l : List Oper) (n : Nat) (Ds : List (List Nat)) (fs : List FP) (s : St), (∀ j, l[j]? = all[n + j]?) → (∀ j, j < l.length → DD (n + j) = Ds.getD j []) → Chain P T Ds all l fs s k →
    ∃ (sF : St) (gs : List FP), gs.length = l.length ∧ k (gs.reverse ++ fs) sF ∧ ∀ F : Nat → FP, (∀ i g, gs[i]? = some g → F (n + i) = g) → ChainI P T DD all F (List.range' n l.length) s sF
  | [], n, Ds, fs, s, _, _, h => ⟨s, [], rfl, by unfold Chain at h; exact h, fun F _ => .nil s⟩
  | o :: l, n, Ds, fs, s, hl, hD, h => by
    unfold Chain at h
    obtain ⟨x, U, cr, f, h1, h2, h3, h4⟩ := h
    obtain ⟨sF, gs, g1, g2, g3⟩ := chain_I l (n + 1) (tlL Ds) (f :: fs) (nxt o s x U) (fun j => by
      have := hl (j + 1)
      rw [List.getElem?_cons_succ] at this
      rw [this]
      congr 1
      omega) (fun j hj => by
      rw [tlL_get, ← hD (j + 1) (by simp; omega)]
      congr 1
      omega) h4
    refine ⟨sF, f :: gs, by simp [g1], by simpa using g2, fun F hF => ?_⟩
    simp only [List.length_cons, List.range'_succ]
    have hf : F n = f := by simpa using hF 0 f rfl
    have hd : DD n = hdL Ds := by rw [hdL_eq]; exact hD 0 (by simp)
    exact .cons n _ s sF o x U cr f (by simpa using (hl 0).symm) h1 (by rw [hd]; exact h2) (by rw [hd]; exact h3) (by rw [hf]; exact ⟨fun q h => h, fun q h => h⟩) (g3 F fun i g hg => by
      have := hF (i + 1) g (by simpa using hg)
      rw [← this]
      congr 1
      omega)

def dstNe (x y : Oper) : Bool := match x.dst, y.dst with
  | some a, some b => !(Nat.beq a b)
  | _, _ => true
/-- The operations that must come before, as a set of bits. -/
def ancOf (acc : List Nat) : List Edge → Nat
  | [] => 0
  | e :: l => (if Region.binds .any e then (1 <<< e.on) ||| getN 0 acc e.on else 0) ||| ancOf acc l
def ancsGo : List Oper → List Nat → List Nat
  | [], acc => acc
  | o :: l, acc => ancsGo l (acc ++ [ancOf acc o.after.toList])
def ancs (ops : Array Oper) : List Nat := ancsGo ops.toList []
def relB (anc : List Nat) (i j : Nat) : Bool := (getN 0 anc i).testBit j

def pairB (ops : Array Oper) (anc : List Nat) (oj oi : Oper) (j i : Nat) : Bool := dstNe oj oi && (relB anc i j || oj.apart ops oi)
def regOk (ops : Array Oper) : Bool :=
  let anc := ancs ops
  (List.range ops.size).all fun i => match ops[i]? with
    | some oi => (oi.after.all fun e => !Region.binds .any e || Nat.blt e.on i) && Nat.beq (getN 0 anc i) (ancOf anc oi.after.toList) && (List.range i).all fun j => match ops[j]? with
      | some oj => pairB ops anc oj oi j i
      | none => false
    | none => false
def disjL (A B : List Nat) : Bool := match A with
  | [] => true
  | x :: l => !(memB x B) && disjL l B
theorem disjL_spec {A B : List Nat} (h : disjL A B = true) {q : Nat} (ha : q ∈ A) (hb : q ∈ B) : False := by
  induction A with
  | nil => simp at ha
  | cons x l ih =>
    simp only [disjL, Bool.and_eq_true, Bool.not_eq_true'] at h
    rcases List.mem_cons.1 ha with rfl | ha
    · rw [memB_iff.2 hb] at h; cases h.1
    · exact ih h.2 ha
/-- The writer i and the others. -/
def dynOne (anc : List Nat) (i : Nat) (W : List Nat) : Nat → List FP → Bool
  | _, [] => true
  | j, f :: l => (Nat.beq i j || relB anc i j || relB anc j i || disjL W f.1) && dynOne anc i W (j + 1) l
def dynGo (ops : Array Oper) (gs : List FP) : Nat → List FP → Bool
  | _, [] => true
  | i, f :: l => (match f.2 with | [] => true | W => dynOne (ancs ops) i W 0 gs) && dynGo ops gs (i + 1) l
def dynOk (ops : Array Oper) (gs : List FP) : Bool := dynGo ops gs 0 gs
theorem dynOne_get {anc : List Nat} {i : Nat} {W : List Nat} : ∀ {l : List FP} {n : Nat}, dynOne anc i W n l = true → ∀ (j : Nat) (f : FP), l[j]? = some f → i = n + j ∨ relB anc i (n + j) = true ∨ relB anc (n + j) i = true ∨ disjL W f.1 = true
  | [], n, _, j, f, hj => by simp at hj
  | g :: l, n, h, j, f, hj => by
    simp only [dynOne, Bool.and_eq_true, Bool.or_eq_true] at h
    cases j with
    | zero =>
      simp at hj
      subst hj
      rcases h.1 with ((h1 | h1) | h1) | h1
      · exact .inl (nbeq.1 h1)
      · exact .inr (.inl h1)
      · exact .inr (.inr (.inl h1))
      · exact .inr (.inr (.inr h1))
    | succ j =>
      have := dynOne_get h.2 j f (by simpa using hj)
      rw [show n + (j + 1) = n + 1 + j by omega]
      exact this
theorem dynGo_get {ops : Array Oper} {gs : List FP} : ∀ {l : List FP} {n : Nat}, dynGo ops gs n l = true → ∀ (i : Nat) (f : FP), l[i]? = some f → f.2 = [] ∨ dynOne (ancs ops) (n + i) f.2 0 gs = true
  | [], n, _, i, f, hi => by simp at hi
  | g :: l, n, h, i, f, hi => by
    simp only [dynGo, Bool.and_eq_true] at h
    cases i with
    | zero =>
      simp at hi
      subst hi
      have h1 := h.1
      cases hg : g.2 with
      | nil => exact .inl rfl
      | cons a b => rw [hg] at h1; exact .inr h1
    | succ i =>
      have := dynGo_get h.2 i f (by simpa using hi)
      rw [show n + (i + 1) = n + 1 + i by omega]
      exact this
theorem dyn_pair {ops : Array Oper} {gs : List FP} (h : dynOk ops gs = true) {i j : Nat} (hij : i ≠ j) (h1 : relB (ancs ops) i j = false) (h2 : relB (ancs ops) j i = false) : ∀ q ∈ ((gs[i]?).getD ([], [])).2, q ∉ ((gs[j]?).getD ([], [])).1 := by
  intro q hq hq'
  cases hi : gs[i]? with
  | none => rw [hi] at hq; simp at hq
  | some f =>
    cases hj : gs[j]? with
    | none => rw [hj] at hq'; simp at hq'
    | some g =>
      rw [hi] at hq
      rw [hj] at hq'
      simp only [Option.getD_some] at hq hq'
      rcases dynGo_get h i f hi with e | e
      · rw [e] at hq; simp at hq
      · rw [Nat.zero_add] at e
        rcases dynOne_get e j g hj with e | e | e | e
        · rw [Nat.zero_add] at e; exact hij e
        · rw [Nat.zero_add] at e; rw [e] at h1; cases h1
        · rw [Nat.zero_add] at e; rw [e] at h2; cases h2
        · exact disjL_spec e hq hq'

theorem regOk_at {ops : Array Oper} (h : regOk ops = true) {i : Nat} {oi : Oper} (hi : ops[i]? = some oi) : (∀ e ∈ oi.after, Region.binds .any e = true → e.on < i) ∧ getN 0 (ancs ops) i = ancOf (ancs ops) oi.after.toList := by
  have hlt := (Array.getElem?_eq_some_iff.1 hi).1
  have := List.all_eq_true.1 h i (List.mem_range.2 hlt)
  rw [hi] at this
  simp only [Bool.and_eq_true] at this
  refine ⟨fun e he hb => ?_, nbeq.1 this.1.2⟩
  have := (Array.all_eq_true_iff_forall_mem.1 this.1.1) e he
  simp only [hb, Bool.not_true, Bool.false_or, Nat.blt_eq] at this
  exact this
theorem regOk_pair {ops : Array Oper} (h : regOk ops = true) {i j : Nat} {oi oj : Oper} (hi : ops[i]? = some oi) (hj : ops[j]? = some oj) (hlt : j < i) : pairB ops (ancs ops) oj oi j i = true := by
  have hl := (Array.getElem?_eq_some_iff.1 hi).1
  have := List.all_eq_true.1 h i (List.mem_range.2 hl)
  rw [hi] at this
  simp only [Bool.and_eq_true] at this
  have := List.all_eq_true.1 this.2 j (List.mem_range.2 hlt)
  rw [hj] at this
  exact this
theorem ancOf_bit {acc : List Nat} {j : Nat} : ∀ {l : List Edge}, (ancOf acc l).testBit j = true → ∃ e ∈ l, Region.binds .any e = true ∧ (j = e.on ∨ (getN 0 acc e.on).testBit j = true)
  | [], h => by simp [ancOf] at h
  | e :: l, h => by
    simp only [ancOf, Nat.testBit_or, Bool.or_eq_true] at h
    rcases h with h | h
    · split at h
      · rename_i hb
        simp only [Nat.testBit_or, Bool.or_eq_true] at h
        refine ⟨e, by simp, hb, h.imp (fun h => ?_) id⟩
        rw [Nat.shiftLeft_eq, Nat.one_mul, Nat.testBit_two_pow] at h
        simpa using (of_decide_eq_true h).symm
      · simp at h
    · obtain ⟨e', he', h'⟩ := ancOf_bit h
      exact ⟨e', by simp [he'], h'⟩

theorem dstNe_comm (x y : Oper) : dstNe x y = dstNe y x := by
  unfold dstNe
  cases x.dst <;> cases y.dst <;> try rfl
  rename_i a b
  simp only
  congr 1
  rw [Bool.eq_iff_iff, Nat.beq_eq, Nat.beq_eq]
  exact eq_comm

theorem Stp.slots {o : Oper} {s : St} {x : SV} {U : List (Nat × Blk)} {t : Nat} (ht : o.dst ≠ some t) : getN SV.any (nxt o s x U).slots t = getN SV.any s.slots t := by
  unfold nxt
  rcases getN_put s o.dst x t with h | ⟨h, _⟩
  · exact h
  · exact absurd h ht

/-- The slots that are still to be written mention nothing that is made in the region. -/
def Clean (D : List Nat) (ops : Array Oper) (L : List Nat) (s : St) : Prop := ∀ i ∈ L, ∀ o d, ops[i]? = some o → o.dst = some d → ∀ q ∈ D, noref q (getN SV.any s.slots d) = true
theorem Clean.step {ops : Array Oper} {L : List Nat} {s : St} {o : Oper} {x : SV} {U : List (Nat × Blk)} (h : Clean D ops L s) (hd : ∀ i ∈ L, ∀ o', ops[i]? = some o' → dstNe o o' = true) : Clean D ops L (nxt o s x U) := by
  intro i hi o' d ho hdd q hq
  rw [Stp.slots]
  · exact h i hi o' d ho hdd q hq
  · intro e
    have := hd i hi o' ho
    simp [dstNe, e, hdd] at this
def MC (ops : Array Oper) (L : List Nat) (s : St) : Prop := ∀ i ∈ L, ∀ o d, ops[i]? = some o → maker o = true → o.dst = some d → memNoref d s.mem = true
theorem MC.step {ops : Array Oper} {L : List Nat} {o : Oper} {s : St} {x : SV} {U : List (Nat × Blk)} {D : List Nat} (h : MC ops L s) (hb : nbU D U = true) (hD : ∀ i ∈ L, ∀ o d, ops[i]? = some o → maker o = true → o.dst = some d → d ∈ D) : MC ops L (nxt o s x U) :=
  fun i hi o' d ho hm hd => appU_noref (h i hi o' d ho hm hd) (fun q b hq => nbU_get hb q b hq d (hD i hi o' d ho hm hd))

theorem pull {F : Nat → FP} {DD : Nat → List Nat} {i : Nat} {oi : Oper} (hi : all[i]? = some oi) {L2 : List Nat} {s' : St} (hD : ∀ (j : Nat) (o : Oper) (d : Nat), all[j]? = some o → maker o = true → o.dst = some d → d ∈ D)
    (hDD : ∀ (a b : Nat) (o : Oper) (d : Nat), relB (ancs all) a b = false → all[b]? = some o → maker o = true → o.dst = some d → d ∈ DD a) : ∀ (L1 : List Nat) (s : St),
    ChainI P T DD all F (L1 ++ i :: L2) s s' → (∀ j ∈ L1, relB (ancs all) i j = false ∧ relB (ancs all) j i = false) → (∀ j ∈ L1, ∀ oj, all[j]? = some oj → oj.apart all oi = true ∧ (∀ q ∈ (F j).2, q ∉ (F i).1) ∧ ∀ q ∈ (F i).2, q ∉ (F j).1) →
    L1.Pairwise (fun a b => ∀ oa ob, all[a]? = some oa → all[b]? = some ob → dstNe oa ob = true) → Clean D all L1 s → (∀ d, maker oi = true → oi.dst = some d → memNoref d s.mem = true) → ChainI P T DD all F (i :: (L1 ++ L2)) s s'
  | [], s, h, _, _, _, _, _ => h
  | j :: L1, s, h, hr, hp, hd, hc, hm => by
    cases h with
    | cons _ _ _ _ oj xj Uj cj fj hj r1 n1 b1 g1 h =>
      have hd' := List.pairwise_cons.1 hd
      have h := pull hi hD hDD L1 _ h (fun q hq => hr q (by simp [hq])) (fun q hq => hp q (by simp [hq])) hd'.2 (Clean.step (fun q hq => hc q (by simp [hq])) (fun q hq o' ho' => hd'.1 q hq oj o' hj ho'))
        (fun d hmk hdd => appU_noref (hm d hmk hdd) (fun q b hq => nbU_get b1 q b hq d (hDD j i oi d (hr j (by simp)).2 hi hmk hdd)))
      cases h with
      | cons _ _ _ _ oi' xi Ui ci fi hi' r2 n2 b2 g2 h =>
        rw [hi] at hi'
        injection hi' with hi'
        subst hi'
        obtain ⟨p1, p2, p3⟩ := hp j (by simp) oj hj
        obtain ⟨q1, q2, q3⟩ := swap r1 r2 p1 (fun q hq hq' => p2 q (g1.2 q hq) (g2.1 q hq')) (fun q hq hq' => p3 q (g2.2 q hq) (g1.1 q hq')) hm n2 b2 (fun d hmk hdd => hDD i j oj d (hr j (by simp)).1 hj hmk hdd) (fun q d hmk hdi hdj => hc j (by simp) oj d hj hdj q (hD i oi q hi hmk hdi))
        exact .cons i _ s s' oi xi Ui ci fi hi q1 n2 b2 g2 (.cons j _ _ s' oj xj Uj cj fj hj q2 n1 b1 g1 (by rw [q3]; exact h))

theorem drawn (ro : Option Nat) (nn : Nat) {ops : Array Oper} (hok : regOk ops = true) (hD : ∀ (j : Nat) (o : Oper) (d : Nat), ops[j]? = some o → maker o = true → o.dst = some d → d ∈ D) {DD : Nat → List Nat}
    (hDD : ∀ (a b : Nat) (o : Oper) (d : Nat), relB (ancs ops) a b = false → ops[b]? = some o → maker o = true → o.dst = some d → d ∈ DD a) {F : Nat → FP}
    (hF : ∀ i j, i ≠ j → relB (ancs ops) i j = false → relB (ancs ops) j i = false → ∀ q ∈ (F i).2, q ∉ (F j).1) {N : Nat → Prop} {w0 : World} {X : Nat → Prop} {z : Anc} {sF : St} {Q : Exit → Act → World → Prop} (hQ : ∀ a w ρ, Rep T N w0 X z sF a w ρ → Q .normal a w) (hfx : ∀ (i : Nat) (o : Oper), ops[i]? = some o → ∀ q, o.dst = some q → z.fx q = none) :
    ∀ (fuel : Nat) (L : List Nat) (listed : Array Bool) (s : St) (a : Act) (w : World) (ρ : Env), L.length = fuel → listed.size = ops.size → L.Pairwise (· < ·) → (∀ i, i ∈ L ↔ i < ops.size ∧ listed.getD i true = false) →
      (∀ i oi, ops[i]? = some oi → listed.getD i true = true → ∀ j, relB (ancs ops) i j = true → listed.getD j true = true) →
      ChainI P T DD ops F L s sF → Clean D ops L s → MC ops L s → Rep T N w0 X z s a w ρ → wpAnyIn (FR ro) nn P .any ops Q fuel listed a w := by
  have empty : ∀ (L : List Nat) (listed : Array Bool), listed.size = ops.size → L.Pairwise (· < ·) → (∀ i, i ∈ L ↔ i < ops.size ∧ listed.getD i true = false) → Region.ready .any ops listed = [] → L = [] := by
    intro L listed hsz hp hm hr
    cases L with
    | nil => rfl
    | cons i L =>
      exfalso
      obtain ⟨h1, h2⟩ := (hm i).1 (by simp)
      have : i ∈ Region.ready .any ops listed := by
        refine mem_ready.2 ⟨h2, ops[i], Array.getElem?_eq_getElem h1, fun e he hb => ?_⟩
        have hlt := (regOk_at hok (Array.getElem?_eq_getElem h1)).1 e he hb
        have hnot : e.on ∉ i :: L := by
          intro hmem
          rcases List.mem_cons.1 hmem with h | h
          · omega
          · have := (List.pairwise_cons.1 hp).1 _ h; omega
        have hx : ¬ (listed.getD e.on true = false) := fun h => hnot ((hm e.on).2 ⟨by omega, h⟩)
        have hlt' : e.on < listed.size := by omega
        simpa [hlt'] using hx
      rw [hr] at this
      simp at this
  intro fuel
  induction fuel with
  | zero =>
    intro L listed s a w ρ hl hsz hp hm hcl0 hch hcl hmc hr
    obtain rfl : L = [] := List.eq_nil_of_length_eq_zero hl
    cases hch with
    | nil =>
      refine ⟨?_, hQ a w ρ hr⟩
      apply List.eq_nil_iff_forall_not_mem.2
      intro i hi
      obtain ⟨h1, o, ho, _⟩ := mem_ready.1 hi
      have := (hm i).2 ⟨(Array.getElem?_eq_some_iff.1 ho).1, h1⟩
      simp at this
  | succ fuel ih =>
    intro L listed s a w ρ hl hsz hp hm hcl0 hch hcl hmc hr
    refine ⟨fun h0 => ?_, fun i hi => ?_⟩
    · have := empty L listed hsz hp hm h0
      subst this
      simp at hl
    · obtain ⟨h1, oi, hoi, hed⟩ := mem_ready.1 hi
      have hin := (hm i).2 ⟨(Array.getElem?_eq_some_iff.1 hoi).1, h1⟩
      -- what must come before has been
      have hanc : ∀ j, relB (ancs ops) i j = true → listed.getD j true = true := by
        intro j hj
        unfold relB at hj
        rw [(regOk_at hok hoi).2] at hj
        obtain ⟨e, he, hb, hje⟩ := ancOf_bit hj
        have he' : e ∈ oi.after := by simpa using he
        have hls := hed e he' hb
        have hlt := (regOk_at hok hoi).1 e he' hb
        have hlen : e.on < ops.size := by have := (Array.getElem?_eq_some_iff.1 hoi).1; omega
        have hon : listed.getD e.on true = true := by
          have : e.on < listed.size := by omega
          simpa [this] using hls
        rcases hje with rfl | hje
        · exact hon
        · exact hcl0 e.on _ (Array.getElem?_eq_getElem hlen) hon j hje
      obtain ⟨L1, L2, rfl⟩ := List.append_of_mem hin
      have hpa := List.pairwise_append.1 hp
      have hp2 := List.pairwise_cons.1 hpa.2.1
      have hlt1 : ∀ j ∈ L1, j < i := fun j hj => hpa.2.2 j hj i (by simp)
      have hnl : ∀ j ∈ L1, listed.getD j true = false := fun j hj => ((hm j).1 (by simp [hj])).2
      have hnanc : ∀ j ∈ L1, relB (ancs ops) i j = false := by
        intro j hj
        cases hb : relB (ancs ops) i j with
        | false => rfl
        | true => have := hanc j hb; rw [hnl j hj] at this; cases this
      have key : ∀ n j, j < n → ∀ k, relB (ancs ops) j k = true → j < ops.size → k < j := by
        intro n
        induction n with
        | zero => intro j hj; omega
        | succ n ihn =>
          intro j hj k hk hjs
          unfold relB at hk
          rw [(regOk_at hok (Array.getElem?_eq_getElem hjs)).2] at hk
          obtain ⟨e, he, hbe, hje⟩ := ancOf_bit hk
          have hlt := (regOk_at hok (Array.getElem?_eq_getElem hjs)).1 e (by simpa using he) hbe
          rcases hje with rfl | hje
          · exact hlt
          · have := ihn e.on (by omega) k hje (by omega); omega
      have hnanc2 : ∀ j ∈ L1, relB (ancs ops) j i = false := by
        intro j hj
        cases hb : relB (ancs ops) j i with
        | false => rfl
        | true =>
          exfalso
          have h3 := hlt1 j hj
          have h4 := key (j + 1) j (by omega) i hb (by have := (Array.getElem?_eq_some_iff.1 hoi).1; omega)
          omega
      have hpull := pull (P := P) (T := T) hoi hD hDD L1 s hch (fun j hj => ⟨hnanc j hj, hnanc2 j hj⟩) (fun j hj oj hoj => by
        have hpb := regOk_pair hok hoi hoj (hlt1 j hj)
        simp only [pairB, Bool.and_eq_true, Bool.or_eq_true] at hpb
        rcases hpb.2 with he | he
        · rw [hnanc j hj] at he; cases he
        · have hne : j ≠ i := by have := hlt1 j hj; omega
          exact ⟨he, hF j i hne (hnanc2 j hj) (hnanc j hj), hF i j (Ne.symm hne) (hnanc j hj) (hnanc2 j hj)⟩) (hpa.1.imp (fun {x y} hxy oa ob hoa hob => by
            have := regOk_pair hok hob hoa hxy
            simp only [pairB, Bool.and_eq_true] at this
            exact this.1)) (fun j hj => hcl j (by simp [hj])) (fun d hmk hdd => hmc i (by simp) oi d hoi hmk hdd)
      cases hpull with
      | cons _ _ _ _ oi' xi Ui ci fi hoi' hres hn hb hf hrest =>
        rw [hoi] at hoi'
        injection hoi' with hoi'
        subst hoi'
        unfold wpOpIn
        rw [hoi]
        refine hres.sound hr (K := wpAnyIn (FR ro) nn P .any ops Q fuel (listed.setIfInBounds i true)) (Q := Q) (fun a' w' ρ' hr' => ?_) (hfx i oi hoi) ro nn
        have hne : ∀ j ∈ L1 ++ L2, j ≠ i := by
          intro j hj
          rcases List.mem_append.1 hj with h | h
          · exact Nat.ne_of_lt (hlt1 j h)
          · exact Nat.ne_of_gt (hp2.1 j h)
        refine ih (L1 ++ L2) _ _ a' w' ρ' (by simp at hl ⊢; omega) (by simpa using hsz) (List.pairwise_append.2 ⟨hpa.1, hp2.2, fun x hx y hy => hpa.2.2 x hx y (by simp [hy])⟩) (fun j => ?_) (fun k ok hok' hk j hj => ?_) hrest ?_ (MC.step (L := L1 ++ L2) (fun j hj => hmc j (by rcases List.mem_append.1 hj with h | h <;> simp [h])) hb (fun j hj o d ho hmk hdd => hDD i j o d ?_ ho hmk hdd)) hr'
        · constructor
          · intro hj
            have hj' : j ∈ L1 ++ i :: L2 := by
              rcases List.mem_append.1 hj with h | h
              · simp [h]
              · simp [h]
            obtain ⟨g1, g2⟩ := (hm j).1 hj'
            refine ⟨g1, ?_⟩
            rw [getD_set_ne true (Ne.symm (hne j hj))]
            exact g2
          · rintro ⟨g1, g2⟩
            by_cases hji : j = i
            · subst hji
              have : j < listed.size := by rw [hsz]; exact g1
              simp [this] at g2
            · rw [getD_set_ne true (Ne.symm hji)] at g2
              have := (hm j).2 ⟨g1, g2⟩
              rcases List.mem_append.1 this with h | h
              · simp [h]
              · rcases List.mem_cons.1 h with h | h
                · exact absurd h hji
                · simp [h]
        · have lift : ∀ j, listed.getD j true = true → (listed.setIfInBounds i true).getD j true = true := by
            intro j hj
            by_cases hji : j = i
            · subst hji
              have : j < listed.size := by rw [hsz]; exact (Array.getElem?_eq_some_iff.1 hoi).1
              simp [this]
            · rw [getD_set_ne true (Ne.symm hji)]; exact hj
          by_cases hki : k = i
          · subst hki
            exact lift j (hanc j hj)
          · rw [getD_set_ne true (Ne.symm hki)] at hk
            exact lift j (hcl0 k ok hok' hk j hj)
        · refine Clean.step (fun j hj => hcl j ?_) (fun j hj o' ho' => ?_)
          · rcases List.mem_append.1 hj with h | h <;> simp [h]
          · rcases List.mem_append.1 hj with h | h
            · have := regOk_pair hok hoi ho' (hlt1 j h)
              simp only [pairB, Bool.and_eq_true] at this
              rw [dstNe_comm]
              exact this.1
            · have := regOk_pair hok ho' hoi (hp2.1 j h)
              simp only [pairB, Bool.and_eq_true] at this
              exact this.1
        · rcases List.mem_append.1 hj with h | h
          · exact hnanc j h
          · cases hb' : relB (ancs ops) i j with
            | false => rfl
            | true =>
              exfalso
              have h3 := hp2.1 j h
              have h4 := key (i + 1) i (by omega) j hb' (by have := (Array.getElem?_eq_some_iff.1 hoi).1; omega)
              omega

/-- The ids that a region makes. -/
def makes : List Oper → List Nat
  | [] => []
  | o :: l => (match maker o, o.dst with | true, some d => d :: makes l | _, _ => makes l)
theorem makes_mem : ∀ {l : List Oper} {o : Oper} {d : Nat}, o ∈ l → maker o = true → o.dst = some d → d ∈ makes l
  | [], o, d, h, _, _ => by simp at h
  | x :: l, o, d, h, hc, hd => by
    unfold makes
    rcases List.mem_cons.1 h with rfl | h
    · rw [hc, hd]; simp
    · have := makes_mem h hc hd
      split
      · exact List.mem_cons_of_mem _ this
      · exact this
def memNorefs : List Nat → Mem → Bool
  | [], _ => true
  | d :: D, m => memNoref d m && memNorefs D m
theorem memNorefs_get : ∀ {D : List Nat} {m : Mem}, memNorefs D m = true → ∀ d ∈ D, memNoref d m = true
  | [], _, _, d, h => by simp at h
  | x :: D, m, h, d, hd => by
    simp only [memNorefs, Bool.and_eq_true] at h
    rcases List.mem_cons.1 hd with rfl | hd
    · exact h.1
    · exact memNorefs_get h.2 d hd
def slotNorefs : List Nat → List SV → Bool
  | [], _ => true
  | d :: D, l => noref.norefs d l && slotNorefs D l
theorem slotNorefs_get : ∀ {D : List Nat} {l : List SV}, slotNorefs D l = true → ∀ d ∈ D, noref.norefs d l = true
  | [], _, _, d, h => by simp at h
  | x :: D, m, h, d, hd => by
    simp only [slotNorefs, Bool.and_eq_true] at h
    rcases List.mem_cons.1 hd with rfl | hd
    · exact h.1
    · exact slotNorefs_get h.2 d hd

/-- The ids of the makers that need not come before operation i. -/
def dsFor (anc : List Nat) (i : Nat) : List Oper → Nat → List Nat
  | [], _ => []
  | o :: l, p => (match maker o, o.dst with
    | true, some d => if relB anc i p then dsFor anc i l (p + 1) else d :: dsFor anc i l (p + 1)
    | _, _ => dsFor anc i l (p + 1))
def dsGo (anc : List Nat) (all : List Oper) : List Oper → Nat → List (List Nat)
  | [], _ => []
  | _ :: l, i => dsFor anc i all 0 :: dsGo anc all l (i + 1)
theorem dsFor_mem {anc : List Nat} {i : Nat} : ∀ {l : List Oper} {n p : Nat} {o : Oper} {d : Nat}, l[p]? = some o → relB anc i (n + p) = false → maker o = true → o.dst = some d → d ∈ dsFor anc i l n
  | [], n, p, o, d, h, _, _, _ => by simp at h
  | x :: l, n, 0, o, d, h, hr, hm, hd => by
    simp at h
    subst h
    unfold dsFor
    rw [hm, hd]
    simp only
    rw [if_neg (by rw [Nat.add_zero] at hr; rw [hr]; decide)]
    simp
  | x :: l, n, p + 1, o, d, h, hr, hm, hd => by
    have := dsFor_mem (l := l) (n := n + 1) (p := p) (by simpa using h) (by rw [← hr]; congr 1; omega) hm hd
    unfold dsFor
    split
    · split
      · exact this
      · exact List.mem_cons_of_mem _ this
    · exact this
theorem dsGo_get {anc : List Nat} {all : List Oper} : ∀ {l : List Oper} {n j : Nat}, j < l.length → (dsGo anc all l n).getD j [] = dsFor anc (n + j) all 0
  | [], n, j, h => by simp at h
  | x :: l, n, 0, h => by simp [dsGo]
  | x :: l, n, j + 1, h => by
    simp only [dsGo, List.getD_cons_succ]
    rw [dsGo_get (by simpa using h)]
    congr 1
    omega

/-- A drawn region, evaluated. -/
def drawG (T : Nat → Option TI) (G : Nat → CT → Prop) (ops : Array Oper) (s : St) (k : St → Prop) : Prop :=
  if memNorefs (makes ops.toList) s.mem && slotNorefs (makes ops.toList) s.slots then opsG T G (dsGo (ancs ops) ops.toList ops.toList 0) ops ops.toList [] s (fun fs s => if dynOk ops fs.reverse then k s else False) else False

theorem reg_draw (tab : Tab P T) (hG : ∀ f c, G f c → ACall P T f c) (hmix : P.follows .mixedOrders = true) {id : Nat} {ops : Array Oper} (hok : regOk ops = true) {N : Nat → Prop} {w0 : World} {X : Nat → Prop} {z : Anc} {s : St} {k : St → Prop}
    {Q : Exit → Act → World → Prop} {a : Act} {w : World} {ρ : Env} (h : drawG T G ops s k) (hr : Rep T N w0 X z s a w ρ) (hQ : ∀ s a w ρ, k s → Rep T N w0 X z s a w ρ → Q .normal a w) (hfx : ∀ o ∈ ops.toList, ∀ q, o.dst = some q → z.fx q = none) (ro : Option Nat) (nn : Nat) : (Code.region id ops true).wpIn (FR ro) nn P Q a w := by
  have hr1 : Rep T N w0 X z s a { w with drawn := w.drawn + 1 } ρ := by
    have hb : Below w.heap.size w { w with drawn := w.drawn + 1 } := ⟨rfl, rfl, rfl, Nat.le_refl _, fun _ _ => rfl⟩
    exact ⟨hr.m.grow hb, ⟨hr.defers.h⟩, hr.size, fun t => Den.mono (w := w) (w' := { w with drawn := w.drawn + 1 }) (X := Forb X s.mem ρ) (X' := Forb X s.mem ρ) hb.size (fun b _ h => ⟨h, rfl⟩) (hr.slot t), hr.anch, hr.fix, hr.len, hr.nod⟩
  unfold drawG at h
  split at h
  case isFalse => exact h.elim
  rename_i hc
  simp only [Bool.and_eq_true] at hc
  refine wpIn_region_any hmix ?_
  obtain ⟨sF, gs, g1, g2, g3⟩ := chain_I (P := P) (T := T) (DD := fun i => dsFor (ancs ops) i ops.toList 0) (all := ops) ops.toList 0 _ [] s (fun j => by simp) (fun j hj => (dsGo_get hj).symm) (opsG_chain tab hG _ _ _ _ _ h)
  rw [List.append_nil, List.reverse_reverse] at g2
  split at g2
  case isFalse => exact g2.elim
  rename_i hdyn
  have hch := g3 (fun i => (gs[i]?).getD ([], [])) (fun i g hg => by simp [hg])
  rw [Array.length_toList, ← List.range_eq_range'] at hch
  refine drawn ro nn hok (fun j o d ho hmk hdd => makes_mem (by simpa using Array.mem_of_getElem? ho) hmk hdd) (fun a b o d hr ho hmk hdd => dsFor_mem (n := 0) (p := b) (by simpa using ho) (by rw [Nat.zero_add]; exact hr) hmk hdd) (fun i j hij h1 h2 => dyn_pair hdyn hij h1 h2) (fun a w ρ hr => hQ sF a w ρ g2 hr) (fun i o ho => hfx o (by simpa using Array.mem_of_getElem? ho)) ops.size (List.range ops.size) _ s a _ ρ (by simp) (by simp) List.pairwise_lt_range (fun i => ?_) (fun i oi hoi hl => ?_) hch
    (fun i _ o d _ _ q hq => norefs_getN (slotNorefs_get hc.2 q hq) d) (fun i _ o d ho hmk hdd => memNorefs_get hc.1 d (makes_mem (by simpa using Array.mem_of_getElem? ho) hmk hdd)) hr1
  · constructor
    · intro hi
      have hi := List.mem_range.1 hi
      exact ⟨hi, by simp [hi]⟩
    · intro hi
      exact List.mem_range.2 hi.1
  · exfalso
    have := (Array.getElem?_eq_some_iff.1 hoi).1
    simp [this] at hl
end Go.Proofs.YtligbjbkecmecaaDoor
