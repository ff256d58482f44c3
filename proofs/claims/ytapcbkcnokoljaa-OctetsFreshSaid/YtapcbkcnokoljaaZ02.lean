/- Texts put together: Drw Ren Rg Swp Mk Ty Tac OA OM OB OS OD OE. -/
import Derived.Test.YtapcbkcnokoljaaZ01
import Derived.Scope
import Derived.Test.YtapcbkcnokoljaaChecked
import Derived.KernelRfl
namespace Go.Proofs.Ytapcbkcnokoljaa
set_option linter.unusedVariables false
set_option linter.unusedSimpArgs false
open Go.RowKit
variable {P : Program} {T : Nat → Option TI} {G : Nat → CT → Prop} {D : List Nat} {all : Array Oper}

theorem nrD_get {d : Option Nat} {x : SV} : ∀ {D : List Nat}, nrD d x D = true → ∀ q ∈ D, d ≠ some q → noref q x = true
  | [], _, q, h, _ => by simp at h
  | p :: D, hn, q, hq, hd => by
    simp only [nrD, Bool.and_eq_true, Bool.or_eq_true] at hn
    rcases List.mem_cons.1 hq with rfl | hq
    · rcases hn.1 with h | h
      · exact h
      · cases d with
        | none => simp at h
        | some p => simp only at h; exact absurd (by rw [Nat.eq_of_beq_eq_true h]) hd
    · exact nrD_get hn.2 q hq hd
theorem nbD_get {b : Blk} : ∀ {D : List Nat}, nbD b D = true → ∀ q ∈ D, bNoref q b = true
  | [], _, q, h => by simp at h
  | p :: D, hn, q, hq => by
    simp only [nbD, Bool.and_eq_true] at hn
    rcases List.mem_cons.1 hq with rfl | hq
    · exact hn.1
    · exact nbD_get hn.2 q hq
theorem nbU_get : ∀ {U : List (Nat × Blk)}, nbU D U = true → ∀ q b, (q, b) ∈ U → ∀ d ∈ D, bNoref d b = true
  | [], _, q, b, h, _, _ => by simp at h
  | (k, c) :: U, hn, q, b, h, d, hd => by
    simp only [nbU, Bool.and_eq_true] at hn
    rcases List.mem_cons.1 h with h | h
    · injection h with h1 h2; subst h2; exact nbD_get hn.1 d hd
    · exact nbU_get hn.2 q b h d hd
theorem ev_put {s : St} {dst : Option Nat} {x : SV} {m : Mem} {y : Operand} (h : ∀ d, dst = some d → y ≠ .tmp d) : (⟨(s.put dst x).slots, m⟩ : St).ev y = s.ev y := by
  cases dst with
  | none => cases y <;> rfl
  | some d =>
    cases y with
    | tmp t =>
      simp only [St.ev, St.put]
      by_cases hd : d < s.slots.length
      · rw [getN_setN _ _ _ _ _ hd, if_neg (fun e => h d rfl (by rw [e]))]
      · rw [setN_eq, List.set_eq_of_length_le (by omega)]
    | _ => rfl
theorem looks_op {o : Oper} {y : Operand} {d : Nat} (h : d ∉ o.looksAt all) (hy : y ∈ o.op.operands) : y ≠ .tmp d := by
  rintro rfl
  exact h (List.mem_append_left _ (List.mem_filterMap.2 ⟨.tmp d, by simpa using hy, rfl⟩))
theorem gd_put {s : St} {dst : Option Nat} {x : SV} {m : Mem} {o : Oper} (h : ∀ d, dst = some d → d ∉ o.looksAt all) : gd all o ⟨(s.put dst x).slots, m⟩ = gd all o s := by
  unfold gd
  cases hg : o.guard with
  | none => rfl
  | some jw =>
    obtain ⟨j, want⟩ := jw
    simp only
    cases ht : (all[j]?).bind (·.dst) with
    | none => rfl
    | some t =>
      simp only
      have : getN SV.any (s.put dst x).slots t = getN SV.any s.slots t := by
        cases dst with
        | none => rfl
        | some d =>
          have hne : t ≠ d := fun e => h d rfl (by subst e; simp [Oper.looksAt, hg, ht])
          simp only [St.put]
          by_cases hd : d < s.slots.length
          · rw [getN_setN _ _ _ _ _ hd, if_neg hne]
          · rw [setN_eq, List.set_eq_of_length_le (by omega)]
      rw [this]
theorem norefs_iff {d : Nat} : ∀ {l : List SV}, noref.norefs d l = true ↔ ∀ t, noref d (getN .any l t) = true
  | [] => by simp [noref.norefs, getN, noref]
  | x :: l => by
    constructor
    · intro h t; exact norefs_getN h t
    · intro h
      simp only [noref.norefs, Bool.and_eq_true]
      exact ⟨h 0, norefs_iff.2 fun t => h (t + 1)⟩
theorem put_len (s : St) (d : Option Nat) (x : SV) : (s.put d x).slots.length = s.slots.length := by
  cases d <;> simp [St.put, setN_length]
theorem getN_put (s : St) (d : Option Nat) (x : SV) (t : Nat) : getN SV.any (s.put d x).slots t = getN SV.any s.slots t ∨ (d = some t ∧ getN SV.any (s.put d x).slots t = x) := by
  cases d with
  | none => exact .inl rfl
  | some q =>
    simp only [St.put]
    by_cases hq : q < s.slots.length
    · rw [getN_setN _ _ _ _ _ hq]
      by_cases ht : t = q
      · subst ht; exact .inr ⟨rfl, by rw [if_pos rfl]⟩
      · rw [if_neg ht]; exact .inl rfl
    · rw [setN_eq, List.set_eq_of_length_le (by omega)]; exact .inl rfl
theorem appU_set {q : Nat} {b : Blk} : ∀ {U : List (Nat × Blk)} {m : Mem}, (∀ q' b', (q', b') ∈ U → q ≠ q') → appU U (setM b m q) = setM b (appU U m) q
  | [], _, _ => rfl
  | (q', b') :: U, m, h => by
    simp only [appU]
    rw [setM_comm b' b m q' q (Ne.symm (h q' b' (by simp))), appU_set (fun q'' b'' h' => h q'' b'' (by simp [h']))]
theorem appU_comm : ∀ {U V : List (Nat × Blk)} {m : Mem}, (∀ q b q' b', (q, b) ∈ U → (q', b') ∈ V → q ≠ q') → appU U (appU V m) = appU V (appU U m)
  | [], _, _, _ => rfl
  | (q, b) :: U, V, m, h => by
    simp only [appU]
    rw [← appU_set (fun q' b' h' => h q b q' b' (by simp) h'), appU_comm (fun q b q' b' h1 h2 => h q b q' b' (by simp [h1]) h2)]

theorem men_out {o : Oper} {e : Operand → SV} {s : St} {q : Nat} (hq : ∃ y ∈ o.op.operands, noref q (e y) = false) (he : ∀ y ∈ o.op.operands, s.ev y = e y) (h : noref.norefs q s.slots = true) : False := by
  obtain ⟨y, hy, hn⟩ := hq
  rw [← he y hy, noref_ev h] at hn
  cases hn

structure Port (P : Program) (T : Nat → Option TI) (all : Array Oper) (o : Oper) (s : St) (x : SV) (U : List (Nat × Blk)) (cr : Option Nat) (f : FP) : Prop where
  crs : ∀ d, cr = some d → o.dst = some d ∧ s.fresh d = true ∧ maker o = true
  upd : ∀ q b, (q, b) ∈ U → cr = some q ∨ (q ∈ f.1 ∧ q ∈ f.2)
  men : ∀ q ∈ f.1, ∃ y ∈ o.op.operands, noref q (s.ev y) = false
  go : ∀ s0 : St, (∀ y ∈ o.op.operands, s0.ev y = s.ev y) → gd all o s0 = gd all o s → (∀ q ∈ f.1, getM s0.mem q = getM s.mem q) → (∀ d, cr = some d → s0.fresh d = true) → Stp P T all o s0 x U cr f
theorem port {o : Oper} {s : St} {x : SV} {U : List (Nat × Blk)} {cr : Option Nat} {f : FP} (h : Stp P T all o s x U cr f) : Port P T all o s x U cr f := by
  cases h with
  | skip hg => exact ⟨(fun d h => by cases h), (fun q b h => by simp at h), (fun q h => by simp at h), fun s0 _ hg0 _ _ => .skip s0 (by rw [hg0]; exact hg)⟩
  | run _ _ _ _ e μ hg he hμ hR hU hc h =>
    refine ⟨hc, hU, fun q hq => ?_, fun s0 hev hg0 hm hf => ?_⟩
    · obtain ⟨y, hy, hn⟩ := hR q hq
      exact ⟨y, hy, by rw [he y hy]; exact hn⟩
    · exact .run s0 x U cr f e μ (by rw [hg0]; exact hg) (fun y hy => by rw [hev y hy]; exact he y hy) (fun q => (hμ q).imp id fun ⟨h1, h2⟩ => ⟨h1, by rw [hm q h1]; exact h2⟩) hR hU (fun d hd => ⟨(hc d hd).1, hf d hd, (hc d hd).2.2⟩) h

theorem swap {oj oi : Oper} {s : St} {xj xi : SV} {Uj Ui : List (Nat × Blk)} {cj ci : Option Nat} {fj fi : FP} (h1 : Stp P T all oj s xj Uj cj fj) (h2 : Stp P T all oi (nxt oj s xj Uj) xi Ui ci fi) (hap : oj.apart all oi = true)
    (hW1 : ∀ q ∈ fj.2, q ∉ fi.1) (hW2 : ∀ q ∈ fi.2, q ∉ fj.1) (hM : ∀ d, maker oi = true → oi.dst = some d → memNoref d s.mem = true) (nri : nrD oi.dst xi D = true) (nbi : nbU D Ui = true)
    (hDj : ∀ d, maker oj = true → oj.dst = some d → d ∈ D) (hclean : ∀ q d, maker oi = true → oi.dst = some q → oj.dst = some d → noref q (getN SV.any s.slots d) = true) :
    Stp P T all oi s xi Ui ci fi ∧ Stp P T all oj (nxt oi s xi Ui) xj Uj cj fj ∧ nxt oj (nxt oi s xi Ui) xj Uj = nxt oi (nxt oj s xj Uj) xi Ui := by
  obtain ⟨a1, a2, a3⟩ := Oper.apart_spec hap
  have pj := port h1
  have pi := port h2
  have evi : ∀ y ∈ oi.op.operands, (nxt oj s xj Uj).ev y = s.ev y := fun y hy => ev_put (fun d hd => looks_op (a1 d hd) hy)
  have gdi : gd all oi (nxt oj s xj Uj) = gd all oi s := gd_put a1
  have slots : ∀ d, ci = some d → noref.norefs d s.slots = true := by
    intro d hc
    obtain ⟨hd, hf, hmk⟩ := pi.crs d hc
    obtain ⟨f1, f3, f4, f5⟩ := (fresh_iff (fresh_ne hf)).1 hf
    refine norefs_iff.2 fun t => ?_
    rcases getN_put s oj.dst xj t with e | ⟨e, _⟩
    · rw [← e]; exact norefs_getN f4 t
    · exact hclean d t hmk hd e
  have crne : ∀ d, cj = some d → ci = some d → False := fun d h h' => a2 d (pj.crs d h).1 (pi.crs d h').1
  have mi : ∀ q ∈ fi.1, ∃ y ∈ oi.op.operands, noref q (s.ev y) = false := fun q hq => by
    obtain ⟨y, hy, hn⟩ := pi.men q hq
    exact ⟨y, hy, by rw [← evi y hy]; exact hn⟩
  have freshj : ∀ d, cj = some d → noref.norefs d s.slots = true := fun d h => ((fresh_iff (fresh_ne (pj.crs d h).2.1)).1 (pj.crs d h).2.1).2.2.1
  have ne : ∀ q b q' b', (q, b) ∈ Uj → (q', b') ∈ Ui → q ≠ q' := by
    rintro q b q' b' hq hq' rfl
    rcases pj.upd q b hq with h | ⟨g1, g2⟩ <;> rcases pi.upd q b' hq' with h' | ⟨g1', g2'⟩
    · exact crne q h h'
    · exact men_out (mi q g1') (fun _ _ => rfl) (freshj q h)
    · exact men_out (pj.men q g1) (fun _ _ => rfl) (slots q h')
    · exact hW1 q g2 g1'
  have ri := pi.go s (fun y hy => (evi y hy).symm) gdi.symm (fun q hq => by
      show getM s.mem q = getM (appU Uj s.mem) q
      rw [appU_ne]
      rintro q' b hq' rfl
      rcases pj.upd _ b hq' with h | ⟨g1, g2⟩
      · exact men_out (mi _ hq) (fun _ _ => rfl) (freshj _ h)
      · exact hW1 _ g2 hq) (fun d hc => by
    obtain ⟨hd, hf, hmk⟩ := pi.crs d hc
    obtain ⟨f1, f3, f4, f5⟩ := (fresh_iff (fresh_ne hf)).1 hf
    unfold nxt at f1 f3
    simp only [put_len] at f1
    simp only at f3
    rw [appU_ne] at f3
    · exact (fresh_iff (fresh_ne hf)).2 ⟨f1, f3, slots d hc, hM d hmk hd⟩
    · rintro q b hq rfl
      rcases pj.upd _ b hq with h | ⟨g, _⟩
      · exact crne _ h hc
      · exact men_out (pj.men _ g) (fun _ _ => rfl) (slots _ hc))
  have rj := pj.go (nxt oi s xi Ui) (fun y hy => ev_put (fun d hd => looks_op (a3 d hd) hy)) (gd_put a3) (fun q hq => by
      show getM (appU Ui s.mem) q = getM s.mem q
      rw [appU_ne]
      rintro q' b hq' rfl
      rcases pi.upd _ b hq' with h | ⟨g1, g2⟩
      · exact men_out (pj.men _ hq) (fun _ _ => rfl) (slots _ h)
      · exact hW2 _ g2 hq) (fun d hc => by
      obtain ⟨hd, hf, hmk⟩ := pj.crs d hc
      obtain ⟨f1, f3, f4, f5⟩ := (fresh_iff (fresh_ne hf)).1 hf
      have hD := hDj d hmk hd
      have hne : oi.dst ≠ some d := a2 d hd
      refine (fresh_iff (fresh_ne hf)).2 ⟨by show d < (s.put oi.dst xi).slots.length; rw [put_len]; exact f1, ?_, norefs_iff.2 fun t => ?_, appU_noref f5 (fun q b hq => nbU_get nbi q b hq d hD)⟩
      · show getM (appU Ui s.mem) d = .no
        rw [appU_ne]
        · exact f3
        · rintro q b hq rfl
          rcases pi.upd _ b hq with h | ⟨g, _⟩
          · exact crne _ hc h
          · exact men_out (mi _ g) (fun _ _ => rfl) f4
      · show noref d (getN SV.any (s.put oi.dst xi).slots t) = true
        rcases getN_put s oi.dst xi t with e | ⟨e, e2⟩
        · rw [e]; exact norefs_getN f4 t
        · rw [e2]; exact nrD_get nri d hD hne)
  refine ⟨ri, rj, ?_⟩
  unfold nxt
  have e1 : ((⟨(s.put oi.dst xi).slots, appU Ui s.mem⟩ : St).put oj.dst xj).slots = ((⟨(s.put oj.dst xj).slots, appU Uj s.mem⟩ : St).put oi.dst xi).slots := by
    cases hj : oj.dst with
    | none => cases oi.dst <;> rfl
    | some d =>
      cases hi : oi.dst with
      | none => rfl
      | some d' =>
        have hne : d ≠ d' := fun e => a2 d hj (by rw [hi, e])
        simp only [St.put, setN_eq]
        exact List.set_comm _ _ (Ne.symm hne)
  simp only
  rw [e1, appU_comm ne]

inductive ChainI (P : Program) (T : Nat → Option TI) (D : Nat → List Nat) (all : Array Oper) (F : Nat → FP) : List Nat → St → St → Prop
  | nil (s : St) : ChainI P T D all F [] s s
  | cons (i : Nat) (L : List Nat) (s s' : St) (o : Oper) (x : SV) (U : List (Nat × Blk)) (cr : Option Nat) (f : FP) (ho : all[i]? = some o) (h : Stp P T all o s x U cr f) (hn : nrD o.dst x (D i) = true) (hb : nbU (D i) U = true)
      (hf : (∀ q ∈ f.1, q ∈ (F i).1) ∧ ∀ q ∈ f.2, q ∈ (F i).2) (t : ChainI P T D all F L (nxt o s x U) s') : ChainI P T D all F (i :: L) s s'

theorem chain_I {k : List FP → St → Prop} {DD : Nat → List Nat} : ∀ (l : List Oper) (n : Nat) (Ds : List (List Nat)) (fs : List FP) (s : St), (∀ j, l[j]? = all[n + j]?) → (∀ j, j < l.length → DD (n + j) = Ds.getD j []) → Chain P T Ds all l fs s k →
    ∃ (sF : St) (gs : List FP), gs.length = l.length ∧ k (gs.reverse ++ fs) sF ∧ ∀ F : Nat → FP, (∀ i g, gs[i]? = some g → F (n + i) = g) → ChainI P T DD all F (List.range' n l.length) s sF
  | [], n, Ds, fs, s, _, _, h => ⟨s, [], rfl, by unfold Chain at h; exact h, fun F _ => .nil s⟩
  | o :: l, n, Ds, fs, s, hl, hD, h => by
    unfold Chain at h
    obtain ⟨x, U, cr, f, h1, h2, h3, h4⟩ := h
    obtain ⟨sF, gs, g1, g2, g3⟩ := chain_I l (n + 1) (tlL Ds) (f :: fs) (nxt o s x U) (fun j => by
      have := hl (j + 1)
      rw [List.getElem?_cons_succ] at this
      rw [this]
      congr 1
      omega) (fun j hj => by
      rw [tlL_get, ← hD (j + 1) (by simp; omega)]
      congr 1
      omega) h4
    refine ⟨sF, f :: gs, by simp [g1], by simpa using g2, fun F hF => ?_⟩
    simp only [List.length_cons, List.range'_succ]
    have hf : F n = f := by simpa using hF 0 f rfl
    have hd : DD n = hdL Ds := by rw [hdL_eq]; exact hD 0 (by simp)
    exact .cons n _ s sF o x U cr f (by simpa using (hl 0).symm) h1 (by rw [hd]; exact h2) (by rw [hd]; exact h3) (by rw [hf]; exact ⟨fun q h => h, fun q h => h⟩) (g3 F fun i g hg => by
      have := hF (i + 1) g (by simpa using hg)
      rw [← this]
      congr 1
      omega)

def dstNe (x y : Oper) : Bool := match x.dst, y.dst with
  | some a, some b => !(Nat.beq a b)
  | _, _ => true
def ancOf (acc : List Nat) : List Edge → Nat
  | [] => 0
  | e :: l => (if Region.binds .any e then (1 <<< e.on) ||| getN 0 acc e.on else 0) ||| ancOf acc l
def ancsGo : List Oper → List Nat → List Nat
  | [], acc => acc
  | o :: l, acc => ancsGo l (acc ++ [ancOf acc o.after.toList])
def ancs (ops : Array Oper) : List Nat := ancsGo ops.toList []
def relB (anc : List Nat) (i j : Nat) : Bool := (getN 0 anc i).testBit j

def pairB (ops : Array Oper) (anc : List Nat) (oj oi : Oper) (j i : Nat) : Bool := dstNe oj oi && (relB anc i j || oj.apart ops oi)
def regOk (ops : Array Oper) : Bool :=
  let anc := ancs ops
  (List.range ops.size).all fun i => match ops[i]? with
    | some oi => (oi.after.all fun e => !Region.binds .any e || Nat.blt e.on i) && Nat.beq (getN 0 anc i) (ancOf anc oi.after.toList) && (List.range i).all fun j => match ops[j]? with
      | some oj => pairB ops anc oj oi j i
      | none => false
    | none => false
def disjL (A B : List Nat) : Bool := match A with
  | [] => true
  | x :: l => !(memB x B) && disjL l B
theorem disjL_spec {A B : List Nat} (h : disjL A B = true) {q : Nat} (ha : q ∈ A) (hb : q ∈ B) : False := by
  induction A with
  | nil => simp at ha
  | cons x l ih =>
    simp only [disjL, Bool.and_eq_true, Bool.not_eq_true'] at h
    rcases List.mem_cons.1 ha with rfl | ha
    · rw [memB_iff.2 hb] at h; cases h.1
    · exact ih h.2 ha
def dynOne (anc : List Nat) (i : Nat) (W : List Nat) : Nat → List FP → Bool
  | _, [] => true
  | j, f :: l => (Nat.beq i j || relB anc i j || relB anc j i || disjL W f.1) && dynOne anc i W (j + 1) l
def dynGo (ops : Array Oper) (gs : List FP) : Nat → List FP → Bool
  | _, [] => true
  | i, f :: l => (match f.2 with | [] => true | W => dynOne (ancs ops) i W 0 gs) && dynGo ops gs (i + 1) l
def dynOk (ops : Array Oper) (gs : List FP) : Bool := dynGo ops gs 0 gs
theorem dynOne_get {anc : List Nat} {i : Nat} {W : List Nat} : ∀ {l : List FP} {n : Nat}, dynOne anc i W n l = true → ∀ (j : Nat) (f : FP), l[j]? = some f → i = n + j ∨ relB anc i (n + j) = true ∨ relB anc (n + j) i = true ∨ disjL W f.1 = true
  | [], n, _, j, f, hj => by simp at hj
  | g :: l, n, h, j, f, hj => by
    simp only [dynOne, Bool.and_eq_true, Bool.or_eq_true] at h
    cases j with
    | zero =>
      simp at hj
      subst hj
      rcases h.1 with ((h1 | h1) | h1) | h1
      · exact .inl (nbeq.1 h1)
      · exact .inr (.inl h1)
      · exact .inr (.inr (.inl h1))
      · exact .inr (.inr (.inr h1))
    | succ j =>
      have := dynOne_get h.2 j f (by simpa using hj)
      rw [show n + (j + 1) = n + 1 + j by omega]
      exact this
theorem dynGo_get {ops : Array Oper} {gs : List FP} : ∀ {l : List FP} {n : Nat}, dynGo ops gs n l = true → ∀ (i : Nat) (f : FP), l[i]? = some f → f.2 = [] ∨ dynOne (ancs ops) (n + i) f.2 0 gs = true
  | [], n, _, i, f, hi => by simp at hi
  | g :: l, n, h, i, f, hi => by
    simp only [dynGo, Bool.and_eq_true] at h
    cases i with
    | zero =>
      simp at hi
      subst hi
      have h1 := h.1
      cases hg : g.2 with
      | nil => exact .inl rfl
      | cons a b => rw [hg] at h1; exact .inr h1
    | succ i =>
      have := dynGo_get h.2 i f (by simpa using hi)
      rw [show n + (i + 1) = n + 1 + i by omega]
      exact this
theorem dyn_pair {ops : Array Oper} {gs : List FP} (h : dynOk ops gs = true) {i j : Nat} (hij : i ≠ j) (h1 : relB (ancs ops) i j = false) (h2 : relB (ancs ops) j i = false) : ∀ q ∈ ((gs[i]?).getD ([], [])).2, q ∉ ((gs[j]?).getD ([], [])).1 := by
  intro q hq hq'
  cases hi : gs[i]? with
  | none => rw [hi] at hq; simp at hq
  | some f =>
    cases hj : gs[j]? with
    | none => rw [hj] at hq'; simp at hq'
    | some g =>
      rw [hi] at hq
      rw [hj] at hq'
      simp only [Option.getD_some] at hq hq'
      rcases dynGo_get h i f hi with e | e
      · rw [e] at hq; simp at hq
      · rw [Nat.zero_add] at e
        rcases dynOne_get e j g hj with e | e | e | e
        · rw [Nat.zero_add] at e; exact hij e
        · rw [Nat.zero_add] at e; rw [e] at h1; cases h1
        · rw [Nat.zero_add] at e; rw [e] at h2; cases h2
        · exact disjL_spec e hq hq'

theorem regOk_at {ops : Array Oper} (h : regOk ops = true) {i : Nat} {oi : Oper} (hi : ops[i]? = some oi) : (∀ e ∈ oi.after, Region.binds .any e = true → e.on < i) ∧ getN 0 (ancs ops) i = ancOf (ancs ops) oi.after.toList := by
  have hlt := (Array.getElem?_eq_some_iff.1 hi).1
  have := List.all_eq_true.1 h i (List.mem_range.2 hlt)
  rw [hi] at this
  simp only [Bool.and_eq_true] at this
  refine ⟨fun e he hb => ?_, nbeq.1 this.1.2⟩
  have := (Array.all_eq_true_iff_forall_mem.1 this.1.1) e he
  simp only [hb, Bool.not_true, Bool.false_or, Nat.blt_eq] at this
  exact this
theorem regOk_pair {ops : Array Oper} (h : regOk ops = true) {i j : Nat} {oi oj : Oper} (hi : ops[i]? = some oi) (hj : ops[j]? = some oj) (hlt : j < i) : pairB ops (ancs ops) oj oi j i = true := by
  have hl := (Array.getElem?_eq_some_iff.1 hi).1
  have := List.all_eq_true.1 h i (List.mem_range.2 hl)
  rw [hi] at this
  simp only [Bool.and_eq_true] at this
  have := List.all_eq_true.1 this.2 j (List.mem_range.2 hlt)
  rw [hj] at this
  exact this
theorem ancOf_bit {acc : List Nat} {j : Nat} : ∀ {l : List Edge}, (ancOf acc l).testBit j = true → ∃ e ∈ l, Region.binds .any e = true ∧ (j = e.on ∨ (getN 0 acc e.on).testBit j = true)
  | [], h => by simp [ancOf] at h
  | e :: l, h => by
    simp only [ancOf, Nat.testBit_or, Bool.or_eq_true] at h
    rcases h with h | h
    · split at h
      · rename_i hb
        simp only [Nat.testBit_or, Bool.or_eq_true] at h
        refine ⟨e, by simp, hb, h.imp (fun h => ?_) id⟩
        rw [Nat.shiftLeft_eq, Nat.one_mul, Nat.testBit_two_pow] at h
        simpa using (of_decide_eq_true h).symm
      · simp at h
    · obtain ⟨e', he', h'⟩ := ancOf_bit h
      exact ⟨e', by simp [he'], h'⟩

theorem dstNe_comm (x y : Oper) : dstNe x y = dstNe y x := by
  unfold dstNe
  cases x.dst <;> cases y.dst <;> try rfl
  rename_i a b
  simp only
  congr 1
  rw [Bool.eq_iff_iff, Nat.beq_eq, Nat.beq_eq]
  exact eq_comm

theorem Stp.slots {o : Oper} {s : St} {x : SV} {U : List (Nat × Blk)} {t : Nat} (ht : o.dst ≠ some t) : getN SV.any (nxt o s x U).slots t = getN SV.any s.slots t := by
  unfold nxt
  rcases getN_put s o.dst x t with h | ⟨h, _⟩
  · exact h
  · exact absurd h ht

def Clean (D : List Nat) (ops : Array Oper) (L : List Nat) (s : St) : Prop := ∀ i ∈ L, ∀ o d, ops[i]? = some o → o.dst = some d → ∀ q ∈ D, noref q (getN SV.any s.slots d) = true
theorem Clean.step {ops : Array Oper} {L : List Nat} {s : St} {o : Oper} {x : SV} {U : List (Nat × Blk)} (h : Clean D ops L s) (hd : ∀ i ∈ L, ∀ o', ops[i]? = some o' → dstNe o o' = true) : Clean D ops L (nxt o s x U) := by
  intro i hi o' d ho hdd q hq
  rw [Stp.slots]
  · exact h i hi o' d ho hdd q hq
  · intro e
    have := hd i hi o' ho
    simp [dstNe, e, hdd] at this
def MC (ops : Array Oper) (L : List Nat) (s : St) : Prop := ∀ i ∈ L, ∀ o d, ops[i]? = some o → maker o = true → o.dst = some d → memNoref d s.mem = true
theorem MC.step {ops : Array Oper} {L : List Nat} {o : Oper} {s : St} {x : SV} {U : List (Nat × Blk)} {D : List Nat} (h : MC ops L s) (hb : nbU D U = true) (hD : ∀ i ∈ L, ∀ o d, ops[i]? = some o → maker o = true → o.dst = some d → d ∈ D) : MC ops L (nxt o s x U) :=
  fun i hi o' d ho hm hd => appU_noref (h i hi o' d ho hm hd) (fun q b hq => nbU_get hb q b hq d (hD i hi o' d ho hm hd))

theorem pull {F : Nat → FP} {DD : Nat → List Nat} {i : Nat} {oi : Oper} (hi : all[i]? = some oi) {L2 : List Nat} {s' : St} (hD : ∀ (j : Nat) (o : Oper) (d : Nat), all[j]? = some o → maker o = true → o.dst = some d → d ∈ D)
    (hDD : ∀ (a b : Nat) (o : Oper) (d : Nat), relB (ancs all) a b = false → all[b]? = some o → maker o = true → o.dst = some d → d ∈ DD a) : ∀ (L1 : List Nat) (s : St),
    ChainI P T DD all F (L1 ++ i :: L2) s s' → (∀ j ∈ L1, relB (ancs all) i j = false ∧ relB (ancs all) j i = false) → (∀ j ∈ L1, ∀ oj, all[j]? = some oj → oj.apart all oi = true ∧ (∀ q ∈ (F j).2, q ∉ (F i).1) ∧ ∀ q ∈ (F i).2, q ∉ (F j).1) →
    L1.Pairwise (fun a b => ∀ oa ob, all[a]? = some oa → all[b]? = some ob → dstNe oa ob = true) → Clean D all L1 s → (∀ d, maker oi = true → oi.dst = some d → memNoref d s.mem = true) → ChainI P T DD all F (i :: (L1 ++ L2)) s s'
  | [], s, h, _, _, _, _, _ => h
  | j :: L1, s, h, hr, hp, hd, hc, hm => by
    cases h with
    | cons _ _ _ _ oj xj Uj cj fj hj r1 n1 b1 g1 h =>
      have hd' := List.pairwise_cons.1 hd
      have h := pull hi hD hDD L1 _ h (fun q hq => hr q (by simp [hq])) (fun q hq => hp q (by simp [hq])) hd'.2 (Clean.step (fun q hq => hc q (by simp [hq])) (fun q hq o' ho' => hd'.1 q hq oj o' hj ho'))
        (fun d hmk hdd => appU_noref (hm d hmk hdd) (fun q b hq => nbU_get b1 q b hq d (hDD j i oi d (hr j (by simp)).2 hi hmk hdd)))
      cases h with
      | cons _ _ _ _ oi' xi Ui ci fi hi' r2 n2 b2 g2 h =>
        rw [hi] at hi'
        injection hi' with hi'
        subst hi'
        obtain ⟨p1, p2, p3⟩ := hp j (by simp) oj hj
        obtain ⟨q1, q2, q3⟩ := swap r1 r2 p1 (fun q hq hq' => p2 q (g1.2 q hq) (g2.1 q hq')) (fun q hq hq' => p3 q (g2.2 q hq) (g1.1 q hq')) hm n2 b2 (fun d hmk hdd => hDD i j oj d (hr j (by simp)).1 hj hmk hdd) (fun q d hmk hdi hdj => hc j (by simp) oj d hj hdj q (hD i oi q hi hmk hdi))
        exact .cons i _ s s' oi xi Ui ci fi hi q1 n2 b2 g2 (.cons j _ _ s' oj xj Uj cj fj hj q2 n1 b1 g1 (by rw [q3]; exact h))

theorem drawn (ro : Option Nat) (nn : Nat) {ops : Array Oper} (hok : regOk ops = true) (hD : ∀ (j : Nat) (o : Oper) (d : Nat), ops[j]? = some o → maker o = true → o.dst = some d → d ∈ D) {DD : Nat → List Nat}
    (hDD : ∀ (a b : Nat) (o : Oper) (d : Nat), relB (ancs ops) a b = false → ops[b]? = some o → maker o = true → o.dst = some d → d ∈ DD a) {F : Nat → FP}
    (hF : ∀ i j, i ≠ j → relB (ancs ops) i j = false → relB (ancs ops) j i = false → ∀ q ∈ (F i).2, q ∉ (F j).1) {N : Nat → Prop} {w0 : World} {X : Nat → Prop} {z : Anc} {sF : St} {Q : Exit → Act → World → Prop} (hQ : ∀ a w ρ, Rep T N w0 X z sF a w ρ → Q .normal a w) (hfx : ∀ (i : Nat) (o : Oper), ops[i]? = some o → ∀ q, o.dst = some q → z.fx q = none) :
    ∀ (fuel : Nat) (L : List Nat) (listed : Array Bool) (s : St) (a : Act) (w : World) (ρ : Env), L.length = fuel → listed.size = ops.size → L.Pairwise (· < ·) → (∀ i, i ∈ L ↔ i < ops.size ∧ listed.getD i true = false) →
      (∀ i oi, ops[i]? = some oi → listed.getD i true = true → ∀ j, relB (ancs ops) i j = true → listed.getD j true = true) →
      ChainI P T DD ops F L s sF → Clean D ops L s → MC ops L s → Rep T N w0 X z s a w ρ → wpAnyIn (FR ro) nn P .any ops Q fuel listed a w := by
  have empty : ∀ (L : List Nat) (listed : Array Bool), listed.size = ops.size → L.Pairwise (· < ·) → (∀ i, i ∈ L ↔ i < ops.size ∧ listed.getD i true = false) → Region.ready .any ops listed = [] → L = [] := by
    intro L listed hsz hp hm hr
    cases L with
    | nil => rfl
    | cons i L =>
      exfalso
      obtain ⟨h1, h2⟩ := (hm i).1 (by simp)
      have : i ∈ Region.ready .any ops listed := by
        refine mem_ready.2 ⟨h2, ops[i], Array.getElem?_eq_getElem h1, fun e he hb => ?_⟩
        have hlt := (regOk_at hok (Array.getElem?_eq_getElem h1)).1 e he hb
        have hnot : e.on ∉ i :: L := by
          intro hmem
          rcases List.mem_cons.1 hmem with h | h
          · omega
          · have := (List.pairwise_cons.1 hp).1 _ h; omega
        have hx : ¬ (listed.getD e.on true = false) := fun h => hnot ((hm e.on).2 ⟨by omega, h⟩)
        have hlt' : e.on < listed.size := by omega
        simpa [hlt'] using hx
      rw [hr] at this
      simp at this
  intro fuel
  induction fuel with
  | zero =>
    intro L listed s a w ρ hl hsz hp hm hcl0 hch hcl hmc hr
    obtain rfl : L = [] := List.eq_nil_of_length_eq_zero hl
    cases hch with
    | nil =>
      refine ⟨?_, hQ a w ρ hr⟩
      apply List.eq_nil_iff_forall_not_mem.2
      intro i hi
      obtain ⟨h1, o, ho, _⟩ := mem_ready.1 hi
      have := (hm i).2 ⟨(Array.getElem?_eq_some_iff.1 ho).1, h1⟩
      simp at this
  | succ fuel ih =>
    intro L listed s a w ρ hl hsz hp hm hcl0 hch hcl hmc hr
    refine ⟨fun h0 => ?_, fun i hi => ?_⟩
    · have := empty L listed hsz hp hm h0
      subst this
      simp at hl
    · obtain ⟨h1, oi, hoi, hed⟩ := mem_ready.1 hi
      have hin := (hm i).2 ⟨(Array.getElem?_eq_some_iff.1 hoi).1, h1⟩
      have hanc : ∀ j, relB (ancs ops) i j = true → listed.getD j true = true := by
        intro j hj
        unfold relB at hj
        rw [(regOk_at hok hoi).2] at hj
        obtain ⟨e, he, hb, hje⟩ := ancOf_bit hj
        have he' : e ∈ oi.after := by simpa using he
        have hls := hed e he' hb
        have hlt := (regOk_at hok hoi).1 e he' hb
        have hlen : e.on < ops.size := by have := (Array.getElem?_eq_some_iff.1 hoi).1; omega
        have hon : listed.getD e.on true = true := by
          have : e.on < listed.size := by omega
          simpa [this] using hls
        rcases hje with rfl | hje
        · exact hon
        · exact hcl0 e.on _ (Array.getElem?_eq_getElem hlen) hon j hje
      obtain ⟨L1, L2, rfl⟩ := List.append_of_mem hin
      have hpa := List.pairwise_append.1 hp
      have hp2 := List.pairwise_cons.1 hpa.2.1
      have hlt1 : ∀ j ∈ L1, j < i := fun j hj => hpa.2.2 j hj i (by simp)
      have hnl : ∀ j ∈ L1, listed.getD j true = false := fun j hj => ((hm j).1 (by simp [hj])).2
      have hnanc : ∀ j ∈ L1, relB (ancs ops) i j = false := by
        intro j hj
        cases hb : relB (ancs ops) i j with
        | false => rfl
        | true => have := hanc j hb; rw [hnl j hj] at this; cases this
      have key : ∀ n j, j < n → ∀ k, relB (ancs ops) j k = true → j < ops.size → k < j := by
        intro n
        induction n with
        | zero => intro j hj; omega
        | succ n ihn =>
          intro j hj k hk hjs
          unfold relB at hk
          rw [(regOk_at hok (Array.getElem?_eq_getElem hjs)).2] at hk
          obtain ⟨e, he, hbe, hje⟩ := ancOf_bit hk
          have hlt := (regOk_at hok (Array.getElem?_eq_getElem hjs)).1 e (by simpa using he) hbe
          rcases hje with rfl | hje
          · exact hlt
          · have := ihn e.on (by omega) k hje (by omega); omega
      have hnanc2 : ∀ j ∈ L1, relB (ancs ops) j i = false := by
        intro j hj
        cases hb : relB (ancs ops) j i with
        | false => rfl
        | true =>
          exfalso
          have h3 := hlt1 j hj
          have h4 := key (j + 1) j (by omega) i hb (by have := (Array.getElem?_eq_some_iff.1 hoi).1; omega)
          omega
      have hpull := pull (P := P) (T := T) hoi hD hDD L1 s hch (fun j hj => ⟨hnanc j hj, hnanc2 j hj⟩) (fun j hj oj hoj => by
        have hpb := regOk_pair hok hoi hoj (hlt1 j hj)
        simp only [pairB, Bool.and_eq_true, Bool.or_eq_true] at hpb
        rcases hpb.2 with he | he
        · rw [hnanc j hj] at he; cases he
        · have hne : j ≠ i := by have := hlt1 j hj; omega
          exact ⟨he, hF j i hne (hnanc2 j hj) (hnanc j hj), hF i j (Ne.symm hne) (hnanc j hj) (hnanc2 j hj)⟩) (hpa.1.imp (fun {x y} hxy oa ob hoa hob => by
            have := regOk_pair hok hob hoa hxy
            simp only [pairB, Bool.and_eq_true] at this
            exact this.1)) (fun j hj => hcl j (by simp [hj])) (fun d hmk hdd => hmc i (by simp) oi d hoi hmk hdd)
      cases hpull with
      | cons _ _ _ _ oi' xi Ui ci fi hoi' hres hn hb hf hrest =>
        rw [hoi] at hoi'
        injection hoi' with hoi'
        subst hoi'
        unfold wpOpIn
        rw [hoi]
        refine hres.sound hr (K := wpAnyIn (FR ro) nn P .any ops Q fuel (listed.setIfInBounds i true)) (Q := Q) (fun a' w' ρ' hr' => ?_) (hfx i oi hoi) ro nn
        have hne : ∀ j ∈ L1 ++ L2, j ≠ i := by
          intro j hj
          rcases List.mem_append.1 hj with h | h
          · exact Nat.ne_of_lt (hlt1 j h)
          · exact Nat.ne_of_gt (hp2.1 j h)
        refine ih (L1 ++ L2) _ _ a' w' ρ' (by simp at hl ⊢; omega) (by simpa using hsz) (List.pairwise_append.2 ⟨hpa.1, hp2.2, fun x hx y hy => hpa.2.2 x hx y (by simp [hy])⟩) (fun j => ?_) (fun k ok hok' hk j hj => ?_) hrest ?_ (MC.step (L := L1 ++ L2) (fun j hj => hmc j (by rcases List.mem_append.1 hj with h | h <;> simp [h])) hb (fun j hj o d ho hmk hdd => hDD i j o d ?_ ho hmk hdd)) hr'
        · constructor
          · intro hj
            have hj' : j ∈ L1 ++ i :: L2 := by
              rcases List.mem_append.1 hj with h | h
              · simp [h]
              · simp [h]
            obtain ⟨g1, g2⟩ := (hm j).1 hj'
            refine ⟨g1, ?_⟩
            rw [getD_set_ne true (Ne.symm (hne j hj))]
            exact g2
          · rintro ⟨g1, g2⟩
            by_cases hji : j = i
            · subst hji
              have : j < listed.size := by rw [hsz]; exact g1
              simp [this] at g2
            · rw [getD_set_ne true (Ne.symm hji)] at g2
              have := (hm j).2 ⟨g1, g2⟩
              rcases List.mem_append.1 this with h | h
              · simp [h]
              · rcases List.mem_cons.1 h with h | h
                · exact absurd h hji
                · simp [h]
        · have lift : ∀ j, listed.getD j true = true → (listed.setIfInBounds i true).getD j true = true := by
            intro j hj
            by_cases hji : j = i
            · subst hji
              have : j < listed.size := by rw [hsz]; exact (Array.getElem?_eq_some_iff.1 hoi).1
              simp [this]
            · rw [getD_set_ne true (Ne.symm hji)]; exact hj
          by_cases hki : k = i
          · subst hki
            exact lift j (hanc j hj)
          · rw [getD_set_ne true (Ne.symm hki)] at hk
            exact lift j (hcl0 k ok hok' hk j hj)
        · refine Clean.step (fun j hj => hcl j ?_) (fun j hj o' ho' => ?_)
          · rcases List.mem_append.1 hj with h | h <;> simp [h]
          · rcases List.mem_append.1 hj with h | h
            · have := regOk_pair hok hoi ho' (hlt1 j h)
              simp only [pairB, Bool.and_eq_true] at this
              rw [dstNe_comm]
              exact this.1
            · have := regOk_pair hok ho' hoi (hp2.1 j h)
              simp only [pairB, Bool.and_eq_true] at this
              exact this.1
        · rcases List.mem_append.1 hj with h | h
          · exact hnanc j h
          · cases hb' : relB (ancs ops) i j with
            | false => rfl
            | true =>
              exfalso
              have h3 := hp2.1 j h
              have h4 := key (i + 1) i (by omega) j hb' (by have := (Array.getElem?_eq_some_iff.1 hoi).1; omega)
              omega

def makes : List Oper → List Nat
  | [] => []
  | o :: l => (match maker o, o.dst with | true, some d => d :: makes l | _, _ => makes l)
theorem makes_mem : ∀ {l : List Oper} {o : Oper} {d : Nat}, o ∈ l → maker o = true → o.dst = some d → d ∈ makes l
  | [], o, d, h, _, _ => by simp at h
  | x :: l, o, d, h, hc, hd => by
    unfold makes
    rcases List.mem_cons.1 h with rfl | h
    · rw [hc, hd]; simp
    · have := makes_mem h hc hd
      split
      · exact List.mem_cons_of_mem _ this
      · exact this
def memNorefs : List Nat → Mem → Bool
  | [], _ => true
  | d :: D, m => memNoref d m && memNorefs D m
theorem memNorefs_get : ∀ {D : List Nat} {m : Mem}, memNorefs D m = true → ∀ d ∈ D, memNoref d m = true
  | [], _, _, d, h => by simp at h
  | x :: D, m, h, d, hd => by
    simp only [memNorefs, Bool.and_eq_true] at h
    rcases List.mem_cons.1 hd with rfl | hd
    · exact h.1
    · exact memNorefs_get h.2 d hd
def slotNorefs : List Nat → List SV → Bool
  | [], _ => true
  | d :: D, l => noref.norefs d l && slotNorefs D l
theorem slotNorefs_get : ∀ {D : List Nat} {l : List SV}, slotNorefs D l = true → ∀ d ∈ D, noref.norefs d l = true
  | [], _, _, d, h => by simp at h
  | x :: D, m, h, d, hd => by
    simp only [slotNorefs, Bool.and_eq_true] at h
    rcases List.mem_cons.1 hd with rfl | hd
    · exact h.1
    · exact slotNorefs_get h.2 d hd

def dsFor (anc : List Nat) (i : Nat) : List Oper → Nat → List Nat
  | [], _ => []
  | o :: l, p => (match maker o, o.dst with
    | true, some d => if relB anc i p then dsFor anc i l (p + 1) else d :: dsFor anc i l (p + 1)
    | _, _ => dsFor anc i l (p + 1))
def dsGo (anc : List Nat) (all : List Oper) : List Oper → Nat → List (List Nat)
  | [], _ => []
  | _ :: l, i => dsFor anc i all 0 :: dsGo anc all l (i + 1)
theorem dsFor_mem {anc : List Nat} {i : Nat} : ∀ {l : List Oper} {n p : Nat} {o : Oper} {d : Nat}, l[p]? = some o → relB anc i (n + p) = false → maker o = true → o.dst = some d → d ∈ dsFor anc i l n
  | [], n, p, o, d, h, _, _, _ => by simp at h
  | x :: l, n, 0, o, d, h, hr, hm, hd => by
    simp at h
    subst h
    unfold dsFor
    rw [hm, hd]
    simp only
    rw [if_neg (by rw [Nat.add_zero] at hr; rw [hr]; decide)]
    simp
  | x :: l, n, p + 1, o, d, h, hr, hm, hd => by
    have := dsFor_mem (l := l) (n := n + 1) (p := p) (by simpa using h) (by rw [← hr]; congr 1; omega) hm hd
    unfold dsFor
    split
    · split
      · exact this
      · exact List.mem_cons_of_mem _ this
    · exact this
theorem dsGo_get {anc : List Nat} {all : List Oper} : ∀ {l : List Oper} {n j : Nat}, j < l.length → (dsGo anc all l n).getD j [] = dsFor anc (n + j) all 0
  | [], n, j, h => by simp at h
  | x :: l, n, 0, h => by simp [dsGo]
  | x :: l, n, j + 1, h => by
    simp only [dsGo, List.getD_cons_succ]
    rw [dsGo_get (by simpa using h)]
    congr 1
    omega

def drawG (T : Nat → Option TI) (G : Nat → CT → Prop) (ops : Array Oper) (s : St) (k : St → Prop) : Prop :=
  if memNorefs (makes ops.toList) s.mem && slotNorefs (makes ops.toList) s.slots then opsG T G (dsGo (ancs ops) ops.toList ops.toList 0) ops ops.toList [] s (fun fs s => if dynOk ops fs.reverse then k s else False) else False

theorem reg_draw (tab : Tab P T) (hG : ∀ f c, G f c → ACall P T f c) (hmix : P.follows .mixedOrders = true) {id : Nat} {ops : Array Oper} (hok : regOk ops = true) {N : Nat → Prop} {w0 : World} {X : Nat → Prop} {z : Anc} {s : St} {k : St → Prop}
    {Q : Exit → Act → World → Prop} {a : Act} {w : World} {ρ : Env} (h : drawG T G ops s k) (hr : Rep T N w0 X z s a w ρ) (hQ : ∀ s a w ρ, k s → Rep T N w0 X z s a w ρ → Q .normal a w) (hfx : ∀ o ∈ ops.toList, ∀ q, o.dst = some q → z.fx q = none) (ro : Option Nat) (nn : Nat) : (Code.region id ops true).wpIn (FR ro) nn P Q a w := by
  have hr1 : Rep T N w0 X z s a { w with drawn := w.drawn + 1 } ρ := by
    have hb : Below w.heap.size w { w with drawn := w.drawn + 1 } := ⟨rfl, rfl, rfl, Nat.le_refl _, fun _ _ => rfl⟩
    exact ⟨hr.m.grow hb, ⟨hr.defers.h⟩, hr.size, fun t => Den.mono (w := w) (w' := { w with drawn := w.drawn + 1 }) (X := Forb X s.mem ρ) (X' := Forb X s.mem ρ) hb.size (fun b _ h => ⟨h, rfl⟩) (hr.slot t), hr.anch, hr.fix, hr.len, hr.nod⟩
  unfold drawG at h
  split at h
  case isFalse => exact h.elim
  rename_i hc
  simp only [Bool.and_eq_true] at hc
  refine wpIn_region_any hmix ?_
  obtain ⟨sF, gs, g1, g2, g3⟩ := chain_I (P := P) (T := T) (DD := fun i => dsFor (ancs ops) i ops.toList 0) (all := ops) ops.toList 0 _ [] s (fun j => by simp) (fun j hj => (dsGo_get hj).symm) (opsG_chain tab hG _ _ _ _ _ h)
  rw [List.append_nil, List.reverse_reverse] at g2
  split at g2
  case isFalse => exact g2.elim
  rename_i hdyn
  have hch := g3 (fun i => (gs[i]?).getD ([], [])) (fun i g hg => by simp [hg])
  rw [Array.length_toList, ← List.range_eq_range'] at hch
  refine drawn ro nn hok (fun j o d ho hmk hdd => makes_mem (by simpa using Array.mem_of_getElem? ho) hmk hdd) (fun a b o d hr ho hmk hdd => dsFor_mem (n := 0) (p := b) (by simpa using ho) (by rw [Nat.zero_add]; exact hr) hmk hdd) (fun i j hij h1 h2 => dyn_pair hdyn hij h1 h2) (fun a w ρ hr => hQ sF a w ρ g2 hr) (fun i o ho => hfx o (by simpa using Array.mem_of_getElem? ho)) ops.size (List.range ops.size) _ s a _ ρ (by simp) (by simp) List.pairwise_lt_range (fun i => ?_) (fun i oi hoi hl => ?_) hch
    (fun i _ o d _ _ q hq => norefs_getN (slotNorefs_get hc.2 q hq) d) (fun i _ o d ho hmk hdd => memNorefs_get hc.1 d (makes_mem (by simpa using Array.mem_of_getElem? ho) hmk hdd)) hr1
  · constructor
    · intro hi
      have hi := List.mem_range.1 hi
      exact ⟨hi, by simp [hi]⟩
    · intro hi
      exact List.mem_range.2 hi.1
  · exfalso
    have := (Array.getElem?_eq_some_iff.1 hoi).1
    simp [this] at hl
end Go.Proofs.Ytapcbkcnokoljaa
namespace Go.Proofs.Ytapcbkcnokoljaa
set_option linter.unusedVariables false
set_option linter.unusedSimpArgs false
open Go.RowKit
variable {P : Program} {T : Nat → Option TI} {G : Nat → CT → Prop}

structure Sub (T : Nat → Option TI) (s s' : St) : Prop where
  h : ∀ N w0 X z a w ρ, Rep T N w0 X z s a w ρ → ∃ ρ', Rep T N w0 X z s' a w ρ'
theorem Sub.refl (s : St) : Sub T s s := ⟨fun _ _ _ _ _ _ ρ h => ⟨ρ, h⟩⟩
theorem Sub.trans {s s' s'' : St} (h : Sub T s s') (g : Sub T s' s'') : Sub T s s'' := ⟨fun N w0 X z a w ρ hr => by
  obtain ⟨ρ', hr'⟩ := h.h N w0 X z a w ρ hr
  exact g.h N w0 X z a w ρ' hr'⟩

def sw (p q r : Nat) : Nat := if Nat.beq r p then q else if Nat.beq r q then p else r
theorem sw_sw (p q r : Nat) : sw p q (sw p q r) = r := by
  unfold sw
  simp only [nbeq]
  repeat' split
  all_goals simp_all
theorem sw_inj {p q a b : Nat} (h : sw p q a = sw p q b) : a = b := by rw [← sw_sw p q a, h, sw_sw]
def swV (p q : Nat) : SV → SV
  | .ptr r o => .ptr (sw p q r) o
  | .row r => .row (sw p q r)
  | .rsl r sh a n c => .rsl (sw p q r) sh a n c
  | .rptr r sh i o => .rptr (sw p q r) sh i o
  | .obj r => .obj (sw p q r)
  | .agg l => .agg (swVs p q l)
  | .tup l => .tup (swVs p q l)
  | x => x
where swVs (p q : Nat) : List SV → List SV
  | [] => []
  | x :: l => swV p q x :: swVs p q l
theorem swVs_eq (p q : Nat) : ∀ l : List SV, swV.swVs p q l = l.map (swV p q)
  | [] => rfl
  | x :: l => by simp [swV.swVs, swVs_eq p q l]
theorem Den.sw {w : World} {X : Nat → Prop} {ρ : Env} {p q : Nat} {x : SV} {v : Value} (h : Den w X ρ x v) : Den w X (fun r => ρ (sw p q r)) (swV p q x) v := by
  induction h with
  | any ρ v => exact .any _ v
  | bool ρ b => exact .bool _ b
  | int ρ k n => exact .int _ k n
  | str ρ s => exact .str _ s
  | agg ρ l cs hl h ih =>
    simp only [swV, swVs_eq]
    refine .agg _ _ cs (by simpa using hl) fun i h1 h2 => ?_
    simp only [List.getElem_map]
    exact ih i _ h2
  | tup ρ l cs hl h ih =>
    simp only [swV, swVs_eq]
    refine .tup _ _ cs (by simpa using hl) fun i h1 h2 => ?_
    simp only [List.getElem_map]
    exact ih i _ h2
  | lst0 ρ sh a cap => exact .lst0 _ sh a cap
  | lst ρ sh l b off cap us hb hx hc hu hl h1 h ih => exact .lst _ sh l b off cap us hb hx hc hu hl h1 h
  | nil ρ => exact .nil _
  | ptr ρ r off b h => exact .ptr _ _ off b fun k hk => h k (by simpa [sw_sw] using hk)
  | row ρ r a n c h => exact .row _ _ a n c fun k hk => h k (by simpa [sw_sw] using hk)
  | rsl ρ r sh a n c x cc hc h => exact .rsl _ _ sh a n c x cc hc fun k hk => h k (by simpa [sw_sw] using hk)
  | rptr ρ r sh i off b o h => exact .rptr _ _ sh i off b o fun k hk => h k (by simpa [sw_sw] using hk)
  | eptr ρ sh x off b o us hb hx hu hl h ih => exact .eptr _ sh x off b o us hb hx hu hl h
  | clo ρ f caps us hl h ih => exact .clo _ f caps us hl h
  | obj ρ r v h1 h => exact .obj _ _ v h1 fun k hk => h k (by simpa [sw_sw] using hk)
  | val ρ v => exact .val _ v
def swB (p q : Nat) : Blk → Blk
  | .chunk t x => .chunk t (swV p q x)
  | .rowx e l i x => .rowx e l i (swV p q x)
  | b => b
def swM (p q : Nat) : Mem → Mem
  | [] => []
  | (k, b) :: m => (sw p q k, swB p q b) :: swM p q m
theorem getM_sw (p q : Nat) : ∀ (m : Mem) (r : Nat), getM (swM p q m) (sw p q r) = swB p q (getM m r)
  | [], r => rfl
  | (k, b) :: m, r => by
    simp only [swM, getM, nbeq, getM_sw p q m r]
    by_cases h : k = r
    · rw [if_pos (by rw [h]), if_pos h]
    · rw [if_neg (fun e => h (sw_inj e)), if_neg h]
def swS (p q : Nat) (s : St) : St := ⟨swV.swVs p q s.slots, swM p q s.mem⟩
theorem swB_own (p q : Nat) (b : Blk) : (swB p q b).own = b.own := by cases b <;> rfl
theorem swS_sub (p q : Nat) (s : St) (hp : p ≠ 0) (hq : q ≠ 0) : Sub T s (swS p q s) := ⟨fun N w0 X z a w ρ hr => by
  have hg : ∀ r, getM (swM p q s.mem) r = swB p q (getM s.mem (sw p q r)) := fun r => by rw [← getM_sw, sw_sw]
  have hf : Forb X (swM p q s.mem) (fun r => ρ (sw p q r)) = Forb X s.mem ρ := by
    funext b
    simp only [Forb, owned, hg, swB_own]
    apply propext
    constructor
    · rintro (h | ⟨r, v, h1, h2, h3⟩)
      · exact .inl h
      · exact .inr ⟨_, v, h1, h2, h3⟩
    · rintro (h | ⟨r, v, h1, h2, h3⟩)
      · exact .inl h
      · exact .inr ⟨sw p q r, v, by rw [sw_sw]; exact h1, by rw [sw_sw]; exact h2, h3⟩
  refine ⟨fun r => ρ (sw p q r), ⟨⟨hr.m.low, hr.m.below, hr.m.szN, fun r => ?_, fun r r' v v' b h1 h2 h3 h4 h5 h6 => ?_, fun g x hg => ⟨(hr.m.gl g x hg).1, (hr.m.gl g x hg).2.mono (Nat.le_refl _) fun b _ hn => ⟨fun hf' => hn (by rw [← hf]; exact hf'), rfl⟩⟩⟩, (by show DefOk N w (Forb X (swM p q s.mem) _) _; rw [hf]; exact hr.defers), ?_, fun t => ?_, ?_, hr.fix, hr.len, hr.nod⟩⟩
  · show BlkRep T N w (Forb X (swM p q s.mem) _) _ (getM (swM p q s.mem) r) _
    rw [hg, hf]
    have hb := hr.m.blk (sw p q r)
    cases hB : getM s.mem (sw p q r) with
    | no => rw [hB] at hb; exact hb
    | frz sh l => rw [hB] at hb; exact hb
    | row sh e l => rw [hB] at hb; exact hb
    | chunk t x =>
      rw [hB] at hb
      obtain ⟨i, b, us, ty, h1, h2, h3, h4, h5, h6, h7⟩ := hb
      exact ⟨i, b, us, ty, h1, h2, h3, h4, h5, h6, h7.sw⟩
    | rowx e l i x =>
      rw [hB] at hb
      obtain ⟨b, off, cap, cur, h2, h3, h4, h5, h6, h7, h0, h9, hi, h8, hx⟩ := hb
      exact ⟨b, off, cap, cur, h2, h3, h4, h5, h6, h7, h0, h9, hi, h8, hx.sw⟩
    | iter s p => rw [hB] at hb; exact hb
    | gen _ _ _ => rw [hB] at hb; exact hb
  · simp only [swS] at h1 h2
    rw [hg, swB_own] at h1 h2
    exact sw_inj (hr.m.inj _ _ v v' b h1 h2 h3 h4 h5 h6)
  · rw [hr.size]; simp [swS, swVs_eq]
  · show Den w (Forb X (swM p q s.mem) _) _ (getN .any (swV.swVs p q s.slots) t) _
    rw [hf]
    have := (hr.slot t).sw (p := p) (q := q)
    have e : getN SV.any (swV.swVs p q s.slots) t = swV p q (getN SV.any s.slots t) := by
      rw [swVs_eq, getN_eq, getN_eq, List.getElem?_map]
      cases s.slots[t]? <;> rfl
    rw [e]
    exact this
  · intro v hz hn
    have e0 : sw p q 0 = 0 := by unfold sw; simp only [nbeq]; rw [if_neg (Ne.symm hp), if_neg (Ne.symm hq)]
    show ρ (sw p q 0) = some v
    rw [e0]
    refine hr.anch v hz fun h0 => hn ?_
    show getM (swM p q s.mem) 0 = .no
    rw [hg, e0, h0]
    rfl⟩

def clV (m : Mem) : SV → SV
  | .ptr r o => if isNo (getM m r) then .any else .ptr r o
  | .row r => if isNo (getM m r) then .any else .row r
  | .rsl r sh a n c => if isNo (getM m r) then .any else .rsl r sh a n c
  | .rptr r sh i o => if isNo (getM m r) then .any else .rptr r sh i o
  | .obj r => if isNo (getM m r) then .any else .obj r
  | .agg l => .agg (clVs m l)
  | .tup l => .tup (clVs m l)
  | x => x
where clVs (m : Mem) : List SV → List SV
  | [] => []
  | x :: l => clV m x :: clVs m l
theorem clVs_eq (m : Mem) : ∀ l : List SV, clV.clVs m l = l.map (clV m)
  | [] => rfl
  | x :: l => by simp [clV.clVs, clVs_eq m l]
theorem Den.cl {w : World} {X : Nat → Prop} {ρ : Env} {m : Mem} {x : SV} {v : Value} (h : Den w X ρ x v) : Den w X ρ (clV m x) v := by
  induction h with
  | any ρ v => exact .any _ v
  | bool ρ b => exact .bool _ b
  | int ρ k n => exact .int _ k n
  | str ρ s => exact .str _ s
  | agg ρ l cs hl h ih =>
    simp only [clV, clVs_eq]
    refine .agg _ _ cs (by simpa using hl) fun i h1 h2 => ?_
    simp only [List.getElem_map]
    exact ih i _ h2
  | tup ρ l cs hl h ih =>
    simp only [clV, clVs_eq]
    refine .tup _ _ cs (by simpa using hl) fun i h1 h2 => ?_
    simp only [List.getElem_map]
    exact ih i _ h2
  | lst0 ρ sh a cap => exact .lst0 _ sh a cap
  | lst ρ sh l b off cap us hb hx hc hu hl h1 h ih => exact .lst _ sh l b off cap us hb hx hc hu hl h1 h
  | nil ρ => exact .nil _
  | ptr ρ r off b h => simp only [clV]; split <;> first | exact .any _ _ | exact .ptr _ _ off b h
  | row ρ r a n c h => simp only [clV]; split <;> first | exact .any _ _ | exact .row _ _ a n c h
  | rsl ρ r sh a n c x cc hc h => simp only [clV]; split <;> first | exact .any _ _ | exact .rsl _ _ sh a n c x cc hc h
  | rptr ρ r sh i off b o h => simp only [clV]; split <;> first | exact .any _ _ | exact .rptr _ _ sh i off b o h
  | eptr ρ sh x off b o us hb hx hu hl h ih => exact .eptr _ sh x off b o us hb hx hu hl h
  | clo ρ f caps us hl h ih => exact .clo _ f caps us hl h
  | obj ρ r v h1 h => simp only [clV]; split <;> first | exact .any _ _ | exact .obj _ r v h1 h
  | val ρ v => exact .val _ v
def clB (m : Mem) : Blk → Blk
  | .chunk t x => .chunk t (clV m x)
  | .rowx e l i x => .rowx e l i (clV m x)
  | b => b
def clM (m : Mem) : Mem → Mem
  | [] => []
  | (k, b) :: l => (k, clB m b) :: clM m l
theorem getM_cl (m : Mem) : ∀ (l : Mem) (r : Nat), getM (clM m l) r = clB m (getM l r)
  | [], r => rfl
  | (k, b) :: l, r => by
    simp only [clM, getM, getM_cl m l r]
    split <;> rfl
def clean (s : St) : St := ⟨clV.clVs s.mem s.slots, clM s.mem s.mem⟩
theorem clB_own (m : Mem) (b : Blk) : (clB m b).own = b.own := by cases b <;> rfl
theorem clean_sub (s : St) : Sub T s (clean s) := ⟨fun N w0 X z a w ρ hr => by
  have hf : Forb X (clM s.mem s.mem) ρ = Forb X s.mem ρ := by
    funext b
    simp only [Forb, owned, getM_cl, clB_own]
  refine ⟨ρ, ⟨⟨hr.m.low, hr.m.below, hr.m.szN, fun r => ?_, fun r r' v v' b h1 h2 h3 h4 h5 h6 => ?_, fun g x hg => ⟨(hr.m.gl g x hg).1, (hr.m.gl g x hg).2.mono (Nat.le_refl _) fun b _ hn => ⟨fun hf' => hn (by rw [← hf]; exact hf'), rfl⟩⟩⟩, (by show DefOk N w (Forb X (clM s.mem s.mem) ρ) _; rw [hf]; exact hr.defers), ?_, fun t => ?_, (fun v hz hn => hr.anch v hz fun h0 => hn (by show getM (clM s.mem s.mem) 0 = .no; rw [getM_cl, h0]; rfl)), hr.fix, hr.len, hr.nod⟩⟩
  · show BlkRep T N w (Forb X (clM s.mem s.mem) ρ) ρ (getM (clM s.mem s.mem) r) _
    rw [getM_cl, hf]
    have hb := hr.m.blk r
    cases hB : getM s.mem r with
    | no => rw [hB] at hb; exact hb
    | frz sh l => rw [hB] at hb; exact hb
    | row sh e l => rw [hB] at hb; exact hb
    | chunk t x =>
      rw [hB] at hb
      obtain ⟨i, b, us, ty, h1, h2, h3, h4, h5, h6, h7⟩ := hb
      exact ⟨i, b, us, ty, h1, h2, h3, h4, h5, h6, h7.cl⟩
    | rowx e l i x =>
      rw [hB] at hb
      obtain ⟨b, off, cap, cur, h2, h3, h4, h5, h6, h7, h0, h9, hi, h8, hx⟩ := hb
      exact ⟨b, off, cap, cur, h2, h3, h4, h5, h6, h7, h0, h9, hi, h8, hx.cl⟩
    | iter s p => rw [hB] at hb; exact hb
    | gen _ _ _ => rw [hB] at hb; exact hb
  · simp only [clean] at h1 h2
    rw [getM_cl, clB_own] at h1 h2
    exact hr.m.inj _ _ v v' b h1 h2 h3 h4 h5 h6
  · rw [hr.size]; simp [clean, clVs_eq]
  · show Den w (Forb X (clM s.mem s.mem) ρ) ρ (getN .any (clV.clVs s.mem s.slots) t) _
    rw [hf]
    have e : getN SV.any (clV.clVs s.mem s.slots) t = clV s.mem (getN SV.any s.slots t) := by
      rw [clVs_eq, getN_eq, getN_eq, List.getElem?_map]
      cases s.slots[t]? <;> rfl
    rw [e]
    exact (hr.slot t).cl⟩

def newId : Mem → Nat
  | [] => 1000
  | (k, _) :: m => (fun n => if Nat.blt k n then n else k + 1) (newId m)
def freeIds : List Nat → St → St
  | [], s => s
  | d :: l, s => freeIds l (if isNo (getM s.mem d) || Nat.beq d 0 then s else swS d (newId s.mem) s)
def prep (D : List Nat) (s : St) : St := match D with
  | [] => s
  | D => clean (freeIds D s)
theorem freeIds_sub : ∀ (D : List Nat) (s : St), Sub T s (freeIds D s)
  | [], s => .refl s
  | d :: l, s => by
    unfold freeIds
    split
    · exact freeIds_sub l s
    · rename_i h
      refine (swS_sub _ _ s (fun h0 => h (by simp [h0])) (fun h0 => ?_)).trans (freeIds_sub l _)
      have : ∀ m : Mem, 1000 ≤ newId m := by
        intro m
        induction m with
        | nil => exact Nat.le_refl _
        | cons p m ih =>
          obtain ⟨k, b⟩ := p
          simp only [newId, nblt]
          split <;> omega
      have := this s.mem
      omega
theorem prep_sub (D : List Nat) (s : St) : Sub T s (prep D s) := by
  unfold prep
  split
  · exact .refl s
  · exact (freeIds_sub _ s).trans (clean_sub _)

noncomputable def unXs (r : Nat) (s : St) : St :=
  match getM s.mem r with
  | .rowx e l i (.row q) => (match getM s.mem q with
    | .row sh _ k => ⟨s.slots, setM (.row none e (O.st l i (.lst sh k))) (setM (.frz sh k) s.mem q) r⟩
    | _ => s)
  | _ => s
theorem unXs_sub (r : Nat) (s : St) : Sub T s (unXs r s) := ⟨fun N w0 X z a w ρ hr => by
  unfold unXs
  split
  case h_2 => exact ⟨ρ, hr⟩
  rename_i e l i q hm
  split
  case h_2 => exact ⟨ρ, hr⟩
  rename_i sh e2 k hq
  rw [O.st_eq]
  obtain ⟨m', t'⟩ := hr.m.unX hm hq
  exact ⟨ρ, ⟨m', hr.defers.turn t', hr.size, fun t => t'.den (fun _ h => by cases h) (hr.slot t), anch_turn hr.m m' hr.anch (.inr rfl), hr.fix, hr.len, hr.nod⟩⟩⟩
def rowxIds : Mem → List Nat
  | [] => []
  | (k, b) :: m => (match b with | .rowx _ _ _ _ => k :: rowxIds m | _ => rowxIds m)
noncomputable def unAll : List Nat → St → St
  | [], s => s
  | r :: l, s => unAll l (unXs r s)
theorem unAll_sub : ∀ (l : List Nat) (s : St), Sub T s (unAll l s)
  | [], s => .refl s
  | r :: l, s => (unXs_sub r s).trans (unAll_sub l _)
def hasVCall : List Oper → Bool
  | [] => false
  | o :: l => (match o.op with | .call c => (match c.callee with | .value _ => true | _ => false) | _ => false) || hasVCall l
def hasSt : List Oper → Bool
  | [] => false
  | o :: l => (match o.op with | .store _ _ _ => true | _ => false) || hasSt l
noncomputable def prepO (ops : List Oper) (s : St) : St := prep (makes ops) (if hasVCall ops && !(hasSt ops) then unAll (rowxIds s.mem) s else s)
theorem prepO_sub (ops : List Oper) (s : St) : Sub T s (prepO ops s) := by
  unfold prepO
  split
  · exact (unAll_sub _ s).trans (prep_sub _ _)
  · exact prep_sub _ s

noncomputable def asRsl (t : Nat) (s : St) : St :=
  match getN .any s.slots t with
  | .row p => (match getM s.mem p with
    | .row sh _ l => if Nat.blt t s.slots.length then ⟨setN (.rsl p sh 0 (O.ln l) none) s.slots t, s.mem⟩ else s
    | _ => s)
  | _ => s
theorem asRsl_sub (t : Nat) (s : St) : Sub T s (asRsl t s) := ⟨fun N w0 X z a w ρ hr => by
  unfold asRsl
  split
  case h_2 => exact ⟨ρ, hr⟩
  rename_i p ht
  split
  case h_2 => exact ⟨ρ, hr⟩
  rename_i sh e l hm
  split
  case isFalse => exact ⟨ρ, hr⟩
  rename_i hc
  rw [Nat.blt_eq] at hc
  refine ⟨ρ, ⟨hr.m, hr.defers, by rw [hr.size]; simp [setN_length], fun k => ?_, hr.anch, hr.fix, hr.len, hr.nod⟩⟩
  simp only
  rw [getN_setN _ _ _ _ _ hc]
  by_cases hk : k = t
  · subst hk
    rw [if_pos rfl]
    have hd := hr.slot k
    rw [ht] at hd
    have hb := hr.m.blk p
    rw [hm] at hb
    obtain ⟨v0, h1, h2⟩ := hb
    generalize a.tmps.getD k undef = v at hd
    cases hd with
    | row _ _ a' n' c' hrow =>
      have e1 := hrow _ h1
      rw [O.hln]
      rcases h2 with ⟨x, rfl, rfl⟩ | ⟨b, off, cap, cur, rfl, _, _, h5, _⟩
      · simp only [Value.slice.injEq] at e1
        obtain ⟨rfl, rfl, rfl⟩ := e1
        refine .rsl _ p sh 0 0 none _ 0 (Nat.le_refl _) fun q hq => ⟨_, _, _, (by rw [h1] at hq; injection hq with hq; exact hq.symm), by omega, by omega, fun _ => rfl, (fun m hm => by cases hm), .inl rfl⟩
      · simp only [Value.slice.injEq] at e1
        obtain ⟨rfl, rfl, rfl⟩ := e1
        refine .rsl _ p sh 0 _ none _ _ h5 fun q hq => ⟨_, _, _, (by rw [h1] at hq; injection hq with hq; exact hq.symm), by omega, by omega, fun _ => rfl, (fun m hm => by cases hm), .inr ⟨b, off, rfl, by simp⟩⟩
  · rw [if_neg hk]
    exact hr.slot k⟩

theorem MRep.drop {N : Nat → Prop} {w0 w : World} {X : Nat → Prop} {mem mem' : Mem} {ρ : Env} (m : MRep T N w0 w X mem ρ) (h : ∀ r, getM mem' r = .no ∨ getM mem' r = getM mem r) :
    let ρ' : Env := fun r => match getM mem' r with | .no => none | _ => ρ r
    MRep T N w0 w X mem' ρ' ∧ (∀ r, ρ' r = none ∨ ρ' r = ρ r) ∧ ∀ b, Forb X mem' ρ' b → Forb X mem ρ b := by
  intro ρ'
  have env : ∀ r, ρ' r = none ∨ ρ' r = ρ r := by
    intro r
    simp only [ρ']
    cases getM mem' r <;> first | exact .inl rfl | exact .inr rfl
  have hown : ∀ b, owned mem' ρ' b → owned mem ρ b := by
    rintro b ⟨r, v, g1, g2, g3⟩
    rcases h r with e | e
    · rw [e] at g1; cases g1
    · refine ⟨r, v, by rw [← e]; exact g1, ?_, g3⟩
      rcases env r with e' | e'
      · rw [e'] at g2; cases g2
      · rw [e'] at g2; exact g2
  refine ⟨⟨m.low, m.below, m.szN, fun r => ?_, fun r r' v v' b g1 g2 g3 g4 g5 g6 => ?_, gl_mono m.gl (Nat.le_refl _) fun b _ hn => ⟨fun hf => hn (hf.imp id (hown b)), rfl⟩⟩, env, fun b hb => hb.imp id (hown b)⟩
  · rcases h r with e | e
    · rw [e]
      show ρ' r = none
      simp only [ρ', e]
    · have hb := m.blk r
      cases hB : getM mem' r with
      | no => show ρ' r = none; simp only [ρ', hB]
      | _ =>
        have e2 : ρ' r = ρ r := by simp only [ρ', hB]
        rw [← e, hB] at hb
        rw [e2]
        exact BlkRep.lift (w := w) (Y := Forb X mem ρ) (ρ := ρ) (d := none) ⟨fun q => (env q).imp id .inl, Nat.le_refl _, fun b _ hf => ⟨fun hf' => hf (hf'.imp id (hown b)), rfl⟩⟩ (fun _ h => by cases h) (fun _ _ _ _ _ => rfl) hb
  · have k1 : getM mem' r = getM mem r := (h r).resolve_left (fun e => by rw [e] at g1; cases g1)
    have k2 : getM mem' r' = getM mem r' := (h r').resolve_left (fun e => by rw [e] at g2; cases g2)
    have k3 : ρ' r = ρ r := (env r).resolve_left (fun e => by rw [e] at g3; cases g3)
    have k4 : ρ' r' = ρ r' := (env r').resolve_left (fun e => by rw [e] at g4; cases g4)
    rw [k1] at g1
    rw [k2] at g2
    rw [k3] at g3
    rw [k4] at g4
    exact m.inj r r' v v' b g1 g2 g3 g4 g5 g6

def WeakS : List SV → List SV → Prop
  | [], [] => True
  | _ :: xs, .any :: ys => WeakS xs ys
  | x :: xs, y :: ys => x = y ∧ WeakS xs ys
  | _, _ => False
def WeakM (m : Mem) : Mem → Prop
  | [] => True
  | (_, .no) :: l => WeakM m l
  | (k, b) :: l => getM m k = b ∧ WeakM m l
def WeakSt (s s' : St) : Prop := WeakS s.slots s'.slots ∧ WeakM s.mem s'.mem

theorem WeakS.get : ∀ {l l' : List SV}, WeakS l l' → l.length = l'.length ∧ ∀ t, getN SV.any l' t = .any ∨ getN SV.any l' t = getN SV.any l t
  | [], [], _ => ⟨rfl, fun t => .inl rfl⟩
  | [], y :: ys, h => by cases y <;> simp [WeakS] at h
  | x :: xs, [], h => by simp [WeakS] at h
  | x :: xs, y :: ys, h => by
    have : (y = .any ∨ y = x) ∧ WeakS xs ys := by
      cases y <;> first | exact ⟨.inl rfl, h⟩ | exact ⟨.inr h.1.symm, h.2⟩
    obtain ⟨h1, h2⟩ := this
    obtain ⟨h3, h4⟩ := WeakS.get h2
    refine ⟨by simp [h3], fun t => ?_⟩
    cases t with
    | zero => simpa [getN] using h1
    | succ t => simpa [getN] using h4 t
theorem WeakM.get {m : Mem} : ∀ {l : Mem}, WeakM m l → ∀ r, getM l r = .no ∨ getM l r = getM m r
  | [], _, r => .inl rfl
  | (k, b) :: l, h, r => by
    have : (b = .no ∨ getM m k = b) ∧ WeakM m l := by
      cases b <;> first | exact ⟨.inl rfl, h⟩ | exact ⟨.inr h.1, h.2⟩
    simp only [getM, nbeq]
    by_cases hk : k = r
    · subst hk
      rw [if_pos rfl]
      exact this.1.imp id Eq.symm
    · rw [if_neg hk]
      exact WeakM.get this.2 r
theorem weak_sub {s s' : St} (h : WeakSt s s') : Sub T s s' := ⟨fun N w0 X z a w ρ hr => by
  obtain ⟨h1, h2⟩ := WeakS.get h.1
  obtain ⟨m', env, hf⟩ := hr.m.drop (WeakM.get h.2)
  refine ⟨_, ⟨m', hr.defers.sub hf, by rw [hr.size, h1], fun t => ?_, anch_turn hr.m m' hr.anch (env 0), hr.fix, hr.len, hr.nod⟩⟩
  rcases h2 t with e | e
  · rw [e]; exact .any _ _
  · rw [e]; exact ((hr.slot t).mono (Nat.le_refl _) (fun b _ hb => ⟨fun hf' => hb (hf b hf'), rfl⟩)).env fun r => (env r).imp id .inl⟩

def adopt (t q : Nat) (sh : Option Nat) (e : Nat) (s : St) : St :=
  match getN .any s.slots t with
  | .nil => if !(Nat.beq q 0) && isNo (getM s.mem q) && noref.norefs q s.slots && memNoref q s.mem && Nat.blt t s.slots.length then ⟨setN (.row q) s.slots t, setM (.row sh e []) s.mem q⟩ else s
  | _ => s
theorem adopt_sub (t q : Nat) (sh : Option Nat) (e : Nat) (s : St) : Sub T s (adopt t q sh e s) := ⟨fun N w0 X z a w ρ hr => by
  unfold adopt
  split
  case h_2 => exact ⟨ρ, hr⟩
  rename_i ht
  split
  case isFalse => exact ⟨ρ, hr⟩
  rename_i hc
  simp only [Bool.and_eq_true, Nat.blt_eq] at hc
  obtain ⟨⟨⟨⟨c0, c1⟩, c2⟩, c3⟩, c4⟩ := hc
  have hno : getM s.mem q = .no := by cases h : getM s.mem q <;> simp_all [isNo]
  obtain ⟨m', t'⟩ := hr.m.create (w' := w) hno c3 (B := .row sh e []) (v := .slice none 0 0) (fun b hb => by simp [vblock] at hb) (Below.refl _ _) (fun _ => ⟨_, rfl, .inl ⟨none, rfl, rfl⟩⟩)
  refine ⟨_, ⟨m', hr.defers.turn t', by rw [hr.size]; simp [setN_length], fun k => ?_, anch_turn hr.m m' hr.anch (t'.env0 (fun e => by injection e with e; subst e; simp at c0)), hr.fix, hr.len, hr.nod⟩⟩
  simp only
  rw [getN_setN _ _ _ _ _ c4]
  by_cases hk : k = t
  · subst hk
    rw [if_pos rfl]
    have := hr.slot k
    rw [ht] at this
    generalize a.tmps.getD k undef = v at this
    cases this
    exact .row _ q _ _ _ fun x hx => by simp only [upd, if_true] at hx; injection hx with hx; exact hx.symm
  · rw [if_neg hk]
    exact t'.den (fun r hr => by injection hr with hr; subst hr; exact norefs_getN c2 k) (hr.slot k)⟩
end Go.Proofs.Ytapcbkcnokoljaa
namespace Go.Proofs.Ytapcbkcnokoljaa
set_option linter.unusedVariables false
set_option linter.unusedSimpArgs false
open Go.RowKit
variable {P : Program} {T : Nat → Option TI} {G : Nat → CT → Prop}

structure Ks where
  n : St → Prop
  r : St → Prop
  e : Nat → St → Prop

def dstsL : List Oper → List Nat
  | [] => []
  | o :: l => (match o.dst with | some d => d :: dstsL l | none => dstsL l)
theorem dstsL_mem {q : Nat} {l : List Oper} {o : Oper} (h : o ∈ l) (hq : o.dst = some q) : q ∈ dstsL l := by
  induction l with
  | nil => cases h
  | cons p l ih =>
    simp only [dstsL]
    rcases List.mem_cons.1 h with h | h
    · rw [← h, hq]; simp
    · have := ih h
      split
      · exact List.mem_cons_of_mem _ this
      · exact this
def assignedC : Code → List Nat
  | .region _ ops _ => dstsL ops.toList
  | .seq a b => assignedC a ++ assignedC b
  | .cond _ a b => assignedC a ++ assignedC b
  | .block _ c => assignedC c
  | .scope c => assignedC c
  | .loop c => assignedC c
  | .rangeFunc _ ps a b => ps.toList ++ (assignedC a ++ assignedC b)
  | _ => []
def killN : List Nat → List SV → List SV
  | [], l => l
  | d :: ds, l => killN ds (setN .any l d)
def kill (asg : List Nat) (s : St) : St := ⟨killN asg s.slots, s.mem⟩
def putZ : List Nat → List SV → List SV → List SV
  | d :: ds, x :: xs, l => putZ ds xs (setN x l d)
  | _, _, l => l
def datas : List SV → Bool
  | [] => true
  | x :: l => dataB x && datas l
structure RangeQ (T : Nat → Option TI) (G : Nat → CT → Prop) (FA FB : St → Ks → Prop) (asg ps : List Nat) (f : Nat) (caps : List SV) (s : St) (K : Ks) : Prop where
  h : ∃ (xs : List (List SV)), G f (seqC caps xs) ∧ (∀ x ∈ xs, x.length = ps.length ∧ datas x = true) ∧ ∃ (A : Type) (I : A → Prop) (pos : A → Nat) (g : A → St) (R : A → St → St → Prop), (∀ i s s', R i s s' → Sub T s s') ∧ (∃ i, I i ∧ pos i = 0 ∧ R i (kill asg s) (g i)) ∧
    (∀ i x, I i → xs[pos i]? = some x → FA ⟨putZ ps x (g i).slots, (g i).mem⟩ ⟨fun s1 => FB s1 ⟨fun s' => ∃ j, I j ∧ pos j = pos i + 1 ∧ R j (kill asg s') (g j), fun s' => K.r (kill asg s'), fun id s' => K.e id (kill asg s')⟩, fun _ => False, fun _ _ => False⟩) ∧
    (∀ i, I i → pos i = xs.length → K.n (g i))


theorem Den.monoC {w w' : World} {X X' : Nat → Prop} (hs : w.heap.size ≤ w'.heap.size) (hk : ∀ b, b < w.heap.size → ¬ X b → ¬ X' b ∧ ∀ o u, w.cell? ⟨b, o, none⟩ = some u → w'.cell? ⟨b, o, none⟩ = some u)
    {ρ : Env} {x : SV} {v : Value} (h : Den w X ρ x v) : Den w' X' ρ x v := by
  induction h with
  | any ρ v => exact .any ρ v
  | bool ρ b => exact .bool ρ b
  | int ρ k n => exact .int ρ k n
  | str ρ s => exact .str ρ s
  | agg ρ l cs hl h ih => exact .agg ρ l cs hl ih
  | tup ρ l cs hl h ih => exact .tup ρ l cs hl ih
  | lst0 ρ sh a cap => exact .lst0 ρ sh a cap
  | lst ρ sh l b off cap us hb hx hc hu hl ho h ih =>
    exact .lst ρ sh l b off cap us (by omega) (hk b hb hx).1 hc (fun j u hj => (hk b hb hx).2 _ _ (hu j u hj)) hl ho ih
  | nil ρ => exact .nil ρ
  | ptr ρ r off b h => exact .ptr ρ r off b h
  | row ρ r a n c h => exact .row ρ r a n c h
  | rsl ρ r sh a n c x cc hc h => exact .rsl ρ r sh a n c x cc hc h
  | rptr ρ r sh i off b o h => exact .rptr ρ r sh i off b o h
  | eptr ρ sh x off b o us hb hx hu hl h ih =>
    exact .eptr ρ sh x off b o us (by omega) (hk b hb hx).1 (fun j u hj => (hk b hb hx).2 _ _ (hu j u hj)) hl ih
  | clo ρ f caps us hl h ih => exact .clo ρ f caps us hl ih
  | obj ρ r v h1 h => exact .obj ρ r v h1 h
  | val ρ v => exact .val ρ v

theorem putObj_cell {w : World} {D : Nat} {o : Obj} (hD : w.heap[D]? = some o) (hc : o.isCells = false) (o' : Obj) (b off : Nat) (u : Value) (h : w.cell? ⟨b, off, none⟩ = some u) : (w.putObj D o').cell? ⟨b, off, none⟩ = some u := by
  by_cases hb : b = D
  · subst hb
    simp only [World.cell?, hD] at h
    cases o <;> simp_all [Obj.isCells]
  · rw [World.cell?_of_block (w := w) (by exact World.putObj_heap_other hb)]
    exact h

theorem blk_owned {N : Nat → Prop} {w : World} {Y : Nat → Prop} {ρ : Env} {mem : Mem} {r : Nat} {B : Blk} (hB : getM mem r = B) (h : BlkRep T N w Y ρ B (ρ r)) :
    match B with
    | .chunk _ _ => ∃ b, ρ r = some (.pointer (some ⟨b, 0, none⟩)) ∧ owned mem ρ b
    | .iter _ _ => ∃ b, ρ r = some (.pointer (some ⟨b, 0, none⟩)) ∧ owned mem ρ b
    | _ => True := by
  cases B with
  | chunk t x =>
    obtain ⟨i, b, us, ty, h1, h2, _⟩ := h
    exact ⟨b, h2, r, _, by rw [hB]; rfl, h2, rfl⟩
  | iter s p =>
    obtain ⟨b, h2, _⟩ := h
    exact ⟨b, h2, r, _, by rw [hB]; rfl, h2, rfl⟩
  | _ => trivial

theorem MRep.chg {N N' : Nat → Prop} {w0 w1 w w' : World} {X : Nat → Prop} {mem : Mem} {ρ : Env} (m : MRep T N w0 w X mem ρ) (hN : ∀ b, owned mem ρ b → N' b) (hX : ∀ b, X b → ¬ N' b) (hsz : ∀ b, w'.heap.size ≤ b → N' b) (hbel : BelowW N' w1 w')
    (hsize : w.heap.size ≤ w'.heap.size) (hown : ∀ b, owned mem ρ b → w'.heap[b]? = w.heap[b]?) (hcell : ∀ b, b < w.heap.size → ¬ Forb X mem ρ b → ∀ o u, w.cell? ⟨b, o, none⟩ = some u → w'.cell? ⟨b, o, none⟩ = some u) : MRep T N' w1 w' X mem ρ := by
  have hk : ∀ b, b < w.heap.size → ¬ Forb X mem ρ b → ¬ Forb X mem ρ b ∧ ∀ o u, w.cell? ⟨b, o, none⟩ = some u → w'.cell? ⟨b, o, none⟩ = some u := fun b h1 h2 => ⟨h2, hcell b h1 h2⟩
  refine ⟨fun b h => ⟨Nat.lt_of_lt_of_le (m.low b h).1 hsize, hX b h⟩, hbel, hsz, fun r => ?_, m.inj, fun g x hg => ⟨(m.gl g x hg).1, (m.gl g x hg).2.monoC hsize hk⟩⟩
  have hr := m.blk r
  cases hm : getM mem r with
  | no => rw [hm] at hr; exact hr
  | frz sh l =>
    rw [hm] at hr
    obtain ⟨v, h1, h2⟩ := hr
    exact ⟨v, h1, h2.monoC hsize hk⟩
  | rowx e l i x =>
    rw [hm] at hr
    obtain ⟨b, off, cap, cur, h2, h3, h4, h5, h6, h7, h0, h9, hi, h8, hx⟩ := hr
    have ho : owned mem ρ b := ⟨r, _, by rw [hm]; rfl, h2, by simp only [vblock]; rw [if_neg (by omega)]⟩
    exact ⟨b, off, cap, cur, h2, hN b ho, by rw [hown b ho]; exact h4, h5, h6, h7, h0, h9, hi, fun j h hj => (h8 j h hj).monoC hsize hk, hx.monoC hsize hk⟩
  | iter s p =>
    rw [hm] at hr
    obtain ⟨b, h1, h2, h3⟩ := hr
    have ho : owned mem ρ b := ⟨r, _, by rw [hm]; rfl, h1, rfl⟩
    exact ⟨b, h1, hN b ho, by rw [hown b ho]; exact h3⟩
  | gen tag k l =>
    rw [hm] at hr
    obtain ⟨v, b, ob, h1, h2, h3, h4, h5⟩ := hr
    have ho : owned mem ρ b := ⟨r, _, by rw [hm]; rfl, h1, h2⟩
    exact ⟨v, b, ob, h1, h2, hN b ho, by rw [hown b ho]; exact h4, h5⟩
  | chunk t x =>
    rw [hm] at hr
    obtain ⟨i, b, us, ty, h1, h2, h3, h4, h5, h7, h6⟩ := hr
    have ho : owned mem ρ b := ⟨r, _, by rw [hm]; rfl, h2, rfl⟩
    exact ⟨i, b, us, ty, h1, h2, hN b ho, by rw [hown b ho]; exact h4, h5, h7, h6.monoC hsize hk⟩
  | row sh e l =>
    rw [hm] at hr
    obtain ⟨v, h1, h2⟩ := hr
    refine ⟨v, h1, ?_⟩
    rcases h2 with h2 | ⟨b, off, cap, cur, h2, h3, h4, h5, h6, h7, h0, h9, h8⟩
    · exact .inl h2
    · have ho : owned mem ρ b := ⟨r, _, by rw [hm]; rfl, h1, by rw [h2]; simp only [vblock]; rw [if_neg (by omega)]⟩
      exact .inr ⟨b, off, cap, cur, h2, hN b ho, by rw [hown b ho]; exact h4, h5, h6, h7, h0, h9, fun i h => (h8 i h).monoC hsize hk⟩

theorem MRep.chN {N N' : Nat → Prop} {w0 w1 w : World} {X : Nat → Prop} {mem : Mem} {ρ : Env} (m : MRep T N w0 w X mem ρ) (hN : ∀ b, owned mem ρ b → N' b) (hX : ∀ b, X b → ¬ N' b) (hsz : ∀ b, w.heap.size ≤ b → N' b) (hbel : BelowW N' w1 w) : MRep T N' w1 w X mem ρ :=
  m.chg hN hX hsz hbel (Nat.le_refl _) (fun _ _ => rfl) (fun _ _ _ _ _ h => h)
def Nw (mem : Mem) (ρ : Env) (w : World) : Nat → Prop := fun b => owned mem ρ b ∨ w.heap.size ≤ b
theorem MRep.base {N : Nat → Prop} {w0 w : World} {X : Nat → Prop} {mem : Mem} {ρ : Env} (m : MRep T N w0 w X mem ρ) : MRep T (Nw mem ρ w) w w X mem ρ :=
  m.chN (fun b h => .inl h) (fun b h hn => by
    rcases hn with hn | hn
    · exact (m.low b h).2 (m.owned_lt hn).1
    · have := (m.low b h).1; omega) (fun b h => .inr h) (.refl _ _)
theorem Nw.sub {N : Nat → Prop} {w0 w : World} {X : Nat → Prop} {mem : Mem} {ρ : Env} (m : MRep T N w0 w X mem ρ) {b : Nat} (h : Nw mem ρ w b) : N b := h.elim (fun h => (m.owned_lt h).1) (m.szN b)
theorem BelowW.weak {N N' : Nat → Prop} {w w' : World} (h : BelowW N w w') (hN : ∀ b, N b → N' b) : BelowW N' w w' := ⟨h.os, h.tape, h.output, h.size, fun k h1 h2 => h.block k h1 (fun h => h2 (hN k h))⟩
theorem MRep.unbase {N : Nat → Prop} {w0 w w' : World} {X : Nat → Prop} {mem mem' : Mem} {ρ ρ' : Env} (m : MRep T N w0 w X mem ρ) (m' : MRep T (Nw mem ρ w) w w' X mem' ρ') : MRep T N w0 w' X mem' ρ' :=
  m'.chN (fun b h => Nw.sub m (m'.owned_lt h).1) (fun b h => (m.low b h).2) (fun b h => m.szN b (Nat.le_trans m'.below.size h)) (m.below.trans (m'.below.weak fun b h => Nw.sub m h))
theorem MRep.putObj {N : Nat → Prop} {w0 w : World} {X : Nat → Prop} {mem : Mem} {ρ : Env} (m : MRep T N w0 w X mem ρ) {D : Nat} {o : Obj} (hD : w.heap[D]? = some o) (hc : o.isCells = false) (hN : N D) (hY : ¬ Forb X mem ρ D) (o' : Obj) :
    MRep T N w0 (w.putObj D o') X mem ρ :=
  m.chg (fun b h => (m.owned_lt h).1) (fun b h => (m.low b h).2) (fun b h => m.szN b (by simpa using h)) (m.below.trans ⟨rfl, rfl, rfl, by simp, fun k _ hk => World.putObj_heap_other (fun e => hk (by rw [e]; exact hN))⟩) (by simp)
    (fun b h => World.putObj_heap_other (fun e => hY (.inr (by rw [← e]; exact h)))) (fun b _ _ off u h => putObj_cell hD hc o' b off u h)
theorem Rep.putObj {N : Nat → Prop} {w0 w : World} {X : Nat → Prop} {z : Anc} {s : St} {a : Act} {ρ : Env} (h : Rep T N w0 X z s a w ρ) {D : Nat} {o : Obj} (hD : w.heap[D]? = some o) (hc : o.isCells = false) (hN : N D) (hY : ¬ Forb X s.mem ρ D) (o' : Obj)
    {ds : List Deferred} (hds : DefOk N (w.putObj D o') (Forb X s.mem ρ) ds) (hnd : z.nd = true → ds = []) : Rep T N w0 X z s { a with defers := ds } (w.putObj D o') ρ :=
  ⟨h.m.putObj hD hc hN hY o', hds, h.size, fun t => (h.slot t).monoC (by simp) fun b _ hb => ⟨hb, fun off u hu => putObj_cell hD hc o' b off u hu⟩, h.anch, h.fix, h.len, hnd⟩
theorem DefOk.grow {N : Nat → Prop} {w w' : World} {Y : Nat → Prop} {ds : List Deferred} (h : DefOk N w Y ds) (hb : Below w.heap.size w w') : DefOk N w' Y ds := by
  obtain ⟨Ds, h1, h2, h3⟩ := h.h
  exact ⟨Ds, h1, h2, fun D hD => by obtain ⟨g1, g2, g3⟩ := h3 D hD; exact ⟨g1, g2, (hb.block D (heap_lt g3)).trans g3⟩⟩
theorem Rep.grow {N : Nat → Prop} {w0 w w' : World} {X : Nat → Prop} {z : Anc} {s : St} {a : Act} {ρ : Env} (h : Rep T N w0 X z s a w ρ) (hb : Below w.heap.size w w') : Rep T N w0 X z s a w' ρ :=
  ⟨h.m.grow hb, h.defers.grow hb, h.size, fun t => (h.slot t).mono hb.size fun b h1 h2 => ⟨h2, hb.block b h1⟩, h.anch, h.fix, h.len, h.nod⟩
theorem Sub.own {s s' : St} (hs : Sub T s s') {N : Nat → Prop} {w0 w : World} {X : Nat → Prop} {z : Anc} {a : Act} {ρ : Env} (h : Rep T N w0 X z s a w ρ) : ∃ ρ', Rep T N w0 X z s' a w ρ' ∧ ∀ b, owned s'.mem ρ' b → owned s.mem ρ b := by
  have h1 : Rep T (Nw s.mem ρ w) w X z s { a with defers := [] } w ρ := ⟨h.m.base, .nil _ _ _, h.size, h.slot, h.anch, h.fix, h.len, fun _ => rfl⟩
  obtain ⟨ρ', h2⟩ := hs.h _ _ _ _ _ _ _ h1
  have ho : ∀ b, owned s'.mem ρ' b → owned s.mem ρ b := fun b hb => by
    obtain ⟨g1, g2⟩ := h2.m.owned_lt hb
    exact g1.resolve_right (by omega)
  have hf : ∀ b, Forb X s'.mem ρ' b → Forb X s.mem ρ b := fun b hb => hb.imp id (ho b)
  exact ⟨ρ', ⟨h.m.unbase h2.m, h.defers.sub hf, h2.size, h2.slot, h2.anch, h2.fix, h2.len, h.nod⟩, ho⟩

theorem killN_len : ∀ (ds : List Nat) (l : List SV), (killN ds l).length = l.length
  | [], _ => rfl
  | d :: ds, l => by rw [killN, killN_len ds, setN_length]
theorem getN_setAny (l : List SV) (d t : Nat) : getN SV.any (setN .any l d) t = .any ∨ getN SV.any (setN .any l d) t = getN SV.any l t := by
  by_cases h : d < l.length
  · rw [getN_setN _ _ _ _ _ h]
    split
    · exact .inl rfl
    · exact .inr rfl
  · rw [setN_eq, List.set_eq_of_length_le (by omega)]; exact .inr rfl
theorem killN_get : ∀ (ds : List Nat) (l : List SV) (t : Nat), getN SV.any (killN ds l) t = .any ∨ (t ∉ ds ∧ getN SV.any (killN ds l) t = getN SV.any l t) ∨ (t ∈ ds ∧ l.length ≤ t)
  | [], l, t => .inr (.inl ⟨by simp, rfl⟩)
  | d :: ds, l, t => by
    rw [killN]
    rcases killN_get ds (setN .any l d) t with h | ⟨h1, h2⟩ | ⟨h1, h2⟩
    · exact .inl h
    · by_cases htd : t = d
      · subst htd
        by_cases hl : t < l.length
        · left; rw [h2, getN_setN _ _ _ _ _ hl, if_pos rfl]
        · exact .inr (.inr ⟨by simp, by omega⟩)
      · refine .inr (.inl ⟨by simp [htd, h1], ?_⟩)
        rw [h2]
        by_cases hl : d < l.length
        · rw [getN_setN _ _ _ _ _ hl, if_neg htd]
        · rw [setN_eq, List.set_eq_of_length_le (by omega)]
    · rw [setN_length] at h2
      exact .inr (.inr ⟨by simp [h1], h2⟩)
theorem getN_out {l : List SV} {t : Nat} (h : l.length ≤ t) : getN SV.any l t = .any := by rw [getN_eq, List.getElem?_eq_none h]; rfl
theorem Rep.kill {N : Nat → Prop} {w0 w : World} {X : Nat → Prop} {z z' : Anc} {s : St} {a a' : Act} {ρ : Env} (h : Rep T N w0 X z s a w ρ) {asg : List Nat} (ht : ∀ t, t ∉ asg → a'.tmps.getD t undef = a.tmps.getD t undef) (hsz : a'.tmps.size = a.tmps.size)
    {ds : List Deferred} (hds : DefOk N w (Forb X s.mem ρ) ds) (hd : a'.defers = ds) (hz : z'.z = z.z) (hfix : ∀ t v, z'.fx t = some v → a'.tmps.getD t undef = v) (hlen : ∀ k, z'.len = some k → a'.tmps.size = k) (hnd : z'.nd = true → a'.defers = []) : Rep T N w0 X z' (kill asg s) a' w ρ := by
  refine ⟨h.m, by rw [hd]; exact hds, by rw [hsz, h.size]; simp [Go.Proofs.Ytapcbkcnokoljaa.kill, killN_len], fun t => ?_, fun v hv => h.anch v (by rw [← hz]; exact hv), hfix, hlen, hnd⟩
  show Den w (Forb X s.mem ρ) ρ (getN .any (killN asg s.slots) t) _
  rcases killN_get asg s.slots t with e | ⟨e1, e2⟩ | ⟨e1, e2⟩
  · rw [e]; exact .any _ _
  · rw [e2, ht t e1]; exact h.slot t
  · rw [getN_out (by rw [killN_len]; exact e2)]; exact .any _ _

structure Held (N : Nat → Prop) (X : Nat → Prop) (mem : Mem) (ρ : Env) (L D : Nat) (ol : Loop) (ds : List Deferred) (W : World) : Prop where
  l : W.heap[L]? = some (.loop ol)
  d : W.heap[D]? = some (.deferred (some []))
  nl : ¬ Forb X mem ρ L
  nd : ¬ Forb X mem ρ D
  df : DefOk N W (Forb X mem ρ) ds
theorem Held.sub {N : Nat → Prop} {X : Nat → Prop} {mem mem' : Mem} {ρ ρ' : Env} {L D : Nat} {ol : Loop} {ds : List Deferred} {W : World} (h : Held N X mem ρ L D ol ds W) (ho : ∀ b, owned mem' ρ' b → owned mem ρ b) : Held N X mem' ρ' L D ol ds W :=
  ⟨h.l, h.d, fun e => h.nl (e.imp id (ho L)), fun e => h.nd (e.imp id (ho D)), h.df.sub fun b e => e.imp id (ho b)⟩
theorem Held.grow {N : Nat → Prop} {X : Nat → Prop} {mem : Mem} {ρ : Env} {L D : Nat} {ol : Loop} {ds : List Deferred} {W W' : World} (h : Held N X mem ρ L D ol ds W) (hb : Below W.heap.size W W') : Held N X mem ρ L D ol ds W' :=
  ⟨(hb.block L (heap_lt h.l)).trans h.l, (hb.block D (heap_lt h.d)).trans h.d, h.nl, h.nd, h.df.grow hb⟩
theorem Held.walk {N : Nat → Prop} {X : Nat → Prop} {mem mem' : Mem} {ρ ρ' : Env} {L D : Nat} {ol : Loop} {ds : List Deferred} {W W' : World} (h : Held N X mem ρ L D ol ds W) (m' : MRep T (Nw mem ρ W) W W' X mem' ρ') : Held N X mem' ρ' L D ol ds W' := by
  have no : ∀ b, b < W.heap.size → ¬ Forb X mem ρ b → ¬ Nw mem ρ W b := fun b hb hf hn => hn.elim (fun h => hf (.inr h)) (fun h => by omega)
  have nf : ∀ b, b < W.heap.size → ¬ Forb X mem ρ b → ¬ Forb X mem' ρ' b := fun b hb hf hn => hn.elim (fun h => hf (.inl h)) (fun h => no b hb hf (m'.owned_lt h).1)
  have kp : ∀ b, b < W.heap.size → ¬ Forb X mem ρ b → W'.heap[b]? = W.heap[b]? := fun b hb hf => m'.below.block b hb (no b hb hf)
  refine ⟨(kp L (heap_lt h.l) h.nl).trans h.l, (kp D (heap_lt h.d) h.nd).trans h.d, nf L (heap_lt h.l) h.nl, nf D (heap_lt h.d) h.nd, ?_⟩
  obtain ⟨Ds, h1, h2, h3⟩ := h.df.h
  exact ⟨Ds, h1, h2, fun k hk => by obtain ⟨g1, g2, g3⟩ := h3 k hk; exact ⟨g1, nf k (heap_lt g3) g2, (kp k (heap_lt g3) g2).trans g3⟩⟩
theorem Held.put {N : Nat → Prop} {X : Nat → Prop} {mem : Mem} {ρ : Env} {L D : Nat} {ol : Loop} {ds : List Deferred} {W : World} (h : Held N X mem ρ L D ol ds W) (ol' : Loop) : Held N X mem ρ L D ol' ds (W.putObj L (.loop ol')) := by
  have hne : ∀ k, W.heap[k]? = some (.deferred (some [])) → k ≠ L := by rintro k hk rfl; rw [h.l] at hk; cases hk
  refine ⟨World.putObj_heap_same (heap_lt h.l), (World.putObj_heap_other (hne D h.d)).trans h.d, h.nl, h.nd, ?_⟩
  obtain ⟨Ds, h1, h2, h3⟩ := h.df.h
  exact ⟨Ds, h1, h2, fun k hk => by obtain ⟨g1, g2, g3⟩ := h3 k hk; exact ⟨g1, g2, (World.putObj_heap_other (hne k g3)).trans g3⟩⟩

theorem zip_fold : ∀ (ds : List Nat) (vs : List Value) (t : Array Value), ds.length = vs.length → ((ds.zip vs).foldl (fun (t : Array Value) (p : Nat × Value) => t.setIfInBounds p.1 p.2) t).size = t.size ∧
    ∀ k, k ∉ ds → ((ds.zip vs).foldl (fun (t : Array Value) (p : Nat × Value) => t.setIfInBounds p.1 p.2) t).getD k undef = t.getD k undef
  | [], vs, t, _ => ⟨by simp, fun k _ => by simp⟩
  | d :: ds, [], t, h => by simp at h
  | d :: ds, v :: vs, t, h => by
    obtain ⟨h1, h2⟩ := zip_fold ds vs (t.setIfInBounds d v) (by simpa using h)
    refine ⟨by simp only [List.zip_cons_cons, List.foldl_cons]; rw [h1]; simp, fun k hk => ?_⟩
    simp only [List.zip_cons_cons, List.foldl_cons]
    rw [h2 k (fun h => hk (by simp [h]))]
    have : d ≠ k := fun e => hk (by simp [e])
    simp [Array.getElem?_setIfInBounds_ne this]
theorem datas_get : ∀ {l : List SV}, datas l = true → ∀ (i : Nat) (x : SV), l[i]? = some x → dataB x = true
  | [], _, i, x, h => by simp at h
  | y :: l, hl, 0, x, h => by simp [datas] at hl h; subst h; exact hl.1
  | y :: l, hl, i + 1, x, h => by simp [datas] at hl; exact datas_get hl.2 i x (by simpa using h)
theorem putZ_den {w : World} {Y : Nat → Prop} {ρ : Env} : ∀ (ds : List Nat) (xs : List SV) (vs : List Value) (l : List SV) (t : Array Value), ds.length = xs.length → xs.length = vs.length → (∀ (i : Nat) (x : SV) (u : Value), xs[i]? = some x → vs[i]? = some u → Den w Y ρ x u) → t.size = l.length → (∀ k, Den w Y ρ (getN .any l k) (t.getD k undef)) →
    (putZ ds xs l).length = l.length ∧ ∀ k, Den w Y ρ (getN .any (putZ ds xs l) k) (((ds.zip vs).foldl (fun (t : Array Value) (p : Nat × Value) => t.setIfInBounds p.1 p.2) t).getD k undef)
  | [], xs, vs, l, t, _, _, _, _, h => ⟨by cases xs <;> rfl, fun k => by cases xs <;> simpa [putZ] using h k⟩
  | d :: ds, [], vs, l, t, h, _, _, _, _ => by simp at h
  | d :: ds, x :: xs, [], l, t, _, h, _, _, _ => by simp at h
  | d :: ds, x :: xs, v :: vs, l, t, h1, h2, hx, hs, h => by
    have ih := putZ_den ds xs vs (setN x l d) (t.setIfInBounds d v) (by simpa using h1) (by simpa using h2) (fun i y u hy hu => hx (i + 1) y u (by simpa using hy) (by simpa using hu)) (by simp [setN_length, hs]) (fun k => ?_)
    · refine ⟨by rw [putZ, ih.1, setN_length], fun k => ?_⟩
      simp only [putZ, List.zip_cons_cons, List.foldl_cons]
      exact ih.2 k
    · by_cases hd : d < l.length
      · rw [getN_setN _ _ _ _ _ hd]
        by_cases hk : k = d
        · subst hk
          rw [if_pos rfl]
          have : (t.setIfInBounds k v).getD k undef = v := by simp [hs, hd]
          rw [this]
          exact hx 0 x v rfl rfl
        · rw [if_neg hk]
          have : (t.setIfInBounds d v).getD k undef = t.getD k undef := by simp [Array.getElem?_setIfInBounds_ne (Ne.symm hk)]
          rw [this]
          exact h k
      · rw [setN_eq, List.set_eq_of_length_le (by omega), Array.setIfInBounds_eq_of_size_le (by omega)]
        exact h k

theorem range_sound (hG : ∀ f c, G f c → ACall P T f c) {FA FB : St → Ks → Prop} {x y : Code} {ps : Array Tmp} {gop : Operand} {N : Nat → Prop} {w0 : World} {X : Nat → Prop} {z : Anc} {s : St} {K : Ks} {Q : Exit → Act → World → Prop} {a : Act} {w : World} {ρ : Env} {gf : Nat} {caps : List SV}
    (hr : Rep T N w0 X z s a w ρ) (hev : s.ev gop = .clo gf caps) (h : RangeQ T G FA FB (ps.toList ++ (assignedC x ++ assignedC y)) ps.toList gf caps s K)
    (ihx : ∀ (N : Nat → Prop) (w0 : World) (z : Anc) (s : St) (K : Ks) (Q : Exit → Act → World → Prop) (a : Act) (w : World) (ρ : Env), FA s K → Rep T N w0 X z s a w ρ → (∀ s a w ρ, K.n s → Rep T N w0 X z s a w ρ → Q .normal a w) → (∀ s a w ρ, K.r s → Rep T N w0 X z s a w ρ → Q .ret a w) →
      (∀ i s a w ρ, K.e i s → Rep T N w0 X z s a w ρ → Q (.exit i) a w) → (∀ q ∈ assignedC x, z.fx q = none) → ∀ l nn, x.wpIn (FR (some l)) nn P Q a w)
    (ihy : ∀ (N : Nat → Prop) (w0 : World) (z : Anc) (s : St) (K : Ks) (Q : Exit → Act → World → Prop) (a : Act) (w : World) (ρ : Env), FB s K → Rep T N w0 X z s a w ρ → (∀ s a w ρ, K.n s → Rep T N w0 X z s a w ρ → Q .normal a w) → (∀ s a w ρ, K.r s → Rep T N w0 X z s a w ρ → Q .ret a w) →
      (∀ i s a w ρ, K.e i s → Rep T N w0 X z s a w ρ → Q (.exit i) a w) → (∀ q ∈ assignedC y, z.fx q = none) → ∀ l nn, y.wpIn (FR (some l)) nn P Q a w)
    (hn : ∀ s a w ρ, K.n s → Rep T N w0 X z s a w ρ → Q .normal a w) (hret : ∀ s a w ρ, K.r s → Rep T N w0 X z s a w ρ → Q .ret a w) (he : ∀ i s a w ρ, K.e i s → Rep T N w0 X z s a w ρ → Q (.exit i) a w) (nn : Nat) (hznd : z.nd = false) :
    (Code.rangeFunc gop ps x y).wpIn (FR none) nn P Q a w := by
  obtain ⟨xs, hgs, hxs, A, I, pos, g, R, hR, ⟨i0, hI0, hp0, hs0⟩, hround, hdone⟩ := h.h
  have ac := hG _ _ hgs
  obtain ⟨fn, hf, hb, hnm⟩ := ac.fn
  have aq : ASeq P gf caps xs := by have := ac.q rfl; rw [seqC_L] at this; exact this
  have hv := hr.ev gop
  rw [hev] at hv
  obtain ⟨us, hq, hcaps⟩ : ∃ us : List Value, a.eval gop = .func (.func gf) #[] ⟨us⟩ ∧ DenL w (Forb X s.mem ρ) noEnv caps us := by
    generalize a.eval gop = v at hv
    cases hv with
    | clo _ _ _ us hl hcl => exact ⟨us, rfl, hl, fun i x u hx hu => by
        obtain ⟨h1, rfl⟩ := List.getElem?_eq_some_iff.1 hx
        obtain ⟨h2, rfl⟩ := List.getElem?_eq_some_iff.1 hu
        exact hcl i h1 h2⟩
  obtain ⟨asg, hasg⟩ : ∃ asg, asg = ps.toList ++ (assignedC x ++ assignedC y) := ⟨_, rfl⟩
  rw [← hasg] at hs0 hround
  obtain ⟨a1, ha1⟩ : ∃ a1 : Act, a1 = { a with defers := [] } := ⟨_, rfl⟩
  have rb : Rep T (Nw s.mem ρ w) w X z s a1 w ρ := by rw [ha1]; exact ⟨hr.m.base, .nil _ _ _, hr.size, hr.slot, hr.anch, hr.fix, hr.len, fun _ => rfl⟩
  have rk : Rep T (Nw s.mem ρ w) w X z (kill asg s) a1 w ρ := rb.kill (fun _ _ => rfl) rfl (.nil _ _ _) (by rw [ha1]) rfl rb.fix rb.len rb.nod
  obtain ⟨ρ0, r0, ho0⟩ := (hR _ _ _ hs0).own rk
  refine wpIn_rangeFunc ?_
  intro fnid hfn
  obtain ⟨rec, hrec⟩ : ∃ rec : LoopState → Option Code → Loop, rec = fun st pe => { state := st, pending := pe, fn := fnid, tmps := a.tmps, params := ps, assign := x, body := y, defers := w.heap.size } := ⟨_, rfl⟩
  obtain ⟨W1, hW1⟩ : ∃ W1, (w.alloc (.deferred (some []))).alloc (.loop (rec .ready none)) = W1 := ⟨_, rfl⟩
  have hL1 : W1.heap[w.heap.size + 1]? = some (.loop (rec .ready none)) := by
    rw [← hW1]; have := World.alloc_heap_new (w.alloc (.deferred (some []))) (.loop (rec .ready none)); rwa [World.size_alloc] at this
  have hK1 : W1.heap[w.heap.size]? = some (.deferred (some [])) := by
    rw [← hW1]; exact (Below.heap_alloc _ _ _ (by simp)).trans (World.alloc_heap_new w _)
  have hb1 : Below w.heap.size w W1 := by
    rw [← hW1]; exact ((Below.refl _ w).alloc (Nat.le_refl _) _).alloc (by simp) _
  have nfw : ∀ b, w.heap.size ≤ b → ¬ Forb X (g i0).mem ρ0 b := fun b hb h => by have := r0.m.forb_lt h; omega
  have hd0 : Held N X (g i0).mem ρ0 (w.heap.size + 1) w.heap.size (rec .ready none) a.defers W1 :=
    ⟨hL1, hK1, nfw _ (by omega), nfw _ (Nat.le_refl _), (hr.defers.sub (fun b h => h.imp id (fun h => ho0 b h))).grow hb1⟩
  have back : ∀ (s' : St) (ρ' : Env) (W : World) (ol : Loop), Rep T (Nw s.mem ρ w) w X z s' a1 W ρ' → Held N X s'.mem ρ' (w.heap.size + 1) w.heap.size ol a.defers W →
      ∀ ol', Rep T N w0 X z s' { a with defers := { target := .collected w.heap.size, args := #[] } :: a.defers } (W.putObj (w.heap.size + 1) (.loop ol')) ρ' := by
    intro s' ρ' W ol rp hd ol'
    have hd' := hd.put ol'
    have r1 : Rep T N w0 X z s' { a1 with defers := [] } W ρ' := ⟨hr.m.unbase rp.m, .nil _ _ _, rp.size, rp.slot, rp.anch, rp.fix, rp.len, fun _ => rfl⟩
    have r2 := r1.putObj hd.l rfl (hr.m.szN _ (by omega)) hd.nl (.loop ol') (ds := { target := .collected w.heap.size, args := #[] } :: a.defers) (by
      obtain ⟨Ds, h1, h2, h3⟩ := hd'.df.h
      obtain ⟨Ds0, g1, g2, g3⟩ := hr.defers.h
      refine ⟨w.heap.size :: Ds, by rw [h1]; rfl, List.nodup_cons.2 ⟨fun hm => ?_, h2⟩, fun D hD => ?_⟩
      · have e : Ds = Ds0 := by
          have := h1.symm.trans g1
          exact List.map_inj_right (fun p q hpq => by simpa using hpq) |>.1 this
        rw [e] at hm
        have := heap_lt (g3 _ hm).2.2
        omega
      · rcases List.mem_cons.1 hD with rfl | hD
        · exact ⟨hr.m.szN _ (Nat.le_refl _), hd'.nd, hd'.d⟩
        · exact h3 D hD) (fun h => by rw [hznd] at h; cases h)
    rw [ha1] at r2
    exact r2
  refine ⟨w.heap.size + 1, [{ target := .collected w.heap.size, args := #[] }], W1, { target := .fn (.func gf) ⟨us⟩, args := #[.func (.yield (w.heap.size + 1)) #[] #[]] }, W1, gf,
    #[.func (.yield (w.heap.size + 1)) #[] #[]] ++ ⟨us⟩, W1, ?_, ?_, fun _ _ => trivial, ?_, fun h => by simp [FR, Fence.wide] at h, ?_⟩
  · rw [← hW1, hrec]; exact run_enterLoop_outer _ _ _ _ _
  · simp only [resolve, hq]
    simp [go_sem]
  · simp only [invoke]
    simp [go_sem, run_callFunc hf hb hnm]
  refine CallsIn.mono (aq.h w (Forb X s.mem ρ) us hcaps (w.heap.size + 1)
    (fun k W => ∃ i ρ', I i ∧ pos i = k ∧ Rep T (Nw s.mem ρ w) w X z (g i) a1 W ρ' ∧ Held N X (g i).mem ρ' (w.heap.size + 1) w.heap.size (rec .ready none) a.defers W)
    (fun W => ∃ s' ρ' c, Rep T (Nw s.mem ρ w) w X z s' a1 W ρ' ∧ Held N X s'.mem ρ' (w.heap.size + 1) w.heap.size (rec .done (some c)) a.defers W ∧ ((c = .ret ∧ K.r s') ∨ ∃ id, c = .exit id ∧ K.e id s')) W1
    (fun k A B hJ hb => by obtain ⟨i, ρ', h1, h2, h3, h4⟩ := hJ; exact ⟨i, ρ', h1, h2, h3.grow hb, h4.grow hb⟩)
    (fun A B hJ hb => by obtain ⟨s', ρ', c, h1, h2, h3⟩ := hJ; exact ⟨s', ρ', c, h1.grow hb, h2.grow hb, h3⟩)
    (fun k A hJ => by
      obtain ⟨i, ρ', _, _, h3, _⟩ := hJ
      exact ⟨h3.m.below.size, fun b hb hf => h3.m.below.block b hb (fun hn => hn.elim (fun h => hf (.inr h)) (fun h => by omega))⟩)
    ?_ ⟨i0, ρ0, hI0, hp0, r0.grow hb1, hd0⟩ _) ?_
  · -- one round
    rintro k xx vs Wr ⟨i, ρi, hIi, hpi, ri, hdi⟩ hxx hden m
    obtain ⟨hxl, hxd⟩ := hxs xx (List.mem_of_getElem? hxx)
    have hvl : vs.length = ps.size := by rw [← hden.1, hxl, Array.length_toList]
    have hy := run_yield (P := P) (args := ⟨vs⟩) hdi.l (by rw [hrec]; simpa using hvl)
    obtain ⟨ar, har⟩ : ∃ ar : Act, ar = { tmps := (ps.zip ⟨vs⟩).foldl (fun tmps (t, a) => tmps.setIfInBounds t a) a.tmps, defers := [] } := ⟨_, rfl⟩
    have hart : ar.tmps = ((ps.toList.zip vs).foldl (fun (t : Array Value) (p : Nat × Value) => t.setIfInBounds p.1 p.2) a1.tmps) := by
      rw [har, ha1]
      simp only [← Array.foldl_toList, Array.toList_zip]
    obtain ⟨zr, hzr⟩ : ∃ zr : Anc, zr = ⟨z.z, fun t => if t ∈ asg then none else some (a1.tmps.getD t undef), some a1.tmps.size, true⟩ := ⟨_, rfl⟩
    have hzf := zip_fold ps.toList vs a1.tmps (by rw [Array.length_toList]; exact hvl.symm)
    have hdx : ∀ (j : Nat) (q : SV) (u : Value), xx[j]? = some q → vs[j]? = some u → Den Wr (Forb X (g i).mem ρi) ρi q u := fun j q u hq hu => by
      refine ((hden.2 j q u hq hu).mono ri.m.below.size fun b h1 h2 => ⟨fun hf => h2 ?_, ri.m.below.block b h1 fun hn => h2 (hn.elim (fun h => .inr h) (fun h => by omega))⟩).env fun r => .inr (.inr (data_noref (datas_get hxd j q hq) r))
      rcases hf with hf | hf
      · exact .inl hf
      · exact (ri.m.owned_lt hf).1.elim (fun h => .inr h) (fun h => by omega)
    have hpz := putZ_den (ρ := ρi) ps.toList xx vs (g i).slots a1.tmps hxl.symm hden.1 hdx ri.size ri.slot
    have rr : Rep T (Nw (g i).mem ρi Wr) Wr X zr ⟨putZ ps.toList xx (g i).slots, (g i).mem⟩ ar Wr ρi := by
      refine ⟨ri.m.base, by rw [har]; exact .nil _ _ _, by rw [hart, hzf.1, ri.size]; exact hpz.1.symm, fun t => by rw [hart]; exact hpz.2 t, by rw [hzr]; exact ri.anch, fun t v hv => ?_, fun q hq => ?_, fun _ => by rw [har]⟩
      · rw [hzr] at hv
        simp only at hv
        split at hv
        · cases hv
        · rename_i ht
          injection hv with hv
          rw [hart, hzf.2 t (fun h => ht (by rw [hasg]; simp [h])), hv]
      · rw [hzr] at hq
        injection hq with hq
        rw [hart, hzf.1, hq]
    have hfx : ∀ q ∈ asg, zr.fx q = none := fun q hq => by rw [hzr]; simp [hq]
    have home : ∀ (s1 s' : St) (a' : Act) (ρ1 ρ'' : Env) (w1 W' : World), Rep T (Nw (g i).mem ρi Wr) Wr X zr s1 a' w1 ρ1 ∨ True → MRep T (Nw (g i).mem ρi Wr) Wr w1 X s1.mem ρ1 →
        Rep T (Nw s1.mem ρ1 (w1.putObj (w.heap.size + 1) (.loop { rec .ready none with state := .busy }))) (w1.putObj (w.heap.size + 1) (.loop { rec .ready none with state := .busy })) X zr s' a' W' ρ'' →
        Held N X s'.mem ρ'' (w.heap.size + 1) w.heap.size { rec .ready none with state := .busy } a.defers W' → ∀ ol', Rep T (Nw s.mem ρ w) w X z (kill asg s') a1 (W'.putObj (w.heap.size + 1) (.loop ol')) ρ'' := by
      intro s1 s' a' ρ1 ρ'' w1 W' _ m1 r' hd' ol'
      have hsub1 : ∀ b, Nw (g i).mem ρi Wr b → Nw s.mem ρ w b := fun b hb => Nw.sub ri.m hb
      have hb2 : BelowW (Nw s.mem ρ w) w (w1.putObj (w.heap.size + 1) (.loop { rec .ready none with state := .busy })) :=
        (ri.m.below.trans (m1.below.weak hsub1)).trans ⟨rfl, rfl, rfl, by simp, fun k _ hk => World.putObj_heap_other (fun e => hk (by rw [e]; exact .inr (by omega)))⟩
      have hsub2 : ∀ b, Nw s1.mem ρ1 (w1.putObj (w.heap.size + 1) (.loop { rec .ready none with state := .busy })) b → Nw s.mem ρ w b := fun b hb => hb.elim (fun h => hsub1 b (m1.owned_lt h).1) (fun h => .inr (Nat.le_trans hb2.size h))
      have m2 : MRep T (Nw s.mem ρ w) w W' X s'.mem ρ'' := r'.m.chN (fun b h => hsub2 b (r'.m.owned_lt h).1) (fun b h => (rb.m.low b h).2) (fun b h => .inr (Nat.le_trans (hb2.trans (r'.m.below.weak hsub2)).size h)) (hb2.trans (r'.m.below.weak hsub2))
      have hlen := r'.len a1.tmps.size (by rw [hzr])
      have r3 : Rep T (Nw s.mem ρ w) w X z (kill asg s') a1 W' ρ'' := by
        have r4 : Rep T (Nw s.mem ρ w) w X zr s' { a' with defers := [] } W' ρ'' := ⟨m2, .nil _ _ _, r'.size, r'.slot, r'.anch, r'.fix, r'.len, fun _ => rfl⟩
        refine r4.kill (fun t ht => ?_) hlen.symm (.nil _ _ _) (by rw [ha1]) (by rw [hzr]) rb.fix rb.len rb.nod
        exact (r'.fix t (a1.tmps.getD t undef) (by rw [hzr]; simp [ht])).symm
      have r5 := r3.putObj hd'.l rfl (.inr (by omega)) hd'.nl (.loop ol') (ds := []) (.nil _ _ _) (fun _ => rfl)
      have e : ({ a1 with defers := [] } : Act) = a1 := by rw [ha1]
      rw [e] at r5
      exact r5
    refine ⟨fnid, ar.tmps, x, y, ?_, roundIn_of_wpIn (F := Fence.wide) trivial ?_⟩
    · rw [hy, hrec, har]
    have er : ({ tmps := ar.tmps, defers := [] } : Act) = ar := by rw [har]
    rw [er]
    refine ihx _ _ zr _ _ _ ar Wr ρi (hround i xx hIi (by rw [hpi]; exact hxx)) rr ?_ (fun _ _ _ _ h => h.elim) (fun _ _ _ _ _ h => h.elim) (fun q hq => hfx q (by rw [hasg]; simp [hq])) _ _
    intro s1 a2 w1 ρ1 hFB r1
    have hd1 := hdi.walk r1.m
    have hd2 := hd1.put { rec .ready none with state := .busy }
    refine ⟨_, run_beginRound hd1.l (by rw [hrec]), ?_⟩
    have m2 : MRep T (Nw s1.mem ρ1 (w1.putObj (w.heap.size + 1) (.loop { rec .ready none with state := .busy }))) (w1.putObj (w.heap.size + 1) (.loop { rec .ready none with state := .busy })) (w1.putObj (w.heap.size + 1) (.loop { rec .ready none with state := .busy })) X s1.mem ρ1 := by
      refine r1.m.chg (fun b h => .inl h) (fun b h hn => ?_) (fun b h => .inr h) (.refl _ _) (by simp) (fun b h => World.putObj_heap_other (fun e => hd1.nl (.inr (by rw [← e]; exact h)))) (fun b _ _ off u h => putObj_cell hd1.l rfl _ b off u h)
      rcases hn with hn | hn
      · exact (r1.m.low b h).2 (r1.m.owned_lt hn).1
      · have := (r1.m.low b h).1
        simp at hn
        omega
    have hdf : a2.defers = [] := r1.nod (by rw [hzr])
    have r2 : Rep T (Nw s1.mem ρ1 (w1.putObj (w.heap.size + 1) (.loop { rec .ready none with state := .busy }))) (w1.putObj (w.heap.size + 1) (.loop { rec .ready none with state := .busy })) X zr s1 a2 (w1.putObj (w.heap.size + 1) (.loop { rec .ready none with state := .busy })) ρ1 :=
      ⟨m2, by rw [hdf]; exact .nil _ _ _, r1.size, fun t => (r1.slot t).monoC (by simp) fun b _ hb => ⟨hb, fun off u hu => putObj_cell hd1.l rfl _ b off u hu⟩, r1.anch, r1.fix, r1.len, r1.nod⟩
    have fin : ∀ (s' : St) (a' : Act) (W' : World) (ρ'' : Env) (jump : Option Code), Rep T (Nw s1.mem ρ1 (w1.putObj (w.heap.size + 1) (.loop { rec .ready none with state := .busy }))) (w1.putObj (w.heap.size + 1) (.loop { rec .ready none with state := .busy })) X zr s' a' W' ρ'' →
        ∃ W4, (Instr.endRound (w.heap.size + 1) jump).run P W' = .ok (.bool jump.isNone) W4 ∧ Rep T (Nw s.mem ρ w) w X z (kill asg s') a1 W4 ρ'' ∧ Held N X s'.mem ρ'' (w.heap.size + 1) w.heap.size (rec (if jump.isNone then .ready else .done) jump) a.defers W4 := by
      intro s' a' W' ρ'' jump r'
      have hd3 := hd2.walk r'.m
      refine ⟨_, run_endRound jump hd3.l, home s1 s' a' ρ1 ρ'' w1 W' (.inr trivial) r1.m r' hd3 _, ?_⟩
      have := hd3.put { rec .ready none with state := if jump.isNone then .ready else .done, pending := jump }
      rw [hrec] at this ⊢
      exact this
    refine ihy _ _ zr _ _ _ a2 _ ρ1 hFB r2 ?_ ?_ ?_ (fun q hq => hfx q (by rw [hasg]; simp [hq])) _ _
    · rintro s' a' W' ρ'' ⟨j, hj, hpj, hRj⟩ r'
      obtain ⟨W4, h1, h2, h3⟩ := fin s' a' W' ρ'' none r'
      obtain ⟨ρj, r3, hoj⟩ := (hR _ _ _ hRj).own h2
      exact ⟨_, W4, h1, .inl ⟨rfl, j, ρj, hj, by rw [hpj, hpi], r3, h3.sub hoj⟩⟩
    · rintro s' a' W' ρ'' hk r'
      obtain ⟨W4, h1, h2, h3⟩ := fin s' a' W' ρ'' (some .ret) r'
      exact ⟨_, W4, h1, .inr ⟨rfl, _, ρ'', .ret, h2, h3, .inl ⟨rfl, hk⟩⟩⟩
    · rintro id s' a' W' ρ'' hk r'
      obtain ⟨W4, h1, h2, h3⟩ := fin s' a' W' ρ'' (some (.exit id)) r'
      exact ⟨_, W4, h1, .inr ⟨rfl, _, ρ'', .exit id, h2, h3, .inr ⟨id, rfl, hk⟩⟩⟩
  · -- behind the iterator
    rintro e W2 ⟨⟨v, rfl⟩, (⟨i, ρ', hIi, hpi, ri, hdi⟩ | ⟨s', ρ', c, ri, hdi, hc⟩)⟩
    · refine ⟨none, _, by have := run_endLoop (P := P) hdi.l (by rw [hrec]; simp); rw [hrec] at this; exact this, ?_⟩
      exact hn _ _ _ _ (hdone i hIi hpi) (back _ _ _ _ ri hdi _)
    · refine ⟨some c, _, by have := run_endLoop (P := P) hdi.l (by rw [hrec]; simp); rw [hrec] at this; exact this, ?_⟩
      rcases hc with ⟨rfl, hk⟩ | ⟨id, rfl, hk⟩
      · exact wpIn_ret (hret _ _ _ _ hk (back _ _ _ _ ri hdi _))
      · exact wpIn_exit (he _ _ _ _ _ hk (back _ _ _ _ ri hdi _))

end Go.Proofs.Ytapcbkcnokoljaa
namespace Go.Proofs.Ytapcbkcnokoljaa
set_option linter.unusedVariables false
set_option linter.unusedSimpArgs false
open Go.RowKit
variable {P : Program} {T : Nat → Option TI} {G : Nat → CT → Prop}

structure LoopQ (T : Nat → Option TI) (F : St → Ks → Prop) (s : St) (K : Ks) : Prop where
  h : ∃ (A : Type) (I : A → Prop) (μ : A → Nat) (f : A → St) (R : A → St → St → Prop), (∀ i s s', R i s s' → Sub T s s') ∧ (∃ i, I i ∧ R i s (f i)) ∧ ∀ i, I i → F (f i) ⟨fun s' => ∃ j, I j ∧ μ j < μ i ∧ R j s' (f j), K.r, K.e⟩

def swp (T : Nat → Option TI) (G : Nat → CT → Prop) : Code → St → Ks → Prop
  | .skip, s, K => K.n s
  | .ret, s, K => K.r s
  | .region _ ops false, s, K => opsG T G [] ops ops.toList [] (prepO ops.toList s) (fun _ s => K.n s)
  | .region _ ops true, s, K => drawG T G ops (prepO ops.toList s) K.n
  | .seq a b, s, K => swp T G a s ⟨fun s => swp T G b s K, K.r, K.e⟩
  | .cond c a b, s, K => (match s.ev c with
    | .bool t => br t (fun _ => swp T G a s K) (fun _ => swp T G b s K)
    | _ => False)
  | .block id c, s, K => swp T G c s ⟨K.n, K.r, fun i s => if Nat.beq i id then K.n s else K.e i s⟩
  | .exit id, s, K => K.e id s
  | .label _, s, K => K.n s
  | .scope c, s, K => swp T G c s K
  | .loop c, s, K => LoopQ T (fun s K => swp T G c s K) s K
  | .rangeFunc f ps a b, s, K => (match s.ev f with
    | .clo f caps => RangeQ T G (fun s K => swp T G a s K) (fun s K => swp T G b s K) (ps.toList ++ (assignedC a ++ assignedC b)) ps.toList f caps s K
    | _ => False)
  | _, _, _ => False

def noRange : Code → Bool
  | .seq a b => noRange a && noRange b
  | .cond _ a b => noRange a && noRange b
  | .block _ c => noRange c
  | .scope c => noRange c
  | .loop c => noRange c
  | .rangeFunc _ _ _ _ => false
  | _ => true
def codeOk : Code → Bool
  | .region _ ops true => regOk ops
  | .seq a b => codeOk a && codeOk b
  | .cond _ a b => codeOk a && codeOk b
  | .block _ c => codeOk c
  | .scope c => codeOk c
  | .loop c => codeOk c
  | .rangeFunc _ _ a b => codeOk a && codeOk b && noRange a && noRange b
  | _ => true

theorem wp_loop_ix {F : Fence} {n : Nat} {c : Code} {A : Type} {Q : Exit → Act → World → Prop} (I : A → Act → World → Prop) (μ : A → Nat)
    (round : ∀ i a w, I i a w → c.wpIn F n P (Exit.then (fun a' w' => ∃ j, I j a' w' ∧ μ j < μ i) Q) a w) : ∀ i a w, I i a w → (Code.loop c).wpIn F n P Q a w := by
  intro i a w hI b k cs hro hb hr
  have key : ∀ n i a w, μ i = n → I i a w → ∃ e a' w', Q e a' w' ∧ ArrivesIn (Machine.fenced P F) P (lone (b.atR a (.code c :: .inLoop c :: k)) cs w) b k cs e a' w' := by
    intro m
    induction m using Nat.strongRecOn with
    | _ m ih =>
      intro i a w hn hI
      obtain ⟨e, a₁, w₁, hq, harr⟩ := round i a w hI b (.inLoop c :: k) cs hro hb hr
      cases e with
      | normal =>
        obtain ⟨j, hI₁, hlt⟩ := hq
        obtain ⟨e₂, a₂, w₂, hq₂, harr₂⟩ := ih (μ j) (hn ▸ hlt) j a₁ w₁ rfl hI₁
        exact ⟨e₂, a₂, w₂, hq₂, .of_steps (StepsIn.trans harr (.one (fenced_calm hb hr rfl) stepR_inLoop)) harr₂⟩
      | exit id => exact ⟨_, a₁, w₁, hq, .pass (x := .inLoop c) rfl (fun _ _ => .inl (by simp)) harr⟩
      | goto l => exact ⟨_, a₁, w₁, hq, .pass (x := .inLoop c) rfl (fun _ _ => .inl (by simp)) harr⟩
      | ret => exact ⟨_, a₁, w₁, hq, .pass (x := .inLoop c) rfl (fun _ _ => .inl (by simp)) harr⟩
      | panic ch => exact ⟨_, a₁, w₁, hq, .pass (x := .inLoop c) rfl (fun _ _ => .inl (by simp)) harr⟩
      | outgrown => exact ⟨_, a₁, w₁, hq, .pass (x := .inLoop c) rfl (fun _ _ => .inl (by simp)) harr⟩
  obtain ⟨e, a', w', hq, harr⟩ := key _ i a w rfl hI
  exact ⟨e, a', w', hq, .of_steps (.one (fenced_calm hb hr rfl) stepR_loop) harr⟩

theorem stepR_scope {b : Frame} {a : Act} {k : List Item} {cs : List Frame} {w : World} {c : Code} : step P (lone (b.atR a (.code (.scope c) :: k)) cs w) = .next (lone (b.atR a (.code c :: .inScope c :: k)) cs w) :=
  step_lone_go (by simp [stepG, stepG.exec, Frame.atR])
theorem stepR_inScope {b : Frame} {a : Act} {k : List Item} {cs : List Frame} {w : World} {c : Code} : step P (lone (b.atR a (.inScope c :: k)) cs w) = .next (lone (b.atR a k) cs w) :=
  step_lone_go (by simp [stepG, stepG.exec, Frame.atR])
theorem wpIn_scope_straight {F : Fence} {n : Nat} {Q : Exit → Act → World → Prop} {a : Act} {w : World} {c : Code} (h : c.wpIn F n P (Exit.noGoto Q) a w) : (Code.scope c).wpIn F n P Q a w := by
  intro b k cs hro hb hr
  have h0 : (lone (b.atR a (.code (.scope c) :: k)) cs w).fenced P F := fenced_calm hb hr rfl
  obtain ⟨e, a₁, w₁, hq, harr⟩ := h b (.inScope c :: k) cs hro hb hr
  cases e with
  | normal => exact ⟨.normal, a₁, w₁, hq, .head h0 stepR_scope (StepsIn.trans harr (.one (fenced_calm hb hr rfl) stepR_inScope))⟩
  | exit id =>
    have hx : exitTo id (.inScope c :: k) = exitTo id k := by simp [exitTo]
    exact ⟨.exit id, a₁, w₁, hq, fun k' hk => .head h0 stepR_scope (harr.1 k' (by rw [hx]; exact hk)),
      fun hr' hk => let ⟨k₁, h1, h2⟩ := harr.2 hr' (by rw [hx]; exact hk); ⟨k₁, h1, .head h0 stepR_scope h2⟩⟩
  | goto l => exact hq.elim
  | ret => exact ⟨_, a₁, w₁, hq, .of_steps (.one h0 stepR_scope) harr⟩
  | panic ch => exact ⟨_, a₁, w₁, hq, .of_steps (.one h0 stepR_scope) harr⟩
  | outgrown => exact ⟨_, a₁, w₁, hq, .of_steps (.one h0 stepR_scope) harr⟩

theorem swp_sound (tab : Tab P T) (hG : ∀ f c, G f c → ACall P T f c) (hmix : P.follows .mixedOrders = true) : ∀ (c : Code) (N : Nat → Prop) (w0 : World) (X : Nat → Prop) (z : Anc) (s : St) (K : Ks) (Q : Exit → Act → World → Prop) (a : Act) (w : World) (ρ : Env),
    codeOk c = true → swp T G c s K → Rep T N w0 X z s a w ρ → (∀ s a w ρ, K.n s → Rep T N w0 X z s a w ρ → Q .normal a w) → (∀ s a w ρ, K.r s → Rep T N w0 X z s a w ρ → Q .ret a w) →
    (∀ i s a w ρ, K.e i s → Rep T N w0 X z s a w ρ → Q (.exit i) a w) → (∀ q ∈ assignedC c, z.fx q = none) → ∀ (ro : Option Nat) (nn : Nat), ((ro = none ∧ z.nd = false) ∨ noRange c = true) → c.wpIn (FR ro) nn P Q a w := by
  intro c
  induction c with
  | skip => intro N w0 X z s K Q a w ρ _ h hr hn _ _ _ ro nn _; exact wpIn_skip (hn s a w ρ h hr)
  | ret => intro N w0 X z s K Q a w ρ _ h hr _ hret _ _ ro nn _; exact wpIn_ret (hret s a w ρ h hr)
  | region id ops draw =>
    intro N w0 X z s K Q a w ρ hok h hr hn _ _ hfx ro nn _
    obtain ⟨ρ1, hr1⟩ := (prepO_sub (T := T) ops.toList s).h _ _ _ _ _ _ _ hr
    have hfx' : ∀ o ∈ ops.toList, ∀ q, o.dst = some q → z.fx q = none := fun o ho q hq => hfx q (dstsL_mem ho hq)
    cases draw
    · exact reg_seq tab hG h hr1 hn hfx' ro nn
    · exact reg_draw tab hG hmix hok h hr1 hn hfx' ro nn
  | seq x y ihx ihy =>
    intro N w0 X z s K Q a w ρ hok h hr hn hret he hfx ro nn hro
    simp only [codeOk, Bool.and_eq_true] at hok
    have h1 : (ro = none ∧ z.nd = false) ∨ noRange x = true := hro.imp id fun h => by simp only [noRange, Bool.and_eq_true] at h; exact h.1
    have h2 : (ro = none ∧ z.nd = false) ∨ noRange y = true := hro.imp id fun h => by simp only [noRange, Bool.and_eq_true] at h; exact h.2
    exact wpIn_seq (ihx N w0 X z s _ (Exit.then (y.wpIn (FR ro) nn P Q) Q) a w ρ hok.1 h hr (fun s a w ρ h hr => ihy N w0 X z s K Q a w ρ hok.2 h hr hn hret he (fun q hq => hfx q (by simp [assignedC, hq])) ro nn h2) hret he (fun q hq => hfx q (by simp [assignedC, hq])) ro nn h1)
  | cond c x y ihx ihy =>
    intro N w0 X z s K Q a w ρ hok h hr hn hret he hfx ro nn hro
    simp only [codeOk, Bool.and_eq_true] at hok
    have h1 : (ro = none ∧ z.nd = false) ∨ noRange x = true := hro.imp id fun h => by simp only [noRange, Bool.and_eq_true] at h; exact h.1
    have h2 : (ro = none ∧ z.nd = false) ∨ noRange y = true := hro.imp id fun h => by simp only [noRange, Bool.and_eq_true] at h; exact h.2
    simp only [swp] at h
    have hev := hr.ev c
    split at h
    · rename_i t ht
      rw [ht, Den.bool_iff] at hev
      cases t
      · exact wpIn_cond hev (ihy N w0 X z s K Q a w ρ hok.2 h hr hn hret he (fun q hq => hfx q (by simp [assignedC, hq])) ro nn h2)
      · exact wpIn_cond hev (ihx N w0 X z s K Q a w ρ hok.1 h hr hn hret he (fun q hq => hfx q (by simp [assignedC, hq])) ro nn h1)
    · exact h.elim
  | block id c ih =>
    intro N w0 X z s K Q a w ρ hok h hr hn hret he hfx ro nn hro
    refine wpIn_block (ih N w0 X z s _ (Exit.inBlock id Q) a w ρ hok h hr hn hret (fun i s a w ρ h hr => ?_) hfx ro nn hro)
    simp only [Exit.inBlock]
    by_cases hi : i = id
    · subst hi
      rw [if_pos rfl]
      simp at h
      exact hn s a w ρ h hr
    · rw [if_neg hi]
      have hb : Nat.beq i id = false := by
        cases hb : Nat.beq i id
        · rfl
        · exact absurd (Nat.eq_of_beq_eq_true hb) hi
      have h' : (if Nat.beq i id = true then K.n s else K.e i s) := h
      rw [hb] at h'
      exact he i s a w ρ h' hr
  | exit id => intro N w0 X z s K Q a w ρ _ h hr _ _ he _ ro nn _; exact wpIn_exit (he id s a w ρ h hr)
  | loop c ih =>
    intro N w0 X z s K Q a w ρ hok h hr hn hret he hfx ro nn hro
    obtain ⟨A, I, μ, f, R, hR, ⟨i, hI, hs⟩, hround⟩ := h.h
    obtain ⟨ρ', hr'⟩ := (hR _ _ _ hs).h _ _ _ _ _ _ _ hr
    refine wp_loop_ix (fun i a w => I i ∧ ∃ ρ, Rep T N w0 X z (f i) a w ρ) μ (fun i a w ⟨hI, ρ, hr⟩ => ?_) i a w ⟨hI, ρ', hr'⟩
    refine ih N w0 X z (f i) _ (Exit.then (fun a' w' => ∃ j, (I j ∧ ∃ ρ, Rep T N w0 X z (f j) a' w' ρ) ∧ μ j < μ i) Q) a w ρ hok (hround i hI) hr (fun s a w ρ h hr => ?_) hret he hfx ro nn hro
    obtain ⟨j, hj, hlt, hsub⟩ := h
    obtain ⟨ρ'', hr''⟩ := (hR _ _ _ hsub).h _ _ _ _ _ _ _ hr
    exact ⟨j, ⟨hj, ρ'', hr''⟩, hlt⟩
  | rangeFunc f ps x y ihx ihy =>
    intro N w0 X z s K Q a w ρ hok h hr hn hret he hfx ro nn hro
    obtain ⟨rfl, hznd⟩ := hro.resolve_right (by simp [noRange])
    simp only [codeOk, Bool.and_eq_true] at hok
    simp only [swp] at h
    split at h
    · rename_i gf caps hev
      exact range_sound hG hr hev h (fun N w0 z s K Q a w ρ h hr hn hret he hfx l nn => ihx N w0 X z s K Q a w ρ hok.1.1.1 h hr hn hret he hfx (some l) nn (.inr hok.1.2))
        (fun N w0 z s K Q a w ρ h hr hn hret he hfx l nn => ihy N w0 X z s K Q a w ρ hok.1.1.2 h hr hn hret he hfx (some l) nn (.inr hok.2)) hn hret he nn hznd
    · exact h.elim
  | scope c ih =>
    intro N w0 X z s K Q a w ρ hok h hr hn hret he hfx ro nn hro
    exact wpIn_scope_straight (ih N w0 X z s K (Exit.noGoto Q) a w ρ hok h hr hn hret he hfx ro nn hro)
  | label l => intro N w0 X z s K Q a w ρ _ h hr hn _ _ _ ro nn _; exact wpIn_label (hn s a w ρ h hr)
  | goto l => intro N w0 X z s K Q a w ρ _ h; exact h.elim
  | refuse y => intro N w0 X z s K Q a w ρ _ h; exact h.elim

def resOne (T : Nat → Option TI) (s : St) : ResultVar → Option SV
  | .tmp k => some (getN .any s.slots k)
  | .cell k ty => (match getN .any s.slots k with
    | .ptr r o => (match getM s.mem r with
      | .chunk t' y => if Nat.beq o 0 && Nat.beq t' ty then some y else none
      | _ => none)
    | _ => none)
def resL (T : Nat → Option TI) (s : St) : List ResultVar → Option (List SV)
  | v :: vs => (match resOne T s v, resL T s vs with
    | some x, some xs => some (x :: xs)
    | _, _ => none)
  | [] => some []
def firstId (m : Mem) : List Nat → Option Nat
  | [] => none
  | q :: l => (match getM m q with | .no => firstId m l | .frz _ _ => firstId m l | _ => if Nat.beq q 0 then firstId m l else some q)
noncomputable def fin1 (nw : Bool) (m : Mem) : SV → Option SV
  | .row r => if nw && Nat.beq r 1 then some (.row 1) else viewC (getM m) (.row r)
  | .rsl r sh a n c => if nw && Nat.beq r 1 then none else viewC (getM m) (.rsl r sh a n c)
  | .ptr r o => if nw && Nat.beq r 1 && Nat.beq o 0 then some (.ptr 1 0) else none
  | x => viewC (getM m) x
noncomputable def fin1s (nw : Bool) (m : Mem) : List SV → Option (List SV)
  | [] => some []
  | x :: l => (match fin1 nw m x, fin1s nw m l with
    | some y, some ys => some (y :: ys)
    | _, _ => none)
noncomputable def finV (T : Nat → Option TI) (nw : Bool) (m : Mem) (t : Nat) : SV → Option SV
  | .agg l => (match fin1s nw m l with | some l => some (.agg l) | none => none)
  | x => (match fin1 nw m x with | some y => some (normNil T t y) | none => none)
noncomputable def finL (T : Nat → Option TI) (nw : Bool) (m : Mem) : List Nat → List SV → Option (List SV)
  | t :: ts, x :: xs => (match finV T nw m t x, finL T nw m ts xs with
    | some y, some ys => some (y :: ys)
    | _, _ => none)
  | [], [] => some []
  | _, _ => none
def packR : List SV → SV
  | [x] => x
  | l => .tup l
structure Fin (x r : SV) (b n : Blk) (l l' : Blk) : Prop where
  r : x = r
  n : b = n
  l : l = l'
def finS (s : St) : Option Nat → St
  | some q => if Nat.beq q 0 then s else swS 1 q s
  | none => s
def endS (T : Nat → Option TI) (vs : List ResultVar) (nw : Bool) (s : St) : St :=
  if nw then (match resL T s vs with | some xs => finS s (firstId s.mem (idsV.idsVs xs)) | none => s) else s
def lentE (l : Option (Nat × SV)) (m : Mem) : Blk := match l with | some _ => getM m 0 | none => .no
def retQ' (T : Nat → Option TI) (ts : List Nat) (vs : List ResultVar) (c : CT) (nw : Bool) (s : St) : Prop :=
  match resL T s vs with
  | some xs => (match finL T nw s.mem ts xs with
    | some ys => Fin (packR ys) c.r (if nw then getM s.mem 1 else .no) c.new (lentE c.lent s.mem) (lentB' c.lent c.lent')
    | none => False)
  | none => False
def retQ (T : Nat → Option TI) (ts : List Nat) (vs : List ResultVar) (s : St) (c : CT) : Prop := retQ' T ts vs c (isNew c.new) (endS T vs (isNew c.new) s)

def resSem (a : Act) (v : ResultVar) : Sem Value := match v with
  | .tmp t => pure (a.tmps.getD t undef)
  | .cell k ty => do loadVar ty (← asAddr (a.tmps.getD k undef))


theorem resOne_ok (tab : Tab P T) {N : Nat → Prop} {w0 : World} {X : Nat → Prop} {z : Anc} {s : St} {a : Act} {w : World} {ρ : Env} (h : Rep T N w0 X z s a w ρ) {v : ResultVar} {x : SV} (hx : resOne T s v = some x) :
    ∃ u, (resSem a v).run P w = .ok u w ∧ Den w (Forb X s.mem ρ) ρ x u := by
  cases v with
  | tmp k => simp only [resOne] at hx; injection hx with hx; subst hx; exact ⟨_, rfl, h.slot k⟩
  | cell k ty =>
    simp only [resOne] at hx
    cases hs : getN SV.any s.slots k with
    | ptr r o =>
      simp only [hs] at hx
      cases hm : getM s.mem r with
      | chunk t' y =>
        simp only [hm] at hx
        split at hx
        · rename_i hc
          simp only [Bool.and_eq_true] at hc
          have h0 : o = 0 := Nat.eq_of_beq_eq_true hc.1
          have h1 : t' = ty := Nat.eq_of_beq_eq_true hc.2
          subst h0; subst h1
          injection hx with hx; subst hx
          have hb := h.m.blk r
          rw [hm] at hb
          obtain ⟨i', b, us, tt, e1, e2, e3, e4, e5, e6, e7⟩ := hb
          have hd := h.slot k
          rw [hs] at hd
          simp only [resSem]
          generalize a.tmps.getD k undef = q at hd
          cases hd with
          | ptr _ _ _ b' hb' =>
            have := hb' _ e2
            simp only [Value.pointer.injEq, Option.some.injEq, Addr.mk.injEq, and_true] at this
            subst this
            refine ⟨_, ?_, e7⟩
            have := run_load_at (P := P) (tab.tys.ok t' i' e1) (tab.sz.one t' i' e1) w b 0 us.toList (by rw [Array.length_toList, e5]; exact Nat.le_refl _) (fun j u hu => by rw [Nat.zero_add, cell_of_row w b j us tt (0, 0) e4]; simpa using hu)
            simpa [Instr.loadAt, Instr.sureAddr, asAddr] using this
        · cases hx
      | _ => simp only [hm] at hx; cases hx
    | _ => simp only [hs] at hx; cases hx

theorem resL_ok (tab : Tab P T) {N : Nat → Prop} {w0 : World} {X : Nat → Prop} {z : Anc} {s : St} {a : Act} {w : World} {ρ : Env} (h : Rep T N w0 X z s a w ρ) : ∀ (vs : List ResultVar) (xs : List SV), resL T s vs = some xs →
    ∃ us : List Value, (vs.mapM (resSem a)).run P w = Result.ok us w ∧ DenL w (Forb X s.mem ρ) ρ xs us
  | [], xs, hx => by
    simp only [resL] at hx
    injection hx with hx; subst hx
    exact ⟨[], rfl, rfl, fun i x u h => by simp at h⟩
  | v :: vs, xs, hx => by
    simp only [resL] at hx
    cases h1 : resOne T s v with
    | none => rw [h1] at hx; cases hx
    | some x =>
      cases h2 : resL T s vs with
      | none => rw [h1, h2] at hx; cases hx
      | some ys =>
        rw [h1, h2] at hx
        injection hx with hx; subst hx
        obtain ⟨u, r1, d1⟩ := resOne_ok tab h h1
        obtain ⟨us, r2, d2⟩ := resL_ok tab h vs ys h2
        refine ⟨u :: us, ?_, by simp [d2.1], fun i x' u' hx' hu' => ?_⟩
        · rw [List.mapM_cons, Sem.run_bind, r1, Result.andThen_ok, Sem.run_bind, r2, Result.andThen_ok]
          rfl
        · cases i with
          | zero => simp at hx' hu'; subst hx'; subst hu'; exact d1
          | succ i => exact d2.2 i x' u' (by simpa using hx') (by simpa using hu')

theorem endS_sub (vs : List ResultVar) (nw : Bool) (s : St) : Sub T s (endS T vs nw s) := by
  unfold endS
  split
  · split
    · unfold finS
      split
      · split
        · exact .refl s
        · rename_i h; exact swS_sub 1 _ s (by simp) (fun h0 => h (by simp [h0]))
      · exact .refl s
    · exact .refl s
  · exact .refl s

def idsF (nw : Bool) : List Nat → List Nat
  | [] => []
  | q :: l => if nw && Nat.beq q 1 then idsF nw l else q :: idsF nw l
theorem idsF_mem {nw : Bool} : ∀ {l : List Nat} {q : Nat}, q ∈ idsF nw l ↔ q ∈ l ∧ ¬ (nw = true ∧ q = 1)
  | [], q => by simp [idsF]
  | k :: l, q => by
    simp only [idsF]
    split
    · rename_i h
      simp only [Bool.and_eq_true, nbeq] at h
      rw [idsF_mem]
      constructor
      · rintro ⟨h1, h2⟩; exact ⟨by simp [h1], h2⟩
      · rintro ⟨h1, h2⟩
        rcases List.mem_cons.1 h1 with rfl | h1
        · exact absurd h h2
        · exact ⟨h1, h2⟩
    · rename_i h
      simp only [Bool.and_eq_true, nbeq] at h
      rw [List.mem_cons, idsF_mem, List.mem_cons]
      constructor
      · rintro (rfl | ⟨h1, h2⟩)
        · exact ⟨.inl rfl, h⟩
        · exact ⟨.inr h1, h2⟩
      · rintro ⟨rfl | h1, h2⟩
        · exact .inl rfl
        · exact .inr ⟨h1, h2⟩

theorem ret_ok (tab : Tab P T) {N : Nat → Prop} {w0 : World} {X : Nat → Prop} {z : Anc} {s : St} {a : Act} {w : World} {ρ : Env} (h : Rep T N w0 X z s a w ρ) {fn : Func} {c : CT} {nw : Bool} (hnw : nw = isNew c.new) (hq : retQ' T fn.resultTypes.toList fn.results.toList c nw s) :
    ∃ v ρ', (results fn a.tmps).run P w = .ok v w ∧ MRep T N w0 w X (outM c) ρ' ∧ Den w (Forb X (outM c) ρ') ρ' c.r v ∧ (∀ u, z.z = some u → c.lent.isSome = true → ρ' 0 = some u) ∧ (c.lent = none → ρ' 0 = none) := by
  unfold retQ' at hq
  cases hx : resL T s fn.results.toList with
  | none => rw [hx] at hq; exact hq.elim
  | some xs =>
    rw [hx] at hq
    simp only at hq
    cases hy : finL T nw s.mem fn.resultTypes.toList xs with
    | none => rw [hy] at hq; exact hq.elim
    | some ys =>
      rw [hy] at hq
      simp only at hq
      obtain ⟨q1, q2, q3⟩ := hq
      obtain ⟨us, hr, hd⟩ := resL_ok tab h _ _ hx
      have fz := freeze_ids (T := T) (sees_all s.mem) h.m (idsF nw (rids.ridsL xs))
      have hout : ∀ r, getM (outM c) r = .no ∨ getM (outM c) r = getM (appU (frzU (getM s.mem) (idsF nw (rids.ridsL xs))) s.mem) r := by
        intro r
        rw [getM_out]
        have keep : ∀ r, (∀ sh e k, getM s.mem r ≠ .row sh e k) ∨ r ∉ idsF nw (rids.ridsL xs) → getM (appU (frzU (getM s.mem) (idsF nw (rids.ridsL xs))) s.mem) r = getM s.mem r := by
          intro r hr
          rcases fz.old r with g | ⟨g1, sh, e, k, g2, _⟩
          · exact g
          · rcases hr with hr | hr
            · exact absurd g2 (hr _ _ _)
            · exact absurd g1 hr
        by_cases h0 : r = 0
        · subst h0
          rw [if_pos rfl]
          cases hl : c.lent with
          | none => exact .inl rfl
          | some p =>
            obtain ⟨t, x⟩ := p
            right
            rw [hl] at q3
            simp only [lentE, lentB'] at q3 ⊢
            rw [keep 0 (.inl fun sh e k hk => by rw [hk] at q3; cases q3)]
            exact q3.symm
        · rw [if_neg h0]
          by_cases h1 : r = 1
          · subst h1
            rw [if_pos rfl]
            cases hn : nw with
            | false =>
              rw [hn] at q2
              simp only [Bool.false_eq_true, if_false] at q2
              exact .inl q2.symm
            | true =>
              rw [hn] at q2 keep
              simp only [if_true] at q2
              right
              rw [← hn] at keep ⊢
              rw [keep 1 (.inr fun hm => (idsF_mem.1 hm).2 ⟨hn, rfl⟩)]
              exact q2.symm
          · rw [if_neg h1]; exact .inl rfl
      obtain ⟨m', env, hf⟩ := fz.m.drop hout
      generalize hρ : (fun r => match getM (outM c) r with | .no => none | _ => ρ r : Env) = ρ' at m' env hf
      have lift : ∀ {ρ0 : Env} {x : SV} {v : Value}, Den w (Forb X s.mem ρ) ρ0 x v → Den w (Forb X (outM c) ρ') ρ0 x v := fun hd => (hd.mono fz.t.size fz.t.keep).mono (Nat.le_refl _) fun b _ hb => ⟨fun hb' => hb (hf b hb'), rfl⟩
      have view1 : ∀ {x y : SV} {v : Value}, (∀ r ∈ rids x, r ∈ idsF nw (rids.ridsL xs)) → viewC (getM s.mem) x = some y → Den w (Forb X s.mem ρ) ρ x v → Den w (Forb X (outM c) ρ') ρ' y v := by
        intro x y v hr hv hd
        obtain ⟨a1, a2⟩ := viewC_same (μ' := getM (appU (frzU (getM s.mem) (idsF nw (rids.ridsL xs))) s.mem)) (fun r hr' => fz.at' r (hr r hr')) hv
        have := viewC_den (sees_all _) fz.m (Z := Forb X (outM c) ρ') (fun b _ hb hb' => hb (hf b hb')) (fun hl => by rw [a2] at hl; cases hl) a1 (fz.t.den (fun _ h => by cases h) hd)
        exact this.env fun r => .inr (.inr (by
          have hp : plainB y = true := by
            have := view_data (T := T) (μ := getM s.mem) (t := 0) (x := .agg [x]) (y := .agg [y]) (by simp [view, viewCs, hv])
            simpa [dataB, allPlain] using this
          exact plain_noref hp r))
      have part : ∀ {x y : SV} {v : Value}, (∀ r ∈ rids x, r ∈ rids.ridsL xs) → fin1 nw s.mem x = some y → Den w (Forb X s.mem ρ) ρ x v → Den w (Forb X (outM c) ρ') ρ' y v := by
        intro x y v hr hv hd
        cases x with
        | row r =>
          simp only [fin1] at hv
          split at hv
          · rename_i hc
            simp only [Bool.and_eq_true, nbeq] at hc
            injection hv with hv; subst hv
            obtain ⟨_, rfl⟩ := hc
            exact (lift hd).env fun r => (env r).imp id .inl
          · rename_i hc
            simp only [Bool.and_eq_true, nbeq] at hc
            exact view1 (fun k hk => idsF_mem.2 ⟨hr k hk, by simp [rids] at hk; subst hk; exact hc⟩) hv hd
        | rsl r sh a n c =>
          simp only [fin1] at hv
          split at hv
          · cases hv
          · rename_i hc
            simp only [Bool.and_eq_true, nbeq] at hc
            exact view1 (fun k hk => idsF_mem.2 ⟨hr k hk, by simp [rids] at hk; subst hk; exact hc⟩) hv hd
        | ptr r o =>
          simp only [fin1] at hv
          split at hv
          · rename_i hc
            simp only [Bool.and_eq_true, nbeq] at hc
            injection hv with hv; subst hv
            obtain ⟨⟨_, rfl⟩, rfl⟩ := hc
            exact (lift hd).env fun r => (env r).imp id .inl
          · cases hv
        | agg l => simp [fin1, viewC, plainB] at hv
        | tup l => simp [fin1, viewC, plainB] at hv
        | _ => exact view1 (fun k hk => by simp [rids] at hk) (by simpa only [fin1] using hv) hd
      have parts : ∀ {l l' : List SV} {vs : List Value}, (∀ r ∈ rids.ridsL l, r ∈ rids.ridsL xs) → fin1s nw s.mem l = some l' → DenL w (Forb X s.mem ρ) ρ l vs → DenL w (Forb X (outM c) ρ') ρ' l' vs := by
        intro l
        induction l with
        | nil => intro l' vs _ hv hd; simp only [fin1s] at hv; injection hv with hv; subst hv; exact ⟨hd.1, fun i x u h => by simp at h⟩
        | cons x l ih =>
          intro l' vs hr hv hd
          simp only [fin1s] at hv
          cases h1 : fin1 nw s.mem x with
          | none => rw [h1] at hv; cases hv
          | some y =>
            cases h2 : fin1s nw s.mem l with
            | none => rw [h1, h2] at hv; cases hv
            | some ys' =>
              rw [h1, h2] at hv
              injection hv with hv; subst hv
              cases vs with
              | nil => have := hd.1; simp at this
              | cons v vs =>
                have ih := ih (fun r hr' => hr r (by simp [rids.ridsL, hr'])) h2 ⟨by have := hd.1; simpa using this, fun i x u hx hu => hd.2 (i + 1) x u hx hu⟩
                refine ⟨by simp [ih.1], fun i x' u hx' hu' => ?_⟩
                cases i with
                | zero => simp at hx' hu'; subst hx'; subst hu'; exact part (fun r hr' => hr r (by simp [rids.ridsL, hr'])) h1 (hd.2 0 _ _ rfl rfl)
                | succ i => exact ih.2 i x' u (by simpa using hx') (by simpa using hu')
      have whole : ∀ {t : Nat} {x y : SV} {v : Value}, (∀ r ∈ rids x, r ∈ rids.ridsL xs) → finV T nw s.mem t x = some y → Den w (Forb X s.mem ρ) ρ x v → Den w (Forb X (outM c) ρ') ρ' y v := by
        intro t x y v hr hv hd
        cases x with
        | agg l =>
          simp only [finV] at hv
          cases h1 : fin1s nw s.mem l with
          | none => rw [h1] at hv; cases hv
          | some l' =>
            rw [h1] at hv
            injection hv with hv; subst hv
            obtain ⟨cs, rfl, hd2⟩ := Den.agg_iff.1 hd
            exact Den.agg_iff.2 ⟨cs, rfl, parts hr h1 hd2⟩
        | _ =>
          simp only [finV] at hv
          split at hv
          · rename_i y' h1
            injection hv with hv; subst hv
            exact normNil_den (part hr h1 hd)
          · cases hv
      have all : ∀ {ts : List Nat} {l l' : List SV} {vs : List Value}, (∀ r ∈ rids.ridsL l, r ∈ rids.ridsL xs) → finL T nw s.mem ts l = some l' → DenL w (Forb X s.mem ρ) ρ l vs → DenL w (Forb X (outM c) ρ') ρ' l' vs := by
        intro ts
        induction ts with
        | nil =>
          intro l l' vs _ hv hd
          cases l with
          | nil => simp only [finL] at hv; injection hv with hv; subst hv; exact ⟨hd.1, fun i x u h => by simp at h⟩
          | cons => simp [finL] at hv
        | cons t ts ih =>
          intro l l' vs hr hv hd
          cases l with
          | nil => simp [finL] at hv
          | cons x l =>
            simp only [finL] at hv
            cases h1 : finV T nw s.mem t x with
            | none => rw [h1] at hv; cases hv
            | some y =>
              cases h2 : finL T nw s.mem ts l with
              | none => rw [h1, h2] at hv; cases hv
              | some ys' =>
                rw [h1, h2] at hv
                injection hv with hv; subst hv
                cases vs with
                | nil => have := hd.1; simp at this
                | cons v vs =>
                  have ih := ih (fun r hr' => hr r (by simp [rids.ridsL, hr'])) h2 ⟨by have := hd.1; simpa using this, fun i x u hx hu => hd.2 (i + 1) x u hx hu⟩
                  refine ⟨by simp [ih.1], fun i x' u hx' hu' => ?_⟩
                  cases i with
                  | zero => simp at hx' hu'; subst hx'; subst hu'; exact whole (fun r hr' => hr r (by simp [rids.ridsL, hr'])) h1 (hd.2 0 _ _ rfl rfl)
                  | succ i => exact ih.2 i x' u (by simpa using hx') (by simpa using hu')
      have hdy := all (fun r hr => hr) hy hd
      have hm : (fn.results.mapM (resSem a)).run P w = .ok us.toArray w := by
        rw [Array.mapM_eq_mapM_toList, Sem.run_map, hr]
        rfl
      have hres : (results fn a.tmps).run P w = .ok (if h : us.toArray.size = 1 then us.toArray[0] else .tuple us.toArray) w := by
        unfold results
        rw [Sem.run_bind]
        refine (congrArg (fun r => Result.andThen r _) hm).trans ?_
        rfl
      refine ⟨_, ρ', hres, m', ?_, fun u hz hl => ?_, fun hl => ?_⟩
      · rw [← q1]
        by_cases h1 : us.length = 1
        · obtain ⟨u, rfl⟩ := List.length_eq_one_iff.1 h1
          have hxl : ys.length = 1 := by rw [hdy.1]; rfl
          obtain ⟨x, rfl⟩ := List.length_eq_one_iff.1 hxl
          simp only [packR]
          have := hdy.2 0 x u rfl rfl
          simpa using this
        · have hp : packR ys = .tup ys := by
            have : ys.length ≠ 1 := by rw [hdy.1]; exact h1
            match ys, this with
            | [], _ => rfl
            | [x], h => exact absurd rfl h
            | x :: y :: l, _ => rfl
          rw [hp, dif_neg (by simpa using h1)]
          exact Den.tup_iff.2 ⟨us, rfl, hdy⟩
      · cases hl' : c.lent with
        | none => rw [hl'] at hl; cases hl
        | some p =>
          obtain ⟨t, x⟩ := p
          rw [hl'] at q3
          simp only [lentE, lentB'] at q3
          have h0 : ρ 0 = some u := h.anch u hz (by rw [q3]; simp)
          rw [← hρ]
          simp only [getM_out, if_true, hl', lentB']
          exact h0
      · rw [← hρ]
        simp only [getM_out, if_true, hl, lentB']

def start (n : Nat) (c : CT) : St := ⟨c.args ++ List.replicate (n - c.args.length) .any, inM c⟩

theorem contract (tab : Tab P T) (hG : ∀ f c, G f c → ACall P T f c) (hmix : P.follows .mixedOrders = true) {f : FuncId} {fn : Func} {c : Code} {ct : CT} (hf : P.funcs[f]? = some fn) (hb : fn.body = some c)
    (hn : (fn.name == "runtime.NumGoroutine") = false) (hok : codeOk c = true) (hni : isSeq ct = false) (hnl : isLR ct = false)
    (h : swp T G c (start fn.ntmps ct) ⟨fun s => retQ T fn.resultTypes.toList fn.results.toList s ct, fun s => retQ T fn.resultTypes.toList fn.results.toList s ct, fun _ _ => False⟩) : ACall P T f ct := by
  refine ⟨⟨fn, hf, by rw [hb]; rfl, hn⟩, (fun hs => by rw [hni] at hs; cases hs), (fun sh e l az k hc => by rw [hc] at hnl; cases hnl), fun _ _ N w X ρ vs m hd => ?_⟩
  refine (callsIn_wide (n := 1)).1 (callsIn_of_wp_marks hf hb trivial ?_)
  have hrep : Rep T N w X ⟨ρ 0, fun _ => none, none, false⟩ (start fn.ntmps ct) { tmps := ⟨vs⟩ ++ Array.replicate (fn.ntmps - (⟨vs⟩ : Array Value).size) undef, defers := [] } w ρ := by
    refine ⟨m, .nil _ _ _, ?_, fun t => ?_, fun v hv _ => hv, (fun _ _ h => by cases h), (fun _ h => by cases h), (fun h => by cases h)⟩
    · simp only [start, Array.size_append, List.size_toArray, Array.size_replicate, List.length_append, List.length_replicate, hd.1]
    · simp only [start]
      rw [getN_eq]
      by_cases ht : t < ct.args.length
      · have ht' : t < vs.length := by rw [← hd.1]; exact ht
        rw [List.getElem?_append_left ht, List.getElem?_eq_getElem ht]
        have : ((⟨vs⟩ : Array Value) ++ Array.replicate (fn.ntmps - (⟨vs⟩ : Array Value).size) undef).getD t undef = vs[t] := by
          simp [Array.getElem?_append, ht']
        rw [this]
        exact hd.2 t _ _ (List.getElem?_eq_getElem ht) (List.getElem?_eq_getElem ht')
      · rw [List.getElem?_append_right (by omega), List.getElem?_replicate]
        split <;> exact .any _ _
  have fin0 : ∀ (s : St) (a : Act) (w' : World) (ρ1 : Env), retQ T fn.resultTypes.toList fn.results.toList s ct → Rep T N w X ⟨ρ 0, fun _ => none, none, false⟩ s a w' ρ1 →
      ∃ v, (results fn a.tmps).run P w' = .ok v w' ∧ ∃ v' ρ', Ending.returned v = .returned v' ∧ MRep T N w w' X (outM ct) ρ' ∧ ρ' 0 = ρ 0 ∧ Den w' (Forb X (outM ct) ρ') ρ' ct.r v' := by
    intro s a w' ρ1 hq hr
    obtain ⟨ρ2, hr2⟩ := (endS_sub (T := T) fn.results.toList (isNew ct.new) s).h _ _ _ _ _ _ _ hr
    obtain ⟨v, ρ', h1, h2, h3, h4, h5⟩ := ret_ok tab hr2 rfl hq
    refine ⟨v, h1, v, ρ', rfl, h2, ?_, h3⟩
    have hm0 := m.some0 0
    rw [getM_in, if_pos rfl] at hm0
    cases hl : ct.lent with
    | none =>
      rw [h5 hl, hm0.1 (by rw [hl]; rfl)]
    | some p =>
      cases h0 : ρ 0 with
      | none => have := hm0.2 h0; rw [hl] at this; cases this
      | some u => exact h4 u h0 (by rw [hl]; rfl)
  have fin1 : ∀ (Ds : List Nat) (s : St) (a : Act) (w' : World) (ρ1 : Env), retQ T fn.resultTypes.toList fn.results.toList s ct → Rep T N w X ⟨ρ 0, fun _ => none, none, false⟩ s a w' ρ1 → a.defers = Ds.map (fun D => { target := .collected D, args := #[] }) → Ds.Nodup →
      (∀ D ∈ Ds, N D ∧ ¬ Forb X s.mem ρ1 D ∧ w'.heap[D]? = some (.deferred (some []))) →
      LeavesInM Fence.wide 1 P fn a.tmps (fun e w' => ∃ v' ρ', e = .returned v' ∧ MRep T N w w' X (outM ct) ρ' ∧ ρ' 0 = ρ 0 ∧ Den w' (Forb X (outM ct) ρ') ρ' ct.r v') a.defers .returning w' := by
    intro Ds
    induction Ds with
    | nil =>
      intro s a w' ρ1 hq hr hd _ _
      rw [hd]
      exact fin0 s a w' ρ1 hq hr
    | cons D Ds ih =>
      intro s a w' ρ1 hq hr hd hnd hk
      rw [hd]
      obtain ⟨k1, k2, k3⟩ := hk D (by simp)
      have hne : ∀ q ∈ Ds, q ≠ D := by rintro q hq rfl; exact (List.nodup_cons.1 hnd).1 hq
      have hk2 : ∀ q ∈ Ds, N q ∧ ¬ Forb X s.mem ρ1 q ∧ (w'.putObj D (.deferred none)).heap[q]? = some (.deferred (some [])) := fun q hq => by
        obtain ⟨g1, g2, g3⟩ := hk q (by simp [hq])
        exact ⟨g1, g2, (World.putObj_heap_other (hne q hq)).trans g3⟩
      have hr2 := hr.putObj k3 rfl k1 k2 (.deferred none) (ds := Ds.map (fun D => { target := .collected D, args := #[] })) ⟨Ds, rfl, (List.nodup_cons.1 hnd).2, hk2⟩ (fun h => by cases h)
      exact ⟨by simp, .inl ⟨D, _, rfl, run_takeDeferred k3, ih s _ _ ρ1 hq hr2 rfl (List.nodup_cons.1 hnd).2 hk2⟩⟩
  have fin : ∀ (s : St) (a : Act) (w' : World) (ρ1 : Env), retQ T fn.resultTypes.toList fn.results.toList s ct → Rep T N w X ⟨ρ 0, fun _ => none, none, false⟩ s a w' ρ1 →
      LeavesInM Fence.wide 1 P fn a.tmps (fun e w' => ∃ v' ρ', e = .returned v' ∧ MRep T N w w' X (outM ct) ρ' ∧ ρ' 0 = ρ 0 ∧ Den w' (Forb X (outM ct) ρ') ρ' ct.r v') a.defers .returning w' := by
    intro s a w' ρ1 hq hr
    obtain ⟨Ds, h1, h2, h3⟩ := hr.defers.h
    exact fin1 Ds s a w' ρ1 hq hr h1 h2 h3
  exact swp_sound tab hG hmix c N w X _ _ _ _ _ w ρ hok h hrep (fun s a w' ρ1 hq hr => fin s a w' ρ1 hq hr) (fun s a w' ρ1 hq hr => fin s a w' ρ1 hq hr) (fun i s a w' ρ hq => hq.elim) (fun _ _ => rfl) none 1 (.inl ⟨rfl, rfl⟩)

def startL (n : Nat) (sh : Option Nat) (e : Nat) (l az : List SV) : St := ⟨.row 0 :: az ++ List.replicate (n - (az.length + 1)) .any, [(0, .row sh e l)]⟩
structure FinL (sh : Option Nat) (e n : Nat) (l' k : List SV) : Prop where
  n : n = k.length
  l : l'.take k.length = k
def retL (T : Nat → Option TI) (vs : List ResultVar) (sh : Option Nat) (e : Nat) (k : List SV) (s : St) : Prop :=
  match resL T s vs with
  | some [.rsl 0 sh' 0 n none] => (match getM s.mem 0 with
    | .row sh'' e' l' => if shEq sh' sh && shEq sh'' sh && Nat.beq e' e then FinL sh e n l' k else False
    | _ => False)
  | _ => False
theorem contractL (tab : Tab P T) (hG : ∀ f c, G f c → ACall P T f c) (hmix : P.follows .mixedOrders = true) {f : FuncId} {fn : Func} {c : Code} {sh : Option Nat} {e : Nat} {l az k : List SV} (hf : P.funcs[f]? = some fn) (hb : fn.body = some c)
    (hn : (fn.name == "runtime.NumGoroutine") = false) (hok : codeOk c = true)
    (h : swp T G c (startL fn.ntmps sh e l az) ⟨fun s => retL T fn.results.toList sh e k s, fun s => retL T fn.results.toList sh e k s, fun _ _ => False⟩) : ACall P T f (lrC sh e l az k) := by
  refine ⟨⟨fn, hf, by rw [hb]; rfl, hn⟩, (fun hs => by cases hs), (fun sh1 e1 l1 as1 k1 hc => ?_), fun _ hs => by cases hs⟩
  have hc1 := congrArg CT.args hc
  have hc2 := congrArg CT.lent hc
  have hc3 := congrArg CT.lent' hc
  simp only [lrC] at hc1 hc2 hc3
  injection hc1 with _ hc1
  injection hc2 with hc2
  injection hc2 with hc2 hc4
  injection hc4 with hc4 hc5
  injection hc3 with _ hc3
  subst hc1; subst hc2; subst hc3; subst hc4; subst hc5
  intro N w X ρ vs m hd
  refine (callsIn_wide (n := 1)).1 (callsIn_of_wp_marks hf hb trivial ?_)
  have hrep : Rep T N w X ⟨ρ 0, fun _ => none, none, false⟩ (startL fn.ntmps sh e l az) { tmps := ⟨vs⟩ ++ Array.replicate (fn.ntmps - (⟨vs⟩ : Array Value).size) undef, defers := [] } w ρ := by
    refine ⟨m, .nil _ _ _, ?_, fun t => ?_, fun v hv _ => hv, (fun _ _ h => by cases h), (fun _ h => by cases h), (fun h => by cases h)⟩
    · simp only [startL, Array.size_append, List.size_toArray, Array.size_replicate, List.length_append, List.length_replicate, ← hd.1, List.length_cons]
    · simp only [startL]
      rw [getN_eq]
      by_cases ht : t < (SV.row 0 :: az).length
      · have ht' : t < vs.length := by rw [← hd.1]; exact ht
        rw [List.getElem?_append_left ht, List.getElem?_eq_getElem ht]
        have : ((⟨vs⟩ : Array Value) ++ Array.replicate (fn.ntmps - (⟨vs⟩ : Array Value).size) undef).getD t undef = vs[t] := by
          simp [Array.getElem?_append, ht']
        rw [this]
        exact hd.2 t _ _ (List.getElem?_eq_getElem ht) (List.getElem?_eq_getElem ht')
      · rw [List.getElem?_append_right (by omega), List.getElem?_replicate]
        split <;> exact .any _ _
  have fin0 : ∀ (s : St) (a : Act) (w' : World) (ρ1 : Env), retL T fn.results.toList sh e k s → Rep T N w X ⟨ρ 0, fun _ => none, none, false⟩ s a w' ρ1 →
      ∃ v, (results fn a.tmps).run P w' = .ok v w' ∧ ∃ v' l' ρ', Ending.returned v = .returned v' ∧ MRep T N w w' X [(0, .row sh e l')] ρ' ∧ ρ' 0 = ρ 0 ∧ l'.take k.length = k ∧ Den w' (Forb X [(0, .row sh e l')] ρ') ρ' (.rsl 0 sh 0 k.length none) v' := by
    intro s a w' ρ1 hq hr
    unfold retL at hq
    split at hq <;> try exact hq.elim
    rename_i sh' n hx
    split at hq <;> try exact hq.elim
    rename_i sh'' e' l' hmem
    split at hq <;> try exact hq.elim
    rename_i hck
    simp only [Bool.and_eq_true] at hck
    have h1 := shEq_eq hck.1.1
    have h2 := shEq_eq hck.1.2
    have h3 := Nat.eq_of_beq_eq_true hck.2
    subst h1; subst h2; subst h3
    obtain ⟨q1, q2⟩ := hq
    subst q1
    obtain ⟨us, hr', hd'⟩ := resL_ok tab hr _ _ hx
    have hul : us.length = 1 := by rw [← hd'.1]; rfl
    obtain ⟨u, rfl⟩ := List.length_eq_one_iff.1 hul
    have hm : (fn.results.mapM (resSem a)).run P w' = .ok #[u] w' := by
      rw [Array.mapM_eq_mapM_toList, Sem.run_map, hr']
      rfl
    have hres : (results fn a.tmps).run P w' = .ok u w' := by
      unfold results
      rw [Sem.run_bind]
      refine (congrArg (fun r => Result.andThen r _) hm).trans ?_
      rfl
    obtain ⟨m', env, hf'⟩ := hr.m.drop (mem' := [(0, .row sh'' e' l')]) (fun r => by
      simp only [getM]
      split
      · rename_i h0
        have h0 := Nat.eq_of_beq_eq_true h0
        subst h0
        exact .inr hmem.symm
      · exact .inl rfl)
    refine ⟨u, hres, u, l', _, rfl, m', ?_, q2, ?_⟩
    · have h0 := hr.m.some0 0
      cases hρ : ρ 0 with
      | none =>
        have := (m.some0 0).2 hρ
        cases this
      | some v0 =>
        have := hr.anch v0 hρ (by rw [hmem]; simp)
        rw [← this]
        rfl
    · exact ((hd'.2 0 _ _ rfl rfl).mono (Nat.le_refl _) fun b _ hb => ⟨fun hb' => hb (hf' b hb'), rfl⟩).env fun r => (env r).imp id .inl
  have fin1 : ∀ (Ds : List Nat) (s : St) (a : Act) (w' : World) (ρ1 : Env), retL T fn.results.toList sh e k s → Rep T N w X ⟨ρ 0, fun _ => none, none, false⟩ s a w' ρ1 → a.defers = Ds.map (fun D => { target := .collected D, args := #[] }) → Ds.Nodup →
      (∀ D ∈ Ds, N D ∧ ¬ Forb X s.mem ρ1 D ∧ w'.heap[D]? = some (.deferred (some []))) →
      LeavesInM Fence.wide 1 P fn a.tmps (fun en w' => ∃ v' l' ρ', en = .returned v' ∧ MRep T N w w' X [(0, .row sh e l')] ρ' ∧ ρ' 0 = ρ 0 ∧ l'.take k.length = k ∧ Den w' (Forb X [(0, .row sh e l')] ρ') ρ' (.rsl 0 sh 0 k.length none) v') a.defers .returning w' := by
    intro Ds
    induction Ds with
    | nil =>
      intro s a w' ρ1 hq hr hd _ _
      rw [hd]
      exact fin0 s a w' ρ1 hq hr
    | cons D Ds ih =>
      intro s a w' ρ1 hq hr hd hnd hk
      rw [hd]
      obtain ⟨k1, k2, k3⟩ := hk D (by simp)
      have hne : ∀ q ∈ Ds, q ≠ D := by rintro q hq rfl; exact (List.nodup_cons.1 hnd).1 hq
      have hk2 : ∀ q ∈ Ds, N q ∧ ¬ Forb X s.mem ρ1 q ∧ (w'.putObj D (.deferred none)).heap[q]? = some (.deferred (some [])) := fun q hq => by
        obtain ⟨g1, g2, g3⟩ := hk q (by simp [hq])
        exact ⟨g1, g2, (World.putObj_heap_other (hne q hq)).trans g3⟩
      have hr2 := hr.putObj k3 rfl k1 k2 (.deferred none) (ds := Ds.map (fun D => { target := .collected D, args := #[] })) ⟨Ds, rfl, (List.nodup_cons.1 hnd).2, hk2⟩ (fun h => by cases h)
      exact ⟨by simp, .inl ⟨D, _, rfl, run_takeDeferred k3, ih s _ _ ρ1 hq hr2 rfl (List.nodup_cons.1 hnd).2 hk2⟩⟩
  have fin : ∀ (s : St) (a : Act) (w' : World) (ρ1 : Env), retL T fn.results.toList sh e k s → Rep T N w X ⟨ρ 0, fun _ => none, none, false⟩ s a w' ρ1 →
      LeavesInM Fence.wide 1 P fn a.tmps (fun en w' => ∃ v' l' ρ', en = .returned v' ∧ MRep T N w w' X [(0, .row sh e l')] ρ' ∧ ρ' 0 = ρ 0 ∧ l'.take k.length = k ∧ Den w' (Forb X [(0, .row sh e l')] ρ') ρ' (.rsl 0 sh 0 k.length none) v') a.defers .returning w' := by
    intro s a w' ρ1 hq hr
    obtain ⟨Ds, h1, h2, h3⟩ := hr.defers.h
    exact fin1 Ds s a w' ρ1 hq hr h1 h2 h3
  exact swp_sound tab hG hmix c N w X _ _ _ _ _ w ρ hok h hrep (fun s a w' ρ1 hq hr => fin s a w' ρ1 hq hr) (fun s a w' ρ1 hq hr => fin s a w' ρ1 hq hr) (fun i s a w' ρ hq => hq.elim) (fun _ _ => rfl) none 1 (.inl ⟨rfl, rfl⟩)

def putNs : List (Nat × SV) → List SV → List SV
  | [], l => l
  | (d, x) :: ds, l => putNs ds (setN x l d)
def killM (D : List Nat) : Mem → Mem
  | [] => []
  | (k, b) :: m => (match b with
    | .no => killM D m
    | b => if memB k D then killM D m else (k, b) :: killM D m)
def putMs : List (Nat × Blk) → Mem → Mem
  | [], m => m
  | (d, x) :: ds, m => putMs ds (setM x m d)
def loopSt (c : Code) (s : St) (u : List (Nat × SV)) (v : List (Nat × Blk)) : St :=
  ⟨putNs u (killN (assignedC c) s.slots), putMs v (killM (assignedC c) s.mem)⟩
def nilL : List SV → List SV → List SV
  | .lst sh _ :: ys, .nil :: xs => .lst sh [] :: nilL ys xs
  | _ :: ys, x :: xs => x :: nilL ys xs
  | _, xs => xs
def nilH : List SV → List SV → Bool
  | .lst _ _ :: _, .nil :: _ => true
  | _ :: ys, _ :: xs => nilH ys xs
  | _, _ => false
def fitN (k : Nat) (b : Blk) (s : St) : St :=
  match b, getM s.mem k with
  | .chunk _ (.agg ys), .chunk t (.agg xs) => if nilH ys xs then ⟨s.slots, setM (.chunk t (.agg (nilL ys xs))) s.mem k⟩ else s
  | _, _ => s
theorem nilL_den {w : World} {Y : Nat → Prop} {ρ : Env} : ∀ (ys xs : List SV) (us : List Value), DenL w Y ρ xs us → DenL w Y ρ (nilL ys xs) us
  | [], xs, us, h => by unfold nilL; exact h
  | y :: ys, [], us, h => by cases y <;> exact h
  | y :: ys, x :: xs, [], h => by have := h.1; simp at this
  | y :: ys, x :: xs, u :: us, h => by
    have ih := nilL_den ys xs us ⟨by have := h.1; simpa using this, fun i x u hx hu => h.2 (i + 1) x u hx hu⟩
    have cons : ∀ x', Den w Y ρ x' u → DenL w Y ρ (x' :: nilL ys xs) (u :: us) := fun x' hx' => ⟨by simp [ih.1], fun i z v hz hv => by
      cases i with
      | zero => simp at hz hv; subst hz; subst hv; exact hx'
      | succ i => exact ih.2 i z v (by simpa using hz) (by simpa using hv)⟩
    have h0 := h.2 0 x u rfl rfl
    have keep : DenL w Y ρ (x :: nilL ys xs) (u :: us) := cons x h0
    cases y with
    | lst sh l =>
      cases x with
      | nil =>
        refine cons _ ?_
        generalize u = v at h0
        cases h0
        exact .lst0 _ _ _ _
      | _ => exact keep
    | _ => exact keep
theorem MRep.weakC {N : Nat → Prop} {w0 w : World} {X : Nat → Prop} {mem : Mem} {ρ : Env} (m : MRep T N w0 w X mem ρ) {k t : Nat} {xs xs' : List SV} (hk : getM mem k = .chunk t (.agg xs)) (hw : ∀ (us : List Value), DenL w (Forb X mem ρ) ρ xs us → DenL w (Forb X mem ρ) ρ xs' us) :
    MRep T N w0 w X (setM (.chunk t (.agg xs')) mem k) ρ ∧ Forb X (setM (.chunk t (.agg xs')) mem k) ρ = Forb X mem ρ := by
  have ho : ∀ r, (getM (setM (.chunk t (.agg xs')) mem k) r).own = (getM mem r).own := fun r => by
    rw [getM_setM]
    by_cases h : r = k
    · subst h; rw [if_pos rfl, hk]; rfl
    · rw [if_neg h]
  have hF : Forb X (setM (.chunk t (.agg xs')) mem k) ρ = Forb X mem ρ := by
    funext b
    simp only [Forb, owned, ho]
  refine ⟨⟨m.low, m.below, m.szN, fun r => ?_, fun r r' v v' b g1 g2 => ?_, ?_⟩, hF⟩
  · rw [hF, getM_setM]
    by_cases h : r = k
    · subst h
      rw [if_pos rfl]
      have hb := m.blk r
      rw [hk] at hb
      obtain ⟨i, b, us, ty, h1, h2, h3, h4, h5, h6, h7⟩ := hb
      refine ⟨i, b, us, ty, h1, h2, h3, h4, h5, h6, ?_⟩
      obtain ⟨cs, hv, hc⟩ := Den.agg_iff.1 h7
      exact Den.agg_iff.2 ⟨cs, hv, hw _ hc⟩
    · rw [if_neg h]; exact m.blk r
  · rw [ho] at g1 g2
    exact m.inj r r' v v' b g1 g2
  · rw [hF]; exact m.gl
theorem fitN_sub (k : Nat) (b : Blk) (s : St) : Sub T s (fitN k b s) := ⟨fun N w0 X z a w ρ hr => by
  unfold fitN
  split
  case h_2 => exact ⟨ρ, hr⟩
  rename_i ys t xs hk
  split
  case isFalse => exact ⟨ρ, hr⟩
  obtain ⟨m', hF⟩ := hr.m.weakC hk (xs' := nilL ys xs) (fun us => nilL_den ys xs us)
  refine ⟨ρ, ⟨m', by rw [hF]; exact hr.defers, hr.size, fun t => by rw [hF]; exact hr.slot t, anch_turn hr.m m' hr.anch (.inr rfl), hr.fix, hr.len, hr.nod⟩⟩⟩
def nilT (t : Nat) (sh : Option Nat) (s : St) : St :=
  match getN .any s.slots t with
  | .nil => if Nat.blt t s.slots.length then ⟨setN (.lst sh []) s.slots t, s.mem⟩ else s
  | _ => s
theorem nilT_sub (t : Nat) (sh : Option Nat) (s : St) : Sub T s (nilT t sh s) := ⟨fun N w0 X z a w ρ hr => by
  unfold nilT
  split
  case h_2 => exact ⟨ρ, hr⟩
  rename_i ht
  split
  case isFalse => exact ⟨ρ, hr⟩
  rename_i hc
  simp only [Nat.blt_eq] at hc
  refine ⟨ρ, ⟨hr.m, hr.defers, by rw [hr.size]; simp [setN_length], fun k => ?_, hr.anch, hr.fix, hr.len, hr.nod⟩⟩
  simp only
  rw [getN_setN _ _ _ _ _ hc]
  by_cases hk : k = t
  · subst hk
    rw [if_pos rfl]
    have := hr.slot k
    rw [ht] at this
    generalize a.tmps.getD k undef = v at this
    cases this
    exact .lst0 _ _ _ _
  · rw [if_neg hk]
    exact hr.slot k⟩
noncomputable def fit1 (v : List (Nat × Blk)) (t : Nat) (y : SV) (s : St) : St :=
  match y, getN .any s.slots t with
  | .row q, .row p => if Nat.beq p q || Nat.beq p 0 || Nat.beq q 0 then s else swS p q s
  | .ptr q _, .ptr p _ => if Nat.beq p q || Nat.beq p 0 || Nat.beq q 0 then s else swS p q s
  | .row q, .nil => (match getM v q with | .row sh e _ => adopt t q sh e s | _ => s)
  | .rsl q _ _ _ _, .row p => asRsl t (if Nat.beq p q || Nat.beq p 0 || Nat.beq q 0 then s else swS p q s)
  | .rsl q _ _ _ _, .rsl p _ _ _ _ => if Nat.beq p q || Nat.beq p 0 || Nat.beq q 0 then s else swS p q s
  | .lst sh _, .nil => nilT t sh s
  | _, _ => s
noncomputable def fitU (v : List (Nat × Blk)) : List (Nat × SV) → St → St
  | [], s => s
  | (t, y) :: u, s => fitU v u (fit1 v t y s)
def sw1 (y x : SV) (s : St) : St :=
  match y, x with
  | .row q, .row p => if Nat.beq p q || Nat.beq p 0 || Nat.beq q 0 then s else swS p q s
  | _, _ => s
def fit2 : List SV → List SV → St → St
  | y :: ys, x :: xs, s => fit2 ys xs (sw1 y x s)
  | [], _, s => s
  | _ :: _, [], s => s
noncomputable def fitB (k : Nat) (b : Blk) (s : St) : St :=
  match b, getM s.mem k with
  | .chunk _ (.agg ys), .chunk _ (.agg xs) => fit2 ys xs s
  | .row _ _ _, .rowx _ _ _ _ => unXs k s
  | .rowx _ _ _ y, .rowx _ _ _ x => sw1 y x s
  | _, _ => s
noncomputable def fitM : List (Nat × Blk) → St → St
  | [], s => s
  | (k, b) :: v, s => fitM v (fitN k b (fitB k b s))
noncomputable def fitS (u : List (Nat × SV)) (v : List (Nat × Blk)) (s : St) : St := fitM v (fitU v u s)
theorem swS_sub' (p q : Nat) (s : St) : Sub T s (if Nat.beq p q || Nat.beq p 0 || Nat.beq q 0 then s else swS p q s) := by
  split
  · exact .refl s
  · rename_i h
    simp only [Bool.or_eq_true, nbeq, not_or] at h
    exact swS_sub p q s h.1.2 h.2
theorem fit1_sub (v : List (Nat × Blk)) (t : Nat) (y : SV) (s : St) : Sub T s (fit1 v t y s) := by
  unfold fit1
  split
  · exact swS_sub' _ _ s
  · exact swS_sub' _ _ s
  · split
    · exact adopt_sub _ _ _ _ s
    · exact .refl s
  · exact (swS_sub' _ _ s).trans (asRsl_sub _ _)
  · exact swS_sub' _ _ s
  · exact nilT_sub _ _ s
  · exact .refl s
theorem fitU_sub (v : List (Nat × Blk)) : ∀ (u : List (Nat × SV)) (s : St), Sub T s (fitU v u s)
  | [], s => .refl s
  | (t, y) :: u, s => (fit1_sub v t y s).trans (fitU_sub v u _)
theorem sw1_sub (y x : SV) (s : St) : Sub T s (sw1 y x s) := by
  unfold sw1
  split
  · exact swS_sub' _ _ s
  · exact .refl s
theorem fit2_sub : ∀ (ys xs : List SV) (s : St), Sub T s (fit2 ys xs s)
  | [], xs, s => by simp only [fit2]; exact .refl s
  | y :: ys, [], s => by simp only [fit2]; exact .refl s
  | y :: ys, x :: xs, s => by
    simp only [fit2]
    exact (sw1_sub y x s).trans (fit2_sub ys xs _)
theorem fitB_sub (k : Nat) (b : Blk) (s : St) : Sub T s (fitB k b s) := by
  unfold fitB
  split
  · exact fit2_sub _ _ s
  · exact unXs_sub k s
  · exact sw1_sub _ _ s
  · exact .refl s
theorem fitM_sub : ∀ (v : List (Nat × Blk)) (s : St), Sub T s (fitM v s)
  | [], s => .refl s
  | (k, b) :: v, s => ((fitB_sub k b s).trans (fitN_sub k b _)).trans (fitM_sub v _)
theorem fitS_sub (u : List (Nat × SV)) (v : List (Nat × Blk)) (s : St) : Sub T s (fitS u v s) := (fitU_sub v u s).trans (fitM_sub v _)

theorem loopQ {c : Code} {s : St} {K : Ks} {A : Type} (I : A → Prop) (μ : A → Nat) (u : A → List (Nat × SV)) (v : A → List (Nat × Blk)) (i0 : A) (h0 : I i0)
    (hs : WeakSt (fitS (u i0) (v i0) s) (loopSt c (fitS (u i0) (v i0) s) (u i0) (v i0)))
    (hr : ∀ i, I i → swp T G c (loopSt c (fitS (u i0) (v i0) s) (u i) (v i)) ⟨fun s' => ∃ j, I j ∧ μ j < μ i ∧ WeakSt (fitS (u j) (v j) s') (loopSt c (fitS (u i0) (v i0) s) (u j) (v j)), K.r, K.e⟩) : LoopQ T (fun s K => swp T G c s K) s K := by
  exact ⟨⟨A, I, μ, fun i => loopSt c (fitS (u i0) (v i0) s) (u i) (v i), fun i s s' => WeakSt (fitS (u i) (v i) s) s', fun i s s' h => (fitS_sub (u i) (v i) s).trans (weak_sub h), ⟨i0, h0, hs⟩, hr⟩⟩
def rangeSt (asg : List Nat) (s : St) (u : List (Nat × SV)) (v : List (Nat × Blk)) : St := ⟨putNs u (killN asg s.slots), putMs v (killM asg s.mem)⟩
theorem rangeQ {FA FB : St → Ks → Prop} {asg ps : List Nat} {f : Nat} {caps : List SV} {s : St} {K : Ks} (xs : List (List SV)) (hg : G f (seqC caps xs)) (hx : ∀ x ∈ xs, x.length = ps.length ∧ datas x = true) {A : Type} (I : A → Prop) (pos : A → Nat) (u : A → List (Nat × SV)) (v : A → List (Nat × Blk)) (i0 : A) (h0 : I i0 ∧ pos i0 = 0)
    (hs : WeakSt (fitS (u i0) (v i0) (kill asg s)) (rangeSt asg (fitS (u i0) (v i0) (kill asg s)) (u i0) (v i0)))
    (hr : ∀ i x, I i → xs[pos i]? = some x → FA ⟨putZ ps x (rangeSt asg (fitS (u i0) (v i0) (kill asg s)) (u i) (v i)).slots, (rangeSt asg (fitS (u i0) (v i0) (kill asg s)) (u i) (v i)).mem⟩
      ⟨fun s1 => FB s1 ⟨fun s' => ∃ j, I j ∧ pos j = pos i + 1 ∧ WeakSt (fitS (u j) (v j) (kill asg s')) (rangeSt asg (fitS (u i0) (v i0) (kill asg s)) (u j) (v j)), fun s' => K.r (kill asg s'), fun id s' => K.e id (kill asg s')⟩, fun _ => False, fun _ _ => False⟩)
    (hd : ∀ i, I i → pos i = xs.length → K.n (rangeSt asg (fitS (u i0) (v i0) (kill asg s)) (u i) (v i))) : RangeQ T G FA FB asg ps f caps s K :=
  ⟨⟨xs, hg, hx, A, I, pos, fun i => rangeSt asg (fitS (u i0) (v i0) (kill asg s)) (u i) (v i), fun i s s' => WeakSt (fitS (u i) (v i) s) s', fun i s s' h => (fitS_sub (u i) (v i) s).trans (weak_sub h), ⟨i0, h0.1, h0.2, hs⟩, hr, hd⟩⟩
end Go.Proofs.Ytapcbkcnokoljaa
namespace Go.Proofs.Ytapcbkcnokoljaa
set_option linter.unusedVariables false
set_option linter.unusedSimpArgs false
theorem map_ok : ∀ t m, mapT t = some m → MapOk Try.prog t m := fun t m h => by cases h
end Go.Proofs.Ytapcbkcnokoljaa
namespace Go.Proofs.Ytapcbkcnokoljaa
set_option linter.unusedVariables false
set_option linter.unusedSimpArgs false

def tinfo (t : Nat) : Option TI := match t with
  | 2 => some ⟨.int .i64, 1, 8, .int .i64 0⟩  -- int64
  | 3 => some ⟨.int .i64, 1, 8, .int .i64 0⟩  -- int
  | 4 => some ⟨.bool, 1, 1, .bool false⟩  -- bool
  | 5 => some ⟨.int .u8, 1, 1, .int .u8 0⟩  -- uint8
  | 9 => some ⟨.string, 1, 16, .str .empty⟩  -- string
  | 21 => some ⟨.int .i32, 1, 4, .int .i32 0⟩  -- int32
  | 22 => some ⟨.slice 5, 1, 24, .nil⟩  -- []uint8
  | 23 => some ⟨.int .u64, 1, 8, .int .u64 0⟩  -- uint64
  | 29 => some ⟨.int .u64, 1, 8, .int .u64 0⟩  -- uint
  | 32 => some ⟨.slice 3, 1, 24, .nil⟩  -- []int
  | 33 => some ⟨.struct [(0, 22), (1, 3)], 2, 32, .agg [.nil, .int .i64 0]⟩  -- struct { Bytes []uint8; Len int }
  | 34 => some ⟨.struct [(0, 22), (1, 3)], 2, 32, .agg [.nil, .int .i64 0]⟩  -- api.BitString
  | 40 => some ⟨.slice 9, 1, 24, .nil⟩  -- []string
  | 47 => some ⟨.slice 34, 1, 24, .nil⟩  -- []api.BitString
  | 58 => some ⟨.struct [(0, 32), (1, 3)], 2, 32, .agg [.nil, .int .i64 0]⟩  -- struct { l []int; at int }
  | 59 => some ⟨.struct [(0, 32), (1, 3)], 2, 32, .agg [.nil, .int .i64 0]⟩  -- multihopmade.Tape
  | 60 => some ⟨.array 5 5, 5, 5, .agg [.int .u8 0, .int .u8 0, .int .u8 0, .int .u8 0, .int .u8 0]⟩  -- [5]uint8
  | 68 => some ⟨.int .u32, 1, 4, .int .u32 0⟩  -- uint32
  | _ => none

theorem tok2 : TOk Try.prog 2 ⟨.int .i64, 1, 8, .int .i64 0⟩ := ⟨by kernel_rfl, by kernel_rfl, ⟨.int .i64 0, by kernel_rfl, by kernel_rfl, by kernel_rfl, by kernel_rfl, ⟨fun h => (by obtain ⟨_, h⟩ := h; cases h), fun h => (by cases h)⟩⟩⟩
theorem tok3 : TOk Try.prog 3 ⟨.int .i64, 1, 8, .int .i64 0⟩ := ⟨by kernel_rfl, by kernel_rfl, ⟨.int .i64 0, by kernel_rfl, by kernel_rfl, by kernel_rfl, by kernel_rfl, ⟨fun h => (by obtain ⟨_, h⟩ := h; cases h), fun h => (by cases h)⟩⟩⟩
theorem tok4 : TOk Try.prog 4 ⟨.bool, 1, 1, .bool false⟩ := ⟨by kernel_rfl, by kernel_rfl, ⟨.bool false, by kernel_rfl, by kernel_rfl, by kernel_rfl, by kernel_rfl, ⟨fun h => (by obtain ⟨_, h⟩ := h; cases h), fun h => (by cases h)⟩⟩⟩
theorem tok5 : TOk Try.prog 5 ⟨.int .u8, 1, 1, .int .u8 0⟩ := ⟨by kernel_rfl, by kernel_rfl, ⟨.int .u8 0, by kernel_rfl, by kernel_rfl, by kernel_rfl, by kernel_rfl, ⟨fun h => (by obtain ⟨_, h⟩ := h; cases h), fun h => (by cases h)⟩⟩⟩
theorem tok9 : TOk Try.prog 9 ⟨.string, 1, 16, .str .empty⟩ := ⟨by kernel_rfl, by kernel_rfl, ⟨.string .empty, by kernel_rfl, by kernel_rfl, by kernel_rfl, by kernel_rfl, ⟨fun h => (by obtain ⟨_, h⟩ := h; cases h), fun h => (by cases h)⟩⟩⟩
theorem tok21 : TOk Try.prog 21 ⟨.int .i32, 1, 4, .int .i32 0⟩ := ⟨by kernel_rfl, by kernel_rfl, ⟨.int .i32 0, by kernel_rfl, by kernel_rfl, by kernel_rfl, by kernel_rfl, ⟨fun h => (by obtain ⟨_, h⟩ := h; cases h), fun h => (by cases h)⟩⟩⟩
theorem tok22 : TOk Try.prog 22 ⟨.slice 5, 1, 24, .nil⟩ := ⟨by kernel_rfl, by kernel_rfl, ⟨.slice none 0 0, by kernel_rfl, by kernel_rfl, by kernel_rfl, by kernel_rfl, ⟨fun h => (by obtain ⟨_, h⟩ := h; cases h), fun h => (by cases h)⟩⟩⟩
theorem tok23 : TOk Try.prog 23 ⟨.int .u64, 1, 8, .int .u64 0⟩ := ⟨by kernel_rfl, by kernel_rfl, ⟨.int .u64 0, by kernel_rfl, by kernel_rfl, by kernel_rfl, by kernel_rfl, ⟨fun h => (by obtain ⟨_, h⟩ := h; cases h), fun h => (by cases h)⟩⟩⟩
theorem tok29 : TOk Try.prog 29 ⟨.int .u64, 1, 8, .int .u64 0⟩ := ⟨by kernel_rfl, by kernel_rfl, ⟨.int .u64 0, by kernel_rfl, by kernel_rfl, by kernel_rfl, by kernel_rfl, ⟨fun h => (by obtain ⟨_, h⟩ := h; cases h), fun h => (by cases h)⟩⟩⟩
theorem tok32 : TOk Try.prog 32 ⟨.slice 3, 1, 24, .nil⟩ := ⟨by kernel_rfl, by kernel_rfl, ⟨.slice none 0 0, by kernel_rfl, by kernel_rfl, by kernel_rfl, by kernel_rfl, ⟨fun h => (by obtain ⟨_, h⟩ := h; cases h), fun h => (by cases h)⟩⟩⟩
theorem tok33 : TOk Try.prog 33 ⟨.struct [(0, 22), (1, 3)], 2, 32, .agg [.nil, .int .i64 0]⟩ := ⟨by kernel_rfl, by kernel_rfl, ⟨.agg #[.slice none 0 0, .int .i64 0], by kernel_rfl, by kernel_rfl, by kernel_rfl, by kernel_rfl, ⟨fun _ => rfl, fun _ => ⟨_, rfl⟩⟩⟩⟩
theorem tcmp33 : Try.prog.stoodInHeld 33 = false ∧ Try.prog.eqGuardType Try.prog.depth 33 = false ∧ ∀ fs, Try.prog.underlying 33 = some (.struct fs) → (fs.toList.all fun f => f.name != "_") = true := ⟨by kernel_rfl, by kernel_rfl, fun fs h => by rw [Try.underlying33] at h; first | (injection h with h; injection h with h; subst h; rfl) | cases h⟩
theorem tok34 : TOk Try.prog 34 ⟨.struct [(0, 22), (1, 3)], 2, 32, .agg [.nil, .int .i64 0]⟩ := ⟨by kernel_rfl, by kernel_rfl, ⟨.agg #[.slice none 0 0, .int .i64 0], by kernel_rfl, by kernel_rfl, by kernel_rfl, by kernel_rfl, ⟨fun _ => rfl, fun _ => ⟨_, rfl⟩⟩⟩⟩
theorem tcmp34 : Try.prog.stoodInHeld 34 = false ∧ Try.prog.eqGuardType Try.prog.depth 34 = false ∧ ∀ fs, Try.prog.underlying 34 = some (.struct fs) → (fs.toList.all fun f => f.name != "_") = true := ⟨by kernel_rfl, by kernel_rfl, fun fs h => by rw [Try.underlying34] at h; first | (injection h with h; injection h with h; subst h; rfl) | cases h⟩
theorem tok40 : TOk Try.prog 40 ⟨.slice 9, 1, 24, .nil⟩ := ⟨by kernel_rfl, by kernel_rfl, ⟨.slice none 0 0, by kernel_rfl, by kernel_rfl, by kernel_rfl, by kernel_rfl, ⟨fun h => (by obtain ⟨_, h⟩ := h; cases h), fun h => (by cases h)⟩⟩⟩
theorem tok47 : TOk Try.prog 47 ⟨.slice 34, 1, 24, .nil⟩ := ⟨by kernel_rfl, by kernel_rfl, ⟨.slice none 0 0, by kernel_rfl, by kernel_rfl, by kernel_rfl, by kernel_rfl, ⟨fun h => (by obtain ⟨_, h⟩ := h; cases h), fun h => (by cases h)⟩⟩⟩
theorem tok58 : TOk Try.prog 58 ⟨.struct [(0, 32), (1, 3)], 2, 32, .agg [.nil, .int .i64 0]⟩ := ⟨by kernel_rfl, by kernel_rfl, ⟨.agg #[.slice none 0 0, .int .i64 0], by kernel_rfl, by kernel_rfl, by kernel_rfl, by kernel_rfl, ⟨fun _ => rfl, fun _ => ⟨_, rfl⟩⟩⟩⟩
theorem tcmp58 : Try.prog.stoodInHeld 58 = false ∧ Try.prog.eqGuardType Try.prog.depth 58 = false ∧ ∀ fs, Try.prog.underlying 58 = some (.struct fs) → (fs.toList.all fun f => f.name != "_") = true := ⟨by kernel_rfl, by kernel_rfl, fun fs h => by rw [Try.underlying58] at h; first | (injection h with h; injection h with h; subst h; rfl) | cases h⟩
theorem tok59 : TOk Try.prog 59 ⟨.struct [(0, 32), (1, 3)], 2, 32, .agg [.nil, .int .i64 0]⟩ := ⟨by kernel_rfl, by kernel_rfl, ⟨.agg #[.slice none 0 0, .int .i64 0], by kernel_rfl, by kernel_rfl, by kernel_rfl, by kernel_rfl, ⟨fun _ => rfl, fun _ => ⟨_, rfl⟩⟩⟩⟩
theorem tcmp59 : Try.prog.stoodInHeld 59 = false ∧ Try.prog.eqGuardType Try.prog.depth 59 = false ∧ ∀ fs, Try.prog.underlying 59 = some (.struct fs) → (fs.toList.all fun f => f.name != "_") = true := ⟨by kernel_rfl, by kernel_rfl, fun fs h => by rw [Try.underlying59] at h; first | (injection h with h; injection h with h; subst h; rfl) | cases h⟩
theorem tok60 : TOk Try.prog 60 ⟨.array 5 5, 5, 5, .agg [.int .u8 0, .int .u8 0, .int .u8 0, .int .u8 0, .int .u8 0]⟩ := ⟨by kernel_rfl, by kernel_rfl, ⟨.agg #[.int .u8 0, .int .u8 0, .int .u8 0, .int .u8 0, .int .u8 0], by kernel_rfl, by kernel_rfl, by kernel_rfl, by kernel_rfl, ⟨fun _ => rfl, fun _ => ⟨_, rfl⟩⟩⟩⟩
theorem tcmp60 : Try.prog.stoodInHeld 60 = false ∧ Try.prog.eqGuardType Try.prog.depth 60 = false ∧ ∀ fs, Try.prog.underlying 60 = some (.struct fs) → (fs.toList.all fun f => f.name != "_") = true := ⟨by kernel_rfl, by kernel_rfl, fun fs h => by rw [Try.underlying60] at h; first | (injection h with h; injection h with h; subst h; rfl) | cases h⟩
theorem tok68 : TOk Try.prog 68 ⟨.int .u32, 1, 4, .int .u32 0⟩ := ⟨by kernel_rfl, by kernel_rfl, ⟨.int .u32 0, by kernel_rfl, by kernel_rfl, by kernel_rfl, by kernel_rfl, ⟨fun h => (by obtain ⟨_, h⟩ := h; cases h), fun h => (by cases h)⟩⟩⟩

set_option maxRecDepth 20000 in
theorem types_ok : Types Try.prog tinfo := by
  refine ⟨fun t i h => ?_, fun t i h hs => ?_⟩
  · unfold tinfo at h
    split at h <;> first | (injection h with h; subst h; first | exact tok2 | exact tok3 | exact tok4 | exact tok5 | exact tok9 | exact tok21 | exact tok22 | exact tok23 | exact tok29 | exact tok32 | exact tok33 | exact tok34 | exact tok40 | exact tok47 | exact tok58 | exact tok59 | exact tok60 | exact tok68) | cases h
  · unfold tinfo at h
    split at h <;> first | (injection h with h; subst h; first | exact absurd (show false = true from hs) (by decide) | exact tcmp33 | exact tcmp34 | exact tcmp58 | exact tcmp59 | exact tcmp60) | cases h
theorem sizes_ok : Sizes tinfo := by
  refine ⟨fun t i h hb => ?_, fun t i fs h hk off ft j hm hj => ?_⟩
  · unfold tinfo at h
    split at h <;> first | (injection h with h; subst h; first | rfl | cases hb) | cases h
  · unfold tinfo at h
    split at h
    · injection h with h; subst h; cases hk
    · injection h with h; subst h; cases hk
    · injection h with h; subst h; cases hk
    · injection h with h; subst h; cases hk
    · injection h with h; subst h; cases hk
    · injection h with h; subst h; cases hk
    · injection h with h; subst h; cases hk
    · injection h with h; subst h; cases hk
    · injection h with h; subst h; cases hk
    · injection h with h; subst h; cases hk
    · injection h with h; subst h; injection hk with hk; subst hk
      simp only [List.mem_cons, List.not_mem_nil, or_false, Prod.mk.injEq] at hm
      rcases hm with ⟨rfl, rfl⟩ | ⟨rfl, rfl⟩
      all_goals (simp only [tinfo, Option.some.injEq] at hj; subst hj; simp)
    · injection h with h; subst h; injection hk with hk; subst hk
      simp only [List.mem_cons, List.not_mem_nil, or_false, Prod.mk.injEq] at hm
      rcases hm with ⟨rfl, rfl⟩ | ⟨rfl, rfl⟩
      all_goals (simp only [tinfo, Option.some.injEq] at hj; subst hj; simp)
    · injection h with h; subst h; cases hk
    · injection h with h; subst h; cases hk
    · injection h with h; subst h; injection hk with hk; subst hk
      simp only [List.mem_cons, List.not_mem_nil, or_false, Prod.mk.injEq] at hm
      rcases hm with ⟨rfl, rfl⟩ | ⟨rfl, rfl⟩
      all_goals (simp only [tinfo, Option.some.injEq] at hj; subst hj; simp)
    · injection h with h; subst h; injection hk with hk; subst hk
      simp only [List.mem_cons, List.not_mem_nil, or_false, Prod.mk.injEq] at hm
      rcases hm with ⟨rfl, rfl⟩ | ⟨rfl, rfl⟩
      all_goals (simp only [tinfo, Option.some.injEq] at hj; subst hj; simp)
    · injection h with h; subst h; cases hk
    · injection h with h; subst h; cases hk
    · cases h
theorem closed_ok : Closed tinfo := by
  refine ⟨fun t i fs h hk q hq => ?_⟩
  unfold tinfo at h
  split at h
  · injection h with h; subst h; cases hk
  · injection h with h; subst h; cases hk
  · injection h with h; subst h; cases hk
  · injection h with h; subst h; cases hk
  · injection h with h; subst h; cases hk
  · injection h with h; subst h; cases hk
  · injection h with h; subst h; cases hk
  · injection h with h; subst h; cases hk
  · injection h with h; subst h; cases hk
  · injection h with h; subst h; cases hk
  · injection h with h; subst h; injection hk with hk; subst hk
    simp only [List.mem_cons, List.not_mem_nil, or_false] at hq
    rcases hq with rfl | rfl
    all_goals exact ⟨_, rfl⟩
  · injection h with h; subst h; injection hk with hk; subst hk
    simp only [List.mem_cons, List.not_mem_nil, or_false] at hq
    rcases hq with rfl | rfl
    all_goals exact ⟨_, rfl⟩
  · injection h with h; subst h; cases hk
  · injection h with h; subst h; cases hk
  · injection h with h; subst h; injection hk with hk; subst hk
    simp only [List.mem_cons, List.not_mem_nil, or_false] at hq
    rcases hq with rfl | rfl
    all_goals exact ⟨_, rfl⟩
  · injection h with h; subst h; injection hk with hk; subst hk
    simp only [List.mem_cons, List.not_mem_nil, or_false] at hq
    rcases hq with rfl | rfl
    all_goals exact ⟨_, rfl⟩
  · injection h with h; subst h; cases hk
  · injection h with h; subst h; cases hk
  · cases h
theorem tab_z : ∀ t i, tinfo t = some i → ∀ d, noref d i.zero = true := fun t i h d => by
  unfold tinfo at h
  split at h <;> first | (injection h with h; subst h; rfl) | cases h
theorem tab : Tab Try.prog tinfo := ⟨types_ok, sizes_ok, closed_ok, tab_z, map_ok⟩
theorem mixed : Try.prog.follows .mixedOrders = true := by kernel_rfl

structure Good (f : Nat) (c : CT) : Prop where
  h : ACall Try.prog tinfo f c
theorem good_call : ∀ f c, (fun f c => Good f c) f c → ACall Try.prog tinfo f c := fun _ _ h => h.h
abbrev pu (args : List SV) (r : SV) : CT := ⟨args, none, r, .any, .no⟩
abbrev nu (args : List SV) (r : SV) (b : Blk) : CT := ⟨args, none, r, .any, b⟩
abbrev le (t : Nat) (x : SV) (args : List SV) (r : SV) (y : SV) : CT := ⟨.ptr 0 0 :: args, some (t, x), r, y, .no⟩
abbrev leN (t : Nat) (x : SV) (args : List SV) (r : SV) (y : SV) (b : Blk) : CT := ⟨.ptr 0 0 :: args, some (t, x), r, y, b⟩
theorem Good.of {f : FuncId} {fn : Func} {c : Code} {ct : CT} (hf : Try.prog.funcs[f]? = some fn) (hb : fn.body = some c)
    (hn : (fn.name == "runtime.NumGoroutine") = false) (hok : codeOk c = true)
    (h : swp (fun t => tinfo t) (fun f c => Good f c) c (start fn.ntmps ct) ⟨fun s => retQ (fun t => tinfo t) fn.resultTypes.toList fn.results.toList s ct, fun s => retQ (fun t => tinfo t) fn.resultTypes.toList fn.results.toList s ct, fun _ _ => False⟩) (hni : isSeq ct = false := by rfl) (hnl : isLR ct = false := by rfl) : Good f ct :=
  ⟨contract tab good_call mixed hf hb hn hok hni hnl h⟩
theorem Good.ofL {f : FuncId} {fn : Func} {c : Code} {sh : Option Nat} {e : Nat} {l xs k : List SV} (hf : Try.prog.funcs[f]? = some fn) (hb : fn.body = some c)
    (hn : (fn.name == "runtime.NumGoroutine") = false) (hok : codeOk c = true)
    (h : swp (fun t => tinfo t) (fun f c => Good f c) c (startL fn.ntmps sh e l xs) ⟨fun s => retL (fun t => tinfo t) fn.results.toList sh e k s, fun s => retL (fun t => tinfo t) fn.results.toList sh e k s, fun _ _ => False⟩) : Good f (lrC sh e l xs k) :=
  ⟨contractL tab good_call mixed hf hb hn hok h⟩
end Go.Proofs.Ytapcbkcnokoljaa
namespace Go.Proofs.Ytapcbkcnokoljaa
set_option linter.unusedVariables false
set_option linter.unusedSimpArgs false
theorem oln (l : List SV) : O.ln l = l.length := O.hln l
theorem otk (n : Int) (l : List SV) : O.tk n l = l.take n.toNat := O.htk n l
theorem odr (n : Int) (l : List SV) : O.dr n l = l.drop n.toNat := O.hdr n l
theorem oap (l k : List SV) : O.ap l k = l ++ k := O.hap l k
theorem ost (l : List SV) (i : Nat) (y : SV) : O.st l i y = l.set i y := O.hst l i y
theorem orp (n : Int) (x : SV) : O.rp n x = List.replicate n.toNat x := O.hrp n x
theorem ocp (l : List SV) (a n : Nat) (ys : List SV) : O.cp l a n ys = l.take a ++ ys.take n ++ l.drop (a + min ys.length n) := O.hcp l a n ys
theorem osg (l : List SV) (a n : Nat) : O.sg l a n = (l.drop a).take n := O.hsg l a n
theorem otn (n : Int) : O.tn n = n.toNat := O.htn n
theorem oad (a : Nat) (n : Int) : O.ad a n = a + n.toNat := O.had a n
theorem osb (a : Nat) (n : Int) : O.sb a n = a - n.toNat := O.hsb a n
theorem osi (a n : Int) : O.si a n = a.toNat - n.toNat := O.hsi a n
theorem oby (s : ByteArray) : O.by' s = s.data.toList.map fun b => SV.int .u8 b.toNat := O.hby s
theorem pln (l : List SV) : (Classical.choice lo_ex).ln l = l.length := O.hln l
theorem ptk (n : Int) (l : List SV) : (Classical.choice lo_ex).tk n l = l.take n.toNat := O.htk n l
theorem pdr (n : Int) (l : List SV) : (Classical.choice lo_ex).dr n l = l.drop n.toNat := O.hdr n l
theorem pap (l k : List SV) : (Classical.choice lo_ex).ap l k = l ++ k := O.hap l k
theorem pst (l : List SV) (i : Nat) (y : SV) : (Classical.choice lo_ex).st l i y = l.set i y := O.hst l i y
theorem prp (n : Int) (x : SV) : (Classical.choice lo_ex).rp n x = List.replicate n.toNat x := O.hrp n x
theorem pcp (l : List SV) (a n : Nat) (ys : List SV) : (Classical.choice lo_ex).cp l a n ys = l.take a ++ ys.take n ++ l.drop (a + min ys.length n) := O.hcp l a n ys
theorem psg (l : List SV) (a n : Nat) : (Classical.choice lo_ex).sg l a n = (l.drop a).take n := O.hsg l a n
theorem ptn (n : Int) : (Classical.choice lo_ex).tn n = n.toNat := O.htn n
theorem pad (a : Nat) (n : Int) : (Classical.choice lo_ex).ad a n = a + n.toNat := O.had a n
theorem psb (a : Nat) (n : Int) : (Classical.choice lo_ex).sb a n = a - n.toNat := O.hsb a n
theorem psi (a n : Int) : (Classical.choice lo_ex).si a n = a.toNat - n.toNat := O.hsi a n
theorem pby (s : ByteArray) : (Classical.choice lo_ex).by' s = s.data.toList.map fun b => SV.int .u8 b.toNat := O.hby s
theorem cst (n : Nat) : @NatCast.natCast Int _ n = @Nat.cast Int _ n := rfl
theorem qv {A : Type} {p k : A → Prop} (z : A) (h : p z) (g : k z) : QV p k := ⟨⟨z, h, g⟩⟩
def ints (k : IntKind) (l : List Int) : List SV := l.map (SV.int k)
theorem ints_len (k : IntKind) (l : List Int) : (ints k l).length = l.length := by simp [ints]
theorem sm : (∀ l, O.ln l = l.length) ∧ (∀ n l, O.tk n l = l.take n.toNat) ∧ (∀ n l, O.dr n l = l.drop n.toNat) ∧ (∀ l k, O.ap l k = l ++ k) ∧ (∀ l i x, O.st l i x = l.set i x) ∧ (∀ n x, O.rp n x = List.replicate n.toNat x) ∧
    (∀ l a n ys, O.cp l a n ys = l.take a ++ ys.take n ++ l.drop (a + min ys.length n)) ∧ (∀ l a n, O.sg l a n = (l.drop a).take n) ∧ (∀ n, O.tn n = n.toNat) ∧ (∀ a n, O.ad a n = a + n.toNat) ∧ (∀ a n, O.sb a n = a - n.toNat) ∧ (∀ a n, O.si a n = a.toNat - n.toNat) ∧
    (∀ s, O.by' s = s.data.toList.map fun b => SV.int .u8 b.toNat) ∧
    (∀ l, (Classical.choice lo_ex).ln l = l.length) ∧ (∀ n l, (Classical.choice lo_ex).tk n l = l.take n.toNat) ∧ (∀ n l, (Classical.choice lo_ex).dr n l = l.drop n.toNat) ∧ (∀ l k, (Classical.choice lo_ex).ap l k = l ++ k) ∧ (∀ l i x, (Classical.choice lo_ex).st l i x = l.set i x) ∧
    (∀ n x, (Classical.choice lo_ex).rp n x = List.replicate n.toNat x) ∧ (∀ l a n ys, (Classical.choice lo_ex).cp l a n ys = l.take a ++ ys.take n ++ l.drop (a + min ys.length n)) ∧ (∀ l a n, (Classical.choice lo_ex).sg l a n = (l.drop a).take n) ∧ (∀ n, (Classical.choice lo_ex).tn n = n.toNat) ∧
    (∀ a n, (Classical.choice lo_ex).ad a n = a + n.toNat) ∧ (∀ a n, (Classical.choice lo_ex).sb a n = a - n.toNat) ∧ (∀ a n, (Classical.choice lo_ex).si a n = a.toNat - n.toNat) ∧ (∀ s, (Classical.choice lo_ex).by' s = s.data.toList.map fun b => SV.int .u8 b.toNat) ∧
    (∀ n : Nat, @NatCast.natCast Int _ n = @Nat.cast Int _ n) ∧ (∀ k l, (ints k l).length = l.length) ∧
    (∀ (A : Type) (n : Nat) (l : List A), (l.take n).length = min n l.length) ∧ (∀ (A : Type) (n : Nat) (l : List A), (l.drop n).length = l.length - n) ∧ (∀ (A : Type) (l k : List A), (l ++ k).length = l.length + k.length) ∧ (∀ (A : Type) (l : List A) (n : Nat) (x : A), (l.set n x).length = l.length) ∧
    (∀ (A : Type) (n : Nat) (x : A), (List.replicate n x).length = n) ∧ (∀ (A : Type) (x : A) (l : List A), (x :: l).length = l.length + 1) ∧ (∀ (A : Type), ([] : List A).length = 0) :=
  ⟨oln, otk, odr, oap, ost, orp, ocp, osg, otn, oad, osb, osi, oby, pln, ptk, pdr, pap, pst, prp, pcp, psg, ptn, pad, psb, psi, pby, cst, ints_len, fun _ _ _ => List.length_take, fun _ _ _ => List.length_drop, fun _ _ _ => List.length_append, fun _ _ _ _ => List.length_set, fun _ _ _ => List.length_replicate, fun _ _ _ => List.length_cons, fun _ => List.length_nil⟩
theorem q1w {req : Unit → Prop} {p k : Int → Prop} (g : ∀ z, p z → k z) (h : req () := by first | exact trivial | omega | (dsimp only; omega) | exact pow62 _ (by omega) | exact mul9 (by omega) (by omega) | (simp only [sm] at *; omega)) : Q1 req p k := q1 h g
theorem rqw {p : Unit → Prop} {A : Prop} (g : A) (h : p () := by first | exact trivial | omega | (dsimp only; omega) | (simp only [sm] at *; omega)) : Rq p (fun _ => A) := rq h g
theorem QC.tw {p : Unit → Prop} {k : Bool → Prop} (g : k true) (h : p () := by first | omega | (dsimp only; omega) | exact rfl | (simp only [sm] at *; omega)) : QC p k := QC.tt h g
theorem QC.fw {p : Unit → Prop} {k : Bool → Prop} (g : k false) (h : ¬ p () := by first | omega | (dsimp only; omega) | (simp only [sm] at *; omega)) : QC p k := QC.ff h g
theorem ints_get {k : IntKind} {l : List Int} {i : Nat} {v : Int} (h : l[i]? = some v) : (ints k l)[i]? = some (SV.int k v) := by simp [ints, h]
theorem ints_at {k : IntKind} {l : List Int} (i : Nat) (h : i < l.length) : (ints k l)[i]? = some (SV.int k (l.getD i 0)) := by simp [ints, h]
theorem getD_mem {l : List Int} {i : Nat} (h : i < l.length) : l.getD i 0 ∈ l := by simp [List.getD, h]
theorem ints_app (k : IntKind) (l m : List Int) : ints k l ++ ints k m = ints k (l ++ m) := by simp [ints]
theorem ints_take (k : IntKind) (l : List Int) (n : Nat) : (ints k l).take n = ints k (l.take n) := by simp [ints]
theorem ints_drop (k : IntKind) (l : List Int) (n : Nat) : (ints k l).drop n = ints k (l.drop n) := by simp [ints]
theorem ints_set (k : IntKind) (l : List Int) (n : Nat) (v : Int) : (ints k l).set n (.int k v) = ints k (l.set n v) := by simp [ints, List.map_set]
theorem ints_rep (k : IntKind) (n : Nat) (v : Int) : List.replicate n (SV.int k v) = ints k (List.replicate n v) := by simp [ints]
end Go.Proofs.Ytapcbkcnokoljaa
namespace Go.Proofs.Ytapcbkcnokoljaa
set_option linter.unusedVariables false
set_option linter.unusedSimpArgs false
set_option maxHeartbeats 1000000
set_option linter.unusedSimpArgs false
theorem new_c (L R : List SV) (hR : R = L.take 400) : Good 27 (nu [.lst none L] (.ptr 1 0) (.chunk 59 (.agg [.lst none R, .int .i64 0]))) := by
  refine Good.of Try.func27 rfl (by rfl) (by kernel_rfl) ?_
  cbv
  (repeat' (first
| (refine q1w (fun z hz => ?_); (try simp only at hz); cbv)
| (refine rqw ?_; cbv)
| (refine rq (show kfitQ _ _ from by simp [kfitQ, IntKind.min, IntKind.max, IntKind.signed, IntKind.bits]; omega) ?_; cbv)
| (refine chpA ?_; cbv)
| (refine QC.tw ?_; cbv)
| (refine QC.tt ?_ ?_; (focus (simp only [decide_true, Bool.and_true, Bool.and_self] <;> fail)); cbv)
| (refine QC.ff ?_ ?_; (focus (simp only [decide_true, Bool.and_true, Bool.and_self, decide_false, Bool.false_and, reduceCtorEq, not_false_eq_true] <;> fail)); cbv)
| (refine QC.fw ?_; cbv)
| (refine QC.mk (fun hc => ?_) (fun hc => ?_) <;> (try dsimp only at hc) <;> cbv)
| (refine br_mk2 (fun hb => ?_) (fun hb => ?_) <;> (try subst hb) <;> cbv)))
  · refine ⟨rfl, ?_, rfl⟩
    rw [hR]
    simp only [sm]
    rfl
  · refine ⟨rfl, ?_, rfl⟩
    rw [hR]
    simp only [sm] at hz
    rw [List.take_of_length_le (by omega)]

def tapeV (L : List SV) (a : Int) : SV := .agg [.lst none L, .int .i64 a]
theorem mod_c (v n : Int) (hv : -9223372036854775808 ≤ v ∧ v ≤ 9223372036854775807) (hn : 1 ≤ n ∧ n ≤ 1000000) : Good 10 (pu [.int .i64 v, .int .i64 n] (.int .i64 (v % n))) := by
  have h1 := Int.tmod_lt_of_pos v (show 0 < n by omega)
  have h2 := Int.lt_tmod_of_pos v (show 0 < n by omega)
  have h3 : v % n = if v.tmod n < 0 then v.tmod n + n else v.tmod n := by
    have e : v % n = v.tmod n % n := by
      conv => lhs; rw [← Int.tmod_add_mul_tdiv v n]
      rw [Int.add_mul_emod_self_left]
    rw [e]
    split
    · rw [← Int.add_emod_right]
      exact Int.emod_eq_of_lt (by omega) (by omega)
    · exact Int.emod_eq_of_lt (by omega) (by omega)
  generalize hr : v % n = r at *
  refine Good.of Try.func10 rfl (by rfl) (by kernel_rfl) ?_
  cbv
  (repeat' (first
| (refine q1w (fun z hz => ?_); (try simp only at hz); cbv)
| (refine rqw ?_; cbv)
| (refine rq (show kfitQ _ _ from by simp [kfitQ, IntKind.min, IntKind.max, IntKind.signed, IntKind.bits]; omega) ?_; cbv)
| (refine chpA ?_; cbv)
| (refine QC.tw ?_; cbv)
| (refine QC.tt ?_ ?_; (focus (simp only [decide_true, Bool.and_true, Bool.and_self] <;> fail)); cbv)
| (refine QC.ff ?_ ?_; (focus (simp only [decide_true, Bool.and_true, Bool.and_self, decide_false, Bool.false_and, reduceCtorEq, not_false_eq_true] <;> fail)); cbv)
| (refine QC.fw ?_; cbv)
| (refine QC.mk (fun hc => ?_) (fun hc => ?_) <;> (try dsimp only at hc) <;> cbv)
| (refine br_mk2 (fun hb => ?_) (fun hb => ?_) <;> (try subst hb) <;> cbv)))
  all_goals refine ⟨?_, rfl, rfl⟩
  · rw [h3, if_pos (by omega), hz]; rename_i y hy; rw [hy.1]
  · rw [h3, if_neg (by omega), hz.1]

def nextT (l : List Int) (a n : Int) : Int := if l.length ≤ a then 0 else (l.getD a.toNat 0) % n
def nextA (l : List Int) (a : Int) : Int := if l.length ≤ a then a else a + 1
theorem next_c (L : List SV) (l : List Int) (hL : L = ints .i64 l) (hl : ∀ v ∈ l, -9223372036854775808 ≤ v ∧ v ≤ 9223372036854775807) (h400 : l.length ≤ 400) (a n r b : Int) (ha : 0 ≤ a ∧ a ≤ 400) (hn : 1 ≤ n ∧ n ≤ 1000000) (hr : r = nextT l a n) (hb : b = nextA l a) :
    Good 28 (le 59 (.agg [.lst none L, .int .i64 a]) [.int .i64 n] (.int .i64 r) (.agg [.lst none L, .int .i64 b])) := by
  refine Good.of Try.func28 rfl (by rfl) (by kernel_rfl) ?_
  cbv
  have hlen : L.length = l.length := by rw [hL, ints_len]
  (repeat' (first
| (refine q1w (fun z hz => ?_); (try simp only at hz); cbv)
| (refine rqw ?_; cbv)
| (refine rq (show kfitQ _ _ from by simp [kfitQ, IntKind.min, IntKind.max, IntKind.signed, IntKind.bits]; omega) ?_; cbv)
| (refine chpA ?_; cbv)
| (refine QC.tw ?_; cbv)
| (refine QC.tt ?_ ?_; (focus (simp only [decide_true, Bool.and_true, Bool.and_self] <;> fail)); cbv)
| (refine QC.ff ?_ ?_; (focus (simp only [decide_true, Bool.and_true, Bool.and_self, decide_false, Bool.false_and, reduceCtorEq, not_false_eq_true] <;> fail)); cbv)
| (refine QC.fw ?_; cbv)
| (refine QC.mk (fun hc => ?_) (fun hc => ?_) <;> (try dsimp only at hc) <;> cbv)
| (refine br_mk2 (fun hb => ?_) (fun hb => ?_) <;> (try subst hb) <;> cbv)))
  · have hz' : z = l.length := by rw [hz, oln, hlen]
    refine ⟨?_, rfl, ?_⟩
    · rw [hr, nextT, if_pos (by omega)]
    · rw [hb, nextA, if_pos (by omega)]
  · have hz' : z = l.length := by rw [hz, oln, hlen]
    have hlt : a.toNat < l.length := by omega
    have hv := hl _ (getD_mem hlt)
    have hr' : r = l.getD a.toNat 0 % n := by rw [hr, nextT, if_neg (by omega)]
    have hb' : b = a + 1 := by rw [hb, nextA, if_neg (by omega)]
    refine qv (a.toNat, .int .i64 (l.getD a.toNat 0)) ⟨?_, ?_⟩ ?_
    · show a = (a.toNat : Int); omega
    · rw [hL]; exact ints_at _ hlt
    generalize l.getD a.toNat 0 = v at *
    have h1 := Int.tmod_lt_of_pos v (show 0 < n by omega)
    have h2 := Int.lt_tmod_of_pos v (show 0 < n by omega)
    have h3 : v % n = if v.tmod n < 0 then v.tmod n + n else v.tmod n := by
      have e : v % n = v.tmod n % n := by
        conv => lhs; rw [← Int.tmod_add_mul_tdiv v n]
        rw [Int.add_mul_emod_self_left]
      rw [e]
      split
      · rw [← Int.add_emod_right]
        exact Int.emod_eq_of_lt (by omega) (by omega)
      · exact Int.emod_eq_of_lt (by omega) (by omega)
    clear hz hr hb
    cbv
    (repeat' (first
| (refine q1w (fun z hz => ?_); (try simp only at hz); cbv)
| (refine rqw ?_; cbv)
| (refine rq (show kfitQ _ _ from by simp [kfitQ, IntKind.min, IntKind.max, IntKind.signed, IntKind.bits]; omega) ?_; cbv)
| (refine chpA ?_; cbv)
| (refine QC.tw ?_; cbv)
| (refine QC.tt ?_ ?_; (focus (simp only [decide_true, Bool.and_true, Bool.and_self] <;> fail)); cbv)
| (refine QC.ff ?_ ?_; (focus (simp only [decide_true, Bool.and_true, Bool.and_self, decide_false, Bool.false_and, reduceCtorEq, not_false_eq_true] <;> fail)); cbv)
| (refine QC.fw ?_; cbv)
| (refine QC.mk (fun hc => ?_) (fun hc => ?_) <;> (try dsimp only at hc) <;> cbv)
| (refine br_mk2 (fun hb => ?_) (fun hb => ?_) <;> (try subst hb) <;> cbv)))
    · rename_i y hy _ _
      refine ⟨?_, rfl, ?_⟩
      · rw [hr', h3, if_pos (by omega), ← hy.1, hz]
      · subst_vars; rfl
    · rename_i y hy
      refine ⟨?_, rfl, ?_⟩
      · rw [hr', h3, if_neg (by omega), ← hy.1]
      · subst_vars; rfl
theorem bool_c (L : List SV) (l : List Int) (hL : L = ints .i64 l) (hl : ∀ v ∈ l, -9223372036854775808 ≤ v ∧ v ≤ 9223372036854775807) (h400 : l.length ≤ 400) (a n b : Int) (r : Bool) (ha : 0 ≤ a ∧ a ≤ 400) (hn : 1 ≤ n ∧ n ≤ 1000000) (hr : r = decide (nextT l a n = n - 1)) (hb : b = nextA l a) :
    Good 30 (le 59 (.agg [.lst none L, .int .i64 a]) [.int .i64 n] (.bool r) (.agg [.lst none L, .int .i64 b])) := by
  have h1 := next_c L l hL hl h400 a n _ _ ha hn rfl hb
  generalize nextT l a n = x at *
  refine Good.of Try.func30 rfl (by rfl) (by kernel_rfl) ?_
  cbv
  (repeat' (first
| (refine q1w (fun z hz => ?_); (try simp only at hz); cbv)
| (refine rqw ?_; cbv)
| (refine rq (show kfitQ _ _ from by simp [kfitQ, IntKind.min, IntKind.max, IntKind.signed, IntKind.bits]; omega) ?_; cbv)
| (refine chpA ?_; cbv)
| (refine QC.tw ?_; cbv)
| (refine QC.tt ?_ ?_; (focus (simp only [decide_true, Bool.and_true, Bool.and_self] <;> fail)); cbv)
| (refine QC.ff ?_ ?_; (focus (simp only [decide_true, Bool.and_true, Bool.and_self, decide_false, Bool.false_and, reduceCtorEq, not_false_eq_true] <;> fail)); cbv)
| (refine QC.fw ?_; cbv)
| (refine QC.mk (fun hc => ?_) (fun hc => ?_) <;> (try dsimp only at hc) <;> cbv)
| (refine br_mk2 (fun hb => ?_) (fun hb => ?_) <;> (try subst hb) <;> cbv)))
  refine callq h1 rfl rfl ?_
  cbv
  (repeat' (first
| (refine q1w (fun z hz => ?_); (try simp only at hz); cbv)
| (refine rqw ?_; cbv)
| (refine rq (show kfitQ _ _ from by simp [kfitQ, IntKind.min, IntKind.max, IntKind.signed, IntKind.bits]; omega) ?_; cbv)
| (refine chpA ?_; cbv)
| (refine QC.tw ?_; cbv)
| (refine QC.tt ?_ ?_; (focus (simp only [decide_true, Bool.and_true, Bool.and_self] <;> fail)); cbv)
| (refine QC.ff ?_ ?_; (focus (simp only [decide_true, Bool.and_true, Bool.and_self, decide_false, Bool.false_and, reduceCtorEq, not_false_eq_true] <;> fail)); cbv)
| (refine QC.fw ?_; cbv)
| (refine QC.mk (fun hc => ?_) (fun hc => ?_) <;> (try dsimp only at hc) <;> cbv)
| (refine br_mk2 (fun hb => ?_) (fun hb => ?_) <;> (try subst hb) <;> cbv)))
  · refine ⟨?_, rfl, rfl⟩
    rw [hr, decide_eq_true (by omega)]
  · refine ⟨?_, rfl, rfl⟩
    rw [hr, decide_eq_false (by omega)]

def Tp (L : List SV) (a : Int) : Prop := (∃ l, L = ints .i64 l ∧ (∀ v ∈ l, -9223372036854775808 ≤ v ∧ v ≤ 9223372036854775807) ∧ l.length ≤ 400) ∧ 0 ≤ a ∧ a ≤ 400
theorem next_e {L : List SV} {a : Int} (h : Tp L a) (n : Int) (hn : 1 ≤ n ∧ n ≤ 1000000) : ∃ r b, 0 ≤ r ∧ r < n ∧ Tp L b ∧ Good 28 (le 59 (.agg [.lst none L, .int .i64 a]) [.int .i64 n] (.int .i64 r) (.agg [.lst none L, .int .i64 b])) := by
  obtain ⟨⟨l, h1, h2, h3⟩, h4⟩ := h
  refine ⟨_, _, ?_, ?_, ⟨⟨l, h1, h2, h3⟩, ?_⟩, next_c L l h1 h2 h3 a n _ _ h4 hn rfl rfl⟩
  · unfold nextT; split
    · omega
    · exact Int.emod_nonneg _ (by omega)
  · unfold nextT; split
    · omega
    · exact Int.emod_lt_of_pos _ (by omega)
  · unfold nextA; split <;> omega
theorem next_f {L : List SV} {a0 : Int} (h0 : Tp L a0) : ∃ (N : Int → Int → Int) (B : Int → Int), ∀ a n, Tp L a → 1 ≤ n ∧ n ≤ 1000000 → 0 ≤ N a n ∧ N a n < n ∧ Tp L (B a) ∧
    Good 28 (le 59 (.agg [.lst none L, .int .i64 a]) [.int .i64 n] (.int .i64 (N a n)) (.agg [.lst none L, .int .i64 (B a)])) := by
  obtain ⟨⟨l, h1, h2, h3⟩, _⟩ := h0
  refine ⟨nextT l, nextA l, fun a n ha hn => ?_⟩
  obtain ⟨_, h4⟩ := ha
  refine ⟨?_, ?_, ⟨⟨l, h1, h2, h3⟩, ?_⟩, next_c L l h1 h2 h3 a n _ _ h4 hn rfl rfl⟩
  · unfold nextT; split
    · omega
    · exact Int.emod_nonneg _ (by omega)
  · unfold nextT; split
    · omega
    · exact Int.emod_lt_of_pos _ (by omega)
  · unfold nextA; split <;> omega
theorem bool_e {L : List SV} {a : Int} (h : Tp L a) (n : Int) (hn : 1 ≤ n ∧ n ≤ 1000000) : ∃ r b, Tp L b ∧ Good 30 (le 59 (.agg [.lst none L, .int .i64 a]) [.int .i64 n] (.bool r) (.agg [.lst none L, .int .i64 b])) := by
  obtain ⟨⟨l, h1, h2, h3⟩, h4⟩ := h
  refine ⟨_, _, ⟨⟨l, h1, h2, h3⟩, ?_⟩, bool_c L l h1 h2 h3 a n _ _ h4 hn rfl rfl⟩
  unfold nextA; split <;> omega

theorem fillG (n : Nat) (f : Nat → Int) (a : SV) (ha : a = .int .u8 0) : ∃ G : Nat → List SV, G 0 = O.rp (n : Int) a ∧ (∀ i, (G i).length = n) ∧ (∀ i, i < n → O.st (G i) i (.int .u8 (f i)) = G (i + 1)) ∧ G n = ints .u8 ((List.range n).map f) := by
  subst ha
  refine ⟨fun i => ints .u8 (((List.range n).map f).take i ++ List.replicate (n - i) 0), ?_, ?_, ?_, ?_⟩
  · simp only [orp]; simp [ints]
  · intro i; simp [ints]; omega
  · intro i hi
    simp only [ost, ints_set]
    congr 1
    apply List.ext_getElem
    · simp; omega
    · intro k h1 h2
      simp only [List.getElem_set, List.getElem_append, List.length_take, List.length_map, List.length_range, List.getElem_take, List.getElem_map, List.getElem_range, List.getElem_replicate]
      split
      · subst_vars; split
        · rfl
        · omega
      · split <;> split <;> first | rfl | omega
  · simp [List.take_of_length_le]
theorem fill_e {L : List SV} {a : Int} (h : Tp L a) (n : Int) (hn : 0 ≤ n ∧ n ≤ 1000000) : ∃ R bs b, R = ints .u8 bs ∧ (bs.length : Int) = n ∧ (∀ v ∈ bs, 0 ≤ v ∧ v ≤ 255) ∧ Tp L b ∧
    Good 29 (leN 59 (.agg [.lst none L, .int .i64 a]) [.int .i64 n] (.row 1) (.agg [.lst none L, .int .i64 b]) (.row none 5 R)) := by
  obtain ⟨x1, b1, p1, u1, t1, g1⟩ := next_e h 256 (by omega)
  obtain ⟨x2, b2, p2, u2, t2, g2⟩ := next_e t1 256 (by omega)
  obtain ⟨x3, b3, p3, u3, t3, g3⟩ := next_e t2 256 (by omega)
  obtain ⟨m, hm⟩ := Int.eq_ofNat_of_zero_le hn.1
  obtain ⟨F, hF⟩ : ∃ F : Nat → Int, ∀ i, F i = ([x1, x2, 0, x3, 7].getD (i % 5) 0 + (i / 5 : Nat)) % 256 := ⟨_, fun i => rfl⟩
  obtain ⟨G, G0, Gl, Gs, Gn⟩ := fillG m F (.int .u8 0) rfl
  have hFb : ∀ i, 0 ≤ F i ∧ F i ≤ 255 := fun i => by rw [hF]; omega
  refine ⟨_, (List.range m).map F, b3, rfl, by simp [hm], fun v hv => by simp at hv; obtain ⟨i, _, rfl⟩ := hv; exact hFb i, t3, ?_⟩
  rw [← hm] at G0
  rw [← Gn]
  generalize hR : G m = R
  refine Good.of Try.func29 rfl (by rfl) (by kernel_rfl) ?_
  cbv
  (repeat' (first
| (refine q1w (fun z hz => ?_); (try simp only at hz); cbv)
| (refine rqw ?_; cbv)
| (refine rq (show kfitQ _ _ from by simp [kfitQ, IntKind.min, IntKind.max, IntKind.signed, IntKind.bits]; omega) ?_; cbv)
| (refine chpA ?_; cbv)
| (refine QC.tw ?_; cbv)
| (refine QC.tt ?_ ?_; (focus (simp only [decide_true, Bool.and_true, Bool.and_self] <;> fail)); cbv)
| (refine QC.ff ?_ ?_; (focus (simp only [decide_true, Bool.and_true, Bool.and_self, decide_false, Bool.false_and, reduceCtorEq, not_false_eq_true] <;> fail)); cbv)
| (refine QC.fw ?_; cbv)
| (refine QC.mk (fun hc => ?_) (fun hc => ?_) <;> (try dsimp only at hc) <;> cbv)
| (refine br_mk2 (fun hb => ?_) (fun hb => ?_) <;> (try subst hb) <;> cbv)))
  (refine callq (g1) rfl rfl ?_; cbv; (repeat' (first
| (refine q1w (fun z hz => ?_); (try simp only at hz); cbv)
| (refine rqw ?_; cbv)
| (refine rq (show kfitQ _ _ from by simp [kfitQ, IntKind.min, IntKind.max, IntKind.signed, IntKind.bits]; omega) ?_; cbv)
| (refine chpA ?_; cbv)
| (refine QC.tw ?_; cbv)
| (refine QC.tt ?_ ?_; (focus (simp only [decide_true, Bool.and_true, Bool.and_self] <;> fail)); cbv)
| (refine QC.ff ?_ ?_; (focus (simp only [decide_true, Bool.and_true, Bool.and_self, decide_false, Bool.false_and, reduceCtorEq, not_false_eq_true] <;> fail)); cbv)
| (refine QC.fw ?_; cbv)
| (refine QC.mk (fun hc => ?_) (fun hc => ?_) <;> (try dsimp only at hc) <;> cbv)
| (refine br_mk2 (fun hb => ?_) (fun hb => ?_) <;> (try subst hb) <;> cbv))))
  (refine callq (g2) rfl rfl ?_; cbv; (repeat' (first
| (refine q1w (fun z hz => ?_); (try simp only at hz); cbv)
| (refine rqw ?_; cbv)
| (refine rq (show kfitQ _ _ from by simp [kfitQ, IntKind.min, IntKind.max, IntKind.signed, IntKind.bits]; omega) ?_; cbv)
| (refine chpA ?_; cbv)
| (refine QC.tw ?_; cbv)
| (refine QC.tt ?_ ?_; (focus (simp only [decide_true, Bool.and_true, Bool.and_self] <;> fail)); cbv)
| (refine QC.ff ?_ ?_; (focus (simp only [decide_true, Bool.and_true, Bool.and_self, decide_false, Bool.false_and, reduceCtorEq, not_false_eq_true] <;> fail)); cbv)
| (refine QC.fw ?_; cbv)
| (refine QC.mk (fun hc => ?_) (fun hc => ?_) <;> (try dsimp only at hc) <;> cbv)
| (refine br_mk2 (fun hb => ?_) (fun hb => ?_) <;> (try subst hb) <;> cbv))))
  (refine callq (g3) rfl rfl ?_; cbv; (repeat' (first
| (refine q1w (fun z hz => ?_); (try simp only at hz); cbv)
| (refine rqw ?_; cbv)
| (refine rq (show kfitQ _ _ from by simp [kfitQ, IntKind.min, IntKind.max, IntKind.signed, IntKind.bits]; omega) ?_; cbv)
| (refine chpA ?_; cbv)
| (refine QC.tw ?_; cbv)
| (refine QC.tt ?_ ?_; (focus (simp only [decide_true, Bool.and_true, Bool.and_self] <;> fail)); cbv)
| (refine QC.ff ?_ ?_; (focus (simp only [decide_true, Bool.and_true, Bool.and_self, decide_false, Bool.false_and, reduceCtorEq, not_false_eq_true] <;> fail)); cbv)
| (refine QC.fw ?_; cbv)
| (refine QC.mk (fun hc => ?_) (fun hc => ?_) <;> (try dsimp only at hc) <;> cbv)
| (refine br_mk2 (fun hb => ?_) (fun hb => ?_) <;> (try subst hb) <;> cbv))))
  refine loopQ (A := Nat × Int) (fun p => p.2 = p.1 ∧ p.1 ≤ m) (fun p => m - p.1) (fun p => [(6, .row 6), (7, .int .i64 p.2)]) (fun p => [(6, .row none 5 (G p.1))]) (0, 0) ⟨rfl, Nat.zero_le _⟩ ?_ ?_
  · cbv
    rw [G0]
    exact ⟨rfl, trivial⟩
  · intro ⟨i, j⟩ h
    have hj : j = (i : Int) := h.1
    have hi : i ≤ m := h.2
    clear h
    have hF' := hF i
    have hl := Gl i
    cbv
    (repeat' (first
| (refine q1w (fun z hz => ?_); (try simp only at hz); cbv)
| (refine rqw ?_; cbv)
| (refine rq (show kfitQ _ _ from by simp [kfitQ, IntKind.min, IntKind.max, IntKind.signed, IntKind.bits]; omega) ?_; cbv)
| (refine chpA ?_; cbv)
| (refine QC.tw ?_; cbv)
| (refine QC.tt ?_ ?_; (focus (simp only [decide_true, Bool.and_true, Bool.and_self] <;> fail)); cbv)
| (refine QC.ff ?_ ?_; (focus (simp only [decide_true, Bool.and_true, Bool.and_self, decide_false, Bool.false_and, reduceCtorEq, not_false_eq_true] <;> fail)); cbv)
| (refine QC.fw ?_; cbv)
| (refine QC.mk (fun hc => ?_) (fun hc => ?_) <;> (try dsimp only at hc) <;> cbv)
| (refine br_mk2 (fun hb => ?_) (fun hb => ?_) <;> (try subst hb) <;> cbv)))
    · have hjm : i < m := by (first | omega | (simp only [cst] at *; omega) | (simp only [sm] at *; omega))
      rcases (show i % 5 = 0 ∨ i % 5 = 1 ∨ i % 5 = 2 ∨ i % 5 = 3 ∨ i % 5 = 4 by omega) with e | e | e | e | e
      all_goals rw [e] at hF'
      all_goals first
        | refine qv 0 (by (first | omega | (simp only [cst] at *; omega) | (simp only [sm] at *; omega))) ?_
        | refine qv 1 (by (first | omega | (simp only [cst] at *; omega) | (simp only [sm] at *; omega))) ?_
        | refine qv 2 (by (first | omega | (simp only [cst] at *; omega) | (simp only [sm] at *; omega))) ?_
        | refine qv 3 (by (first | omega | (simp only [cst] at *; omega) | (simp only [sm] at *; omega))) ?_
        | refine qv 4 (by (first | omega | (simp only [cst] at *; omega) | (simp only [sm] at *; omega))) ?_
      all_goals cbv
      all_goals (repeat' (first
| (refine q1w (fun z hz => ?_); (try simp only at hz); cbv)
| (refine rqw ?_; cbv)
| (refine rq (show kfitQ _ _ from by simp [kfitQ, IntKind.min, IntKind.max, IntKind.signed, IntKind.bits]; omega) ?_; cbv)
| (refine chpA ?_; cbv)
| (refine QC.tw ?_; cbv)
| (refine QC.tt ?_ ?_; (focus (simp only [decide_true, Bool.and_true, Bool.and_self] <;> fail)); cbv)
| (refine QC.ff ?_ ?_; (focus (simp only [decide_true, Bool.and_true, Bool.and_self, decide_false, Bool.false_and, reduceCtorEq, not_false_eq_true] <;> fail)); cbv)
| (refine QC.fw ?_; cbv)
| (refine QC.mk (fun hc => ?_) (fun hc => ?_) <;> (try dsimp only at hc) <;> cbv)
| (refine br_mk2 (fun hb => ?_) (fun hb => ?_) <;> (try subst hb) <;> cbv)))
      all_goals refine qv i (by (first | omega | (simp only [cst] at *; omega) | (simp only [sm] at *; omega))) ?_
      all_goals cbv
      all_goals (repeat' (first
| (refine q1w (fun z hz => ?_); (try simp only at hz); cbv)
| (refine rqw ?_; cbv)
| (refine rq (show kfitQ _ _ from by simp [kfitQ, IntKind.min, IntKind.max, IntKind.signed, IntKind.bits]; omega) ?_; cbv)
| (refine chpA ?_; cbv)
| (refine QC.tw ?_; cbv)
| (refine QC.tt ?_ ?_; (focus (simp only [decide_true, Bool.and_true, Bool.and_self] <;> fail)); cbv)
| (refine QC.ff ?_ ?_; (focus (simp only [decide_true, Bool.and_true, Bool.and_self, decide_false, Bool.false_and, reduceCtorEq, not_false_eq_true] <;> fail)); cbv)
| (refine QC.fw ?_; cbv)
| (refine QC.mk (fun hc => ?_) (fun hc => ?_) <;> (try dsimp only at hc) <;> cbv)
| (refine br_mk2 (fun hb => ?_) (fun hb => ?_) <;> (try subst hb) <;> cbv)))
      all_goals rename_i z hz
      all_goals refine ⟨(i + 1, z), ⟨by (first | omega | (simp only [cst] at *; omega) | (simp only [sm] at *; omega)), by omega⟩, by (first | omega | (simp only [cst] at *; omega) | (simp only [sm] at *; omega)), ?_⟩
      all_goals cbv
      all_goals refine ⟨?_, trivial⟩
      all_goals show Blk.row none 5 (O.st (G i) i (.int .u8 _)) = .row none 5 (G (i + 1))
      all_goals rw [← Gs i hjm]
      all_goals congr 3
      all_goals rw [hF']
      all_goals simp only [List.getD_cons_zero, List.getD_cons_succ]
      all_goals (first | omega | (simp only [cst] at *; omega) | (simp only [sm] at *; omega))
    · have e : i = m := by (first | omega | (simp only [cst] at *; omega) | (simp only [sm] at *; omega))
      subst e
      exact ⟨rfl, by rw [← hR], rfl⟩
end Go.Proofs.Ytapcbkcnokoljaa
namespace Go.Proofs.Ytapcbkcnokoljaa
set_option linter.unusedVariables false
set_option linter.unusedSimpArgs false
open Go.RowKit
def u8l (l : List UInt8) : List SV := l.map fun b => SV.int .u8 b.toNat
theorem u8l_len (l : List UInt8) : (u8l l).length = l.length := by simp [u8l]
theorem u8l_at {l : List UInt8} (i : Nat) (h : i < l.length) : (u8l l)[i]? = some (SV.int .u8 (l.getD i 0).toNat) := by simp [u8l, h]
theorem u8l_app (l m : List UInt8) : u8l l ++ u8l m = u8l (l ++ m) := by simp [u8l]
theorem u8l_take (l : List UInt8) (n : Nat) : (u8l l).take n = u8l (l.take n) := by simp [u8l]
theorem u8l_drop (l : List UInt8) (n : Nat) : (u8l l).drop n = u8l (l.drop n) := by simp [u8l]
theorem u8l_set (l : List UInt8) (n : Nat) (v : UInt8) : (u8l l).set n (.int .u8 v.toNat) = u8l (l.set n v) := by simp [u8l, List.map_set]
theorem u8l_rep (n : Nat) : List.replicate n (SV.int .u8 0) = u8l (List.replicate n 0) := by simp [u8l]
theorem u8l_nil : [] = u8l [] := rfl
theorem u8l_of (l : List Int) (h : ∀ v ∈ l, 0 ≤ v ∧ v ≤ 255) : ∃ bs : List UInt8, ints .u8 l = u8l bs ∧ bs.length = l.length := by
  refine ⟨l.map fun v => UInt8.ofNat v.toNat, ?_, by simp⟩
  simp only [ints, u8l, List.map_map]
  apply List.map_congr_left
  intro v hv
  have := h v hv
  simp only [Function.comp_def, UInt8.toNat_ofNat']
  congr 1
  omega

def digit (v : Int) (n i : Nat) : UInt8 := UInt8.ofNat (v / 2 ^ (8 * (n - 1 - i)) % 256).toNat
def bytesOf (v : Int) (n : Nat) : List UInt8 := (List.range n).map (digit v n)
theorem digit_val (v : Int) (n i : Nat) : ((digit v n i).toNat : Int) = v / 2 ^ (8 * (n - 1 - i)) % 256 := by
  have h0 := Int.emod_nonneg (v / 2 ^ (8 * (n - 1 - i))) (show (256 : Int) ≠ 0 by omega)
  have h1 := Int.emod_lt_of_pos (v / 2 ^ (8 * (n - 1 - i))) (show (0 : Int) < 256 by omega)
  unfold digit
  generalize v / 2 ^ (8 * (n - 1 - i)) % 256 = x at *
  simp only [UInt8.toNat_ofNat']
  omega
theorem bytesOf_length (v : Int) (n : Nat) : (bytesOf v n).length = n := by simp [bytesOf]
theorem bytesOf_get (v : Int) (n k : Nat) (h : k < n) : (bytesOf v n)[k]? = some (digit v n k) := by simp [bytesOf, h]
def appRow (bs : List UInt8) (v : Int) (n k : Nat) : List UInt8 := bs ++ ((bytesOf v n).take k ++ List.replicate (n - k) 0)
theorem appRow_zero (bs : List UInt8) (v : Int) (n : Nat) : appRow bs v n 0 = bs ++ List.replicate n 0 := by simp [appRow]
theorem appRow_full (bs : List UInt8) (v : Int) (n : Nat) : appRow bs v n n = bs ++ bytesOf v n := by
  simp [appRow, List.take_of_length_le (Nat.le_of_eq (bytesOf_length v n))]
theorem appRow_get (bs : List UInt8) (v : Int) (n k : Nat) (h : k < n) : (appRow bs v n k)[bs.length + k]? = some 0 := by
  unfold appRow
  rw [List.getElem?_append_right (by omega), List.getElem?_append_right (by rw [List.length_take, bytesOf_length]; omega)]
  have : bs.length + k - bs.length - ((bytesOf v n).take k).length = 0 := by rw [List.length_take, bytesOf_length]; omega
  rw [this, show n - k = (n - (k + 1)) + 1 by omega, List.replicate_succ]
  rfl
theorem appRow_set (bs : List UInt8) (v : Int) (n k : Nat) (h : k < n) : (appRow bs v n k).set (bs.length + k) (digit v n k) = appRow bs v n (k + 1) := by
  unfold appRow
  have hl : ((bytesOf v n).take k).length = k := by rw [List.length_take, bytesOf_length]; omega
  have e : List.take (k + 1) (bytesOf v n) = List.take k (bytesOf v n) ++ [digit v n k] := by
    rw [List.take_add_one, bytesOf_get v n k h]; rfl
  rw [List.set_append_right _ _ (by omega), List.set_append_right _ _ (by omega), hl, e]
  have : bs.length + k - bs.length - k = 0 := by omega
  rw [this, show n - k = (n - (k + 1)) + 1 by omega, List.replicate_succ, List.set_cons_zero, List.append_assoc, List.singleton_append]

def be (bs : List UInt8) : Nat := bs.foldl (fun a b => a * 256 + b.toNat) 0
theorem be_snoc (bs : List UInt8) (b : UInt8) : be (bs ++ [b]) = be bs * 256 + b.toNat := by simp [be]
theorem be_lt (bs : List UInt8) : be bs < 256 ^ bs.length := by
  have key : ∀ (k : Nat) (l : List UInt8), l.length = k → be l < 256 ^ k := by
    intro k
    induction k with
    | zero => intro l hl; rw [List.eq_nil_of_length_eq_zero hl]; simp [be]
    | succ k ih =>
      intro l hl
      have e : l = l.take k ++ [l[k]] := by
        have := List.take_add_one (l := l) (i := k)
        rw [List.getElem?_eq_getElem (by omega), List.take_of_length_le (by omega)] at this
        exact this
      rw [e, be_snoc, Nat.pow_succ]
      have h1 := ih (l.take k) (by simp; omega)
      have h2 := (l[k]).toNat_lt
      omega
  exact key _ _ rfl
theorem be_bytesOf (n : Nat) : ∀ u : Nat, be (bytesOf u n) = u % 256 ^ n := by
  induction n with
  | zero => intro u; simp [bytesOf, be, Nat.mod_one]
  | succ n ih =>
    intro u
    have e : bytesOf (u : Int) (n + 1) = bytesOf ((u / 256 : Nat) : Int) n ++ [digit u (n + 1) n] := by
      unfold bytesOf
      rw [List.range_succ, List.map_append]
      congr 1
      refine List.map_congr_left fun i hi => ?_
      have hi' : i < n := by simpa using hi
      unfold digit
      have e2 : n + 1 - 1 - i = (n - 1 - i) + 1 := by omega
      have e4 : (u : Int) / 2 ^ (8 * (n - 1 - i + 1)) = ((u / 256 : Nat) : Int) / 2 ^ (8 * (n - 1 - i)) := by
        have e5 : (u : Int) / 2 ^ (8 * (n - 1 - i + 1)) = ((u / 2 ^ (8 * (n - 1 - i + 1)) : Nat) : Int) := by simp
        have e6 : ((u / 256 : Nat) : Int) / 2 ^ (8 * (n - 1 - i)) = ((u / 256 / 2 ^ (8 * (n - 1 - i)) : Nat) : Int) := by simp
        rw [e5, e6, Nat.div_div_eq_div_mul, Nat.mul_add, Nat.pow_add, Nat.mul_comm]
      rw [e2, e4]
    have e3 : (digit (u : Int) (n + 1) n).toNat = u % 256 := by
      have := digit_val (u : Int) (n + 1) n
      simp at this
      omega
    rw [e, be_snoc, ih, e3, Nat.pow_succ, Nat.mul_comm (256 ^ n) 256, Nat.mod_mul]
    omega
theorem wrap_shift (v : Int) (k : Nat) (hv : 0 ≤ v ∧ v < 18446744073709551616) (h1 : 1 ≤ k) (h8 : k ≤ 8) :
    ((be (bytesOf v k) : Nat) : Int) = IntKind.u64.wrap (v * 2 ^ (64 - 8 * k)) / 2 ^ (64 - 8 * k) := by
  obtain ⟨u, rfl⟩ := Int.eq_ofNat_of_zero_le hv.1
  rw [be_bytesOf, IntKind.wrap_u64]
  have hk : k = 1 ∨ k = 2 ∨ k = 3 ∨ k = 4 ∨ k = 5 ∨ k = 6 ∨ k = 7 ∨ k = 8 := by omega
  rcases hk with rfl | rfl | rfl | rfl | rfl | rfl | rfl | rfl <;> simp <;> omega
theorem or_byte (a b : Nat) (hb : b < 256) : a * 256 ||| b = a * 256 + b := by
  have := Nat.two_pow_add_eq_or_of_lt (i := 8) (b := b) (by omega) a
  rw [show 2 ^ 8 * a = a * 256 from by omega] at this
  exact this.symm
theorem take_snoc_u8 (bs : List UInt8) (k : Nat) (h : k < bs.length) : bs.take (k + 1) = bs.take k ++ [bs[k]] := by
  rw [List.take_add_one, List.getElem?_eq_getElem h]; rfl

end Go.Proofs.Ytapcbkcnokoljaa
namespace Go.Proofs.Ytapcbkcnokoljaa
set_option linter.unusedVariables false
set_option linter.unusedSimpArgs false
open Go.RowKit
set_option maxHeartbeats 2000000
set_option linter.unusedSimpArgs false
theorem appG (bs : List UInt8) (v : Int) (n : Nat) (X : List SV) (hX : X = u8l bs) : ∃ G : Nat → List SV, G 0 = u8l (bs ++ List.replicate n 0) ∧ (∀ i, (G i).length = bs.length + n) ∧ (∀ i, i < n → O.st (G i) (bs.length + i) (.int .u8 (v / 2 ^ (8 * (n - 1 - i)) % 256)) = G (i + 1)) ∧ G n = u8l (bs ++ bytesOf v n) := by
  refine ⟨fun i => u8l (appRow bs v n i), by simp [appRow], ?_, ?_, ?_⟩
  · intro i; simp [u8l, appRow, bytesOf_length]; omega
  · intro i hi
    rw [ost, ← digit_val, u8l_set, appRow_set _ _ _ _ hi]
  · simp only [appRow_full]
theorem append_c (bs : List UInt8) (X R : List SV) (v N : Int) (n : Nat) (hX : X = u8l bs) (hN : N = n) (hn : n ≤ 8) (hv : 0 ≤ v ∧ v < 18446744073709551616) (hl : bs.length ≤ 140737488352000) (hR : R = u8l (bs ++ bytesOf v n)) :
    Good 11 (nu [.lst none X, .int .u64 v, .int .i64 N] (.row 1) (.row none 5 R)) := by
  obtain ⟨G, G0, Gl, Gs, Gn⟩ := appG bs v n X hX
  have hl : X.length = bs.length := by rw [hX, u8l_len]
  refine Good.of Try.func11 rfl (by rfl) (by kernel_rfl) ?_
  cbv
  (repeat' (first
| (refine q1w (fun z hz => ?_); (try simp only at hz); cbv)
| (refine rqw ?_; cbv)
| (refine rq (show kfitQ _ _ from by simp [kfitQ, IntKind.min, IntKind.max, IntKind.signed, IntKind.bits]; omega) ?_; cbv)
| (refine chpA ?_; cbv)
| (refine QC.tw ?_; cbv)
| (refine QC.tt ?_ ?_; (focus (simp only [decide_true, Bool.and_true, Bool.and_self] <;> fail)); cbv)
| (refine QC.ff ?_ ?_; (focus (simp only [decide_true, Bool.and_true, Bool.and_self, decide_false, Bool.false_and, reduceCtorEq, not_false_eq_true] <;> fail)); cbv)
| (refine QC.fw ?_; cbv)
| (refine QC.mk (fun hc => ?_) (fun hc => ?_) <;> (try dsimp only at hc) <;> cbv)
| (refine br_mk2 (fun hb => ?_) (fun hb => ?_) <;> (try subst hb) <;> cbv)))
  refine loopQ (A := Nat × Int) (fun p => p.2 = p.1 ∧ p.1 ≤ n) (fun p => n - p.1) (fun p => [(7, .row 7), (24, .int .i64 p.2)]) (fun p => [(7, .row none 5 (G p.1))]) (0, 0) ⟨rfl, Nat.zero_le _⟩ ?_ ?_
  · cbv
    refine ⟨?_, trivial⟩
    show _ = Blk.row none 5 (G 0)
    rw [G0]
    simp only [pcp, prp, pln, u8l_len, List.length_replicate, u8l_rep, List.take_zero, List.nil_append]
    rename_i z1 h1 z2 h2
    have e : z2.toNat = bs.length + n := by (first | omega | (simp only [cst] at *; omega) | (simp only [sm] at *; omega))
    rw [e, Nat.zero_add, hl, hX, Nat.min_eq_left (by omega), ← u8l_app]
    simp only [u8l_drop, u8l_take, List.drop_replicate]
    rw [List.take_of_length_le (by omega), Nat.add_sub_cancel_left]
  · intro ⟨i, j⟩ h
    have hj : j = (i : Int) := h.1
    have hi : i ≤ n := h.2
    clear h
    have hgl := Gl i
    cbv
    (repeat' (first
| (refine q1w (fun z hz => ?_); (try simp only at hz); cbv)
| (refine rqw ?_; cbv)
| (refine rq (show kfitQ _ _ from by simp [kfitQ, IntKind.min, IntKind.max, IntKind.signed, IntKind.bits]; omega) ?_; cbv)
| (refine chpA ?_; cbv)
| (refine QC.tw ?_; cbv)
| (refine QC.tt ?_ ?_; (focus (simp only [decide_true, Bool.and_true, Bool.and_self] <;> fail)); cbv)
| (refine QC.ff ?_ ?_; (focus (simp only [decide_true, Bool.and_true, Bool.and_self, decide_false, Bool.false_and, reduceCtorEq, not_false_eq_true] <;> fail)); cbv)
| (refine QC.fw ?_; cbv)
| (refine QC.mk (fun hc => ?_) (fun hc => ?_) <;> (try dsimp only at hc) <;> cbv)
| (refine br_mk2 (fun hb => ?_) (fun hb => ?_) <;> (try subst hb) <;> cbv)))
    · have hjm : i < n := by (first | omega | (simp only [cst] at *; omega) | (simp only [sm] at *; omega))
      have hs := Gs i hjm
      generalize hq : bs.length + i = q at hs
      refine qv q (by (first | omega | (simp only [cst] at *; omega) | (simp only [sm] at *; omega))) ?_
      cbv
      (repeat' (first
| (refine q1w (fun z hz => ?_); (try simp only at hz); cbv)
| (refine rqw ?_; cbv)
| (refine rq (show kfitQ _ _ from by simp [kfitQ, IntKind.min, IntKind.max, IntKind.signed, IntKind.bits]; omega) ?_; cbv)
| (refine chpA ?_; cbv)
| (refine QC.tw ?_; cbv)
| (refine QC.tt ?_ ?_; (focus (simp only [decide_true, Bool.and_true, Bool.and_self] <;> fail)); cbv)
| (refine QC.ff ?_ ?_; (focus (simp only [decide_true, Bool.and_true, Bool.and_self, decide_false, Bool.false_and, reduceCtorEq, not_false_eq_true] <;> fail)); cbv)
| (refine QC.fw ?_; cbv)
| (refine QC.mk (fun hc => ?_) (fun hc => ?_) <;> (try dsimp only at hc) <;> cbv)
| (refine br_mk2 (fun hb => ?_) (fun hb => ?_) <;> (try subst hb) <;> cbv)))
      rename_i z6 h6 z5 h5 z4 h4 z3 h3 z2 h2 z1 h1 z0 h0 z hz
      refine ⟨(i + 1, z), ⟨by (first | omega | (simp only [cst] at *; omega) | (simp only [sm] at *; omega)), by omega⟩, by (first | omega | (simp only [cst] at *; omega) | (simp only [sm] at *; omega)), ?_⟩
      cbv
      refine ⟨?_, trivial⟩
      show Blk.row none 5 (O.st (G i) q (.int .u8 _)) = .row none 5 (G (i + 1))
      rw [← hs]
      rename_i _ hz1
      rw [hz1, h0, show z1.toNat = 8 * (n - 1 - i) by (first | omega | (simp only [cst] at *; omega) | (simp only [sm] at *; omega))]
    · have e : i = n := by (first | omega | (simp only [cst] at *; omega) | (simp only [sm] at *; omega))
      refine ⟨rfl, ?_, rfl⟩
      show Blk.row none 5 (G i) = _
      rw [e, Gn, hR]
theorem append0_c (R : List SV) (v N : Int) (n : Nat) (hN : N = n) (hn : n ≤ 8) (hv : 0 ≤ v ∧ v < 18446744073709551616) (hR : R = u8l (bytesOf v n)) :
    Good 11 (nu [.nil, .int .u64 v, .int .i64 N] (.row 1) (.row none 5 R)) := by
  obtain ⟨G, G0, Gl, Gs, Gn⟩ := appG [] v n [] rfl
  refine Good.of Try.func11 rfl (by rfl) (by kernel_rfl) ?_
  cbv
  (repeat' (first
| (refine q1w (fun z hz => ?_); (try simp only at hz); cbv)
| (refine rqw ?_; cbv)
| (refine rq (show kfitQ _ _ from by simp [kfitQ, IntKind.min, IntKind.max, IntKind.signed, IntKind.bits]; omega) ?_; cbv)
| (refine chpA ?_; cbv)
| (refine QC.tw ?_; cbv)
| (refine QC.tt ?_ ?_; (focus (simp only [decide_true, Bool.and_true, Bool.and_self] <;> fail)); cbv)
| (refine QC.ff ?_ ?_; (focus (simp only [decide_true, Bool.and_true, Bool.and_self, decide_false, Bool.false_and, reduceCtorEq, not_false_eq_true] <;> fail)); cbv)
| (refine QC.fw ?_; cbv)
| (refine QC.mk (fun hc => ?_) (fun hc => ?_) <;> (try dsimp only at hc) <;> cbv)
| (refine br_mk2 (fun hb => ?_) (fun hb => ?_) <;> (try subst hb) <;> cbv)))
  refine loopQ (A := Nat × Int) (fun p => p.2 = p.1 ∧ p.1 ≤ n) (fun p => n - p.1) (fun p => [(7, .row 7), (24, .int .i64 p.2)]) (fun p => [(7, .row none 5 (G p.1))]) (0, 0) ⟨rfl, Nat.zero_le _⟩ ?_ ?_
  · cbv
    refine ⟨?_, trivial⟩
    show _ = Blk.row none 5 (G 0)
    rw [G0]
    rename_i z2 h2
    have e : z2.toNat = n := by (first | omega | (simp only [cst] at *; omega) | (simp only [sm] at *; omega))
    simp only [pcp, prp, pln, List.length_replicate, List.length_nil, List.take_zero, List.nil_append, List.take_nil, Nat.min_self, Nat.zero_min, Nat.add_zero, List.drop_zero, e, u8l_rep]
  · intro ⟨i, j⟩ h
    have hj : j = (i : Int) := h.1
    have hi : i ≤ n := h.2
    clear h
    have hgl := Gl i
    cbv
    (repeat' (first
| (refine q1w (fun z hz => ?_); (try simp only at hz); cbv)
| (refine rqw ?_; cbv)
| (refine rq (show kfitQ _ _ from by simp [kfitQ, IntKind.min, IntKind.max, IntKind.signed, IntKind.bits]; omega) ?_; cbv)
| (refine chpA ?_; cbv)
| (refine QC.tw ?_; cbv)
| (refine QC.tt ?_ ?_; (focus (simp only [decide_true, Bool.and_true, Bool.and_self] <;> fail)); cbv)
| (refine QC.ff ?_ ?_; (focus (simp only [decide_true, Bool.and_true, Bool.and_self, decide_false, Bool.false_and, reduceCtorEq, not_false_eq_true] <;> fail)); cbv)
| (refine QC.fw ?_; cbv)
| (refine QC.mk (fun hc => ?_) (fun hc => ?_) <;> (try dsimp only at hc) <;> cbv)
| (refine br_mk2 (fun hb => ?_) (fun hb => ?_) <;> (try subst hb) <;> cbv)))
    · have hjm : i < n := by (first | omega | (simp only [cst] at *; omega) | (simp only [sm] at *; omega))
      have hs := Gs i hjm
      rw [show [].length + i = i from Nat.zero_add i] at hs
      obtain ⟨q, hq⟩ : ∃ q, q = i := ⟨_, rfl⟩
      rw [← hq] at hs
      refine qv q (by (first | omega | (simp only [cst] at *; omega) | (simp only [sm] at *; omega))) ?_
      cbv
      (repeat' (first
| (refine q1w (fun z hz => ?_); (try simp only at hz); cbv)
| (refine rqw ?_; cbv)
| (refine rq (show kfitQ _ _ from by simp [kfitQ, IntKind.min, IntKind.max, IntKind.signed, IntKind.bits]; omega) ?_; cbv)
| (refine chpA ?_; cbv)
| (refine QC.tw ?_; cbv)
| (refine QC.tt ?_ ?_; (focus (simp only [decide_true, Bool.and_true, Bool.and_self] <;> fail)); cbv)
| (refine QC.ff ?_ ?_; (focus (simp only [decide_true, Bool.and_true, Bool.and_self, decide_false, Bool.false_and, reduceCtorEq, not_false_eq_true] <;> fail)); cbv)
| (refine QC.fw ?_; cbv)
| (refine QC.mk (fun hc => ?_) (fun hc => ?_) <;> (try dsimp only at hc) <;> cbv)
| (refine br_mk2 (fun hb => ?_) (fun hb => ?_) <;> (try subst hb) <;> cbv)))
      rename_i z4 h4 z3 h3 z2 h2 z1 h1 z0 h0 z hz
      refine ⟨(i + 1, z), ⟨by (first | omega | (simp only [cst] at *; omega) | (simp only [sm] at *; omega)), by omega⟩, by (first | omega | (simp only [cst] at *; omega) | (simp only [sm] at *; omega)), ?_⟩
      cbv
      refine ⟨?_, trivial⟩
      show Blk.row none 5 (O.st (G i) q (.int .u8 _)) = .row none 5 (G (i + 1))
      rw [hq] at hs ⊢
      rw [← hs]
      rename_i _ hz1
      rw [hz1, h0, show z1.toNat = 8 * (n - 1 - i) by (first | omega | (simp only [cst] at *; omega) | (simp only [sm] at *; omega))]
    · have e : i = n := by (first | omega | (simp only [cst] at *; omega) | (simp only [sm] at *; omega))
      refine ⟨rfl, ?_, rfl⟩
      show Blk.row none 5 (G i) = _
      rw [e, Gn, hR]
      rfl

theorem beG (bs : List UInt8) (X : List SV) (hX : X = u8l bs) (a n : Nat) (h : a + n ≤ bs.length) : ∃ H Y : Nat → Int, H 0 = 0 ∧ (∀ i, 0 ≤ H i ∧ (i < 8 → H i < 72057594037927936)) ∧ (∀ i, 0 ≤ Y i ∧ Y i < 256) ∧ H n = be ((bs.drop a).take n) ∧
    (∀ i, i < n → H i * 256 + Y i = H (i + 1)) ∧ (∀ i, i < n → (O.sg X a n)[i]? = some (.int .u8 (Y i))) ∧ (O.sg X a n).length = n := by
  refine ⟨fun i => (be ((bs.drop a).take i) : Int), fun i => (bs.getD (a + i) 0).toNat, by simp [be], ?_, ?_, rfl, ?_, ?_, ?_⟩
  · intro i
    refine ⟨by dsimp only; omega, fun hi => ?_⟩
    have h1 := be_lt ((bs.drop a).take i)
    have h2 : 256 ^ ((bs.drop a).take i).length ≤ 256 ^ 7 := Nat.pow_le_pow_right (by omega) (by simp; omega)
    dsimp only
    omega
  · intro i; have := (bs.getD (a + i) 0).toNat_lt; dsimp only; omega
  · intro i hi
    dsimp only
    rw [take_snoc_u8 _ i (by simp; omega), be_snoc]
    simp [show a + i < bs.length by omega]
  · intro i hi
    rw [osg, hX, u8l_drop, u8l_take, u8l_at _ (by simp; omega)]
    simp [show a + i < bs.length by omega, hi]
  · rw [osg, hX]; simp [u8l]; omega
theorem or_i (x y a b z : Int) (hx : 0 ≤ x ∧ x < 72057594037927936) (hy : 0 ≤ y ∧ y < 256) (ha : a = x * 2 ^ Int.toNat 8 % 18446744073709551616) (hb : b = y % 18446744073709551616) (hz : z = ((a.toNat ||| b.toNat : Nat) : Int)) : z = x * 256 + y := by
  have e1 : (2 : Int) ^ Int.toNat 8 = 256 := rfl
  rw [e1] at ha
  have e2 : a.toNat = x.toNat * 256 := by omega
  have e3 : b = y := by omega
  rw [hz, e2, e3, or_byte _ _ (by omega)]
  omega
theorem uint_c (bs : List UInt8) (X : List SV) (A N r : Int) (a n : Nat) (hX : X = u8l bs) (hA : A = a) (hN : N = n) (h1 : 1 ≤ n) (hn : n ≤ 8) (hl : bs.length ≤ 140737488352000) (hb : a + n ≤ bs.length) (hr : r = be ((bs.drop a).take n)) :
    Good 12 (pu [.lst none X, .int .i64 A, .int .i64 N] (.tup [.int .u64 r, .bool true])) := by
  have hl : X.length = bs.length := by rw [hX, u8l_len]
  obtain ⟨H, Y, H0, Hb, HY, Hn, Hs, Hy, HL⟩ := beG bs X hX a n hb
  refine Good.of Try.func12 rfl (by rfl) (by kernel_rfl) ?_
  cbv
  (repeat' (first
| (refine q1w (fun z hz => ?_); (try simp only at hz); cbv)
| (refine rqw ?_; cbv)
| (refine rq (show kfitQ _ _ from by simp [kfitQ, IntKind.min, IntKind.max, IntKind.signed, IntKind.bits]; omega) ?_; cbv)
| (refine chpA ?_; cbv)
| (refine QC.tw ?_; cbv)
| (refine QC.tt ?_ ?_; (focus (simp only [decide_true, Bool.and_true, Bool.and_self] <;> fail)); cbv)
| (refine QC.ff ?_ ?_; (focus (simp only [decide_true, Bool.and_true, Bool.and_self, decide_false, Bool.false_and, reduceCtorEq, not_false_eq_true] <;> fail)); cbv)
| (refine QC.fw ?_; cbv)
| (refine QC.mk (fun hc => ?_) (fun hc => ?_) <;> (try dsimp only at hc) <;> cbv)
| (refine br_mk2 (fun hb => ?_) (fun hb => ?_) <;> (try subst hb) <;> cbv)))
  rename_i z2 h2 z1 h1' z0 h0
  have e1 : (Classical.choice lo_ex).tn A = a := by rw [ptn]; (first | omega | (simp only [cst] at *; omega) | (simp only [sm] at *; omega))
  have e2 : (Classical.choice lo_ex).si z0 A = n := by rw [psi]; (first | omega | (simp only [cst] at *; omega) | (simp only [sm] at *; omega))
  have hsg : (Classical.choice lo_ex).sg X ((Classical.choice lo_ex).tn A) ((Classical.choice lo_ex).si z0 A) = O.sg X a n := by rw [e1, e2]; rfl
  have hzn : z = n := by
    rw [hz, hsg, oln, HL]
  rw [← hsg] at Hy
  refine loopQ (A := Nat × Int × Int) (fun p => p.2.1 = p.1 ∧ p.1 ≤ n ∧ p.2.2 = H p.1) (fun p => n - p.1) (fun p => [(8, .int .u64 p.2.2), (36, .int .i64 p.2.1)]) (fun p => []) (0, 0, 0) ⟨rfl, Nat.zero_le _, H0.symm⟩ ?_ ?_
  · cbv
  · intro ⟨i, j, x⟩ h
    have hj : j = (i : Int) := h.1
    have hi : i ≤ n := h.2.1
    have hx : x = H i := h.2.2
    clear h
    have hb1 := Hb i
    have hy1 := HY i
    cbv
    (repeat' (first
| (refine q1w (fun z hz => ?_); (try simp only at hz); cbv)
| (refine rqw ?_; cbv)
| (refine rq (show kfitQ _ _ from by simp [kfitQ, IntKind.min, IntKind.max, IntKind.signed, IntKind.bits]; omega) ?_; cbv)
| (refine chpA ?_; cbv)
| (refine QC.tw ?_; cbv)
| (refine QC.tt ?_ ?_; (focus (simp only [decide_true, Bool.and_true, Bool.and_self] <;> fail)); cbv)
| (refine QC.ff ?_ ?_; (focus (simp only [decide_true, Bool.and_true, Bool.and_self, decide_false, Bool.false_and, reduceCtorEq, not_false_eq_true] <;> fail)); cbv)
| (refine QC.fw ?_; cbv)
| (refine QC.mk (fun hc => ?_) (fun hc => ?_) <;> (try dsimp only at hc) <;> cbv)
| (refine br_mk2 (fun hb => ?_) (fun hb => ?_) <;> (try subst hb) <;> cbv)))
    · have hjm : i < n := by (first | omega | (simp only [cst] at *; omega) | (simp only [sm] at *; omega))
      have hs := Hs i hjm
      have hb2 := hb1.2 (by omega)
      have hy2 := Hy i hjm
      generalize Y i = y at hy1 hs hy2
      refine qv (i, .int .u8 y) ⟨hj, hy2⟩ ?_
      cbv
      (repeat' (first
| (refine q1w (fun z hz => ?_); (try simp only at hz); cbv)
| (refine rqw ?_; cbv)
| (refine rq (show kfitQ _ _ from by simp [kfitQ, IntKind.min, IntKind.max, IntKind.signed, IntKind.bits]; omega) ?_; cbv)
| (refine chpA ?_; cbv)
| (refine QC.tw ?_; cbv)
| (refine QC.tt ?_ ?_; (focus (simp only [decide_true, Bool.and_true, Bool.and_self] <;> fail)); cbv)
| (refine QC.ff ?_ ?_; (focus (simp only [decide_true, Bool.and_true, Bool.and_self, decide_false, Bool.false_and, reduceCtorEq, not_false_eq_true] <;> fail)); cbv)
| (refine QC.fw ?_; cbv)
| (refine QC.mk (fun hc => ?_) (fun hc => ?_) <;> (try dsimp only at hc) <;> cbv)
| (refine br_mk2 (fun hb => ?_) (fun hb => ?_) <;> (try subst hb) <;> cbv)))
      rename_i z3 h3 z4 h4 z5 h5
      have e := or_i x y z3 z4 z5 (by (first | omega | (simp only [cst] at *; omega) | (simp only [sm] at *; omega))) hy1 h3 h4 h5
      refine ⟨(i + 1, z, z5), ⟨by (first | omega | (simp only [cst] at *; omega) | (simp only [sm] at *; omega)), by omega, by (first | omega | (simp only [cst] at *; omega) | (simp only [sm] at *; omega))⟩, by (first | omega | (simp only [cst] at *; omega) | (simp only [sm] at *; omega)), ?_⟩
      cbv
    · have e : i = n := by (first | omega | (simp only [cst] at *; omega) | (simp only [sm] at *; omega))
      refine ⟨?_, rfl, rfl⟩
      rw [hx, hr, e, Hn]
end Go.Proofs.Ytapcbkcnokoljaa
namespace Go.Proofs.Ytapcbkcnokoljaa
set_option linter.unusedVariables false
set_option linter.unusedSimpArgs false
open Go.RowKit
set_option maxHeartbeats 2000000
theorem same_c (xs ys : List UInt8) (X Y : List SV) (r : Bool) (hX : X = u8l xs) (hY : Y = u8l ys) (hlx : xs.length ≤ 140737488352000) (hly : ys.length ≤ 140737488352000) (hr : r = decide (xs = ys)) :
    Good 14 (pu [.lst none X, .lst none Y] (.bool r)) := by
  have hl : X.length = xs.length := by rw [hX, u8l_len]
  have hl' : Y.length = ys.length := by rw [hY, u8l_len]
  have hx : ∀ i, i < xs.length → X[i]? = some (.int .u8 (xs.getD i 0).toNat) := fun i hi => by rw [hX]; exact u8l_at i hi
  have hy : ∀ i, i < ys.length → Y[i]? = some (.int .u8 (ys.getD i 0).toNat) := fun i hi => by rw [hY]; exact u8l_at i hi
  obtain ⟨F, hF⟩ : ∃ F : Nat → Int, ∀ i, F i = (xs.getD i 0).toNat := ⟨_, fun _ => rfl⟩
  obtain ⟨G, hG⟩ : ∃ G : Nat → Int, ∀ i, G i = (ys.getD i 0).toNat := ⟨_, fun _ => rfl⟩
  have key : ∀ i, xs.take i = ys.take i → i < xs.length → i < ys.length → F i = G i → xs.take (i + 1) = ys.take (i + 1) := by
    intro i h h1 h2 h3
    rw [take_snoc_u8 _ _ h1, take_snoc_u8 _ _ h2, h]
    rw [hF, hG] at h3
    have : (xs.getD i 0).toNat = (ys.getD i 0).toNat := by omega
    have := UInt8.toNat_inj.1 this
    simp only [List.getD, List.getElem?_eq_getElem h1, List.getElem?_eq_getElem h2, Option.getD_some] at this
    rw [this]
  have key2 : ∀ i, ¬ F i = G i → xs ≠ ys := by
    intro i h e; subst e; rw [hF, hG] at h; exact h rfl
  simp only [← hF] at hx
  simp only [← hG] at hy
  refine Good.of Try.func14 rfl (by rfl) (by kernel_rfl) ?_
  cbv
  (repeat' (first
| (refine q1w (fun z hz => ?_); (try simp only at hz); cbv)
| (refine rqw ?_; cbv)
| (refine rq (show kfitQ _ _ from by simp [kfitQ, IntKind.min, IntKind.max, IntKind.signed, IntKind.bits]; omega) ?_; cbv)
| (refine chpA ?_; cbv)
| (refine QC.tw ?_; cbv)
| (refine QC.tt ?_ ?_; (focus (simp only [decide_true, Bool.and_true, Bool.and_self] <;> fail)); cbv)
| (refine QC.ff ?_ ?_; (focus (simp only [decide_true, Bool.and_true, Bool.and_self, decide_false, Bool.false_and, reduceCtorEq, not_false_eq_true] <;> fail)); cbv)
| (refine QC.fw ?_; cbv)
| (refine QC.mk (fun hc => ?_) (fun hc => ?_) <;> (try dsimp only at hc) <;> cbv)
| (refine br_mk2 (fun hb => ?_) (fun hb => ?_) <;> (try subst hb) <;> cbv)))
  · have e : ¬ xs.length = ys.length := by (first | omega | (simp only [cst] at *; omega) | (simp only [sm] at *; omega))
    have e2 : ¬ xs = ys := fun h => e (by rw [h])
    refine ⟨?_, rfl, rfl⟩
    rw [hr, decide_eq_false e2]
  · have e : xs.length = ys.length := by (first | omega | (simp only [cst] at *; omega) | (simp only [sm] at *; omega))
    refine loopQ (A := Nat × Int) (fun p => p.2 = p.1 ∧ p.1 ≤ xs.length ∧ xs.take p.1 = ys.take p.1) (fun p => xs.length - p.1) (fun p => [(5, .int .i64 p.2)]) (fun p => []) (0, 0) ⟨rfl, Nat.zero_le _, rfl⟩ ?_ ?_
    · cbv
    · intro ⟨i, j⟩ h
      have hj : j = (i : Int) := h.1
      have hi : i ≤ xs.length := h.2.1
      have ht : xs.take i = ys.take i := h.2.2
      clear h
      have h1 := hx i
      have h2 := hy i
      have h3 := key i ht
      have h4 := key2 i
      cbv
      (repeat' (first
| (refine q1w (fun z hz => ?_); (try simp only at hz); cbv)
| (refine rqw ?_; cbv)
| (refine rq (show kfitQ _ _ from by simp [kfitQ, IntKind.min, IntKind.max, IntKind.signed, IntKind.bits]; omega) ?_; cbv)
| (refine chpA ?_; cbv)
| (refine QC.tw ?_; cbv)
| (refine QC.tt ?_ ?_; (focus (simp only [decide_true, Bool.and_true, Bool.and_self] <;> fail)); cbv)
| (refine QC.ff ?_ ?_; (focus (simp only [decide_true, Bool.and_true, Bool.and_self, decide_false, Bool.false_and, reduceCtorEq, not_false_eq_true] <;> fail)); cbv)
| (refine QC.fw ?_; cbv)
| (refine QC.mk (fun hc => ?_) (fun hc => ?_) <;> (try dsimp only at hc) <;> cbv)
| (refine br_mk2 (fun hb => ?_) (fun hb => ?_) <;> (try subst hb) <;> cbv)))
      · have hi2 : i < xs.length := by (first | omega | (simp only [cst] at *; omega) | (simp only [sm] at *; omega))
        have h3 := h3 hi2 (by omega)
        have h1 := h1 hi2
        have h2 := h2 (by omega)
        generalize F i = x at h1 h3 h4
        generalize G i = y at h2 h3 h4
        refine qv (i, .int .u8 x) ⟨hj, h1⟩ ?_
        cbv
        (repeat' (first
| (refine q1w (fun z hz => ?_); (try simp only at hz); cbv)
| (refine rqw ?_; cbv)
| (refine rq (show kfitQ _ _ from by simp [kfitQ, IntKind.min, IntKind.max, IntKind.signed, IntKind.bits]; omega) ?_; cbv)
| (refine chpA ?_; cbv)
| (refine QC.tw ?_; cbv)
| (refine QC.tt ?_ ?_; (focus (simp only [decide_true, Bool.and_true, Bool.and_self] <;> fail)); cbv)
| (refine QC.ff ?_ ?_; (focus (simp only [decide_true, Bool.and_true, Bool.and_self, decide_false, Bool.false_and, reduceCtorEq, not_false_eq_true] <;> fail)); cbv)
| (refine QC.fw ?_; cbv)
| (refine QC.mk (fun hc => ?_) (fun hc => ?_) <;> (try dsimp only at hc) <;> cbv)
| (refine br_mk2 (fun hb => ?_) (fun hb => ?_) <;> (try subst hb) <;> cbv)))
        refine qv (i, .int .u8 y) ⟨hj, h2⟩ ?_
        cbv
        (repeat' (first
| (refine q1w (fun z hz => ?_); (try simp only at hz); cbv)
| (refine rqw ?_; cbv)
| (refine rq (show kfitQ _ _ from by simp [kfitQ, IntKind.min, IntKind.max, IntKind.signed, IntKind.bits]; omega) ?_; cbv)
| (refine chpA ?_; cbv)
| (refine QC.tw ?_; cbv)
| (refine QC.tt ?_ ?_; (focus (simp only [decide_true, Bool.and_true, Bool.and_self] <;> fail)); cbv)
| (refine QC.ff ?_ ?_; (focus (simp only [decide_true, Bool.and_true, Bool.and_self, decide_false, Bool.false_and, reduceCtorEq, not_false_eq_true] <;> fail)); cbv)
| (refine QC.fw ?_; cbv)
| (refine QC.mk (fun hc => ?_) (fun hc => ?_) <;> (try dsimp only at hc) <;> cbv)
| (refine br_mk2 (fun hb => ?_) (fun hb => ?_) <;> (try subst hb) <;> cbv)))
        · refine ⟨?_, rfl, rfl⟩
          rw [hr, decide_eq_false (h4 hc)]
        · refine ⟨(i + 1, z), ⟨by (first | omega | (simp only [cst] at *; omega) | (simp only [sm] at *; omega)), by omega, h3 (by omega)⟩, by (first | omega | (simp only [cst] at *; omega) | (simp only [sm] at *; omega)), ?_⟩
          cbv
      · have e2 : i = xs.length := by (first | omega | (simp only [cst] at *; omega) | (simp only [sm] at *; omega))
        refine ⟨?_, rfl, rfl⟩
        rw [e2, List.take_length, e, List.take_length] at ht
        rw [hr, decide_eq_true ht]
end Go.Proofs.Ytapcbkcnokoljaa
namespace Go.Proofs.Ytapcbkcnokoljaa
set_option linter.unusedVariables false
set_option linter.unusedSimpArgs false
open Go.RowKit
def restB (bs : List UInt8) (len : Nat) : Bool := decide (len % 8 = 0 ∨ (bs.getD (bs.length - 1) 0).toNat % 2 ^ (8 - len % 8) = 0)
def validB (bs : List UInt8) (len : Int) : Bool := decide (0 ≤ len) && (decide (bs.length = (len.toNat + 7) / 8) && restB bs len.toNat)

def bitAt (bs : List UInt8) (i : Nat) : Nat := (bs.getD (i / 8) 0).toNat / 2 ^ (7 - i % 8) % 2
theorem bitAt_lt (bs : List UInt8) (i : Nat) : bitAt bs i < 2 := Nat.mod_lt _ (by omega)
def numBits (bs : List UInt8) (at_ : Nat) : Nat → Nat
  | 0 => 0
  | n + 1 => numBits bs at_ n * 2 + bitAt bs (at_ + n)
theorem numBits_lt (bs : List UInt8) (at_ n : Nat) : numBits bs at_ n < 2 ^ n := by
  induction n with
  | zero => simp [numBits]
  | succ n ih => have := bitAt_lt bs (at_ + n); simp only [numBits, Nat.pow_succ]; omega
theorem or_bit (a b : Nat) (hb : b < 2) : a * 2 ||| b = a * 2 + b := by
  have := Nat.two_pow_add_eq_or_of_lt (i := 1) (b := b) (by omega) a
  rw [show 2 ^ 1 * a = a * 2 from by omega] at this
  exact this.symm
def okBits (bs : List UInt8) (len at_ n : Int) : Bool := validB bs len && decide (1 ≤ n ∧ n ≤ 64 ∧ 0 ≤ at_ ∧ at_ + n ≤ len)
def putBit (r : List UInt8) (p : Nat) : List UInt8 := r.set (p / 8) (UInt8.ofNat ((r.getD (p / 8) 0).toNat ||| 2 ^ (7 - p % 8)))
@[simp] theorem putBit_length (r : List UInt8) (p : Nat) : (putBit r p).length = r.length := by simp [putBit]
theorem or_pow_lt (y k : Nat) (hy : y < 256) (hk : k < 8) : y ||| 2 ^ k < 256 :=
  Nat.or_lt_two_pow (n := 8) hy (Nat.pow_lt_pow_right (by omega) hk)
theorem div_pow_mod (x k : Nat) : x / 2 ^ k % 2 = (x.testBit k).toNat := by
  rw [Nat.testBit_eq_decide_div_mod_eq]
  have : x / 2 ^ k % 2 < 2 := Nat.mod_lt _ (by omega)
  by_cases h : x / 2 ^ k % 2 = 1
  · simp [h]
  · have : x / 2 ^ k % 2 = 0 := by omega
    simp [this]
theorem putBit_toNat (r : List UInt8) (p : Nat) (hp : p / 8 < r.length) (j : Nat) : ((putBit r p).getD j 0).toNat = if j = p / 8 then (r.getD (p / 8) 0).toNat ||| 2 ^ (7 - p % 8) else (r.getD j 0).toNat := by
  unfold putBit
  by_cases h : j = p / 8
  · subst h
    rw [if_pos rfl]
    simp only [List.getD, List.getElem?_set_self hp, Option.getD_some, UInt8.toNat_ofNat']
    have := or_pow_lt (r.getD (p / 8) 0).toNat (7 - p % 8) (UInt8.toNat_lt _) (by omega)
    simp only [List.getD] at this
    omega
  · rw [if_neg h]
    simp [List.getD, Ne.symm h]
theorem bitAt_putBit (r : List UInt8) (p i : Nat) (hp : p / 8 < r.length) : bitAt (putBit r p) i = if i = p then 1 else bitAt r i := by
  unfold bitAt
  rw [putBit_toNat r p hp]
  by_cases h8 : i / 8 = p / 8
  · rw [if_pos h8, div_pow_mod, Nat.testBit_or, Nat.testBit_two_pow, div_pow_mod, h8]
    by_cases h : i = p
    · subst h; simp
    · have : ¬ (7 - p % 8 = 7 - i % 8) := by omega
      rw [if_neg h]
      simp [this]
  · have h : i ≠ p := by rintro rfl; exact h8 rfl
    rw [if_neg h8, if_neg h]
theorem bitAt_append_zeros (bs : List UInt8) (k i : Nat) : bitAt (bs ++ List.replicate k 0) i = bitAt bs i := by
  unfold bitAt
  have : (bs ++ List.replicate k 0).getD (i / 8) 0 = bs.getD (i / 8) 0 := by
    by_cases h : i / 8 < bs.length
    · simp only [List.getD, List.getElem?_append_left h]
    · simp only [List.getD, List.getElem?_append_right (show bs.length ≤ i / 8 by omega), List.getElem?_replicate, List.getElem?_eq_none (show bs.length ≤ i / 8 by omega)]
      split <;> rfl
  rw [this]

def bitV (v : Int) (n i : Nat) : Nat := (v / 2 ^ (n - 1 - i) % 2).toNat
def rowP (r0 : List UInt8) (len : Nat) (v : Int) (n : Nat) : Nat → List UInt8
  | 0 => r0
  | k + 1 => if bitV v n k = 1 then putBit (rowP r0 len v n k) (len + k) else rowP r0 len v n k
@[simp] theorem rowP_length (r0 : List UInt8) (len : Nat) (v : Int) (n k : Nat) : (rowP r0 len v n k).length = r0.length := by
  induction k with
  | zero => rfl
  | succ k ih => simp only [rowP]; split <;> simp [ih]
theorem bitV_lt (v : Int) (n i : Nat) : bitV v n i < 2 := by
  unfold bitV
  have h0 := Int.emod_nonneg (v / 2 ^ (n - 1 - i)) (show (2 : Int) ≠ 0 by omega)
  have h1 := Int.emod_lt_of_pos (v / 2 ^ (n - 1 - i)) (show (0 : Int) < 2 by omega)
  omega
theorem bitAt_rowP (r0 : List UInt8) (len : Nat) (v : Int) (n k i : Nat) (hk : (len + k + 7) / 8 ≤ r0.length) (hz : ∀ j, len ≤ j → bitAt r0 j = 0) :
    bitAt (rowP r0 len v n k) i = if i < len then bitAt r0 i else if i < len + k then bitV v n (i - len) else 0 := by
  induction k with
  | zero =>
    simp only [rowP]
    split
    · rfl
    · rw [if_neg (by omega)]; exact hz i (by omega)
  | succ k ih =>
    have ih := ih (by omega)
    have hlt := bitV_lt v n k
    simp only [rowP]
    by_cases hb : bitV v n k = 1
    · rw [if_pos hb, bitAt_putBit _ _ _ (by simp; omega), ih]
      by_cases h : i = len + k
      · subst h
        rw [if_pos rfl, if_neg (by omega), if_pos (by omega), show len + k - len = k by omega, hb]
      · rw [if_neg h]
        by_cases h1 : i < len
        · simp [h1]
        · by_cases h2 : i < len + k
          · simp [h1, h2, show i < len + (k + 1) by omega]
          · simp [h1, h2, show ¬ i < len + (k + 1) by omega]
    · rw [if_neg hb, ih]
      by_cases h1 : i < len
      · simp [h1]
      · by_cases h2 : i < len + k
        · simp [h1, h2, show i < len + (k + 1) by omega]
        · by_cases h3 : i = len + k
          · subst h3
            rw [if_neg (by omega), if_neg (by omega), if_neg (by omega), if_pos (by omega), show len + k - len = k by omega]
            omega
          · simp [h1, h2, show ¬ i < len + (k + 1) by omega]
def appBits (bs : List UInt8) (len : Nat) (v : Int) (n : Nat) : List UInt8 := rowP (bs ++ List.replicate ((len + n + 7) / 8 - bs.length) 0) len v n n

theorem low_zero (y s : Nat) : y % 2 ^ s = 0 ↔ ∀ j, j < s → y / 2 ^ j % 2 = 0 := by
  constructor
  · intro h j hj
    rw [div_pow_mod]
    have h1 : (y % 2 ^ s).testBit j = false := by rw [h]; simp
    rw [Nat.testBit_mod_two_pow] at h1
    simp [hj] at h1
    simp [h1]
  · intro h
    apply Nat.eq_of_testBit_eq
    intro j
    rw [Nat.testBit_mod_two_pow, Nat.zero_testBit]
    by_cases hj : j < s
    · have := h j hj
      rw [div_pow_mod] at this
      cases hb : y.testBit j
      · simp
      · rw [hb] at this; simp at this
    · simp [hj]
theorem restB_iff (bs : List UInt8) (len : Nat) (hl : bs.length = (len + 7) / 8) : restB bs len = true ↔ ∀ j, len ≤ j → bitAt bs j = 0 := by
  unfold restB
  rw [decide_eq_true_eq]
  constructor
  · intro h j hj
    unfold bitAt
    by_cases hb : j / 8 < bs.length
    · have h8 : len % 8 ≠ 0 := by omega
      have hz : (bs.getD (bs.length - 1) 0).toNat % 2 ^ (8 - len % 8) = 0 := by
        rcases h with h | h
        · omega
        · exact h
      have e : j / 8 = bs.length - 1 := by omega
      rw [e]
      exact (low_zero _ _).1 hz _ (by omega)
    · have : bs.getD (j / 8) 0 = 0 := by simp [List.getD, List.getElem?_eq_none (show bs.length ≤ j / 8 by omega)]
      rw [this]
      simp
  · intro h
    by_cases h8 : len % 8 = 0
    · exact .inl h8
    · right
      rw [low_zero]
      intro j hj
      have := h (8 * (bs.length - 1) + (7 - j)) (by omega)
      unfold bitAt at this
      rw [show (8 * (bs.length - 1) + (7 - j)) / 8 = bs.length - 1 by omega, show 7 - (8 * (bs.length - 1) + (7 - j)) % 8 = j by omega] at this
      exact this
theorem validB_iff (bs : List UInt8) (len : Nat) : validB bs len = true ↔ bs.length = (len + 7) / 8 ∧ ∀ j, len ≤ j → bitAt bs j = 0 := by
  simp only [validB, Bool.and_eq_true, decide_eq_true_eq, Int.toNat_natCast]
  constructor
  · rintro ⟨_, h1, h2⟩
    exact ⟨h1, (restB_iff bs len h1).1 h2⟩
  · rintro ⟨h1, h2⟩
    exact ⟨by omega, h1, (restB_iff bs len h1).2 h2⟩
theorem validB_nonneg {bs : List UInt8} {len : Int} (h : validB bs len = true) : ∃ n : Nat, len = n := by
  simp only [validB, Bool.and_eq_true, decide_eq_true_eq] at h
  exact ⟨len.toNat, by omega⟩
@[simp] theorem appBits_length (bs : List UInt8) (len : Nat) (v : Int) (n : Nat) (hl : bs.length = (len + 7) / 8) : (appBits bs len v n).length = (len + n + 7) / 8 := by
  simp [appBits, hl]; omega
theorem bitAt_appBits (bs : List UInt8) (len : Nat) (v : Int) (n i : Nat) (hv : validB bs len = true) :
    bitAt (appBits bs len v n) i = if i < len then bitAt bs i else if i < len + n then bitV v n (i - len) else 0 := by
  obtain ⟨hl, hz⟩ := (validB_iff bs len).1 hv
  have := bitAt_rowP (bs ++ List.replicate ((len + n + 7) / 8 - bs.length) 0) len v n n i (by simp; omega) (fun j hj => by rw [bitAt_append_zeros]; exact hz j hj)
  rw [bitAt_append_zeros] at this
  exact this
theorem validB_appBits (bs : List UInt8) (len : Nat) (v : Int) (n : Nat) (hv : validB bs len = true) : validB (appBits bs len v n) ((len + n : Nat) : Int) = true := by
  obtain ⟨hl, hz⟩ := (validB_iff bs len).1 hv
  rw [validB_iff]
  refine ⟨appBits_length _ _ _ _ hl, fun j hj => ?_⟩
  rw [bitAt_appBits _ _ _ _ _ hv, if_neg (by omega), if_neg (by omega)]
theorem numBits_ext (a b : List UInt8) (p q n : Nat) (h : ∀ i, i < n → bitAt a (p + i) = bitAt b (q + i)) : numBits a p n = numBits b q n := by
  induction n with
  | zero => rfl
  | succ n ih => simp only [numBits]; rw [ih (fun i hi => h i (by omega)), h n (by omega)]
theorem numBits_of (bs : List UInt8) (p : Nat) (u n : Nat) (h : ∀ i, i < n → bitAt bs (p + i) = bitV u n i) : numBits bs p n = u % 2 ^ n := by
  have key : ∀ j, j ≤ n → numBits bs p j = u / 2 ^ (n - j) % 2 ^ j := by
    intro j
    induction j with
    | zero => intro _; simp [numBits, Nat.mod_one]
    | succ j ih =>
      intro hj
      simp only [numBits]
      rw [ih (by omega), h j (by omega)]
      have e : bitV (u : Int) n j = u / 2 ^ (n - (j + 1)) % 2 := by
        unfold bitV
        rw [show n - 1 - j = n - (j + 1) by omega]
        have : (u : Int) / 2 ^ (n - (j + 1)) % 2 = ((u / 2 ^ (n - (j + 1)) % 2 : Nat) : Int) := by simp
        rw [this, Int.toNat_natCast]
      have e2 : u / 2 ^ (n - j) = u / 2 ^ (n - (j + 1)) / 2 := by
        rw [Nat.div_div_eq_div_mul, ← Nat.pow_succ, show (n - (j + 1)).succ = n - j by omega]
      rw [e, e2]
      generalize u / 2 ^ (n - (j + 1)) = x
      rw [Nat.pow_succ, Nat.mul_comm (2 ^ j) 2, Nat.mod_mul]
      omega
  have := key n (Nat.le_refl _)
  simpa using this
theorem wrap_bits (v : Int) (k : Nat) (hv : 0 ≤ v ∧ v < 18446744073709551616) (hk : k ≤ 64) : IntKind.u64.wrap (v * 2 ^ (64 - k)) / 2 ^ (64 - k) = ((v.toNat % 2 ^ k : Nat) : Int) := by
  obtain ⟨u, rfl⟩ := Int.eq_ofNat_of_zero_le hv.1
  rw [IntKind.wrap_u64]
  have e1 : (u : Int) * 2 ^ (64 - k) % 18446744073709551616 / 2 ^ (64 - k) = ((u * 2 ^ (64 - k) % 18446744073709551616 / 2 ^ (64 - k) : Nat) : Int) := by simp
  rw [e1]
  have e2 : (18446744073709551616 : Nat) = 2 ^ k * 2 ^ (64 - k) := by
    rw [← Nat.pow_add, show k + (64 - k) = 64 by omega]
  rw [e2, Nat.mul_mod_mul_right, Nat.mul_div_cancel _ (Nat.pow_pos (by omega))]
  simp
end Go.Proofs.Ytapcbkcnokoljaa
namespace Go.Proofs.Ytapcbkcnokoljaa
set_option linter.unusedVariables false
set_option linter.unusedSimpArgs false
open Go.RowKit
set_option maxHeartbeats 2000000
set_option linter.unusedSimpArgs false
theorem size_c (N r : Int) (n : Nat) (hN : N = n) (hn : n ≤ 9223372036854775807) (hr : r = ((n + 7) / 8 : Nat)) : Good 31 (pu [.int .i64 N] (.int .i64 r)) := by
  refine Good.of Try.func31 rfl (by rfl) (by kernel_rfl) ?_
  cbv
  (repeat' (first
| (refine q1w (fun z hz => ?_); (try simp only at hz); cbv)
| (refine rqw ?_; cbv)
| (refine rq (show kfitQ _ _ from by simp [kfitQ, IntKind.min, IntKind.max, IntKind.signed, IntKind.bits]; omega) ?_; cbv)
| (refine chpA ?_; cbv)
| (refine QC.tw ?_; cbv)
| (refine QC.tt ?_ ?_; (focus (simp only [decide_true, Bool.and_true, Bool.and_self] <;> fail)); cbv)
| (refine QC.ff ?_ ?_; (focus (simp only [decide_true, Bool.and_true, Bool.and_self, decide_false, Bool.false_and, reduceCtorEq, not_false_eq_true] <;> fail)); cbv)
| (refine QC.fw ?_; cbv)
| (refine QC.mk (fun hc => ?_) (fun hc => ?_) <;> (try dsimp only at hc) <;> cbv)
| (refine br_mk2 (fun hb => ?_) (fun hb => ?_) <;> (try subst hb) <;> cbv)))
  all_goals refine ⟨?_, rfl, rfl⟩
  all_goals congr 1
  all_goals (first | omega | (simp only [cst] at *; omega) | (simp only [sm] at *; omega))
theorem and_low (x k : Nat) (hk : k ≤ 8) : x &&& (255 / 2 ^ k) = x % 2 ^ (8 - k) := by
  have h : 255 / 2 ^ k = 2 ^ (8 - k) - 1 := by
    have hk : k = 0 ∨ k = 1 ∨ k = 2 ∨ k = 3 ∨ k = 4 ∨ k = 5 ∨ k = 6 ∨ k = 7 ∨ k = 8 := by omega
    rcases hk with rfl | rfl | rfl | rfl | rfl | rfl | rfl | rfl | rfl <;> rfl
  rw [h, Nat.and_two_pow_sub_one_eq_mod]
theorem valid_c (bs : List UInt8) (X : List SV) (len : Int) (r : Bool) (hX : X = u8l bs) (hl : bs.length ≤ 140737488352000) (hlen : -9223372036854775808 ≤ len ∧ len ≤ 9223372036854775807) (hr : r = validB bs len) :
    Good 16 (pu [.agg [.lst none X, .int .i64 len]] (.bool r)) := by
  have hl : X.length = bs.length := by rw [hX, u8l_len]
  by_cases h0 : len < 0
  · refine Good.of Try.func16 rfl (by rfl) (by kernel_rfl) ?_
    cbv
    (repeat' (first
| (refine q1w (fun z hz => ?_); (try simp only at hz); cbv)
| (refine rqw ?_; cbv)
| (refine rq (show kfitQ _ _ from by simp [kfitQ, IntKind.min, IntKind.max, IntKind.signed, IntKind.bits]; omega) ?_; cbv)
| (refine chpA ?_; cbv)
| (refine QC.tw ?_; cbv)
| (refine QC.tt ?_ ?_; (focus (simp only [decide_true, Bool.and_true, Bool.and_self] <;> fail)); cbv)
| (refine QC.ff ?_ ?_; (focus (simp only [decide_true, Bool.and_true, Bool.and_self, decide_false, Bool.false_and, reduceCtorEq, not_false_eq_true] <;> fail)); cbv)
| (refine QC.fw ?_; cbv)
| (refine QC.mk (fun hc => ?_) (fun hc => ?_) <;> (try dsimp only at hc) <;> cbv)
| (refine br_mk2 (fun hb => ?_) (fun hb => ?_) <;> (try subst hb) <;> cbv)))
    refine ⟨?_, rfl, rfl⟩
    rw [hr]
    simp [validB, show ¬ 0 ≤ len by omega]
  · have hs := size_c len (((len.toNat + 7) / 8 : Nat) : Int) len.toNat (by omega) (by omega) rfl
    obtain ⟨z, hz⟩ : ∃ z : Int, z = (((len.toNat + 7) / 8 : Nat) : Int) := ⟨_, rfl⟩
    rw [← hz] at hs
    refine Good.of Try.func16 rfl (by rfl) (by kernel_rfl) ?_
    cbv
    (repeat' (first
| (refine q1w (fun z hz => ?_); (try simp only at hz); cbv)
| (refine rqw ?_; cbv)
| (refine rq (show kfitQ _ _ from by simp [kfitQ, IntKind.min, IntKind.max, IntKind.signed, IntKind.bits]; omega) ?_; cbv)
| (refine chpA ?_; cbv)
| (refine QC.tw ?_; cbv)
| (refine QC.tt ?_ ?_; (focus (simp only [decide_true, Bool.and_true, Bool.and_self] <;> fail)); cbv)
| (refine QC.ff ?_ ?_; (focus (simp only [decide_true, Bool.and_true, Bool.and_self, decide_false, Bool.false_and, reduceCtorEq, not_false_eq_true] <;> fail)); cbv)
| (refine QC.fw ?_; cbv)
| (refine QC.mk (fun hc => ?_) (fun hc => ?_) <;> (try dsimp only at hc) <;> cbv)
| (refine br_mk2 (fun hb => ?_) (fun hb => ?_) <;> (try subst hb) <;> cbv)))
    (refine callq (hs) rfl rfl ?_; cbv; (repeat' (first
| (refine q1w (fun z hz => ?_); (try simp only at hz); cbv)
| (refine rqw ?_; cbv)
| (refine rq (show kfitQ _ _ from by simp [kfitQ, IntKind.min, IntKind.max, IntKind.signed, IntKind.bits]; omega) ?_; cbv)
| (refine chpA ?_; cbv)
| (refine QC.tw ?_; cbv)
| (refine QC.tt ?_ ?_; (focus (simp only [decide_true, Bool.and_true, Bool.and_self] <;> fail)); cbv)
| (refine QC.ff ?_ ?_; (focus (simp only [decide_true, Bool.and_true, Bool.and_self, decide_false, Bool.false_and, reduceCtorEq, not_false_eq_true] <;> fail)); cbv)
| (refine QC.fw ?_; cbv)
| (refine QC.mk (fun hc => ?_) (fun hc => ?_) <;> (try dsimp only at hc) <;> cbv)
| (refine br_mk2 (fun hb => ?_) (fun hb => ?_) <;> (try subst hb) <;> cbv))))
    · refine ⟨?_, rfl, rfl⟩
      rename_i hz2 _
      have e : ¬ bs.length = (len.toNat + 7) / 8 := by (first | omega | (simp only [cst] at *; omega) | (simp only [sm] at *; omega))
      rw [hr]
      simp [validB, e]
    · refine ⟨?_, rfl, rfl⟩
      have e : bs.length = (len.toNat + 7) / 8 := by (first | omega | (simp only [cst] at *; omega) | (simp only [sm] at *; omega))
      have e2 : len.toNat % 8 = 0 := by (first | omega | (simp only [cst] at *; omega) | (simp only [sm] at *; omega))
      rw [hr]
      simp [validB, restB, show 0 ≤ len by omega, e, e2]
    · have e : bs.length = (len.toNat + 7) / 8 := by (first | omega | (simp only [cst] at *; omega) | (simp only [sm] at *; omega))
      have e2 : ¬ len.toNat % 8 = 0 := by (first | omega | (simp only [cst] at *; omega) | (simp only [sm] at *; omega))
      have hel := u8l_at (l := bs) (bs.length - 1) (by omega)
      rw [← hX] at hel
      have hyl := (bs.getD (bs.length - 1) 0).toNat_lt
      have hr2 : r = decide ((bs.getD (bs.length - 1) 0).toNat % 2 ^ (8 - len.toNat % 8) = 0) := by
        rw [hr]
        simp only [validB, restB, show 0 ≤ len by omega, e, e2, decide_true, Bool.true_and, false_or]
      generalize (bs.getD (bs.length - 1) 0).toNat = y at hel hyl hr2
      obtain ⟨Y, hY⟩ : ∃ Y : Int, Y = y := ⟨_, rfl⟩
      rw [← hY] at hel
      refine qv (bs.length - 1, .int .u8 Y) ⟨by simp only [cst]; (first | omega | (simp only [cst] at *; omega) | (simp only [sm] at *; omega)), hel⟩ ?_
      cbv
      (repeat' (first
| (refine q1w (fun z hz => ?_); (try simp only at hz); cbv)
| (refine rqw ?_; cbv)
| (refine rq (show kfitQ _ _ from by simp [kfitQ, IntKind.min, IntKind.max, IntKind.signed, IntKind.bits]; omega) ?_; cbv)
| (refine chpA ?_; cbv)
| (refine QC.tw ?_; cbv)
| (refine QC.tt ?_ ?_; (focus (simp only [decide_true, Bool.and_true, Bool.and_self] <;> fail)); cbv)
| (refine QC.ff ?_ ?_; (focus (simp only [decide_true, Bool.and_true, Bool.and_self, decide_false, Bool.false_and, reduceCtorEq, not_false_eq_true] <;> fail)); cbv)
| (refine QC.fw ?_; cbv)
| (refine QC.mk (fun hc => ?_) (fun hc => ?_) <;> (try dsimp only at hc) <;> cbv)
| (refine br_mk2 (fun hb => ?_) (fun hb => ?_) <;> (try subst hb) <;> cbv)))
      rename_i z4 hz4 _ _ _ _
      have ek : z4.toNat = len.toNat % 8 := by (first | omega | (simp only [cst] at *; omega) | (simp only [sm] at *; omega))
      have ez : z = ((255 / 2 ^ (len.toNat % 8) : Nat) : Int) := by
        rw [hz, ek]; simp
      have ez2 := Nat.div_le_self 255 (2 ^ (len.toNat % 8))
      have ean := and_low y (len.toNat % 8) (by omega)
      generalize 255 / 2 ^ (len.toNat % 8) = m at ez ez2 ean
      refine q1 (by (first | omega | (simp only [cst] at *; omega) | (simp only [sm] at *; omega))) (fun z9 hz9 => ?_)
      have e9 : z9 = ((y % 2 ^ (8 - len.toNat % 8) : Nat) : Int) := by
        rw [hz9, show Y.toNat = y by (first | omega | (simp only [cst] at *; omega) | (simp only [sm] at *; omega)), show z.toNat = m by (first | omega | (simp only [cst] at *; omega) | (simp only [sm] at *; omega)), ean]
      generalize y % 2 ^ (8 - len.toNat % 8) = t at e9 hr2
      cbv
      (repeat' (first
| (refine q1w (fun z hz => ?_); (try simp only at hz); cbv)
| (refine rqw ?_; cbv)
| (refine rq (show kfitQ _ _ from by simp [kfitQ, IntKind.min, IntKind.max, IntKind.signed, IntKind.bits]; omega) ?_; cbv)
| (refine chpA ?_; cbv)
| (refine QC.tw ?_; cbv)
| (refine QC.tt ?_ ?_; (focus (simp only [decide_true, Bool.and_true, Bool.and_self] <;> fail)); cbv)
| (refine QC.ff ?_ ?_; (focus (simp only [decide_true, Bool.and_true, Bool.and_self, decide_false, Bool.false_and, reduceCtorEq, not_false_eq_true] <;> fail)); cbv)
| (refine QC.fw ?_; cbv)
| (refine QC.mk (fun hc => ?_) (fun hc => ?_) <;> (try dsimp only at hc) <;> cbv)
| (refine br_mk2 (fun hb => ?_) (fun hb => ?_) <;> (try subst hb) <;> cbv)))
      · refine ⟨?_, rfl, rfl⟩
        rw [hr2, decide_eq_true (by (first | omega | (simp only [cst] at *; omega) | (simp only [sm] at *; omega)))]
      · refine ⟨?_, rfl, rfl⟩
        rw [hr2, decide_eq_false (by (first | omega | (simp only [cst] at *; omega) | (simp only [sm] at *; omega)))]

theorem bitsG (bs : List UInt8) (X : List SV) (hX : X = u8l bs) (a n : Nat) (h : a + n ≤ 8 * bs.length) (hn : n ≤ 64) : ∃ H Y : Nat → Int, H 0 = 0 ∧ (∀ i, 0 ≤ H i ∧ (i < 64 → H i < 9223372036854775808)) ∧ (∀ i, 0 ≤ Y i ∧ Y i < 256) ∧ H n = numBits bs a n ∧
    (∀ i, i < n → H i * 2 + ((Y i).toNat / 2 ^ (7 - (a + i) % 8) % 2 : Nat) = H (i + 1)) ∧ (∀ i, i < n → X[(a + i) / 8]? = some (.int .u8 (Y i))) := by
  refine ⟨fun i => (numBits bs a i : Int), fun i => ((bs.getD ((a + i) / 8) 0).toNat : Int), rfl, ?_, ?_, rfl, ?_, ?_⟩
  · intro i
    refine ⟨by dsimp only; omega, fun hi => ?_⟩
    have h1 := numBits_lt bs a i
    have h2 : 2 ^ i ≤ 2 ^ 63 := Nat.pow_le_pow_right (by omega) (by omega)
    dsimp only
    omega
  · intro i; have := (bs.getD ((a + i) / 8) 0).toNat_lt; dsimp only; omega
  · intro i hi
    simp only [numBits, bitAt, Int.toNat_natCast]
    omega
  · intro i hi
    rw [hX, u8l_at _ (by omega)]
theorem or_b (x y a b z : Int) (hx : 0 ≤ x ∧ x < 9223372036854775808) (hy : 0 ≤ y ∧ y < 2) (ha : a = x * 2 ^ Int.toNat 1 % 18446744073709551616) (hb : b = y % 18446744073709551616) (hz : z = ((a.toNat ||| b.toNat : Nat) : Int)) : z = x * 2 + y := by
  have e1 : (2 : Int) ^ Int.toNat 1 = 2 := rfl
  rw [e1] at ha
  have e2 : a.toNat = x.toNat * 2 := by omega
  have e3 : b = y := by omega
  rw [hz, e2, e3, or_bit _ _ (by omega)]
  omega
theorem bits_yes (bs : List UInt8) (X : List SV) (len A N r : Int) (a n : Nat) (hX : X = u8l bs) (hl : bs.length ≤ 140737488352000) (hlen : -9223372036854775808 ≤ len ∧ len ≤ 9223372036854775807)
    (hv : validB bs len = true) (hA : A = a) (hN : N = n) (h1 : 1 ≤ n) (hn : n ≤ 64) (hb : A + N ≤ len) (hr : r = numBits bs a n) :
    Good 17 (pu [.agg [.lst none X, .int .i64 len], .int .i64 A, .int .i64 N] (.tup [.int .u64 r, .bool true])) := by
  have hvc := valid_c bs X len true hX hl hlen hv.symm
  have h8 : a + n ≤ 8 * bs.length := by
    simp only [validB, Bool.and_eq_true, decide_eq_true_eq] at hv
    omega
  obtain ⟨H, Y, H0, Hb, HY, Hn, Hs, Hy⟩ := bitsG bs X hX a n h8 hn
  refine Good.of Try.func17 rfl (by rfl) (by kernel_rfl) ?_
  cbv
  (repeat' (first
| (refine q1w (fun z hz => ?_); (try simp only at hz); cbv)
| (refine rqw ?_; cbv)
| (refine rq (show kfitQ _ _ from by simp [kfitQ, IntKind.min, IntKind.max, IntKind.signed, IntKind.bits]; omega) ?_; cbv)
| (refine chpA ?_; cbv)
| (refine QC.tw ?_; cbv)
| (refine QC.tt ?_ ?_; (focus (simp only [decide_true, Bool.and_true, Bool.and_self] <;> fail)); cbv)
| (refine QC.ff ?_ ?_; (focus (simp only [decide_true, Bool.and_true, Bool.and_self, decide_false, Bool.false_and, reduceCtorEq, not_false_eq_true] <;> fail)); cbv)
| (refine QC.fw ?_; cbv)
| (refine QC.mk (fun hc => ?_) (fun hc => ?_) <;> (try dsimp only at hc) <;> cbv)
| (refine br_mk2 (fun hb => ?_) (fun hb => ?_) <;> (try subst hb) <;> cbv)))
  (refine callq (hvc) rfl rfl ?_; cbv; (repeat' (first
| (refine q1w (fun z hz => ?_); (try simp only at hz); cbv)
| (refine rqw ?_; cbv)
| (refine rq (show kfitQ _ _ from by simp [kfitQ, IntKind.min, IntKind.max, IntKind.signed, IntKind.bits]; omega) ?_; cbv)
| (refine chpA ?_; cbv)
| (refine QC.tw ?_; cbv)
| (refine QC.tt ?_ ?_; (focus (simp only [decide_true, Bool.and_true, Bool.and_self] <;> fail)); cbv)
| (refine QC.ff ?_ ?_; (focus (simp only [decide_true, Bool.and_true, Bool.and_self, decide_false, Bool.false_and, reduceCtorEq, not_false_eq_true] <;> fail)); cbv)
| (refine QC.fw ?_; cbv)
| (refine QC.mk (fun hc => ?_) (fun hc => ?_) <;> (try dsimp only at hc) <;> cbv)
| (refine br_mk2 (fun hb => ?_) (fun hb => ?_) <;> (try subst hb) <;> cbv))))
  refine loopQ (A := Nat × Int × Int) (fun p => p.2.1 = p.1 ∧ p.1 ≤ n ∧ p.2.2 = H p.1) (fun p => n - p.1) (fun p => [(8, .int .u64 p.2.2), (35, .int .i64 p.2.1)]) (fun p => []) (0, 0, 0) ⟨rfl, Nat.zero_le _, H0.symm⟩ ?_ ?_
  · cbv
  · intro ⟨i, j, x⟩ h
    have hj : j = (i : Int) := h.1
    have hi : i ≤ n := h.2.1
    have hx : x = H i := h.2.2
    clear h
    have hb1 := Hb i
    have hy1 := HY i
    cbv
    (repeat' (first
| (refine q1w (fun z hz => ?_); (try simp only at hz); cbv)
| (refine rqw ?_; cbv)
| (refine rq (show kfitQ _ _ from by simp [kfitQ, IntKind.min, IntKind.max, IntKind.signed, IntKind.bits]; omega) ?_; cbv)
| (refine chpA ?_; cbv)
| (refine QC.tw ?_; cbv)
| (refine QC.tt ?_ ?_; (focus (simp only [decide_true, Bool.and_true, Bool.and_self] <;> fail)); cbv)
| (refine QC.ff ?_ ?_; (focus (simp only [decide_true, Bool.and_true, Bool.and_self, decide_false, Bool.false_and, reduceCtorEq, not_false_eq_true] <;> fail)); cbv)
| (refine QC.fw ?_; cbv)
| (refine QC.mk (fun hc => ?_) (fun hc => ?_) <;> (try dsimp only at hc) <;> cbv)
| (refine br_mk2 (fun hb => ?_) (fun hb => ?_) <;> (try subst hb) <;> cbv)))
    · have hjm : i < n := by (first | omega | (simp only [cst] at *; omega) | (simp only [sm] at *; omega))
      have hs := Hs i hjm
      have hb2 := hb1.2 (by omega)
      have hy2 := Hy i hjm
      generalize Y i = y at hy1 hs hy2
      obtain ⟨q, hq⟩ : ∃ q, q = (a + i) / 8 := ⟨_, rfl⟩
      rw [← hq] at hy2
      refine qv (q, .int .u8 y) ⟨by show _ = ((q : Nat) : Int); (first | omega | (simp only [cst] at *; omega) | (simp only [sm] at *; omega)), hy2⟩ ?_
      cbv
      (repeat' (first
| (refine q1w (fun z hz => ?_); (try simp only at hz); cbv)
| (refine rqw ?_; cbv)
| (refine rq (show kfitQ _ _ from by simp [kfitQ, IntKind.min, IntKind.max, IntKind.signed, IntKind.bits]; omega) ?_; cbv)
| (refine chpA ?_; cbv)
| (refine QC.tw ?_; cbv)
| (refine QC.tt ?_ ?_; (focus (simp only [decide_true, Bool.and_true, Bool.and_self] <;> fail)); cbv)
| (refine QC.ff ?_ ?_; (focus (simp only [decide_true, Bool.and_true, Bool.and_self, decide_false, Bool.false_and, reduceCtorEq, not_false_eq_true] <;> fail)); cbv)
| (refine QC.fw ?_; cbv)
| (refine QC.mk (fun hc => ?_) (fun hc => ?_) <;> (try dsimp only at hc) <;> cbv)
| (refine br_mk2 (fun hb => ?_) (fun hb => ?_) <;> (try subst hb) <;> cbv)))
      rename_i z1 h1 z2 h2 z3 h3
      have ek : z3.toNat = 7 - (a + i) % 8 := by (first | omega | (simp only [cst] at *; omega) | (simp only [sm] at *; omega))
      have ez : z = ((y.toNat / 2 ^ (7 - (a + i) % 8) : Nat) : Int) := by
        rw [hz, ek]
        obtain ⟨m, rfl⟩ := Int.eq_ofNat_of_zero_le hy1.1
        simp
      have ez2 := Nat.div_le_self y.toNat (2 ^ (7 - (a + i) % 8))
      generalize y.toNat / 2 ^ (7 - (a + i) % 8) = m at ez ez2 hs
      refine q1 (by (first | omega | (simp only [cst] at *; omega) | (simp only [sm] at *; omega))) (fun z9 hz9 => ?_)
      have e9 : z9 = ((m % 2 : Nat) : Int) := by
        rw [hz9, show z.toNat = m by (first | omega | (simp only [cst] at *; omega) | (simp only [sm] at *; omega)), show Int.toNat 1 = 1 from rfl, Nat.and_one_is_mod]
      have ht : m % 2 < 2 := by omega
      generalize m % 2 = t at e9 hs ht
      cbv
      (repeat' (first
| (refine q1w (fun z hz => ?_); (try simp only at hz); cbv)
| (refine rqw ?_; cbv)
| (refine rq (show kfitQ _ _ from by simp [kfitQ, IntKind.min, IntKind.max, IntKind.signed, IntKind.bits]; omega) ?_; cbv)
| (refine chpA ?_; cbv)
| (refine QC.tw ?_; cbv)
| (refine QC.tt ?_ ?_; (focus (simp only [decide_true, Bool.and_true, Bool.and_self] <;> fail)); cbv)
| (refine QC.ff ?_ ?_; (focus (simp only [decide_true, Bool.and_true, Bool.and_self, decide_false, Bool.false_and, reduceCtorEq, not_false_eq_true] <;> fail)); cbv)
| (refine QC.fw ?_; cbv)
| (refine QC.mk (fun hc => ?_) (fun hc => ?_) <;> (try dsimp only at hc) <;> cbv)
| (refine br_mk2 (fun hb => ?_) (fun hb => ?_) <;> (try subst hb) <;> cbv)))
      rename_i z5 h5 z6 h6 z7 h7
      have e := or_b x z9 z5 z6 z7 (by (first | omega | (simp only [cst] at *; omega) | (simp only [sm] at *; omega))) (by (first | omega | (simp only [cst] at *; omega) | (simp only [sm] at *; omega))) h5 h6 h7
      refine ⟨(i + 1, z, z7), ⟨by (first | omega | (simp only [cst] at *; omega) | (simp only [sm] at *; omega)), by omega, by (first | omega | (simp only [cst] at *; omega) | (simp only [sm] at *; omega))⟩, by (first | omega | (simp only [cst] at *; omega) | (simp only [sm] at *; omega)), ?_⟩
      cbv
    · have e : i = n := by (first | omega | (simp only [cst] at *; omega) | (simp only [sm] at *; omega))
      refine ⟨?_, rfl, rfl⟩
      rw [hx, hr, e, Hn]
end Go.Proofs.Ytapcbkcnokoljaa
