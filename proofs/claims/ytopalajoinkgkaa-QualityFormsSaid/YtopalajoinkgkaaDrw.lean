/- A region in any order that its edges allow. -/
import Derived.Test.YtopalajoinkgkaaSeq
namespace Go.Proofs.Ytopalajoinkgkaa
open Go.RowKit
variable {P : Program} {T : Nat → Option TI} {G : Nat → List SV → SV → Prop} {D : Dr} {all : Array Oper}

def disjL (A B : List Nat) : Bool := match A with
  | [] => true
  | x :: l => !(memB x B) && disjL l B
theorem disjL_spec {A B : List Nat} (h : disjL A B = true) {q : Nat} (ha : q ∈ A) (hb : q ∈ B) : False := by
  induction A with
  | nil => simp at ha
  | cons x l ih =>
    simp only [disjL, Bool.and_eq_true, Bool.not_eq_true'] at h
    rcases List.mem_cons.1 ha with rfl | ha
    · rw [memB_iff.2 hb] at h; cases h.1
    · exact ih h.2 ha
def clsOk (all : Array Oper) (x y : Oper) : Bool :=
  match cls x.op, cls y.op with
  | .p, _ | _, .p => true
  | .w, .c | .c, .w => true
  | .w, _ | _, .w => disjL (foot all x) (foot all y)
  | _, _ => true
theorem getN_set_ne {α : Type} {z : α} {l : List α} {x : α} {d r : Nat} (h : d ≠ r) : getN z (setN x l r) d = getN z l d := by
  by_cases hr : r < l.length
  · rw [getN_setN _ _ _ _ _ hr, if_neg h]
  · rw [setN_eq, List.set_eq_of_length_le (by omega)]

theorem nrD_any (d : Option Nat) : ∀ D, nrD d .any D = true
  | [] => rfl
  | q :: D => by simp [nrD, noref, nrD_any d D]
theorem nrD_get {d : Option Nat} {x : SV} : ∀ {D : List Nat}, nrD d x D = true → ∀ q ∈ D, d ≠ some q → noref q x = true
  | [], _, q, h, _ => by simp at h
  | p :: D, hn, q, hq, hd => by
    simp only [nrD, Bool.and_eq_true, Bool.or_eq_true] at hn
    rcases List.mem_cons.1 hq with rfl | hq
    · rcases hn.1 with h | h
      · exact h
      · cases d with
        | none => simp at h
        | some p => simp only at h; exact absurd (by rw [Nat.eq_of_beq_eq_true h]) hd
    · exact nrD_get hn.2 q hq hd
/-- How an operation turns the memory. -/
inductive Fk (D : Dr) (all : Array Oper) (o : Oper) (s : St) : (List Blk → List Blk) → Prop
  | same : Fk D all o s id
  | new (d : Nat) (b : Blk) (hc : cls o.op = .c) (hd : o.dst = some d) (hf : s.fresh d = true) (hb : nbD b D.ids = true) : Fk D all o s (fun m => setN b m d)
  | upd (r : Nat) (b : Blk) (hg : gd all o s = some true) (hc : cls o.op = .w) (hd : o.dst = none) (hr : ∃ y ∈ o.op.operands, noref r (s.ev y) = false) (hb : nbD b D.ids = true) : Fk D all o s (fun m => setN b m r)

theorem port {o : Oper} {s1 s2 : St} (h : Res P T G D all o s1 s2) :
    ∃ x F, Fk D all o s1 F ∧ nrD o.dst x D.ids = true ∧ s2 = ⟨(s1.put o.dst x).slots, F s1.mem⟩ ∧
      (gd all o s1 = some true → cls o.op = .r ∨ cls o.op = .w → D.fp = true → ∀ q, (∃ y ∈ o.op.operands, noref q (s1.ev y) = false) → q ∈ foot all o) ∧
      ∀ s0 : St, (∀ y ∈ o.op.operands, s0.ev y = s1.ev y) → gd all o s0 = gd all o s1 →
        (gd all o s1 = some true → cls o.op = .r ∨ cls o.op = .w → ∀ q, (∃ y ∈ o.op.operands, noref q (s1.ev y) = false) → getN .no s0.mem q = getN .no s1.mem q) →
        (∀ d, cls o.op = .c → o.dst = some d → s1.fresh d = true → s0.fresh d = true) → Res P T G D all o s0 ⟨(s0.put o.dst x).slots, F s0.mem⟩ := by
  have same : ∀ (s : St) (x : SV), (⟨(s.put o.dst x).slots, id s.mem⟩ : St) = s.put o.dst x := by
    intro s x
    cases o.dst <;> rfl
  cases h with
  | skip hgs =>
    exact ⟨.any, id, .same, nrD_any _ D.ids, (same _ _).symm, (fun hg => by rw [hgs] at hg; cases hg), fun s0 hev hg hm hf => by rw [same]; exact .skip s0 (by rw [hg]; exact hgs)⟩
  | p x e hgs hc he hp hn =>
    exact ⟨x, id, .same, hn, (same _ _).symm, (fun _ h => by rw [hc] at h; rcases h with h | h <;> cases h), fun s0 hev hg hm hf => by rw [same]; exact .p s0 x e (by rw [hg]; exact hgs) hc (fun y hy => by rw [hev y hy]; exact he y hy) hp hn⟩
  | r x e m hgs hc he hmm hv hn hfp =>
    have eqm : ∀ q, (∃ y ∈ o.op.operands, noref q (e y) = false) → ∃ y ∈ o.op.operands, noref q (s1.ev y) = false := fun q ⟨y, hy, h⟩ => ⟨y, hy, by rw [he y hy]; exact h⟩
    have eqm' : ∀ q, (∃ y ∈ o.op.operands, noref q (s1.ev y) = false) → ∃ y ∈ o.op.operands, noref q (e y) = false := fun q ⟨y, hy, h⟩ => ⟨y, hy, by rw [← he y hy]; exact h⟩
    refine ⟨x, id, .same, hn, (same _ _).symm, fun _ _ hD q hq => fpB_spec hD hfp (eqm' q hq), fun s0 hev hg hm hf => ?_⟩
    rw [same]
    refine .r s0 x e m (by rw [hg]; exact hgs) hc (fun y hy => by rw [hev y hy]; exact he y hy) (fun q hq => ?_) hv hn hfp
    rw [hm hgs (.inl hc) q (eqm q hq)]
    exact hmm q hq
  | w r b e m hgs hc hd he hmm hw hr hb hfp =>
    have eqm : ∀ q, (∃ y ∈ o.op.operands, noref q (e y) = false) → ∃ y ∈ o.op.operands, noref q (s1.ev y) = false := fun q ⟨y, hy, h⟩ => ⟨y, hy, by rw [he y hy]; exact h⟩
    have eqm' : ∀ q, (∃ y ∈ o.op.operands, noref q (s1.ev y) = false) → ∃ y ∈ o.op.operands, noref q (e y) = false := fun q ⟨y, hy, h⟩ => ⟨y, hy, by rw [← he y hy]; exact h⟩
    have e1 : ∀ (s : St), (⟨(s.put o.dst .any).slots, (fun m => setN b m r) s.mem⟩ : St) = ⟨s.slots, setN b s.mem r⟩ := fun s => by rw [hd]; rfl
    refine ⟨.any, _, .upd r b hgs hc hd (eqm r hr) hb, nrD_any _ D.ids, (e1 s1).symm, fun _ _ hD q hq => fpB_spec hD hfp (eqm' q hq), fun s0 hev hg hm hf => ?_⟩
    rw [e1 s0]
    refine .w s0 r b e m (by rw [hg]; exact hgs) hc hd (fun y hy => by rw [hev y hy]; exact he y hy) (fun q hq => ?_) hw hr hb hfp
    rw [hm hgs (.inr hc) q (eqm q hq)]
    exact hmm q hq
  | c d x b e hgs hc hd hfr he hok hn hb =>
    have e1 : ∀ (s : St), (⟨(s.put o.dst x).slots, (fun m => setN b m d) s.mem⟩ : St) = ⟨setN x s.slots d, setN b s.mem d⟩ := fun s => by rw [hd]; rfl
    refine ⟨x, fun m => setN b m d, .new d b hc hd hfr hb, hn, (e1 s1).symm, (fun _ h => by rw [hc] at h; rcases h with h | h <;> cases h), fun s0 hev hg hm hf => ?_⟩
    rw [e1 s0]
    exact .c s0 d x b e (by rw [hg]; exact hgs) hc hd (hf d hc hd hfr) (fun y hy => by rw [hev y hy]; exact he y hy) hok hn hb

theorem ev_put {s : St} {dst : Option Nat} {x : SV} {m : List Blk} {y : Operand} (h : ∀ d, dst = some d → y ≠ .tmp d) : (⟨(s.put dst x).slots, m⟩ : St).ev y = s.ev y := by
  cases dst with
  | none => cases y <;> rfl
  | some d =>
    cases y with
    | tmp t =>
      simp only [St.ev, St.put]
      by_cases hd : d < s.slots.length
      · rw [getN_setN _ _ _ _ _ hd, if_neg (fun e => h d rfl (by rw [e]))]
      · rw [setN_eq, List.set_eq_of_length_le (by omega)]
    | _ => rfl
theorem looks_op {o : Oper} {y : Operand} {d : Nat} (h : d ∉ o.looksAt all) (hy : y ∈ o.op.operands) : y ≠ .tmp d := by
  rintro rfl
  exact h (List.mem_append_left _ (List.mem_filterMap.2 ⟨.tmp d, by simpa using hy, rfl⟩))
theorem gd_put {s : St} {dst : Option Nat} {x : SV} {m : List Blk} {o : Oper} (h : ∀ d, dst = some d → d ∉ o.looksAt all) : gd all o ⟨(s.put dst x).slots, m⟩ = gd all o s := by
  unfold gd
  cases hg : o.guard with
  | none => rfl
  | some jw =>
    obtain ⟨j, want⟩ := jw
    simp only
    cases ht : (all[j]?).bind (·.dst) with
    | none => rfl
    | some t =>
      simp only
      have : getN SV.any (s.put dst x).slots t = getN SV.any s.slots t := by
        cases dst with
        | none => rfl
        | some d =>
          have hne : t ≠ d := fun e => h d rfl (by subst e; simp [Oper.looksAt, hg, ht])
          simp only [St.put]
          by_cases hd : d < s.slots.length
          · rw [getN_setN _ _ _ _ _ hd, if_neg hne]
          · rw [setN_eq, List.set_eq_of_length_le (by omega)]
      rw [this]

theorem fresh_iff {s : St} {d : Nat} : s.fresh d = true ↔ d < s.slots.length ∧ d < s.mem.length ∧ getN .no s.mem d = .no ∧ noref.norefs d s.slots = true ∧ memNoref d s.mem = true := by
  unfold St.fresh
  simp only [Bool.and_eq_true, Nat.blt_eq]
  constructor
  · rintro ⟨⟨⟨⟨f1, f2⟩, f3⟩, f4⟩, f5⟩
    refine ⟨f1, f2, ?_, f4, f5⟩
    cases hm : getN Blk.no s.mem d <;> simp_all
  · rintro ⟨f1, f2, f3, f4, f5⟩
    exact ⟨⟨⟨⟨f1, f2⟩, by rw [f3]⟩, f4⟩, f5⟩

theorem norefs_iff {d : Nat} : ∀ {l : List SV}, noref.norefs d l = true ↔ ∀ t, noref d (getN .any l t) = true
  | [] => by simp [noref.norefs, getN, noref]
  | x :: l => by
    constructor
    · intro h t; exact norefs_getN h t
    · intro h
      simp only [noref.norefs, Bool.and_eq_true]
      exact ⟨h 0, norefs_iff.2 fun t => h (t + 1)⟩
theorem memNoref_iff {d : Nat} : ∀ {l : List Blk}, memNoref d l = true ↔ ∀ t, bNoref d (getN .no l t) = true
  | [] => by simp [memNoref, getN, bNoref]
  | x :: l => by
    constructor
    · intro h t; exact memNoref_get h t
    · intro h
      simp only [memNoref, Bool.and_eq_true]
      exact ⟨h 0, memNoref_iff.2 fun t => h (t + 1)⟩

theorem put_len (s : St) (d : Option Nat) (x : SV) : (s.put d x).slots.length = s.slots.length := by
  cases d <;> simp [St.put, setN_length]
theorem getN_put (s : St) (d : Option Nat) (x : SV) (t : Nat) : getN SV.any (s.put d x).slots t = getN SV.any s.slots t ∨ (d = some t ∧ getN SV.any (s.put d x).slots t = x) := by
  cases d with
  | none => exact .inl rfl
  | some q =>
    simp only [St.put]
    by_cases hq : q < s.slots.length
    · rw [getN_setN _ _ _ _ _ hq]
      by_cases ht : t = q
      · subst ht; exact .inr ⟨rfl, by rw [if_pos rfl]⟩
      · rw [if_neg ht]; exact .inl rfl
    · rw [setN_eq, List.set_eq_of_length_le (by omega)]; exact .inl rfl

theorem noref_ev {s : St} {d : Nat} (h : noref.norefs d s.slots = true) (y : Operand) : noref d (s.ev y) = true := by
  cases y with
  | tmp t => exact norefs_getN h t
  | const v =>
    simp only [St.ev, ofValue]
    split
    · rename_i cs
      show noref.norefs d (cs.toList.map ofAtom) = true
      generalize cs.toList = l
      induction l with
      | nil => rfl
      | cons v l ih =>
        simp only [List.map_cons, noref.norefs, ih, Bool.and_true]
        unfold ofAtom
        split <;> rfl
    · unfold ofAtom
      split <;> rfl
  | func f => rfl
  | global g => rfl

theorem clsOk_disj {oj oi : Oper} (h : clsOk all oj oi = true) (hw : (cls oj.op = .w ∧ (cls oi.op = .r ∨ cls oi.op = .w)) ∨ (cls oi.op = .w ∧ (cls oj.op = .r ∨ cls oj.op = .w))) {q : Nat} (ha : q ∈ foot all oj) (hb : q ∈ foot all oi) : False := by
  unfold clsOk at h
  rcases hw with ⟨h1, h2 | h2⟩ | ⟨h1, h2 | h2⟩ <;> rw [h1, h2] at h <;> exact disjL_spec h ha hb

/-- Two neighbours that do not touch each other change places. -/
theorem swap {oj oi : Oper} {s s1 s2 : St} (h1 : Res P T G D all oj s s1) (h2 : Res P T G D all oi s1 s2) (hap : oj.apart all oi = true) (hcl : clsOk all oj oi = true)
    (hfp : cls oj.op = .w ∨ cls oi.op = .w → D.fp = true) (hM : ∀ d ∈ D.ids, memNoref d s.mem = true)
    (hDj : ∀ d, cls oj.op = .c → oj.dst = some d → d ∈ D.ids) (hDi : ∀ d, cls oi.op = .c → oi.dst = some d → d ∈ D.ids) (hclean : ∀ q d, cls oi.op = .c → oi.dst = some q → oj.dst = some d → getN SV.any s.slots d = .any) :
    ∃ s1', Res P T G D all oi s s1' ∧ Res P T G D all oj s1' s2 := by
  obtain ⟨a1, a2, a3⟩ := Oper.apart_spec hap
  obtain ⟨xj, Fj, kj, nj, ej, tj, pj⟩ := port h1
  subst ej
  obtain ⟨xi, Fi, ki, ni, ei, ti, pi⟩ := port h2
  have evi : ∀ y ∈ oi.op.operands, (⟨(s.put oj.dst xj).slots, Fj s.mem⟩ : St).ev y = s.ev y := fun y hy => ev_put (fun d hd => looks_op (a1 d hd) hy)
  have gdi : gd all oi (⟨(s.put oj.dst xj).slots, Fj s.mem⟩ : St) = gd all oi s := gd_put a1
  have fri : ∀ d, cls oi.op = .c → oi.dst = some d → (⟨(s.put oj.dst xj).slots, Fj s.mem⟩ : St).fresh d = true → s.fresh d = true := by
    intro d hc hd hf
    obtain ⟨f1, f2, f3, f4, f5⟩ := fresh_iff.1 hf
    rw [put_len] at f1
    have hslots : noref.norefs d s.slots = true := by
      refine norefs_iff.2 fun t => ?_
      rcases getN_put s oj.dst xj t with e | ⟨e, _⟩
      · rw [← e]; exact norefs_getN f4 t
      · rw [hclean d t hc hd e]; rfl
    have hmem := hM d (hDi d hc hd)
    cases kj with
    | same => exact fresh_iff.2 ⟨f1, f2, f3, hslots, hmem⟩
    | upd r b hg hcw hdn hr hb =>
      simp only [setN_length] at f2
      refine fresh_iff.2 ⟨f1, f2, ?_, hslots, hmem⟩
      simp only at f3
      rwa [getN_set_ne] at f3
      rintro rfl
      obtain ⟨y, hy, hn⟩ := hr
      rw [noref_ev hslots] at hn
      cases hn
    | new d' b hcj hd' hf' hb =>
      have hne : d ≠ d' := fun e => a2 d' hd' (by rw [← e]; exact hd)
      simp only [setN_length] at f2
      refine fresh_iff.2 ⟨f1, f2, ?_, hslots, hmem⟩
      simp only at f3
      rwa [getN_set_ne hne] at f3
  have ri := pi s (fun y hy => (evi y hy).symm) gdi.symm (fun hg hc q hq => by
      have hq' : ∃ y ∈ oi.op.operands, noref q (s.ev y) = false := by
        obtain ⟨y, hy, hn⟩ := hq
        exact ⟨y, hy, by rw [← evi y hy]; exact hn⟩
      cases kj with
      | same => rfl
      | upd r b hgj hcw hdn hr hb =>
        simp only
        rw [getN_set_ne]
        rintro rfl
        have hD := hfp (.inl hcw)
        exact clsOk_disj hcl (.inl ⟨hcw, hc⟩) (tj hgj (.inr hcw) hD _ hr) (ti hg hc hD _ hq)
      | new d b hcj hd hf hb =>
        obtain ⟨f1, f2, f3, f4, f5⟩ := fresh_iff.1 hf
        simp only
        rw [getN_set_ne]
        rintro rfl
        obtain ⟨y, hy, hn⟩ := hq'
        rw [noref_ev f4] at hn
        cases hn) fri
  have rj := pj ⟨(s.put oi.dst xi).slots, Fi s.mem⟩ (fun y hy => ev_put (fun d hd => looks_op (a3 d hd) hy)) (gd_put a3) (fun hg hc q hq => by
      cases ki with
      | same => rfl
      | upd r b hgi hcw hdn hr hb =>
        simp only
        rw [getN_set_ne]
        rintro rfl
        have hD := hfp (.inr hcw)
        exact clsOk_disj hcl (.inr ⟨hcw, hc⟩) (tj hg hc hD _ hq) (ti hgi (.inr hcw) hD _ hr)
      | new d b hcj hd hf hb =>
        obtain ⟨f1, f2, f3, f4, f5⟩ := fresh_iff.1 (fri d hcj hd hf)
        simp only
        rw [getN_set_ne]
        rintro rfl
        obtain ⟨y, hy, hn⟩ := hq
        rw [noref_ev f4] at hn
        cases hn) (fun d hc hd hf => by
      obtain ⟨f1, f2, f3, f4, f5⟩ := fresh_iff.1 hf
      have hD := hDj d hc hd
      have hne : oi.dst ≠ some d := a2 d hd
      have hslots : noref.norefs d (s.put oi.dst xi).slots = true := by
        refine norefs_iff.2 fun t => ?_
        rcases getN_put s oi.dst xi t with e | ⟨e, e2⟩
        · rw [e]; exact norefs_getN f4 t
        · rw [e2]; exact nrD_get ni d hD hne
      have hmm : ∀ (b : Blk) (r : Nat), nbD b D.ids = true → memNoref d (setN b s.mem r) = true := by
        intro b r hb
        refine memNoref_iff.2 fun t => ?_
        by_cases hr : r < s.mem.length
        · rw [getN_setN _ _ _ _ _ hr]
          split
          · exact nbD_get hb d hD
          · exact memNoref_get f5 t
        · rw [setN_eq, List.set_eq_of_length_le (by omega)]; exact memNoref_get f5 t
      cases ki with
      | same => exact fresh_iff.2 ⟨by rw [put_len]; exact f1, f2, f3, hslots, f5⟩
      | upd r b hgi hcw hdn hr hb =>
        refine fresh_iff.2 ⟨by rw [put_len]; exact f1, by simp only [setN_length]; exact f2, ?_, hslots, hmm b r hb⟩
        simp only
        rw [getN_set_ne]
        · exact f3
        · rintro rfl
          obtain ⟨y, hy, hn⟩ := hr
          rw [evi y hy, noref_ev f4] at hn
          cases hn
      | new d' b hcj hd' hf' hb =>
        have hne' : d' ≠ d := fun e => hne (by rw [← e]; exact hd')
        refine fresh_iff.2 ⟨by rw [put_len]; exact f1, by simp only [setN_length]; exact f2, ?_, hslots, hmm b d' hb⟩
        simp only
        rw [getN_set_ne (Ne.symm hne')]; exact f3)
  refine ⟨_, ri, ?_⟩
  rw [ei]
  have comm : ∀ (m : List Blk) (b b' : Blk) (r r' : Nat), r ≠ r' → setN b (setN b' m r') r = setN b' (setN b m r) r' := by
    intro m b b' r r' h
    simp only [setN_eq]
    exact List.set_comm _ _ (Ne.symm h)
  have key : (⟨((⟨(s.put oi.dst xi).slots, Fi s.mem⟩ : St).put oj.dst xj).slots, Fj (Fi s.mem)⟩ : St) = ⟨((⟨(s.put oj.dst xj).slots, Fj s.mem⟩ : St).put oi.dst xi).slots, Fi (Fj s.mem)⟩ := by
    have e1 : ((⟨(s.put oi.dst xi).slots, Fi s.mem⟩ : St).put oj.dst xj).slots = ((⟨(s.put oj.dst xj).slots, Fj s.mem⟩ : St).put oi.dst xi).slots := by
      cases hj : oj.dst with
      | none => cases oi.dst <;> rfl
      | some d =>
        cases hi : oi.dst with
        | none => rfl
        | some d' =>
          have hne : d ≠ d' := fun e => a2 d hj (by rw [hi, e])
          simp only [St.put, setN_eq]
          exact List.set_comm _ _ (Ne.symm hne)
    have e2 : Fj (Fi s.mem) = Fi (Fj s.mem) := by
      cases kj with
      | same => rfl
      | upd r b hgj hcj hdn hr hb =>
        cases ki with
        | same => rfl
        | upd r' b' hgi hci hdn' hr' hb' =>
          refine comm _ _ _ _ _ ?_
          rintro rfl
          have hD := hfp (.inl hcj)
          exact clsOk_disj hcl (.inl ⟨hcj, .inr hci⟩) (tj hgj (.inr hcj) hD _ hr) (ti hgi (.inr hci) hD _ hr')
        | new d b' hci hd' hf' hb' =>
          refine comm _ _ _ _ _ ?_
          rintro rfl
          obtain ⟨f1, f2, f3, f4, f5⟩ := fresh_iff.1 (fri _ hci hd' hf')
          obtain ⟨y, hy, hn⟩ := hr
          rw [noref_ev f4] at hn
          cases hn
      | new d b hcj hd hf hb =>
        cases ki with
        | same => rfl
        | upd r' b' hgi hci hdn' hr' hb' =>
          refine comm _ _ _ _ _ ?_
          rintro rfl
          obtain ⟨f1, f2, f3, f4, f5⟩ := fresh_iff.1 hf
          obtain ⟨y, hy, hn⟩ := hr'
          rw [evi y hy, noref_ev f4] at hn
          cases hn
        | new d' b' hc' hd' hf' hb' =>
          exact comm _ _ _ _ _ (fun e => a2 d hd (by rw [hd', e]))
    rw [e1, e2]
  rw [← key]
  exact rj
end Go.Proofs.Ytopalajoinkgkaa
