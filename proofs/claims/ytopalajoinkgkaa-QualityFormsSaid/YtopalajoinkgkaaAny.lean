/- A drawn region: the text's order serves for every order. -/
import Derived.Test.YtopalajoinkgkaaDrw
namespace Go.Proofs.Ytopalajoinkgkaa
open Go.RowKit
variable {P : Program} {T : Nat → Option TI} {G : Nat → List SV → SV → Prop} {D : Dr}

def ChainI (P : Program) (T : Nat → Option TI) (G : Nat → List SV → SV → Prop) (D : Dr) (ops : Array Oper) : List Nat → St → (St → Prop) → Prop
  | [], s, k => k s
  | i :: L, s, k => ∃ o s', ops[i]? = some o ∧ Res P T G D ops o s s' ∧ ChainI P T G D ops L s' k

theorem chain_I (ops : Array Oper) (k : St → Prop) : ∀ (l : List Oper) (n : Nat) (s : St), (∀ j, l[j]? = ops[n + j]?) → Chain P T G D ops l s k → ChainI P T G D ops (List.range' n l.length) s k
  | [], n, s, _, h => h
  | o :: l, n, s, hl, h => by
    obtain ⟨s', h1, h2⟩ := h
    simp only [List.length_cons, List.range'_succ]
    refine ⟨o, s', by simpa using (hl 0).symm, h1, chain_I ops k l (n + 1) s' (fun j => ?_) h2⟩
    have := hl (j + 1)
    rw [List.getElem?_cons_succ] at this
    rw [this]
    congr 1
    omega

def dstNe (x y : Oper) : Bool := match x.dst, y.dst with
  | some a, some b => !(Nat.beq a b)
  | _, _ => true
def edgeB (o : Oper) (j : Nat) : Bool := o.after.any fun e => Region.binds .any e && Nat.beq e.on j
def pairB (ops : Array Oper) (oj oi : Oper) (j : Nat) : Bool := dstNe oj oi && (edgeB oi j || (oj.apart ops oi && clsOk ops oj oi))
def regOk (ops : Array Oper) : Bool :=
  (List.range ops.size).all fun i => match ops[i]? with
    | some oi => (oi.after.all fun e => !Region.binds .any e || Nat.blt e.on i) && (List.range i).all fun j => match ops[j]? with
      | some oj => pairB ops oj oi j
      | none => false
    | none => false

theorem Res.slots {all : Array Oper} {o : Oper} {s s' : St} (h : Res P T G D all o s s') : s'.slots.length = s.slots.length ∧ ∀ t, o.dst ≠ some t → getN SV.any s'.slots t = getN SV.any s.slots t := by
  obtain ⟨x, F, _, _, e, _⟩ := port h
  subst e
  refine ⟨put_len s o.dst x, fun t ht => ?_⟩
  rcases getN_put s o.dst x t with h | ⟨h, _⟩
  · exact h
  · exact absurd h ht

/-- The slots that are still to be written hold nothing, where something is made in the region. -/
def Clean (ops : Array Oper) (L : List Nat) (s : St) : Prop := (∃ (i : Nat) (o : Oper) (q : Nat), ops[i]? = some o ∧ cls o.op = .c ∧ o.dst = some q) → ∀ i ∈ L, ∀ o d, ops[i]? = some o → o.dst = some d → getN SV.any s.slots d = .any

theorem Clean.step {ops : Array Oper} {L : List Nat} {s s' : St} {o : Oper} (h : Clean ops L s) (hr : Res P T G D ops o s s') (hd : ∀ i ∈ L, ∀ o', ops[i]? = some o' → dstNe o o' = true) : Clean ops L s' := by
  intro he i hi o' d ho hdd
  rw [hr.slots.2 d ?_]
  · exact h he i hi o' d ho hdd
  · intro e
    have := hd i hi o' ho
    simp [dstNe, e, hdd] at this

def MC (D : Dr) (s : St) : Prop := ∀ d ∈ D.ids, memNoref d s.mem = true
theorem Res.mc {ops : Array Oper} {o : Oper} {s s' : St} (h : Res P T G D ops o s s') (hm : MC D s) : MC D s' := by
  obtain ⟨x, F, k, _, e, _, _⟩ := port h
  subst e
  have key : ∀ (b : Blk) (r : Nat), nbD b D.ids = true → ∀ d ∈ D.ids, memNoref d (setN b s.mem r) = true := by
    intro b r hb d hd
    refine memNoref_iff.2 fun t => ?_
    by_cases hr : r < s.mem.length
    · rw [getN_setN _ _ _ _ _ hr]
      split
      · exact nbD_get hb d hd
      · exact memNoref_get (hm d hd) t
    · rw [setN_eq, List.set_eq_of_length_le (by omega)]; exact memNoref_get (hm d hd) t
  cases k with
  | same => exact hm
  | new d b _ _ _ hb => exact key b d hb
  | upd r b _ _ _ _ hb => exact key b r hb

theorem pull {ops : Array Oper} {i : Nat} {oi : Oper} (hi : ops[i]? = some oi) {k : St → Prop} {L2 : List Nat} (hD : ∀ (j : Nat) (o : Oper) (d : Nat), ops[j]? = some o → cls o.op = .c → o.dst = some d → d ∈ D.ids) (hW : ∀ (j : Nat) (o : Oper), ops[j]? = some o → cls o.op = .w → D.fp = true) : ∀ (L1 : List Nat) (s : St),
    ChainI P T G D ops (L1 ++ i :: L2) s k → (∀ j ∈ L1, ∀ oj, ops[j]? = some oj → oj.apart ops oi = true ∧ clsOk ops oj oi = true) →
    L1.Pairwise (fun a b => ∀ oa ob, ops[a]? = some oa → ops[b]? = some ob → dstNe oa ob = true) → Clean ops L1 s → MC D s → ChainI P T G D ops (i :: (L1 ++ L2)) s k
  | [], s, h, _, _, _, _ => h
  | j :: L1, s, h, hp, hd, hc, hm => by
    obtain ⟨oj, s1, hj, r1, h⟩ := h
    have hd' := List.pairwise_cons.1 hd
    obtain ⟨oi', s2, hi', r2, h⟩ := pull hi hD hW L1 s1 h (fun q hq => hp q (by simp [hq])) hd'.2 (Clean.step (fun he q hq => hc he q (by simp [hq])) r1 (fun q hq o' ho' => hd'.1 q hq oj o' hj ho')) (r1.mc hm)
    rw [hi] at hi'
    injection hi' with hi'
    subst hi'
    obtain ⟨p1, p2⟩ := hp j (by simp) oj hj
    obtain ⟨s1', q1, q2⟩ := swap r1 r2 p1 p2 (fun h => h.elim (hW j oj hj) (hW i oi hi)) hm (fun d hcc hdd => hD j oj d hj hcc hdd) (fun d hcc hdd => hD i oi d hi hcc hdd) (fun q d hcc hq hdd => hc ⟨i, oi, q, hi, hcc, hq⟩ j (by simp) oj d hj hdd)
    exact ⟨oi, s1', hi, q1, oj, s2, hj, q2, h⟩

theorem regOk_edge {ops : Array Oper} (h : regOk ops = true) {i : Nat} {oi : Oper} (hi : ops[i]? = some oi) : ∀ e ∈ oi.after, Region.binds .any e = true → e.on < i := by
  intro e he hb
  have hlt := (Array.getElem?_eq_some_iff.1 hi).1
  have := List.all_eq_true.1 h i (List.mem_range.2 hlt)
  rw [hi] at this
  simp only [Bool.and_eq_true] at this
  have := (Array.all_eq_true_iff_forall_mem.1 this.1) e he
  simp only [hb, Bool.not_true, Bool.false_or, Nat.blt_eq] at this
  exact this
theorem regOk_pair {ops : Array Oper} (h : regOk ops = true) {i j : Nat} {oi oj : Oper} (hi : ops[i]? = some oi) (hj : ops[j]? = some oj) (hlt : j < i) : pairB ops oj oi j = true := by
  have hl := (Array.getElem?_eq_some_iff.1 hi).1
  have := List.all_eq_true.1 h i (List.mem_range.2 hl)
  rw [hi] at this
  simp only [Bool.and_eq_true] at this
  have := List.all_eq_true.1 this.2 j (List.mem_range.2 hlt)
  rw [hj] at this
  exact this
theorem dstNe_comm (x y : Oper) : dstNe x y = dstNe y x := by
  unfold dstNe
  cases x.dst <;> cases y.dst <;> try rfl
  rename_i a b
  simp only
  congr 1
  rw [Bool.eq_iff_iff, Nat.beq_eq, Nat.beq_eq]
  exact eq_comm

theorem drawn (tab : Tab P T) (hG : ∀ f as r, G f as r → ACall P f as r) {ops : Array Oper} (hok : regOk ops = true) (hD : ∀ (j : Nat) (o : Oper) (d : Nat), ops[j]? = some o → cls o.op = .c → o.dst = some d → d ∈ D.ids) (hW : ∀ (j : Nat) (o : Oper), ops[j]? = some o → cls o.op = .w → D.fp = true)
    {N : Nat} {w0 : World} {X : Nat → Prop} {k : St → Prop} {Q : Exit → Act → World → Prop} (hQ : ∀ s a w ρ, k s → Rep T N w0 X s a w ρ → Q .normal a w) :
    ∀ (fuel : Nat) (L : List Nat) (listed : Array Bool) (s : St) (a : Act) (w : World) (ρ : Env), L.length = fuel → listed.size = ops.size → L.Pairwise (· < ·) → (∀ i, i ∈ L ↔ i < ops.size ∧ listed.getD i true = false) →
      ChainI P T G D ops L s k → Clean ops L s → MC D s → Rep T N w0 X s a w ρ → wpAny P .any ops Q fuel listed a w := by
  have empty : ∀ (L : List Nat) (listed : Array Bool), listed.size = ops.size → L.Pairwise (· < ·) → (∀ i, i ∈ L ↔ i < ops.size ∧ listed.getD i true = false) → Region.ready .any ops listed = [] → L = [] := by
    intro L listed hsz hp hm hr
    cases L with
    | nil => rfl
    | cons i L =>
      exfalso
      obtain ⟨h1, h2⟩ := (hm i).1 (by simp)
      have : i ∈ Region.ready .any ops listed := by
        refine mem_ready.2 ⟨h2, ops[i], Array.getElem?_eq_getElem h1, fun e he hb => ?_⟩
        have hlt := regOk_edge hok (Array.getElem?_eq_getElem h1) e he hb
        have hnot : e.on ∉ i :: L := by
          intro hmem
          rcases List.mem_cons.1 hmem with h | h
          · omega
          · have := (List.pairwise_cons.1 hp).1 _ h; omega
        have hx : ¬ (listed.getD e.on true = false) := fun h => hnot ((hm e.on).2 ⟨by omega, h⟩)
        have hlt' : e.on < listed.size := by omega
        simpa [hlt'] using hx
      rw [hr] at this
      simp at this
  intro fuel
  induction fuel with
  | zero =>
    intro L listed s a w ρ hl hsz hp hm hch hcl hmc hr
    obtain rfl : L = [] := List.eq_nil_of_length_eq_zero hl
    refine ⟨?_, hQ s a w ρ hch hr⟩
    apply List.eq_nil_iff_forall_not_mem.2
    intro i hi
    obtain ⟨h1, o, ho, _⟩ := mem_ready.1 hi
    have := (hm i).2 ⟨(Array.getElem?_eq_some_iff.1 ho).1, h1⟩
    simp at this
  | succ fuel ih =>
    intro L listed s a w ρ hl hsz hp hm hch hcl hmc hr
    refine ⟨fun h0 => ?_, fun i hi => ?_⟩
    · have := empty L listed hsz hp hm h0
      subst this
      simp at hl
    · obtain ⟨h1, oi, hoi, hed⟩ := mem_ready.1 hi
      have hin := (hm i).2 ⟨(Array.getElem?_eq_some_iff.1 hoi).1, h1⟩
      obtain ⟨L1, L2, rfl⟩ := List.append_of_mem hin
      have hpa := List.pairwise_append.1 hp
      have hp2 := List.pairwise_cons.1 hpa.2.1
      have hlt1 : ∀ j ∈ L1, j < i := fun j hj => hpa.2.2 j hj i (by simp)
      have hnl : ∀ j ∈ L1, listed.getD j true = false := fun j hj => ((hm j).1 (by simp [hj])).2
      have hpull := pull (P := P) (T := T) (G := G) hoi hD hW L1 s hch (fun j hj oj hoj => by
        have hpb := regOk_pair hok hoi hoj (hlt1 j hj)
        simp only [pairB, Bool.and_eq_true, Bool.or_eq_true] at hpb
        rcases hpb.2 with he | he
        · exfalso
          obtain ⟨e, he1, he2⟩ : ∃ e ∈ oi.after, (Region.binds .any e && Nat.beq e.on j) = true := by
            rw [edgeB, Array.any_eq_true] at he
            obtain ⟨q, hq, hp⟩ := he
            exact ⟨_, Array.getElem_mem hq, hp⟩
          simp only [Bool.and_eq_true] at he2
          have hon := Nat.eq_of_beq_eq_true he2.2
          have hls := hed e he1 he2.1
          rw [hon] at hls
          have := hnl j hj
          have hjlt : j < listed.size := by rw [hsz]; exact (Array.getElem?_eq_some_iff.1 hoj).1
          simp [hjlt] at this hls
          rw [this] at hls
          cases hls
        · exact he) (hpa.1.imp (fun {x y} hxy oa ob hoa hob => by
            have := regOk_pair hok hob hoa hxy
            simp only [pairB, Bool.and_eq_true] at this
            exact this.1)) (fun he j hj => hcl he j (by simp [hj])) hmc
      obtain ⟨oi', s', hoi', hres, hrest⟩ := hpull
      rw [hoi] at hoi'
      injection hoi' with hoi'
      subst hoi'
      unfold wpOp
      rw [hoi]
      refine hres.sound tab hG hr (K := wpAny P .any ops Q fuel (listed.setIfInBounds i true)) (Q := Q) (fun a' w' ρ' hr' => ?_)
      have hne : ∀ j ∈ L1 ++ L2, j ≠ i := by
        intro j hj
        rcases List.mem_append.1 hj with h | h
        · exact Nat.ne_of_lt (hlt1 j h)
        · exact Nat.ne_of_gt (hp2.1 j h)
      refine ih (L1 ++ L2) _ s' a' w' ρ' (by simp at hl ⊢; omega) (by simpa using hsz) (List.pairwise_append.2 ⟨hpa.1, hp2.2, fun x hx y hy => hpa.2.2 x hx y (by simp [hy])⟩) (fun j => ?_) hrest ?_ (hres.mc hmc) hr'
      · constructor
        · intro hj
          have hj' : j ∈ L1 ++ i :: L2 := by
            rcases List.mem_append.1 hj with h | h
            · simp [h]
            · simp [h]
          obtain ⟨g1, g2⟩ := (hm j).1 hj'
          refine ⟨g1, ?_⟩
          rw [getD_set_ne true (Ne.symm (hne j hj))]
          exact g2
        · rintro ⟨g1, g2⟩
          by_cases hji : j = i
          · subst hji
            have : j < listed.size := by rw [hsz]; exact g1
            simp [this] at g2
          · rw [getD_set_ne true (Ne.symm hji)] at g2
            have := (hm j).2 ⟨g1, g2⟩
            rcases List.mem_append.1 this with h | h
            · simp [h]
            · rcases List.mem_cons.1 h with h | h
              · exact absurd h hji
              · simp [h]
      · refine Clean.step (fun he j hj => hcl he j ?_) hres (fun j hj o' ho' => ?_)
        · rcases List.mem_append.1 hj with h | h <;> simp [h]
        · rcases List.mem_append.1 hj with h | h
          · have := regOk_pair hok hoi ho' (hlt1 j h)
            simp only [pairB, Bool.and_eq_true] at this
            rw [dstNe_comm]
            exact this.1
          · have := regOk_pair hok ho' hoi (hp2.1 j h)
            simp only [pairB, Bool.and_eq_true] at this
            exact this.1

/-- The ids that a region makes. -/
def makes : List Oper → List Nat
  | [] => []
  | o :: l => (match cls o.op, o.dst with | .c, some d => d :: makes l | _, _ => makes l)
theorem makes_mem : ∀ {l : List Oper} {o : Oper} {d : Nat}, o ∈ l → cls o.op = .c → o.dst = some d → d ∈ makes l
  | [], o, d, h, _, _ => by simp at h
  | x :: l, o, d, h, hc, hd => by
    unfold makes
    rcases List.mem_cons.1 h with rfl | h
    · rw [hc, hd]; simp
    · have := makes_mem h hc hd
      split
      · exact List.mem_cons_of_mem _ this
      · exact this

/-- The slots of a region's results emptied. -/
def wipe : List Oper → List SV → List SV
  | [], s => s
  | o :: l, s => wipe l (match o.dst with | some d => setN .any s d | none => s)
theorem wipe_len : ∀ (l : List Oper) (s : List SV), (wipe l s).length = s.length
  | [], s => rfl
  | o :: l, s => by
    unfold wipe
    rw [wipe_len l]
    split <;> simp [setN_length]
theorem wipe_get : ∀ (l : List Oper) (s : List SV) (t : Nat), getN SV.any (wipe l s) t = .any ∨ getN SV.any (wipe l s) t = getN SV.any s t
  | [], s, t => .inr rfl
  | o :: l, s, t => by
    unfold wipe
    rcases wipe_get l (match o.dst with | some d => setN .any s d | none => s) t with h | h
    · exact .inl h
    · rw [h]
      split
      · rename_i d _
        by_cases hd : d < s.length
        · rw [getN_setN _ _ _ _ _ hd]
          split
          · exact .inl rfl
          · exact .inr rfl
        · rw [setN_eq, List.set_eq_of_length_le (Nat.le_of_not_lt hd)]; exact .inr rfl
      · exact .inr rfl
theorem wipe_any : ∀ (l : List Oper) (s : List SV) (t : Nat), getN SV.any s t = .any → getN SV.any (wipe l s) t = .any := by
  intro l s t h
  rcases wipe_get l s t with e | e
  · exact e
  · rw [e, h]
theorem wipe_dst : ∀ (l : List Oper) (s : List SV) (o : Oper) (d : Nat), o ∈ l → o.dst = some d → getN SV.any (wipe l s) d = .any
  | [], s, o, d, h, _ => by simp at h
  | x :: l, s, o, d, h, hd => by
    unfold wipe
    rcases List.mem_cons.1 h with rfl | h
    · refine wipe_any l _ d ?_
      rw [hd]
      by_cases hl : d < s.length
      · simp only; rw [getN_setN _ _ _ _ _ hl, if_pos rfl]
      · simp only; rw [setN_eq, List.set_eq_of_length_le (Nat.le_of_not_lt hl), getN_eq, List.getElem?_eq_none (Nat.le_of_not_lt hl)]; rfl
    · exact wipe_dst l _ o d h hd

def hasW : List Oper → Bool
  | [] => false
  | o :: l => (match cls o.op with | .w => true | _ => hasW l)
theorem hasW_mem : ∀ {l : List Oper} {o : Oper}, o ∈ l → cls o.op = .w → hasW l = true
  | [], o, h, _ => by simp at h
  | x :: l, o, h, hc => by
    unfold hasW
    rcases List.mem_cons.1 h with rfl | h
    · rw [hc]
    · split
      · rfl
      · exact hasW_mem h hc
def memNorefs : List Nat → List Blk → Bool
  | [], _ => true
  | d :: D, m => memNoref d m && memNorefs D m
theorem memNorefs_get : ∀ {D : List Nat} {m : List Blk}, memNorefs D m = true → ∀ d ∈ D, memNoref d m = true
  | [], _, _, d, h => by simp at h
  | x :: D, m, h, d, hd => by
    simp only [memNorefs, Bool.and_eq_true] at h
    rcases List.mem_cons.1 hd with rfl | hd
    · exact h.1
    · exact memNorefs_get h.2 d hd

/-- A drawn region, evaluated. -/
def drawG (T : Nat → Option TI) (G : Nat → List SV → SV → Prop) (ops : Array Oper) (s : St) (k : St → Prop) : Prop :=
  match makes ops.toList with
  | [] => opsG T G ⟨[], hasW ops.toList⟩ ops ops.toList s k
  | d :: D => if memNorefs (d :: D) s.mem then opsG T G ⟨d :: D, hasW ops.toList⟩ ops ops.toList ⟨wipe ops.toList s.slots, s.mem⟩ k else False

theorem reg_draw (tab : Tab P T) (hG : ∀ f as r, G f as r → ACall P f as r) (hmix : P.follows .mixedOrders = true) {id : Nat} {ops : Array Oper} (hok : regOk ops = true) {N : Nat} {w0 : World} {X : Nat → Prop} {s : St} {k : St → Prop}
    {Q : Exit → Act → World → Prop} {a : Act} {w : World} {ρ : Env} (h : drawG T G ops s k) (hr : Rep T N w0 X s a w ρ) (hQ : ∀ s a w ρ, k s → Rep T N w0 X s a w ρ → Q .normal a w) : (Code.region id ops true).wp P Q a w := by
  have hr1 : Rep T N w0 X s a { w with drawn := w.drawn + 1 } ρ := by
    have hb : Below w.heap.size w { w with drawn := w.drawn + 1 } := ⟨rfl, rfl, rfl, Nat.le_refl _, fun _ _ => rfl⟩
    exact ⟨hr.m.grow hb, hr.defers, hr.size, fun t => Den.mono (w := w) (w' := { w with drawn := w.drawn + 1 }) (X := Forb X s.mem ρ) (X' := Forb X s.mem ρ) hb.size (fun b _ h => ⟨h, rfl⟩) (hr.slot t)⟩
  have go : ∀ (D : Dr) (s : St), (∀ (j : Nat) (o : Oper) (d : Nat), ops[j]? = some o → cls o.op = .c → o.dst = some d → d ∈ D.ids) → D.fp = hasW ops.toList → MC D s → opsG T G D ops ops.toList s k → Clean ops (List.range ops.size) s → Rep T N w0 X s a { w with drawn := w.drawn + 1 } ρ → (Code.region id ops true).wp P Q a w := by
    intro D s hD hW hmc h hc hr
    refine wp_region_any hmix ?_
    have hch := chain_I (P := P) (T := T) (G := G) (D := D) ops k ops.toList 0 s (fun j => by simp) (opsG_chain tab _ _ _ h)
    rw [Array.length_toList, ← List.range_eq_range'] at hch
    exact drawn tab hG hok hD (fun j o ho hc => by rw [hW]; exact hasW_mem (by simpa using Array.mem_of_getElem? ho) hc) hQ ops.size (List.range ops.size) _ s a _ ρ (by simp) (by simp) List.pairwise_lt_range (fun i => by
      constructor
      · intro hi
        have hi := List.mem_range.1 hi
        exact ⟨hi, by simp [hi]⟩
      · intro hi
        exact List.mem_range.2 hi.1) hch hc hmc hr
  unfold drawG at h
  cases hm : makes ops.toList with
  | nil =>
    rw [hm] at h
    refine go _ s (fun j o d ho hc hd => ?_) rfl (fun d hd => by simp at hd) h (fun ⟨i, o, q, ho, hc, hod⟩ => ?_) hr1
    · have := makes_mem (l := ops.toList) (o := o) (by simpa using Array.mem_of_getElem? ho) hc hd
      rw [hm] at this
      exact this
    · intro j hj o' d ho' hd'
      have := makes_mem (l := ops.toList) (o := o) (by simpa using Array.mem_of_getElem? ho) hc hod
      rw [hm] at this
      simp at this
  | cons d D =>
    rw [hm] at h
    simp only at h
    split at h
    · rename_i hmn
      refine go _ _ (fun j o d' ho hc hd => ?_) rfl (memNorefs_get hmn) h (fun _ j hj o' d' ho' hd' => ?_) ?_
      · have := makes_mem (l := ops.toList) (o := o) (by simpa using Array.mem_of_getElem? ho) hc hd
        rw [hm] at this
        exact this
      · exact wipe_dst _ _ o' d' (by simpa using Array.mem_of_getElem? ho') hd'
      · refine ⟨hr1.m, hr1.defers, by rw [wipe_len]; exact hr1.size, fun t => ?_⟩
        rcases wipe_get ops.toList s.slots t with e | e
        · rw [e]; exact .any _ _
        · rw [e]; exact hr1.slot t
    · exact h.elim
end Go.Proofs.Ytopalajoinkgkaa
