/- Ids exchanged, dead ids forgotten, memory dropped: steps of what is known that no operation makes. -/
import Derived.Test.YtligbjbkecmecaaDoorDrw
namespace Go.Proofs.YtligbjbkecmecaaDoor
set_option linter.unusedVariables false
set_option linter.unusedSimpArgs false
open Go.RowKit
variable {P : Program} {T : Nat → Option TI} {G : Nat → CT → Prop}

/-- What is so of s is so of s'. -/
structure Sub (T : Nat → Option TI) (s s' : St) : Prop where
  h : ∀ N w0 X z a w ρ, Rep T N w0 X z s a w ρ → ∃ ρ', Rep T N w0 X z s' a w ρ'
theorem Sub.refl (s : St) : Sub T s s := ⟨fun _ _ _ _ _ _ ρ h => ⟨ρ, h⟩⟩
theorem Sub.trans {s s' s'' : St} (h : Sub T s s') (g : Sub T s' s'') : Sub T s s'' := ⟨fun N w0 X z a w ρ hr => by
  obtain ⟨ρ', hr'⟩ := h.h N w0 X z a w ρ hr
  exact g.h N w0 X z a w ρ' hr'⟩

/-! ### Two ids exchanged -/
def sw (p q r : Nat) : Nat := if Nat.beq r p then q else if Nat.beq r q then p else r
theorem sw_sw (p q r : Nat) : sw p q (sw p q r) = r := by
  unfold sw
  simp only [nbeq]
  repeat' split
  all_goals simp_all
theorem sw_inj {p q a b : Nat} (h : sw p q a = sw p q b) : a = b := by rw [← sw_sw p q a, h, sw_sw]
def swV (p q : Nat) : SV → SV
  | .ptr r o => .ptr (sw p q r) o
  | .row r => .row (sw p q r)
  | .rsl r sh a n c => .rsl (sw p q r) sh a n c
  | .rptr r sh i o => .rptr (sw p q r) sh i o
  | .obj r => .obj (sw p q r)
  | .agg l => .agg (swVs p q l)
  | .tup l => .tup (swVs p q l)
  | .fcl f l => .fcl f (swVs p q l)
  | .cel x => .cel (swV p q x)
  | .lsx sh l => .lsx sh (swVs p q l)
  | .epx sh x o => .epx sh (swV p q x) o
  | x => x
where swVs (p q : Nat) : List SV → List SV
  | [] => []
  | x :: l => swV p q x :: swVs p q l
theorem swVs_eq (p q : Nat) : ∀ l : List SV, swV.swVs p q l = l.map (swV p q)
  | [] => rfl
  | x :: l => by simp [swV.swVs, swVs_eq p q l]
theorem Den.sw {w : World} {X : Nat → Prop} {ρ : Env} {p q : Nat} {x : SV} {v : Value} (h : Den w X ρ x v) : Den w X (fun r => ρ (sw p q r)) (swV p q x) v := by
  induction h with
  | any ρ v => exact .any _ v
  | bool ρ b => exact .bool _ b
  | int ρ k n => exact .int _ k n
  | str ρ s => exact .str _ s
  | agg ρ l cs hl h ih =>
    simp only [swV, swVs_eq]
    refine .agg _ _ cs (by simpa using hl) fun i h1 h2 => ?_
    simp only [List.getElem_map]
    exact ih i _ h2
  | tup ρ l cs hl h ih =>
    simp only [swV, swVs_eq]
    refine .tup _ _ cs (by simpa using hl) fun i h1 h2 => ?_
    simp only [List.getElem_map]
    exact ih i _ h2
  | lst0 ρ sh a cap => exact .lst0 _ sh a cap
  | lst ρ sh l b off cap us hb hx hc hu hl h1 h ih => exact .lst _ sh l b off cap us hb hx hc hu hl h1 h
  | nil ρ => exact .nil _
  | ptr ρ r off b h => exact .ptr _ _ off b fun k hk => h k (by simpa [sw_sw] using hk)
  | row ρ r a n c h => exact .row _ _ a n c fun k hk => h k (by simpa [sw_sw] using hk)
  | rsl ρ r sh a n c x cc hc h => exact .rsl _ _ sh a n c x cc hc fun k hk => h k (by simpa [sw_sw] using hk)
  | rptr ρ r sh i off b o h => exact .rptr _ _ sh i off b o fun k hk => h k (by simpa [sw_sw] using hk)
  | eptr ρ sh x off b o us hb hx hu hl h ih => exact .eptr _ sh x off b o us hb hx hu hl h
  | clo ρ f caps us hl h ih => exact .clo _ f caps us hl h
  | obj ρ r v h1 h => exact .obj _ _ v h1 fun k hk => h k (by simpa [sw_sw] using hk)
  | val ρ v => exact .val _ v
  | fcl ρ f l cs hl h ih =>
    simp only [swV, swVs_eq]
    refine .fcl _ f _ cs (by simpa using hl) fun i h1 h2 => ?_
    simp only [List.getElem_map]
    exact ih i _ h2
  | cel ρ x b o u hb hx hu h ih => exact .cel _ _ b o u hb hx hu ih
  | lsx ρ sh l b off cap us hb hx hc hu hl ho h ih =>
    simp only [swV, swVs_eq]
    have := Den.lsx (w := w) (X := X) (fun r => ρ (Go.Proofs.YtligbjbkecmecaaDoor.sw p q r)) sh (l.map (swV p q)) b off cap us hb hx (by simpa using hc) hu (by simpa using hl) ho fun i h1 => by
      simp only [List.getElem_map]
      exact ih i _
    simpa using this
  | epx ρ sh x off b o us hb hx hu hl h ih => exact .epx _ sh _ off b o us hb hx hu hl ih
def swB (p q : Nat) : Blk → Blk
  | .chunk t x => .chunk t (swV p q x)
  | .rowx e l i x => .rowx e l i (swV p q x)
  | .rown sh e l => .rown sh e (swV.swVs p q l)
  | b => b
def swM (p q : Nat) : Mem → Mem
  | [] => []
  | (k, b) :: m => (sw p q k, swB p q b) :: swM p q m
theorem getM_sw (p q : Nat) : ∀ (m : Mem) (r : Nat), getM (swM p q m) (sw p q r) = swB p q (getM m r)
  | [], r => rfl
  | (k, b) :: m, r => by
    simp only [swM, getM, nbeq, getM_sw p q m r]
    by_cases h : k = r
    · rw [if_pos (by rw [h]), if_pos h]
    · rw [if_neg (fun e => h (sw_inj e)), if_neg h]
def swS (p q : Nat) (s : St) : St := ⟨swV.swVs p q s.slots, swM p q s.mem⟩
theorem swB_own (p q : Nat) (b : Blk) : (swB p q b).own = b.own := by cases b <;> rfl
theorem swS_sub (p q : Nat) (s : St) (hp : p ≠ 0) (hq : q ≠ 0) : Sub T s (swS p q s) := ⟨fun N w0 X z a w ρ hr => by
  have hg : ∀ r, getM (swM p q s.mem) r = swB p q (getM s.mem (sw p q r)) := fun r => by rw [← getM_sw, sw_sw]
  have hf : Forb X (swM p q s.mem) (fun r => ρ (sw p q r)) = Forb X s.mem ρ := by
    funext b
    simp only [Forb, owned, hg, swB_own]
    apply propext
    constructor
    · rintro (h | ⟨r, v, h1, h2, h3⟩)
      · exact .inl h
      · exact .inr ⟨_, v, h1, h2, h3⟩
    · rintro (h | ⟨r, v, h1, h2, h3⟩)
      · exact .inl h
      · exact .inr ⟨sw p q r, v, by rw [sw_sw]; exact h1, by rw [sw_sw]; exact h2, h3⟩
  refine ⟨fun r => ρ (sw p q r), ⟨⟨hr.m.low, hr.m.below, hr.m.szN, fun r => ?_, fun r r' v v' b h1 h2 h3 h4 h5 h6 => ?_, fun g x hg => ⟨(hr.m.gl g x hg).1, (hr.m.gl g x hg).2.mono (Nat.le_refl _) fun b _ hn => ⟨fun hf' => hn (by rw [← hf]; exact hf'), rfl⟩⟩⟩, (by show DefOk N w (Forb X (swM p q s.mem) _) _; rw [hf]; exact hr.defers), ?_, fun t => ?_, ?_, hr.fix, hr.len, hr.nod⟩⟩
  · show BlkRep T N w (Forb X (swM p q s.mem) _) _ (getM (swM p q s.mem) r) _
    rw [hg, hf]
    have hb := hr.m.blk (sw p q r)
    cases hB : getM s.mem (sw p q r) with
    | no => rw [hB] at hb; exact hb
    | frz sh l => rw [hB] at hb; exact hb
    | row sh e l => rw [hB] at hb; exact hb
    | chunk t x =>
      rw [hB] at hb
      obtain ⟨i, b, us, ty, h1, h2, h3, h4, h5, h6, h7⟩ := hb
      exact ⟨i, b, us, ty, h1, h2, h3, h4, h5, h6, h7.sw⟩
    | rowx e l i x =>
      rw [hB] at hb
      obtain ⟨b, off, cap, cur, h2, h3, h4, h5, h6, h7, h0, h9, hi, h8, hx⟩ := hb
      exact ⟨b, off, cap, cur, h2, h3, h4, h5, h6, h7, h0, h9, hi, h8, hx.sw⟩
    | rown sh e l =>
      rw [hB] at hb
      obtain ⟨b, off, cap, cur, h2, h3, h4, h5, h6, h7, h0, h9, h8⟩ := hb
      refine ⟨b, off, cap, cur, by rw [h2]; simp [swVs_eq], h3, h4, by simpa [swVs_eq] using h5, h6, h7, h0, h9, fun i h => ?_⟩
      simp only [swVs_eq, List.getElem_map]
      exact (h8 i (by simpa [swVs_eq] using h)).sw
    | iter s p => rw [hB] at hb; exact hb
    | gen _ _ _ => rw [hB] at hb; exact hb
  · simp only [swS] at h1 h2
    rw [hg, swB_own] at h1 h2
    exact sw_inj (hr.m.inj _ _ v v' b h1 h2 h3 h4 h5 h6)
  · rw [hr.size]; simp [swS, swVs_eq]
  · show Den w (Forb X (swM p q s.mem) _) _ (getN .any (swV.swVs p q s.slots) t) _
    rw [hf]
    have := (hr.slot t).sw (p := p) (q := q)
    have e : getN SV.any (swV.swVs p q s.slots) t = swV p q (getN SV.any s.slots t) := by
      rw [swVs_eq, getN_eq, getN_eq, List.getElem?_map]
      cases s.slots[t]? <;> rfl
    rw [e]
    exact this
  · intro v hz hn
    have e0 : sw p q 0 = 0 := by unfold sw; simp only [nbeq]; rw [if_neg (Ne.symm hp), if_neg (Ne.symm hq)]
    show ρ (sw p q 0) = some v
    rw [e0]
    refine hr.anch v hz fun h0 => hn ?_
    show getM (swM p q s.mem) 0 = .no
    rw [hg, e0, h0]
    rfl⟩

/-! ### Dead ids forgotten -/
def clV (m : Mem) : SV → SV
  | .ptr r o => if isNo (getM m r) then .any else .ptr r o
  | .row r => if isNo (getM m r) then .any else .row r
  | .rsl r sh a n c => if isNo (getM m r) then .any else .rsl r sh a n c
  | .rptr r sh i o => if isNo (getM m r) then .any else .rptr r sh i o
  | .obj r => if isNo (getM m r) then .any else .obj r
  | .agg l => .agg (clVs m l)
  | .tup l => .tup (clVs m l)
  | .fcl f l => .fcl f (clVs m l)
  | .cel x => .cel (clV m x)
  | .lsx sh l => .lsx sh (clVs m l)
  | .epx sh x o => .epx sh (clV m x) o
  | x => x
where clVs (m : Mem) : List SV → List SV
  | [] => []
  | x :: l => clV m x :: clVs m l
theorem clVs_eq (m : Mem) : ∀ l : List SV, clV.clVs m l = l.map (clV m)
  | [] => rfl
  | x :: l => by simp [clV.clVs, clVs_eq m l]
theorem Den.cl {w : World} {X : Nat → Prop} {ρ : Env} {m : Mem} {x : SV} {v : Value} (h : Den w X ρ x v) : Den w X ρ (clV m x) v := by
  induction h with
  | any ρ v => exact .any _ v
  | bool ρ b => exact .bool _ b
  | int ρ k n => exact .int _ k n
  | str ρ s => exact .str _ s
  | agg ρ l cs hl h ih =>
    simp only [clV, clVs_eq]
    refine .agg _ _ cs (by simpa using hl) fun i h1 h2 => ?_
    simp only [List.getElem_map]
    exact ih i _ h2
  | tup ρ l cs hl h ih =>
    simp only [clV, clVs_eq]
    refine .tup _ _ cs (by simpa using hl) fun i h1 h2 => ?_
    simp only [List.getElem_map]
    exact ih i _ h2
  | lst0 ρ sh a cap => exact .lst0 _ sh a cap
  | lst ρ sh l b off cap us hb hx hc hu hl h1 h ih => exact .lst _ sh l b off cap us hb hx hc hu hl h1 h
  | nil ρ => exact .nil _
  | ptr ρ r off b h => simp only [clV]; split <;> first | exact .any _ _ | exact .ptr _ _ off b h
  | row ρ r a n c h => simp only [clV]; split <;> first | exact .any _ _ | exact .row _ _ a n c h
  | rsl ρ r sh a n c x cc hc h => simp only [clV]; split <;> first | exact .any _ _ | exact .rsl _ _ sh a n c x cc hc h
  | rptr ρ r sh i off b o h => simp only [clV]; split <;> first | exact .any _ _ | exact .rptr _ _ sh i off b o h
  | eptr ρ sh x off b o us hb hx hu hl h ih => exact .eptr _ sh x off b o us hb hx hu hl h
  | clo ρ f caps us hl h ih => exact .clo _ f caps us hl h
  | obj ρ r v h1 h => simp only [clV]; split <;> first | exact .any _ _ | exact .obj _ r v h1 h
  | val ρ v => exact .val _ v
  | fcl ρ f l cs hl h ih =>
    simp only [clV, clVs_eq]
    refine .fcl _ f _ cs (by simpa using hl) fun i h1 h2 => ?_
    simp only [List.getElem_map]
    exact ih i _ h2
  | cel ρ x b o u hb hx hu h ih => exact .cel _ _ b o u hb hx hu ih
  | lsx ρ sh l b off cap us hb hx hc hu hl ho h ih =>
    simp only [clV, clVs_eq]
    have := Den.lsx (w := w) (X := X) ρ sh (l.map (clV m)) b off cap us hb hx (by simpa using hc) hu (by simpa using hl) ho fun i h1 => by
      simp only [List.getElem_map]
      exact ih i _
    simpa using this
  | epx ρ sh x off b o us hb hx hu hl h ih => exact .epx _ sh _ off b o us hb hx hu hl ih
def clB (m : Mem) : Blk → Blk
  | .chunk t x => .chunk t (clV m x)
  | .rowx e l i x => .rowx e l i (clV m x)
  | .rown sh e l => .rown sh e (clV.clVs m l)
  | b => b
def clM (m : Mem) : Mem → Mem
  | [] => []
  | (k, b) :: l => (k, clB m b) :: clM m l
theorem getM_cl (m : Mem) : ∀ (l : Mem) (r : Nat), getM (clM m l) r = clB m (getM l r)
  | [], r => rfl
  | (k, b) :: l, r => by
    simp only [clM, getM, getM_cl m l r]
    split <;> rfl
def clean (s : St) : St := ⟨clV.clVs s.mem s.slots, clM s.mem s.mem⟩
theorem clB_own (m : Mem) (b : Blk) : (clB m b).own = b.own := by cases b <;> rfl
theorem clean_sub (s : St) : Sub T s (clean s) := ⟨fun N w0 X z a w ρ hr => by
  have hf : Forb X (clM s.mem s.mem) ρ = Forb X s.mem ρ := by
    funext b
    simp only [Forb, owned, getM_cl, clB_own]
  refine ⟨ρ, ⟨⟨hr.m.low, hr.m.below, hr.m.szN, fun r => ?_, fun r r' v v' b h1 h2 h3 h4 h5 h6 => ?_, fun g x hg => ⟨(hr.m.gl g x hg).1, (hr.m.gl g x hg).2.mono (Nat.le_refl _) fun b _ hn => ⟨fun hf' => hn (by rw [← hf]; exact hf'), rfl⟩⟩⟩, (by show DefOk N w (Forb X (clM s.mem s.mem) ρ) _; rw [hf]; exact hr.defers), ?_, fun t => ?_, (fun v hz hn => hr.anch v hz fun h0 => hn (by show getM (clM s.mem s.mem) 0 = .no; rw [getM_cl, h0]; rfl)), hr.fix, hr.len, hr.nod⟩⟩
  · show BlkRep T N w (Forb X (clM s.mem s.mem) ρ) ρ (getM (clM s.mem s.mem) r) _
    rw [getM_cl, hf]
    have hb := hr.m.blk r
    cases hB : getM s.mem r with
    | no => rw [hB] at hb; exact hb
    | frz sh l => rw [hB] at hb; exact hb
    | row sh e l => rw [hB] at hb; exact hb
    | chunk t x =>
      rw [hB] at hb
      obtain ⟨i, b, us, ty, h1, h2, h3, h4, h5, h6, h7⟩ := hb
      exact ⟨i, b, us, ty, h1, h2, h3, h4, h5, h6, h7.cl⟩
    | rowx e l i x =>
      rw [hB] at hb
      obtain ⟨b, off, cap, cur, h2, h3, h4, h5, h6, h7, h0, h9, hi, h8, hx⟩ := hb
      exact ⟨b, off, cap, cur, h2, h3, h4, h5, h6, h7, h0, h9, hi, h8, hx.cl⟩
    | rown sh e l =>
      rw [hB] at hb
      obtain ⟨b, off, cap, cur, h2, h3, h4, h5, h6, h7, h0, h9, h8⟩ := hb
      refine ⟨b, off, cap, cur, by rw [h2]; simp [clVs_eq], h3, h4, by simpa [clVs_eq] using h5, h6, h7, h0, h9, fun i h => ?_⟩
      simp only [clVs_eq, List.getElem_map]
      exact (h8 i (by simpa [clVs_eq] using h)).cl
    | iter s p => rw [hB] at hb; exact hb
    | gen _ _ _ => rw [hB] at hb; exact hb
  · simp only [clean] at h1 h2
    rw [getM_cl, clB_own] at h1 h2
    exact hr.m.inj _ _ v v' b h1 h2 h3 h4 h5 h6
  · rw [hr.size]; simp [clean, clVs_eq]
  · show Den w (Forb X (clM s.mem s.mem) ρ) ρ (getN .any (clV.clVs s.mem s.slots) t) _
    rw [hf]
    have e : getN SV.any (clV.clVs s.mem s.slots) t = clV s.mem (getN SV.any s.slots t) := by
      rw [clVs_eq, getN_eq, getN_eq, List.getElem?_map]
      cases s.slots[t]? <;> rfl
    rw [e]
    exact (hr.slot t).cl⟩

/-- Ids made free. -/
def newId : Mem → Nat
  | [] => 1000
  | (k, _) :: m => (fun n => if Nat.blt k n then n else k + 1) (newId m)
def freeIds : List Nat → St → St
  | [], s => s
  | d :: l, s => freeIds l (if isNo (getM s.mem d) || Nat.beq d 0 then s else swS d (newId s.mem) s)
def prep (D : List Nat) (s : St) : St := match D with
  | [] => s
  | D => clean (freeIds D s)
theorem freeIds_sub : ∀ (D : List Nat) (s : St), Sub T s (freeIds D s)
  | [], s => .refl s
  | d :: l, s => by
    unfold freeIds
    split
    · exact freeIds_sub l s
    · rename_i h
      refine (swS_sub _ _ s (fun h0 => h (by simp [h0])) (fun h0 => ?_)).trans (freeIds_sub l _)
      have : ∀ m : Mem, 1000 ≤ newId m := by
        intro m
        induction m with
        | nil => exact Nat.le_refl _
        | cons p m ih =>
          obtain ⟨k, b⟩ := p
          simp only [newId, nblt]
          split <;> omega
      have := this s.mem
      omega
theorem prep_sub (D : List Nat) (s : St) : Sub T s (prep D s) := by
  unfold prep
  split
  · exact .refl s
  · exact (freeIds_sub _ s).trans (clean_sub _)

/-! ### A row in a row given up -/
noncomputable def unXs (r : Nat) (s : St) : St :=
  match getM s.mem r with
  | .rowx e l i (.row q) => (match getM s.mem q with
    | .row sh _ k => ⟨s.slots, setM (.row none e (O.st l i (.lst sh k))) (setM (.frz sh k) s.mem q) r⟩
    | _ => s)
  | _ => s
theorem unXs_sub (r : Nat) (s : St) : Sub T s (unXs r s) := ⟨fun N w0 X z a w ρ hr => by
  unfold unXs
  split
  case h_2 => exact ⟨ρ, hr⟩
  rename_i e l i q hm
  split
  case h_2 => exact ⟨ρ, hr⟩
  rename_i sh e2 k hq
  rw [O.st_eq]
  obtain ⟨m', t'⟩ := hr.m.unX hm hq
  exact ⟨ρ, ⟨m', hr.defers.turn t', hr.size, fun t => t'.den (fun _ h => by cases h) (hr.slot t), anch_turn hr.m m' hr.anch (.inr rfl), hr.fix, hr.len, hr.nod⟩⟩⟩
def rowxIds : Mem → List Nat
  | [] => []
  | (k, b) :: m => (match b with | .rowx _ _ _ _ => k :: rowxIds m | _ => rowxIds m)
noncomputable def unAll : List Nat → St → St
  | [], s => s
  | r :: l, s => unAll l (unXs r s)
theorem unAll_sub : ∀ (l : List Nat) (s : St), Sub T s (unAll l s)
  | [], s => .refl s
  | r :: l, s => (unXs_sub r s).trans (unAll_sub l _)
def hasVCall : List Oper → Bool
  | [] => false
  | o :: l => (match o.op with | .call c => (match c.callee with | .value _ => true | _ => false) | _ => false) || hasVCall l
def hasSt : List Oper → Bool
  | [] => false
  | o :: l => (match o.op with | .store _ _ _ => true | _ => false) || hasSt l
/-! ### A variable that nobody writes any more -/
def fpV (r : Nat) (g : Nat → SV) : SV → SV
  | .ptr q o => if Nat.beq q r then g o else .ptr q o
  | .agg l => .agg (fpVs r g l)
  | .tup l => .tup (fpVs r g l)
  | .fcl f l => .fcl f (fpVs r g l)
  | .cel x => .cel (fpV r g x)
  | .lsx sh l => .lsx sh (fpVs r g l)
  | .epx sh x o => .epx sh (fpV r g x) o
  | x => x
where fpVs (r : Nat) (g : Nat → SV) : List SV → List SV
  | [] => []
  | x :: l => fpV r g x :: fpVs r g l
theorem fpVs_eq (r : Nat) (g : Nat → SV) : ∀ l : List SV, fpV.fpVs r g l = l.map (fpV r g)
  | [] => rfl
  | x :: l => by simp [fpV.fpVs, fpVs_eq r g l]
theorem Den.fp {w : World} {Y : Nat → Prop} {ρ ρ' : Env} {r : Nat} {g : Nat → SV} {x : SV} {v : Value} {b : Nat} (h : Den w Y ρ x v) (hρ : ρ r = some (.pointer (some ⟨b, 0, none⟩)))
    (hg : ∀ o, Den w Y ρ' (g o) (.pointer (some ⟨b, o, none⟩))) (he : ∀ q, ρ' q = none ∨ ρ' q = ρ q) : Den w Y ρ' (fpV r g x) v := by
  induction h with
  | agg ρ l cs hl' h ih =>
    simp only [fpV, fpVs_eq]
    refine .agg _ _ cs (by simpa using hl') fun i h1 h2 => ?_
    simp only [List.getElem_map]
    exact ih i _ h2 hρ he
  | tup ρ l cs hl' h ih =>
    simp only [fpV, fpVs_eq]
    refine .tup _ _ cs (by simpa using hl') fun i h1 h2 => ?_
    simp only [List.getElem_map]
    exact ih i _ h2 hρ he
  | ptr ρ q off b' h =>
    simp only [fpV]
    split
    · rename_i hq
      have := nbeq.1 hq
      subst this
      have := h _ hρ
      simp only [Value.pointer.injEq, Option.some.injEq, Addr.mk.injEq, and_true] at this
      subst this
      exact hg off
    · exact Den.env (.ptr ρ q off b' h) fun q => (he q).imp id .inl
  | any ρ v => exact .any _ v
  | bool ρ b => exact .bool _ b
  | int ρ k n => exact .int _ k n
  | str ρ s => exact .str _ s
  | lst0 ρ sh a cap => exact .lst0 _ sh a cap
  | lst ρ sh l b off cap us hb hx hc hu hl ho h ih => exact .lst _ sh l b off cap us hb hx hc hu hl ho h
  | nil ρ => exact .nil _
  | row ρ r a n c h => exact Den.env (.row ρ r a n c h) fun q => (he q).imp id .inl
  | rsl ρ r sh a n c x cc hc h => exact Den.env (.rsl ρ r sh a n c x cc hc h) fun q => (he q).imp id .inl
  | rptr ρ r sh i off b o h => exact Den.env (.rptr ρ r sh i off b o h) fun q => (he q).imp id .inl
  | eptr ρ sh x off b o us hb hx hu hl h ih => exact .eptr _ sh x off b o us hb hx hu hl h
  | clo ρ f caps us hl h ih => exact .clo _ f caps us hl h
  | obj ρ r v h1 h => exact Den.env (.obj ρ r v h1 h) fun q => (he q).imp id .inl
  | val ρ v => exact .val _ v
  | fcl ρ f l cs hl' h ih =>
    simp only [fpV, fpVs_eq]
    refine .fcl _ f _ cs (by simpa using hl') fun i h1 h2 => ?_
    simp only [List.getElem_map]
    exact ih i _ h2 hρ he
  | cel ρ x b o u hb hx hu h ih => exact .cel _ _ b o u hb hx hu (ih hρ he)
  | lsx ρ sh l b off cap us hb hx hc hu hl ho h ih =>
    simp only [fpV, fpVs_eq]
    have := Den.lsx (w := w) (X := Y) ρ' sh (l.map (fpV r g)) b off cap us hb hx (by simpa using hc) hu (by simpa using hl) ho fun i h1 => by
      simp only [List.getElem_map]
      exact ih i _ hρ he
    simpa using this
  | epx ρ sh x off b o us hb hx hu hl h ih => exact .epx _ sh _ off b o us hb hx hu hl (ih hρ he)
def fpB (r : Nat) (g : Nat → SV) : Blk → Blk
  | .chunk t x => .chunk t (fpV r g x)
  | .rowx e l i x => .rowx e l i (fpV r g x)
  | .rown sh e l => .rown sh e (fpV.fpVs r g l)
  | b => b
def fpM (r : Nat) (g : Nat → SV) : Mem → Mem
  | [] => []
  | (k, b) :: l => (k, fpB r g b) :: fpM r g l
theorem getM_fp (r : Nat) (g : Nat → SV) : ∀ (l : Mem) (q : Nat), getM (fpM r g l) q = fpB r g (getM l q)
  | [], r => rfl
  | (k, b) :: l, q => by
    simp only [fpM, getM, getM_fp r g l q]
    split <;> rfl
theorem fpB_own (r : Nat) (g : Nat → SV) (b : Blk) : (fpB r g b).own = b.own := by cases b <;> rfl
/-- The pointers to a variable of this content that nobody writes any more. -/
def fpG (T : Nat → Option TI) (r t : Nat) (x : SV) : Option (Nat → SV) :=
  match x with
  | .ptr q o => (match T t with
    | some i => if Nat.beq q r then none else (match i.shape with | none => some fun k => if Nat.beq k 0 then .cel (.ptr q o) else .ptr r k | some _ => none)
    | none => none)
  | x => (match T t with
    | some i => if dataB x && Nat.beq i.size (wid i.shape) then some fun o => .eptr i.shape x o else none
    | none => none)
noncomputable def fpS (T : Nat → Option TI) (r : Nat) (s : St) : St :=
  match getM s.mem r with
  | .chunk t x => (match fpG T r t x with
    | some g => ⟨fpV.fpVs r g s.slots, setM .no (fpM r g s.mem) r⟩
    | none => s)
  | _ => s
theorem fpS_sub (r : Nat) (s : St) : Sub T s (fpS T r s) := ⟨fun N w0 X z a w ρ hr => by
  unfold fpS
  split
  case h_2 => exact ⟨ρ, hr⟩
  rename_i t x hm
  split
  case h_2 => exact ⟨ρ, hr⟩
  rename_i g hG
  have hbr := hr.m.blk r
  rw [hm] at hbr
  obtain ⟨i, b, us, ty, h1, h2, h3, h4, h5, h6, h7⟩ := hbr
  let M' : Mem := setM .no (fpM r g s.mem) r
  let ρ' : Env := fun q => if q = r then none else ρ q
  have hg : ∀ q, getM M' q = if q = r then .no else fpB r g (getM s.mem q) := fun q => by rw [getM_setM, getM_fp]
  have he : ∀ q, ρ' q = none ∨ ρ' q = ρ q := fun q => by
    simp only [ρ']
    split
    · exact .inl rfl
    · exact .inr rfl
  have hown : ∀ c, owned M' ρ' c → owned s.mem ρ c ∧ c ≠ b := by
    rintro c ⟨q, v, g1, g2, g3⟩
    rw [hg] at g1
    by_cases hq : q = r
    · rw [if_pos hq] at g1; cases g1
    · rw [if_neg hq, fpB_own] at g1
      have g2' : ρ q = some v := by simpa only [ρ', if_neg hq] using g2
      refine ⟨⟨q, v, g1, g2', g3⟩, ?_⟩
      rintro rfl
      exact hq (hr.m.inj q r v _ c g1 (by rw [hm]; rfl) g2' h2 g3 rfl)
  have hF : ∀ c, Forb X M' ρ' c → Forb X s.mem ρ c := fun c h => h.imp id fun h => (hown c h).1
  have hnb : ¬ Forb X M' ρ' b := by
    rintro (h | h)
    · exact (hr.m.low b h).2 h3
    · exact (hown b h).2 rfl
  have hlt : b < w.heap.size := heap_lt h4
  have hu : ∀ (j : Nat) (u : Value), us.toList[j]? = some u → w.cell? ⟨b, 0 + j, none⟩ = some u := fun j u hj => by
    rw [Nat.zero_add]
    exact cell_of_row w b j us ty (0, 0) h4 |>.trans (by simpa using hj)
  have hgo : ∀ o, Den w (Forb X M' ρ') ρ' (g o) (.pointer (some ⟨b, o, none⟩)) := by
    intro o
    have h7' := h7.mono (w' := w) (X' := Forb X M' ρ') (Nat.le_refl _) fun c _ hn => ⟨fun h => hn (hF c h), rfl⟩
    have data : ∀ {y : SV}, (if dataB y && Nat.beq i.size (wid i.shape) then some fun o => SV.eptr i.shape y o else none) = some g → Den w (Forb X M' ρ') ρ y (valAt i.shape us.toList 0) → Den w (Forb X M' ρ') ρ' (g o) (.pointer (some ⟨b, o, none⟩)) := by
      intro y hy hd
      split at hy
      case isFalse => cases hy
      rename_i hc
      injection hy with hy
      subst hy
      simp only [Bool.and_eq_true] at hc
      have := Den.eptr (X := Forb X M' ρ') ρ' i.shape y o b 0 us.toList hlt hnb hu (by rw [Array.length_toList, h5, nbeq.1 hc.2]) hd.to_no
      simpa using this
    unfold fpG at hG
    split at hG
    · rename_i q o'
      simp only [h1] at hG
      split at hG
      · cases hG
      rename_i hqr
      split at hG
      case h_2 => cases hG
      rename_i hsh
      injection hG with hG
      subst hG
      simp only
      split
      · rename_i ho
        have ho := nbeq.1 ho
        subst ho
        rw [hsh] at h7'
        have hne : q ≠ r := fun e => hqr (nbeq.2 e)
        have hcell : w.cell? ⟨b, 0, none⟩ = some (valAt none us.toList 0) := by
          have : ∃ u, us.toList[0]? = some u := by
            cases hu0 : us.toList[0]? with
            | some u => exact ⟨u, rfl⟩
            | none =>
              exfalso
              simp only [valAt, hu0, Option.getD_none] at h7'
              cases h7'
          obtain ⟨u, hu0⟩ := this
          have := hu 0 u hu0
          simp only [Nat.add_zero] at this
          rw [this]
          simp [valAt, hu0]
        exact .cel _ _ b 0 _ hlt hnb hcell (h7'.env fun k => by
          by_cases hk : k = r
          · subst hk; right; right; simp only [noref, Bool.not_eq_true']; cases hb : Nat.beq q k with | false => rfl | true => exact absurd (nbeq.1 hb) hne
          · right; left; simp only [ρ', if_neg hk])
      · exact .ptr _ _ _ _ fun q hq => by simp only [ρ', if_true] at hq; cases hq
    · simp only [h1] at hG
      exact data hG h7'
  have key : ∀ {y : SV} {v : Value}, Den w (Forb X s.mem ρ) ρ y v → Den w (Forb X M' ρ') ρ' (fpV r g y) v := fun h =>
    (h.mono (Nat.le_refl _) fun c _ hn => ⟨fun h => hn (hF c h), rfl⟩).fp h2 hgo he
  have keyN : ∀ {y : SV} {v : Value}, Den w (Forb X s.mem ρ) noEnv y v → Den w (Forb X M' ρ') noEnv y v := fun h => h.mono (Nat.le_refl _) fun c _ hn => ⟨fun h => hn (hF c h), rfl⟩
  refine ⟨ρ', ⟨⟨hr.m.low, hr.m.below, hr.m.szN, fun q => ?_, fun q q' v v' c g1 g2 g3 g4 g5 g6 => ?_, gl_mono hr.m.gl (Nat.le_refl _) fun c _ hn => ⟨fun h => hn (hF c h), rfl⟩⟩, hr.defers.sub hF, ?_, fun k => ?_, fun v hz hn => ?_, hr.fix, hr.len, hr.nod⟩⟩
  · show BlkRep T N w (Forb X M' ρ') ρ' (getM M' q) (ρ' q)
    rw [hg]
    by_cases hq : q = r
    · rw [if_pos hq]
      show ρ' q = none
      simp only [ρ', if_pos hq]
    · rw [if_neg hq]
      have e2 : ρ' q = ρ q := by simp only [ρ', if_neg hq]
      rw [e2]
      have hb := hr.m.blk q
      cases hB : getM s.mem q with
      | no => rw [hB] at hb; exact hb
      | frz sh l => rw [hB] at hb; obtain ⟨v, g1, g2⟩ := hb; exact ⟨v, g1, keyN g2⟩
      | row sh e l =>
        rw [hB] at hb
        obtain ⟨v, g1, g2⟩ := hb
        refine ⟨v, g1, g2.imp id ?_⟩
        rintro ⟨b, off, cap, cur, k1, k2, k3, k4, k5, k6, k7, k8, k9⟩
        exact ⟨b, off, cap, cur, k1, k2, k3, k4, k5, k6, k7, k8, fun i h => keyN (k9 i h)⟩
      | chunk t' x' =>
        rw [hB] at hb
        obtain ⟨i, b, us, ty, g1, g2, g3, g4, g5, g6, g7⟩ := hb
        exact ⟨i, b, us, ty, g1, g2, g3, g4, g5, g6, key g7⟩
      | rowx e l j x' =>
        rw [hB] at hb
        obtain ⟨b, off, cap, cur, g2, g3, g4, g5, g6, g7, g0, g9, gi, g8, gx⟩ := hb
        exact ⟨b, off, cap, cur, g2, g3, g4, g5, g6, g7, g0, g9, gi, fun j h hj => keyN (g8 j h hj), key gx⟩
      | rown sh e l =>
        rw [hB] at hb
        obtain ⟨b, off, cap, cur, g2, g3, g4, g5, g6, g7, g0, g9, g8⟩ := hb
        refine ⟨b, off, cap, cur, by rw [g2]; simp [fpVs_eq], g3, g4, by simpa [fpVs_eq] using g5, g6, g7, g0, g9, fun i h => ?_⟩
        simp only [fpVs_eq, List.getElem_map]
        exact key (g8 i (by simpa [fpVs_eq] using h))
      | iter s p => rw [hB] at hb; exact hb
      | gen _ _ _ => rw [hB] at hb; exact hb
  · have k1 : q ≠ r := fun hq => by have : (getM M' q).own = true := g1; rw [hg, if_pos hq] at this; cases this
    have k2 : q' ≠ r := fun hq => by have : (getM M' q').own = true := g2; rw [hg, if_pos hq] at this; cases this
    have g1 : (getM M' q).own = true := g1
    have g2 : (getM M' q').own = true := g2
    rw [hg, if_neg k1, fpB_own] at g1
    rw [hg, if_neg k2, fpB_own] at g2
    simp only [ρ', if_neg k1] at g3
    simp only [ρ', if_neg k2] at g4
    exact hr.m.inj _ _ v v' c g1 g2 g3 g4 g5 g6
  · rw [hr.size]; simp [fpVs_eq]
  · show Den w (Forb X M' ρ') ρ' (getN .any (fpV.fpVs r g s.slots) k) _
    have e : getN SV.any (fpV.fpVs r g s.slots) k = fpV r g (getN SV.any s.slots k) := by
      rw [fpVs_eq, getN_eq, getN_eq, List.getElem?_map]
      cases s.slots[k]? <;> rfl
    rw [e]
    exact key (hr.slot k)
  · have hn : getM M' 0 ≠ .no := hn
    rw [hg] at hn
    by_cases h0 : (0 : Nat) = r
    · rw [if_pos h0] at hn; exact absurd rfl hn
    · rw [if_neg h0] at hn
      show ρ' 0 = some v
      simp only [ρ', if_neg h0]
      exact hr.anch v hz fun h => hn (by rw [h]; rfl)⟩
/-- The arrays that a region slices, but for what is copied onto. -/
def copied (k : Nat) : List Oper → Bool
  | [] => false
  | o :: l => (match o.op with | .call c => (match c.callee, c.args.toList with | .builtin .copy, .tmp d :: _ => Nat.beq d k | _, _ => false) | _ => false) || copied k l
def defOf (k : Nat) : List Oper → Option Op
  | [] => none
  | o :: l => (match o.dst with | some d => if Nat.beq d k then some o.op else defOf k l | none => defOf k l)
/-- The variable of which a part is sliced. -/
def rootOf (all : List Oper) (sl : List SV) (k : Nat) : SV := match defOf k all with
  | some (.fieldAddr _ (.tmp j) _) => getN .any sl j
  | some _ => .any
  | none => getN .any sl k
def sliced (T : Nat → Option TI) (all : List Oper) (sl : List SV) : List Oper → List Nat
  | [] => []
  | o :: l => (match o.op with
    | .slice t (.tmp k) _ _ _ => (match T t, rootOf all sl k, o.dst with
      | some i, .ptr r _, some d => (match i.kind with | .array _ _ => if copied d all then sliced T all sl l else r :: sliced T all sl l | _ => sliced T all sl l)
      | _, _, _ => sliced T all sl l)
    | _ => sliced T all sl l)
noncomputable def fpAll (T : Nat → Option TI) : List Nat → St → St
  | [], s => s
  | r :: l, s => fpAll T l (fpS T r s)
theorem fpAll_sub : ∀ (l : List Nat) (s : St), Sub T s (fpAll T l s)
  | [], s => .refl s
  | r :: l, s => (fpS_sub r s).trans (fpAll_sub l _)

/-- The variables that a region's closures capture. -/
def capIds1 (sl : List SV) : List Operand → List Nat
  | [] => []
  | .tmp k :: l => (match getN .any sl k with | .ptr r _ => r :: capIds1 sl l | _ => capIds1 sl l)
  | _ :: l => capIds1 sl l
def capIds (sl : List SV) : List Oper → List Nat
  | [] => []
  | o :: l => (match o.op with | .makeFunc _ _ caps => capIds1 sl caps.toList ++ capIds sl l | _ => capIds sl l)
def hasMk : List Oper → Bool
  | [] => false
  | o :: l => (match o.op with | .makeFunc _ _ caps => !caps.toList.isEmpty | _ => false) || hasMk l
def ptrIds (m : Mem) : List Nat → List Nat
  | [] => []
  | r :: l => (match getM m r with | .chunk _ (.ptr _ _) => r :: ptrIds m l | _ => ptrIds m l)
/-- Captured variables that nobody writes any more: all of them, or those that hold pointers. -/
noncomputable def prepA (T : Nat → Option TI) (ops : List Oper) (s : St) : St := fpAll T (capIds s.slots ops) s
noncomputable def prepB (T : Nat → Option TI) (ops : List Oper) (s : St) : St := fpAll T (ptrIds s.mem (capIds s.slots ops)) s
theorem prepA_sub (ops : List Oper) (s : St) : Sub T s (prepA T ops s) := fpAll_sub _ _
theorem prepB_sub (ops : List Oper) (s : St) : Sub T s (prepB T ops s) := fpAll_sub _ _

/-! ### The contents of lent variables, viewed -/
theorem MRep.weakC1 {N : Nat → Prop} {w0 w : World} {X : Nat → Prop} {mem : Mem} {ρ : Env} (m : MRep T N w0 w X mem ρ) {k t : Nat} {x y : SV} (hk : getM mem k = .chunk t x) (hw : ∀ u, Den w (Forb X mem ρ) ρ x u → Den w (Forb X mem ρ) ρ y u) :
    MRep T N w0 w X (setM (.chunk t y) mem k) ρ ∧ Forb X (setM (.chunk t y) mem k) ρ = Forb X mem ρ := by
  have ho : ∀ r, (getM (setM (.chunk t y) mem k) r).own = (getM mem r).own := fun r => by
    rw [getM_setM]
    by_cases h : r = k
    · subst h; rw [if_pos rfl, hk]; rfl
    · rw [if_neg h]
  have hF : Forb X (setM (.chunk t y) mem k) ρ = Forb X mem ρ := by
    funext b
    simp only [Forb, owned, ho]
  refine ⟨⟨m.low, m.below, m.szN, fun r => ?_, fun r r' v v' b g1 g2 => ?_, ?_⟩, hF⟩
  · rw [hF, getM_setM]
    by_cases h : r = k
    · subst h
      rw [if_pos rfl]
      have hb := m.blk r
      rw [hk] at hb
      obtain ⟨i, b, us, ty, h1, h2, h3, h4, h5, h6, h7⟩ := hb
      exact ⟨i, b, us, ty, h1, h2, h3, h4, h5, h6, hw _ h7⟩
    · rw [if_neg h]; exact m.blk r
  · rw [ho] at g1 g2
    exact m.inj r r' v v' b g1 g2
  · rw [hF]; exact m.gl
noncomputable def frzC (T : Nat → Option TI) (q : Nat) (s : St) : St :=
  match getM s.mem q with
  | .chunk t x => if dataB x then s else (match view T (getM s.mem) t x with
    | some y => ⟨s.slots, setM (.chunk t y) (appU (frzU (getM s.mem) (rids x)) s.mem) q⟩
    | none => s)
  | _ => s
theorem frzC_sub (q : Nat) (s : St) : Sub T s (frzC T q s) := ⟨fun N w0 X z a w ρ hr => by
  unfold frzC
  split
  case h_2 => exact ⟨ρ, hr⟩
  rename_i t x hm
  split
  · exact ⟨ρ, hr⟩
  split
  case h_2 => exact ⟨ρ, hr⟩
  rename_i y hv
  have fz := freeze_ids (T := T) (sees_all s.mem) hr.m (rids x)
  generalize hM : appU (frzU (getM s.mem) (rids x)) s.mem = mem1 at fz
  have hq : getM mem1 q = .chunk t x := by
    rcases fz.old q with g | ⟨_, sh, e, k, g, _⟩
    · rw [g]; exact hm
    · rw [hm] at g; cases g
  have hb0 := hr.m.blk q
  rw [hm] at hb0
  obtain ⟨m', hF⟩ := fz.m.weakC1 (y := y) hq fun u hu => by
    obtain ⟨v1, v2⟩ := view_same (T := T) (μ' := getM mem1) (fun k hk => fz.at' k hk) hv
    exact (view_den (sees_all mem1) fz.m (Z := Forb X mem1 ρ) (fun b _ h => h) (fun h => by rw [v2] at h; cases h) v1 hu).data (view_data hv)
  refine ⟨ρ, ⟨m', by rw [hF]; exact hr.defers.turn fz.t, hr.size, fun k => by rw [hF]; exact fz.t.den (fun _ h => by cases h) (hr.slot k), fun v hz hn => ?_, hr.fix, hr.len, hr.nod⟩⟩
  refine hr.anch v hz fun h0 => hn ?_
  simp only
  rw [getM_setM]
  split
  · rename_i h; subst h; rw [hm] at h0; cases h0
  · exact fz.no (sees_all _) h0⟩
def capPtr : List SV → List Nat
  | [] => []
  | .ptr q _ :: l => q :: capPtr l
  | _ :: l => capPtr l
/-- What the closures capture that a region calls. -/
def fclIds (sl : List SV) : List Oper → List Nat
  | [] => []
  | o :: l => (match o.op with
    | .move (.tmp k) => (match getN .any sl k with | .fcl _ caps => capPtr caps ++ fclIds sl l | _ => fclIds sl l)
    | _ => fclIds sl l)
/-- What the called functions of a region are given as arguments. -/
def argTmps : List Oper → List Nat
  | [] => []
  | o :: l => (match o.op with
    | .call c => (match c.callee with
      | .value (.func _) => c.args.toList.filterMap fun a => match a with | .tmp k => some k | _ => none
      | _ => [])
    | _ => []) ++ argTmps l
/-- The variables that a region lends to the functions it calls. -/
def lendIds (sl : List SV) (az : List Nat) : List Oper → List Nat
  | [] => []
  | o :: l => (match o.op with
    | .move (.tmp k) => (match getN .any sl k with | .ptr q _ => if (match o.dst with | some d => az.contains d | none => false) then q :: lendIds sl az l else lendIds sl az l | _ => lendIds sl az l)
    | .call c => (match c.callee with
      | .value (.func _) => capPtr (c.args.toList.map fun a => match a with | .tmp k => getN .any sl k | _ => .any) ++ lendIds sl az l
      | _ => lendIds sl az l)
    | _ => lendIds sl az l)
noncomputable def frzCs (T : Nat → Option TI) : List Nat → St → St
  | [], s => s
  | q :: l, s => frzCs T l (frzC T q s)
theorem frzCs_sub : ∀ (l : List Nat) (s : St), Sub T s (frzCs T l s)
  | [], s => .refl s
  | q :: l, s => (frzC_sub q s).trans (frzCs_sub l _)

/-- The state a region begins with. -/
noncomputable def prepO (T : Nat → Option TI) (ops : List Oper) (s : St) : St := (fun s => frzCs T (fclIds s.slots ops ++ lendIds s.slots (argTmps ops) ops) s) <| (fun s => fpAll T (sliced T ops s.slots ops) s) (prep (makes ops) (if hasVCall ops && !(hasSt ops) then unAll (rowxIds s.mem) s else s))
theorem prepO_sub (ops : List Oper) (s : St) : Sub T s (prepO T ops s) := by
  unfold prepO
  refine Sub.trans ?_ (frzCs_sub _ _)
  refine Sub.trans ?_ (fpAll_sub _ _)
  split
  · exact (unAll_sub _ s).trans (prep_sub _ _)
  · exact prep_sub _ s

/-! ### A whole row taken for a part of itself -/
noncomputable def asRsl (t : Nat) (s : St) : St :=
  match getN .any s.slots t with
  | .row p => (match getM s.mem p with
    | .row sh _ l => if Nat.blt t s.slots.length then ⟨setN (.rsl p sh 0 (O.ln l) none) s.slots t, s.mem⟩ else s
    | _ => s)
  | _ => s
theorem asRsl_sub (t : Nat) (s : St) : Sub T s (asRsl t s) := ⟨fun N w0 X z a w ρ hr => by
  unfold asRsl
  split
  case h_2 => exact ⟨ρ, hr⟩
  rename_i p ht
  split
  case h_2 => exact ⟨ρ, hr⟩
  rename_i sh e l hm
  split
  case isFalse => exact ⟨ρ, hr⟩
  rename_i hc
  rw [Nat.blt_eq] at hc
  refine ⟨ρ, ⟨hr.m, hr.defers, by rw [hr.size]; simp [setN_length], fun k => ?_, hr.anch, hr.fix, hr.len, hr.nod⟩⟩
  simp only
  rw [getN_setN _ _ _ _ _ hc]
  by_cases hk : k = t
  · subst hk
    rw [if_pos rfl]
    have hd := hr.slot k
    rw [ht] at hd
    have hb := hr.m.blk p
    rw [hm] at hb
    obtain ⟨v0, h1, h2⟩ := hb
    generalize a.tmps.getD k undef = v at hd
    cases hd with
    | row _ _ a' n' c' hrow =>
      have e1 := hrow _ h1
      rw [O.hln]
      rcases h2 with ⟨x, rfl, rfl⟩ | ⟨b, off, cap, cur, rfl, _, _, h5, _⟩
      · simp only [Value.slice.injEq] at e1
        obtain ⟨rfl, rfl, rfl⟩ := e1
        refine .rsl _ p sh 0 0 none _ 0 (Nat.le_refl _) fun q hq => .inl ⟨_, _, _, (by rw [h1] at hq; injection hq with hq; exact hq.symm), by omega, by omega, fun _ => rfl, (fun m hm => by cases hm), .inl rfl⟩
      · simp only [Value.slice.injEq] at e1
        obtain ⟨rfl, rfl, rfl⟩ := e1
        refine .rsl _ p sh 0 _ none _ _ h5 fun q hq => .inl ⟨_, _, _, (by rw [h1] at hq; injection hq with hq; exact hq.symm), by omega, by omega, fun _ => rfl, (fun m hm => by cases hm), .inr ⟨b, off, rfl, by simp⟩⟩
  · rw [if_neg hk]
    exact hr.slot k⟩

/-! ### What is known made less -/
theorem MRep.drop {N : Nat → Prop} {w0 w : World} {X : Nat → Prop} {mem mem' : Mem} {ρ : Env} (m : MRep T N w0 w X mem ρ) (h : ∀ r, getM mem' r = .no ∨ getM mem' r = getM mem r) :
    let ρ' : Env := fun r => match getM mem' r with | .no => none | _ => ρ r
    MRep T N w0 w X mem' ρ' ∧ (∀ r, ρ' r = none ∨ ρ' r = ρ r) ∧ ∀ b, Forb X mem' ρ' b → Forb X mem ρ b := by
  intro ρ'
  have env : ∀ r, ρ' r = none ∨ ρ' r = ρ r := by
    intro r
    simp only [ρ']
    cases getM mem' r <;> first | exact .inl rfl | exact .inr rfl
  have hown : ∀ b, owned mem' ρ' b → owned mem ρ b := by
    rintro b ⟨r, v, g1, g2, g3⟩
    rcases h r with e | e
    · rw [e] at g1; cases g1
    · refine ⟨r, v, by rw [← e]; exact g1, ?_, g3⟩
      rcases env r with e' | e'
      · rw [e'] at g2; cases g2
      · rw [e'] at g2; exact g2
  refine ⟨⟨m.low, m.below, m.szN, fun r => ?_, fun r r' v v' b g1 g2 g3 g4 g5 g6 => ?_, gl_mono m.gl (Nat.le_refl _) fun b _ hn => ⟨fun hf => hn (hf.imp id (hown b)), rfl⟩⟩, env, fun b hb => hb.imp id (hown b)⟩
  · rcases h r with e | e
    · rw [e]
      show ρ' r = none
      simp only [ρ', e]
    · have hb := m.blk r
      cases hB : getM mem' r with
      | no => show ρ' r = none; simp only [ρ', hB]
      | _ =>
        have e2 : ρ' r = ρ r := by simp only [ρ', hB]
        rw [← e, hB] at hb
        rw [e2]
        exact BlkRep.lift (w := w) (Y := Forb X mem ρ) (ρ := ρ) (d := none) ⟨fun q => (env q).imp id .inl, Nat.le_refl _, fun b _ hf => ⟨fun hf' => hf (hf'.imp id (hown b)), rfl⟩⟩ (fun _ h => by cases h) (fun _ _ _ _ _ => rfl) hb
  · have k1 : getM mem' r = getM mem r := (h r).resolve_left (fun e => by rw [e] at g1; cases g1)
    have k2 : getM mem' r' = getM mem r' := (h r').resolve_left (fun e => by rw [e] at g2; cases g2)
    have k3 : ρ' r = ρ r := (env r).resolve_left (fun e => by rw [e] at g3; cases g3)
    have k4 : ρ' r' = ρ r' := (env r').resolve_left (fun e => by rw [e] at g4; cases g4)
    rw [k1] at g1
    rw [k2] at g2
    rw [k3] at g3
    rw [k4] at g4
    exact m.inj r r' v v' b g1 g2 g3 g4 g5 g6

def WeakS : List SV → List SV → Prop
  | [], [] => True
  | _ :: xs, .any :: ys => WeakS xs ys
  | x :: xs, y :: ys => x = y ∧ WeakS xs ys
  | _, _ => False
def WeakM (m : Mem) : Mem → Prop
  | [] => True
  | (_, .no) :: l => WeakM m l
  | (k, b) :: l => getM m k = b ∧ WeakM m l
def WeakSt (s s' : St) : Prop := WeakS s.slots s'.slots ∧ WeakM s.mem s'.mem

theorem WeakS.get : ∀ {l l' : List SV}, WeakS l l' → l.length = l'.length ∧ ∀ t, getN SV.any l' t = .any ∨ getN SV.any l' t = getN SV.any l t
  | [], [], _ => ⟨rfl, fun t => .inl rfl⟩
  | [], y :: ys, h => by cases y <;> simp [WeakS] at h
  | x :: xs, [], h => by simp [WeakS] at h
  | x :: xs, y :: ys, h => by
    have : (y = .any ∨ y = x) ∧ WeakS xs ys := by
      cases y <;> first | exact ⟨.inl rfl, h⟩ | exact ⟨.inr h.1.symm, h.2⟩
    obtain ⟨h1, h2⟩ := this
    obtain ⟨h3, h4⟩ := WeakS.get h2
    refine ⟨by simp [h3], fun t => ?_⟩
    cases t with
    | zero => simpa [getN] using h1
    | succ t => simpa [getN] using h4 t
theorem WeakM.get {m : Mem} : ∀ {l : Mem}, WeakM m l → ∀ r, getM l r = .no ∨ getM l r = getM m r
  | [], _, r => .inl rfl
  | (k, b) :: l, h, r => by
    have : (b = .no ∨ getM m k = b) ∧ WeakM m l := by
      cases b <;> first | exact ⟨.inl rfl, h⟩ | exact ⟨.inr h.1, h.2⟩
    simp only [getM, nbeq]
    by_cases hk : k = r
    · subst hk
      rw [if_pos rfl]
      exact this.1.imp id Eq.symm
    · rw [if_neg hk]
      exact WeakM.get this.2 r
theorem weak_sub {s s' : St} (h : WeakSt s s') : Sub T s s' := ⟨fun N w0 X z a w ρ hr => by
  obtain ⟨h1, h2⟩ := WeakS.get h.1
  obtain ⟨m', env, hf⟩ := hr.m.drop (WeakM.get h.2)
  refine ⟨_, ⟨m', hr.defers.sub hf, by rw [hr.size, h1], fun t => ?_, anch_turn hr.m m' hr.anch (env 0), hr.fix, hr.len, hr.nod⟩⟩
  rcases h2 t with e | e
  · rw [e]; exact .any _ _
  · rw [e]; exact ((hr.slot t).mono (Nat.le_refl _) (fun b _ hb => ⟨fun hf' => hb (hf b hf'), rfl⟩)).env fun r => (env r).imp id .inl⟩

/-- A nil slice taken for an empty row. -/
def adopt (t q : Nat) (sh : Option Nat) (e : Nat) (s : St) : St :=
  match getN .any s.slots t with
  | .nil => if !(Nat.beq q 0) && isNo (getM s.mem q) && noref.norefs q s.slots && memNoref q s.mem && Nat.blt t s.slots.length then ⟨setN (.row q) s.slots t, setM (.row sh e []) s.mem q⟩ else s
  | _ => s
theorem adopt_sub (t q : Nat) (sh : Option Nat) (e : Nat) (s : St) : Sub T s (adopt t q sh e s) := ⟨fun N w0 X z a w ρ hr => by
  unfold adopt
  split
  case h_2 => exact ⟨ρ, hr⟩
  rename_i ht
  split
  case isFalse => exact ⟨ρ, hr⟩
  rename_i hc
  simp only [Bool.and_eq_true, Nat.blt_eq] at hc
  obtain ⟨⟨⟨⟨c0, c1⟩, c2⟩, c3⟩, c4⟩ := hc
  have hno : getM s.mem q = .no := by cases h : getM s.mem q <;> simp_all [isNo]
  obtain ⟨m', t'⟩ := hr.m.create (w' := w) hno c3 (B := .row sh e []) (v := .slice none 0 0) (fun b hb => by simp [vblock] at hb) (Below.refl _ _) (fun _ => ⟨_, rfl, .inl ⟨none, rfl, rfl⟩⟩)
  refine ⟨_, ⟨m', hr.defers.turn t', by rw [hr.size]; simp [setN_length], fun k => ?_, anch_turn hr.m m' hr.anch (t'.env0 (fun e => by injection e with e; subst e; simp at c0)), hr.fix, hr.len, hr.nod⟩⟩
  simp only
  rw [getN_setN _ _ _ _ _ c4]
  by_cases hk : k = t
  · subst hk
    rw [if_pos rfl]
    have := hr.slot k
    rw [ht] at this
    generalize a.tmps.getD k undef = v at this
    cases this
    exact .row _ q _ _ _ fun x hx => by simp only [upd, if_true] at hx; injection hx with hx; exact hx.symm
  · rw [if_neg hk]
    exact t'.den (fun r hr => by injection hr with hr; subst hr; exact norefs_getN c2 k) (hr.slot k)⟩
end Go.Proofs.YtligbjbkecmecaaDoor
