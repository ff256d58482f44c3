/- How any datum of whole numbers, bools, strings, slices, structs and arrays comes in. -/
import Derived.Test.YtligbjbkecmecaaDoorOpn
import Derived.Test.YtligbjbkecmecaaDoorOM
namespace Go.Proofs.YtligbjbkecmecaaDoor
set_option linter.unusedVariables false
set_option linter.unusedSimpArgs false
open Go.ChangeShapes Go.WideShapes Go.ChangeAt Go.RowKit Go.WideElems Go.Deep
def wrapC : Option Nat → List SV → SV
  | none, ys => ys.headD .any
  | some _, ys => .agg ys
/-- The cells xs are of type t. -/
def wfC (T : Nat → Option TI) : Nat → Nat → List SV → Prop
  | 0, _, _ => False
  | m + 1, t, xs => match T t with
    | none => False
    | some i => match i.kind with
      | .bool => ∃ b, xs = [.bool b]
      | .int k => ∃ n, xs = [.int k n] ∧ (Lit.int k n).wf = true
      | .string => ∃ s, xs = [.str s] ∧ s.size ≤ maxLen
      | .slice e => (match T e with
        | some j => ∃ l c, xs = [.lst j.shape l] ∧ l.length ≤ c ∧ c ≤ maxLen ∧ c * j.bytes ≤ 140737488351232 ∧ ∀ x ∈ l, ∃ ys, wfC T m e ys ∧ x = wrapC j.shape ys
        | none => False)
      | .struct fs => xs.length = i.size ∧ ∀ q ∈ fs, ∀ j, T q.2 = some j → wfC T m q.2 ((xs.drop q.1).take j.size)
      | .array n e => xs.length = i.size ∧ ∀ k, k < n → ∀ j, T e = some j → wfC T m e ((xs.drop (k * j.size)).take j.size)
      | .other => False
def tiles (T : Nat → Option TI) (size : Nat) : Nat → List (Nat × Nat) → Bool
  | off, [] => Nat.beq off size
  | off, (o, t) :: fs => (match T t with | some j => Nat.beq o off && tiles T size (off + j.size) fs | none => false)
def okTy (T : Nat → Option TI) : Nat → Nat → Bool
  | 0, _ => false
  | m + 1, t => match T t with
    | none => false
    | some i => match i.kind with
      | .bool | .int _ | .string => true
      | .slice e => (match T e with | some j => !(Nat.beq j.size 0) | none => false) && okTy T m e
      | .struct fs => tiles T i.size 0 fs && fs.all fun q => okTy T m q.2
      | .array n e => (match T e with | some j => Nat.beq i.size (n * j.size) | none => false) && okTy T m e
      | .other => false
section
variable {H : Type} {enc : TypeId × Value → H} {P : Program} {T : Nat → Option TI} {w : World}
theorem cellsOf_T (tys : Types P T) {t : Nat} {i : TI} (h : T t = some i) : P.cellsOf t = i.size ∧ P.bytesOf t = i.bytes := by
  obtain ⟨j, h1, h2, h3⟩ := (tys.ok t i h).inf
  simp [Program.cellsOf, Program.bytesOf, h1, h2, h3]
theorem okTy_T {m t : Nat} (h : okTy T m t = true) : ∃ i m', m = m' + 1 ∧ T t = some i := by
  cases m with
  | zero => cases h
  | succ m =>
    unfold okTy at h
    cases ht : T t with
    | none => rw [ht] at h; cases h
    | some i => exact ⟨i, m, rfl, rfl⟩
theorem DenL.app {w : World} {X : Nat → Prop} {ρ : Env} {xs ys : List SV} {us vs : List Value} (h : DenL w X ρ xs us) (g : DenL w X ρ ys vs) : DenL w X ρ (xs ++ ys) (us ++ vs) := by
  refine ⟨by simp [h.1, g.1], fun i x u hx hu => ?_⟩
  by_cases hi : i < xs.length
  · rw [List.getElem?_append_left hi] at hx
    rw [List.getElem?_append_left (by rw [← h.1]; exact hi)] at hu
    exact h.2 i x u hx hu
  · rw [List.getElem?_append_right (by omega)] at hx
    rw [List.getElem?_append_right (by rw [← h.1]; omega), ← h.1] at hu
    exact g.2 _ x u hx hu

/-- The parts of a struct, joined. -/
theorem fields_join {X : Nat → Prop} {ρ : Env} {m : Nat} {cs : List Value} {size : Nat} (hcs : cs.length = size) : ∀ (fs : List (Nat × Nat)) (off : Nat), tiles T size off fs = true → off ≤ size →
    (∀ q ∈ fs, ∀ j, T q.2 = some j → ∃ xs, wfC T m q.2 xs ∧ DenL w X ρ xs ((cs.drop q.1).take j.size) ∧ xs.length = j.size) →
    ∃ ys, DenL w X ρ ys (cs.drop off) ∧ ys.length = size - off ∧ ∀ q ∈ fs, ∀ j, T q.2 = some j → off ≤ q.1 ∧ wfC T m q.2 ((ys.drop (q.1 - off)).take j.size)
  | [], off, ht, hof, _ => by
    simp only [tiles, nbeq] at ht
    refine ⟨[], ⟨by simp; omega, fun i x u h => by simp at h⟩, by simp; omega, fun q hq => by simp at hq⟩
  | (o, t) :: fs, off, ht, hof, hp => by
    simp only [tiles] at ht
    cases hj : T t with
    | none => rw [hj] at ht; cases ht
    | some j =>
      rw [hj] at ht
      simp only [Bool.and_eq_true, nbeq] at ht
      obtain ⟨rfl, ht⟩ := ht
      obtain ⟨xs, h1, h2, h3⟩ := hp (o, t) (by simp) j hj
      dsimp only at h1 h2
      have hfit : o + j.size ≤ size := by
        have := h2.1
        rw [h3, List.length_take, List.length_drop, hcs] at this
        omega
      obtain ⟨ys, g1, g2, g3⟩ := fields_join hcs fs (o + j.size) ht hfit (fun q hq => hp q (by simp [hq]))
      refine ⟨xs ++ ys, ?_, by simp [h3, g2]; omega, fun q hq j' hj' => ?_⟩
      · have := h2.app g1
        rw [show cs.drop o = (cs.drop o).take j.size ++ cs.drop (o + j.size) by rw [← List.drop_drop]; exact (List.take_append_drop _ _).symm]
        exact this
      · rcases List.mem_cons.1 hq with rfl | hq
        · rw [hj] at hj'
          injection hj' with hj'; subst hj'
          refine ⟨Nat.le_refl _, ?_⟩
          rw [Nat.sub_self, List.drop_zero, List.take_append_of_le_length (by omega), List.take_of_length_le (by omega)]
          exact h1
        · obtain ⟨k1, k2⟩ := g3 q hq j' hj'
          refine ⟨by omega, ?_⟩
          rw [List.drop_append, List.drop_eq_nil_of_le (show xs.length ≤ q.1 - o by omega), List.nil_append, h3, show q.1 - o - j.size = q.1 - (o + j.size) by omega]
          exact k2
/-- Parts of one size, joined. -/
theorem seg_join {X : Nat → Prop} {ρ : Env} {cs : List Value} {c : Nat} {q : List SV → Prop} : ∀ (n : Nat), cs.length = n * c → (∀ k, k < n → ∃ xs, q xs ∧ DenL w X ρ xs ((cs.drop (k * c)).take c) ∧ xs.length = c) →
    ∃ ys, DenL w X ρ ys cs ∧ ys.length = n * c ∧ ∀ k, k < n → q ((ys.drop (k * c)).take c)
  | 0, h, _ => ⟨[], ⟨by simp at h; simp [h], fun i x u h => by simp at h⟩, by simp, fun k hk => absurd hk (by omega)⟩
  | n + 1, h, hp => by
    have hm : (n + 1) * c = n * c + c := Nat.succ_mul n c
    obtain ⟨ys, g1, g2, g3⟩ := seg_join (cs := cs.take (n * c)) (c := c) (q := q) n (by simp; omega) (fun k hk => by
      obtain ⟨xs, h1, h2, h3⟩ := hp k (by omega)
      refine ⟨xs, h1, ?_, h3⟩
      have hle : k * c + c ≤ n * c := by rw [← Nat.succ_mul]; exact Nat.mul_le_mul_right _ hk
      have : ((cs.take (n * c)).drop (k * c)).take c = (cs.drop (k * c)).take c := by
        rw [List.drop_take, List.take_take, Nat.min_eq_left (by omega)]
      rw [this]; exact h2)
    obtain ⟨xs, h1, h2, h3⟩ := hp n (by omega)
    have e : (cs.drop (n * c)).take c = cs.drop (n * c) := List.take_of_length_le (by simp; omega)
    rw [e] at h2
    refine ⟨ys ++ xs, ?_, by simp [g2, h3]; omega, fun k hk => ?_⟩
    · have := g1.app h2
      rw [List.take_append_drop] at this
      exact this
    · by_cases hk' : k < n
      · have hle : k * c + c ≤ n * c := by rw [← Nat.succ_mul]; exact Nat.mul_le_mul_right _ hk'
        rw [List.drop_append_of_le_length (by omega), List.take_append_of_le_length (by simp; omega)]
        exact g3 k hk'
      · obtain rfl : k = n := by omega
        rw [List.drop_append, List.drop_eq_nil_of_le (by omega), List.nil_append, g2, Nat.sub_self, List.drop_zero, List.take_of_length_le (by omega)]
        exact h1
theorem weightsAll_mem {P : Program} {e : TypeId} : ∀ {ds : List (DataW H)} {d : DataW H}, d ∈ ds → ∀ n ∈ d.weights P e, n ∈ DataW.weightsAll P e ds
  | [], d, h, n, hn => by simp at h
  | x :: ds, d, h, n, hn => by
    simp only [DataW.weightsAll, List.mem_append]
    rcases List.mem_cons.1 h with rfl | h
    · exact .inl hn
    · exact .inr (weightsAll_mem h n hn)
theorem all_sub {a b : List Nat} {p : Nat → Bool} (h : a.all p = true) (hs : ∀ n ∈ b, n ∈ a) : b.all p = true := List.all_eq_true.2 fun n hn => List.all_eq_true.1 h n (hs n hn)
def OneC (cs : List Value) : Prop := ∀ u ∈ cs, u.oneCell' = true
theorem open_cells (tys : Types P T) (sz : Sizes T) : ∀ (n m t : Nat) (cs : List Value) (x : DataW H × List MemPlace) (i : TI), T t = some i → okTy T m t = true → DataW.trod enc P w 0 (fun _ => true) true n t cs = some x → (x.1.weights P t).all (· ≤ reachBytes) = true →
    ∃ xs, wfC T n t xs ∧ DenL w NoX noEnv xs cs ∧ xs.length = i.size ∧ OneC cs := by
  intro n
  induction n with
  | zero => intro m t cs x i _ _ h; simp [DataW.trod] at h
  | succ n ih =>
    intro m t cs x i ht hok h hw
    obtain ⟨i', m', rfl, ht'⟩ := okTy_T hok
    rw [ht] at ht'; injection ht' with ht'; subst ht'
    have tok := tys.ok t i ht
    have hok' := hok
    unfold okTy at hok'
    simp only [ht] at hok'
    have one : ∀ {sv : SV} {v : Value}, Den w NoX noEnv sv v → DenL w NoX noEnv [sv] [v] := fun h => denl_cons h denl_nil
    cases hk : i.kind with
    | bool =>
      have hs : i.size = 1 := sz.one t i ht (by rw [hk]; rfl)
      obtain ⟨b, rfl, _⟩ := DataW.trod_bool (tok.und_bool hk) h
      exact ⟨[.bool b], by simp only [wfC, ht, hk]; exact ⟨b, rfl⟩, one (.bool _ _), by simp [hs], fun u hu => by simp at hu; subst hu; rfl⟩
    | int k =>
      have hs : i.size = 1 := sz.one t i ht (by rw [hk]; rfl)
      obtain ⟨b, rfl, _, hb⟩ := DataW.trod_int (tok.und_int hk) h
      exact ⟨[.int k b], by simp only [wfC, ht, hk]; exact ⟨b, rfl, hb⟩, one (.int _ _ _), by simp [hs], fun u hu => by simp at hu; subst hu; rfl⟩
    | string =>
      have hs : i.size = 1 := sz.one t i ht (by rw [hk]; rfl)
      obtain ⟨b, rfl, _, hb⟩ := DataW.trod_string (tok.und_string hk) h
      exact ⟨[.str b], by simp only [wfC, ht, hk]; exact ⟨b, rfl, hb⟩, one (.str _ _), by simp [hs], fun u hu => by simp at hu; subst hu; rfl⟩
    | other => simp [hk] at hok'
    | slice e =>
      simp only [hk, Bool.and_eq_true] at hok'
      have hs : i.size = 1 := sz.one t i ht (by rw [hk]; rfl)
      have hok2 := hok'.1
      replace hok' := hok'.2
      obtain ⟨j, _, _, hj⟩ := okTy_T hok'
      have tokE := tys.ok e j hj
      have hu := tok.und_slice hk
      obtain ⟨hc, hbt⟩ := cellsOf_T tys hj
      rcases DataW.trod_slice hu h with ⟨rfl, _⟩ | ⟨a, len, cap, elems, rest, n', hn, rfl, rfl, _, hlc, hcm, hel, hE, hR, _⟩
      · refine ⟨[.lst j.shape []], ?_, one (.lst0 _ _ _ _), by simp [hs], fun u hu => by simp at hu; subst hu; rfl⟩
        simp only [wfC, ht, hk, hj]
        exact ⟨[], 0, rfl, by simp, by simp [maxLen], by omega, fun x hx => by simp at hx⟩
      · obtain rfl : n = n' := by omega
        simp only [DataW.weights, hu] at hw
        have hcap : cap * j.bytes ≤ 140737488351232 := by
          have := List.all_eq_true.1 hw _ (List.mem_cons_self ..)
          simp only [List.length_map, hel, (hR rfl).1, decide_eq_true_eq, hbt] at this
          rw [Nat.add_sub_cancel' hlc] at this
          simpa [reachBytes] using this
        have hall : ∀ k, k < len → ∃ cs', w.cells? 0 (a.add (k * j.size)) j.size = some cs' ∧ ∃ ys, wfC T n e ys ∧ DenL w NoX noEnv ys cs' ∧ ys.length = j.size ∧ OneC cs' := fun k hk => by
          have := hE k hk
          rw [hc, List.getElem?_eq_getElem (by omega)] at this
          simp only [Option.bind_eq_some_iff] at this
          obtain ⟨cs', h1, h2⟩ := this
          refine ⟨cs', h1, ih m' e cs' _ j hj hok' h2 (all_sub hw fun q hq => ?_)⟩
          refine List.mem_cons_of_mem _ (List.mem_append_left _ (weightsAll_mem (d := elems[k].1) (List.mem_map.2 ⟨elems[k], List.getElem_mem _, rfl⟩) q hq))
        by_cases h0 : len = 0
        · subst h0
          refine ⟨[.lst j.shape []], ?_, one (.lst0 _ _ _ _), by simp [hs], fun u hu => by simp at hu; subst hu; rfl⟩
          simp only [wfC, ht, hk, hj]
          exact ⟨[], cap, rfl, by simp, hcm, hcap, fun x hx => by simp at hx⟩
        · have hw1 := TI.wid_size (sz.one e j hj)
          have hsz0 : 0 < j.size := by
            rw [hj] at hok2
            simp at hok2
            have : j.size ≠ 0 := fun h => by rw [h] at hok2; cases hok2
            omega
          -- the cells of all elements
          have hcells : ∃ us : List Value, us.length = len * j.size ∧ OneC us ∧ (∀ q u, us[q]? = some u → w.cell? (a.add q) = some u) ∧ ∀ k, k < len → ∃ ys, wfC T n e ys ∧ DenL w NoX noEnv ys ((us.drop (k * j.size)).take j.size) ∧ ys.length = j.size := by
            have step : ∀ len', len' ≤ len → ∃ us : List Value, us.length = len' * j.size ∧ OneC us ∧ (∀ q u, us[q]? = some u → w.cell? (a.add q) = some u) ∧ ∀ k, k < len' → ∃ ys, wfC T n e ys ∧ DenL w NoX noEnv ys ((us.drop (k * j.size)).take j.size) ∧ ys.length = j.size := by
              intro len' hle
              induction len' with
              | zero => exact ⟨[], by simp, fun u hu => by simp at hu, fun q u hq => by simp at hq, fun k hk => absurd hk (by omega)⟩
              | succ l ihl =>
                obtain ⟨us, u1, u2, u3, u4⟩ := ihl (by omega)
                obtain ⟨cs', c1, ys, y1, y2, y3, y4⟩ := hall l (by omega)
                obtain ⟨_, c2, c3⟩ := World.cells?_some c1
                have hsm : (l + 1) * j.size = l * j.size + j.size := Nat.succ_mul _ _
                refine ⟨us ++ cs', by simp [u1, c2]; omega, fun u hu => by rcases List.mem_append.1 hu with g | g; exact u2 u g; exact y4 u g, fun q u hq => ?_, fun k hk => ?_⟩
                · by_cases hq' : q < us.length
                  · rw [List.getElem?_append_left hq'] at hq
                    exact u3 q u hq
                  · rw [List.getElem?_append_right (by omega)] at hq
                    have hlt : q - us.length < j.size := by
                      obtain ⟨g, _⟩ := List.getElem?_eq_some_iff.1 hq
                      omega
                    have := c3 (q - us.length) hlt
                    rw [hq, Addr.add_add, u1, show l * j.size + (q - l * j.size) = q by omega] at this
                    exact this
                · by_cases hk' : k < l
                  · obtain ⟨zs, z1, z2, z3⟩ := u4 k hk'
                    have hle2 : k * j.size + j.size ≤ l * j.size := by rw [← Nat.succ_mul]; exact Nat.mul_le_mul_right _ hk'
                    exact ⟨zs, z1, by rw [List.drop_append_of_le_length (by omega), List.take_append_of_le_length (by simp; omega)]; exact z2, z3⟩
                  · obtain rfl : k = l := by omega
                    refine ⟨ys, y1, ?_, y3⟩
                    rw [List.drop_append, List.drop_eq_nil_of_le (by omega), List.nil_append, u1, Nat.sub_self, List.drop_zero, List.take_of_length_le (by omega)]
                    exact y2
            exact step len (Nat.le_refl _)
          obtain ⟨us, u1, u2, u3, u4⟩ := hcells
          have hf : ∃ f : Nat → List SV, ∀ k, k < len → wfC T n e (f k) ∧ DenL w NoX noEnv (f k) ((us.drop (k * j.size)).take j.size) ∧ (f k).length = j.size :=
            ⟨fun k => if h : k < len then Classical.choose (u4 k h) else [], fun k h => by dsimp only; rw [dif_pos h]; exact Classical.choose_spec (u4 k h)⟩
          obtain ⟨f, hf⟩ := hf
          have hlen : us.length ≠ 0 := by
            rw [u1]
            have : 1 * j.size ≤ len * j.size := Nat.mul_le_mul_right _ (by omega)
            omega
          have hc0 := u3 0 _ (List.getElem?_eq_getElem (by omega))
          rw [Addr.add_zero'] at hc0
          have hsp := World.cell?_spot hc0
          have hblt := block_lt hc0
          obtain ⟨b, off, spot⟩ := a
          simp only at hsp
          subst hsp
          have hll : ((List.range len).map fun k => wrapC j.shape (f k)).length = len := by simp
          refine ⟨[.lst j.shape ((List.range len).map fun k => wrapC j.shape (f k))], ?_, one ?_, by simp [hs], fun u hu => by simp at hu; subst hu; rfl⟩
          · simp only [wfC, ht, hk, hj]
            refine ⟨_, cap, rfl, by rw [hll]; exact hlc, hcm, hcap, fun x hx => ?_⟩
            obtain ⟨k, hk, rfl⟩ := List.mem_map.1 hx
            exact ⟨f k, (hf k (by simpa using hk)).1, rfl⟩
          · have key : Den w NoX noEnv (.lst j.shape ((List.range len).map fun k => wrapC j.shape (f k))) (.slice (some ⟨b, off, none⟩) ((List.range len).map fun k => wrapC j.shape (f k)).length cap) := by
              refine .lst _ _ _ b off cap us hblt (fun h => h) (by rw [hll]; exact hlc) (fun q u hq => by have := u3 q u hq; rwa [Addr.add_lit] at this) (by rw [hll, u1, hw1]) u2 (fun k hk => ?_)
              rw [hll] at hk
              obtain ⟨f1, f2, f3⟩ := hf k hk
              simp only [List.getElem_map, List.getElem_range]
              have hle2 : k * j.size + j.size ≤ len * j.size := by rw [← Nat.succ_mul]; exact Nat.mul_le_mul_right _ hk
              rw [valAt_seg j.shape us k (by rw [← hw1]; omega), ← hw1]
              cases hsh : j.shape with
              | none =>
                rw [hsh] at hw1
                simp only [wid] at hw1
                obtain ⟨y, hy⟩ := List.length_eq_one_iff.1 (f3.trans hw1)
                rw [hy] at f2 ⊢
                have hl1 : ((us.drop (k * j.size)).take j.size).length = 1 := by rw [← f2.1]; rfl
                obtain ⟨u, hu⟩ := List.length_eq_one_iff.1 hl1
                rw [hu] at f2 ⊢
                exact f2.2 0 y u rfl rfl
              | some q =>
                rw [hsh] at hw1
                simp only [wid] at hw1
                exact f2.val q (f3.trans hw1)
            rw [hll] at key
            exact key
    | struct fs =>
      simp only [hk, Bool.and_eq_true] at hok'
      obtain ⟨gs, hg, hgs⟩ := tok.und_struct hk
      obtain ⟨xs, n', hn, hx, hcl, hxl, hX⟩ := DataW.trod_struct hg h
      obtain rfl : n = n' := by omega
      rw [(cellsOf_T tys ht).1] at hcl
      subst hx
      simp only [DataW.weights, hg] at hw
      have hparts : ∀ q ∈ fs, ∀ j, T q.2 = some j → ∃ ys, wfC T n q.2 ys ∧ DenL w NoX noEnv ys ((cs.drop q.1).take j.size) ∧ ys.length = j.size ∧ OneC ((cs.drop q.1).take j.size) := fun q hq j hj => by
        subst hgs
        obtain ⟨fd, hfd, rfl⟩ := List.mem_map.1 hq
        obtain ⟨k, hk, rfl⟩ := List.mem_iff_getElem.1 hfd
        have hk' : k < gs.size := by simpa using hk
        simp only [Array.getElem_toList] at hj hq ⊢
        have := hX k gs[k] (by simp [hk'])
        rw [(cellsOf_T tys hj).1, List.getElem?_eq_getElem (by omega)] at this
        have hty : okTy T m' gs[k].type = true := by
          have := List.all_eq_true.1 hok'.2 _ hq
          simpa using this
        have := ih m' gs[k].type _ xs[k] j hj hty this (all_sub hw fun a ha => DataW.weights_mem_each (j := k) (by simp [hk']) (by simp [show k < xs.length by omega]) a ha)
        simpa using this
      obtain ⟨ys, g1, g2, g3⟩ := fields_join (T := T) (w := w) (X := NoX) (ρ := noEnv) (m := n) hcl fs 0 hok'.1 (Nat.zero_le _) (fun q hq j hj => by
        obtain ⟨ys, y1, y2, y3, _⟩ := hparts q hq j hj
        exact ⟨ys, y1, y2, y3⟩)
      refine ⟨ys, ?_, by simpa using g1, by simpa using g2, ?_⟩
      · simp only [wfC, ht, hk]
        exact ⟨by simpa using g2, fun q hq j hj => by simpa using (g3 q hq j hj).2⟩
      · have cover : ∀ (fs : List (Nat × Nat)) (off : Nat), tiles T i.size off fs = true → (∀ q ∈ fs, ∀ j, T q.2 = some j → OneC ((cs.drop q.1).take j.size)) → OneC (cs.drop off) := by
          intro fs
          induction fs with
          | nil => intro off ht _ u hu; simp only [tiles, nbeq] at ht; rw [List.drop_eq_nil_of_le (by omega)] at hu; simp at hu
          | cons q fs ihf =>
            obtain ⟨o, t'⟩ := q
            intro off ht hp u hu
            simp only [tiles] at ht
            cases hj : T t' with
            | none => rw [hj] at ht; cases ht
            | some j =>
              rw [hj] at ht
              simp only [Bool.and_eq_true, nbeq] at ht
              obtain ⟨rfl, ht⟩ := ht
              rw [← List.take_append_drop j.size (cs.drop o), List.drop_drop] at hu
              rcases List.mem_append.1 hu with g | g
              · exact hp (o, t') (by simp) j hj u g
              · exact ihf (o + j.size) ht (fun q hq => hp q (by simp [hq])) u g
        have := cover fs 0 hok'.1 (fun q hq j hj => by obtain ⟨_, _, _, _, y4⟩ := hparts q hq j hj; exact y4)
        simpa using this
    | array n' e =>
      simp only [hk, Bool.and_eq_true] at hok'
      obtain ⟨h1, hok'⟩ := hok'
      obtain ⟨j, _, _, hj⟩ := okTy_T hok'
      rw [hj] at h1
      simp only [nbeq] at h1
      have hu := tok.und_array hk
      obtain ⟨xs, n1, hn, hx, hcl, hxl, hX⟩ := DataW.trod_array hu h
      obtain rfl : n = n1 := by omega
      rw [(cellsOf_T tys ht).1] at hcl
      subst hx
      simp only [DataW.weights, hu] at hw
      have hparts : ∀ k, k < n' → ∃ ys, wfC T n e ys ∧ DenL w NoX noEnv ys ((cs.drop (k * j.size)).take j.size) ∧ ys.length = j.size ∧ OneC ((cs.drop (k * j.size)).take j.size) := fun k hk => by
        have := hX k hk
        rw [(cellsOf_T tys hj).1, List.getElem?_eq_getElem (by omega)] at this
        exact ih m' e _ xs[k] j hj hok' this (all_sub hw fun a ha => weightsAll_mem (d := xs[k].1) (List.mem_map.2 ⟨xs[k], List.getElem_mem _, rfl⟩) a ha)
      obtain ⟨ys, g1, g2, g3⟩ := seg_join (w := w) (X := NoX) (ρ := noEnv) (cs := cs) (c := j.size) (q := wfC T n e) n' (by omega) (fun k hk => by
        obtain ⟨ys, y1, y2, y3, _⟩ := hparts k hk
        exact ⟨ys, y1, y2, y3⟩)
      refine ⟨ys, ?_, g1, by omega, fun u hu => ?_⟩
      · simp only [wfC, ht, hk]
        exact ⟨by omega, fun k hk j' hj' => by rw [hj] at hj'; injection hj' with hj'; subst hj'; exact g3 k hk⟩
      · obtain ⟨q, hq, rfl⟩ := List.mem_iff_getElem.1 hu
        have hpos : 0 < j.size := by
          rcases Nat.eq_zero_or_pos j.size with e0 | e0
          · rw [e0, Nat.mul_zero] at h1; omega
          · exact e0
        have hk : q / j.size < n' := by rw [Nat.div_lt_iff_lt_mul hpos]; omega
        obtain ⟨_, _, _, _, y4⟩ := hparts (q / j.size) hk
        refine y4 _ (List.mem_iff_getElem?.2 ⟨q % j.size, ?_⟩)
        rw [List.getElem?_take, if_pos (Nat.mod_lt _ hpos), List.getElem?_drop, Nat.mul_comm, Nat.div_add_mod, List.getElem?_eq_getElem hq]
theorem weights_of {H : Type} {P : Program} {ts : List TypeId} {ds : List (DataW H)} (h : (DataW.weightsEach P ts ds).all (· ≤ reachBytes) = true) {j : Nat} {t : TypeId} {d : DataW H} (ht : ts[j]? = some t) (hd : ds[j]? = some d) : (d.weights P t).all (· ≤ reachBytes) = true :=
  List.all_eq_true.2 fun n hn => List.all_eq_true.1 h n (DataW.weights_mem_each ht hd n hn)
theorem open_den (tys : Types P T) (sz : Sizes T) {n m t : Nat} {v : Value} {x : DataW H × List MemPlace} {i : TI} (ht : T t = some i) (hok : okTy T m t = true) (hsh : i.kind.aggB = true → ∃ cs, v = .agg cs) (hna : i.kind.aggB = false → ∀ cs, v ≠ .agg cs) (h : DataW.trod enc P w 0 (fun _ => true) true n t v.cells.toList = some x) (hw : (x.1.weights P t).all (· ≤ reachBytes) = true) :
    ∃ xs, wfC T n t xs ∧ Den w NoX noEnv (wrapC i.shape xs) v ∧ xs.length = i.size := by
  obtain ⟨xs, h1, h2, h3, h4⟩ := open_cells tys sz n m t _ x i ht hok h hw
  refine ⟨xs, h1, ?_, h3⟩
  cases hb : i.kind.aggB with
  | true =>
    obtain ⟨cs, rfl⟩ := hsh hb
    simp only [TI.shape, hb, if_true, wrapC]
    exact Den.agg_iff.2 ⟨_, rfl, by simpa [Value.cells] using h2⟩
  | false =>
    have h5 := sz.one t i ht hb
    obtain ⟨y, rfl⟩ := List.length_eq_one_iff.1 (h3.trans h5)
    have : v.cells = #[v] := by
      cases v <;> first | rfl | exact absurd rfl (hna hb _)
    rw [this] at h2
    simp only [TI.shape, hb, wrapC]
    exact h2.2 0 y v rfl rfl
end
theorem wf_int {T : Nat → Option TI} {n t : Nat} {i : TI} {k : IntKind} {x : SV} (ht : T t = some i) (hk : i.kind = .int k) (h : wfC T n t [x]) : ∃ z, x = .int k z ∧ (Lit.int k z).wf = true := by
  cases n with
  | zero => exact h.elim
  | succ n =>
    simp only [wfC, ht, hk] at h
    obtain ⟨z, h1, h2⟩ := h
    simp at h1
    exact ⟨z, h1, h2⟩
theorem wf_slice {T : Nat → Option TI} {n t e : Nat} {i j : TI} {x : SV} (ht : T t = some i) (hk : i.kind = .slice e) (he : T e = some j) (h : wfC T n t [x]) :
    ∃ l n', x = .lst j.shape l ∧ l.length * j.bytes ≤ 140737488351232 ∧ ∀ x ∈ l, ∃ ys, wfC T n' e ys ∧ x = wrapC j.shape ys := by
  cases n with
  | zero => exact h.elim
  | succ n =>
    simp only [wfC, ht, hk, he] at h
    obtain ⟨l, c, h1, h2, h3, h4, h5⟩ := h
    simp at h1
    exact ⟨l, n, h1, Nat.le_trans (Nat.mul_le_mul_right _ h2) h4, h5⟩
theorem wf_struct {T : Nat → Option TI} {n t : Nat} {i : TI} {fs : List (Nat × Nat)} {xs : List SV} (ht : T t = some i) (hk : i.kind = .struct fs) (h : wfC T n t xs) :
    xs.length = i.size ∧ ∃ n', ∀ q ∈ fs, ∀ j, T q.2 = some j → wfC T n' q.2 ((xs.drop q.1).take j.size) := by
  cases n with
  | zero => exact h.elim
  | succ n =>
    simp only [wfC, ht, hk] at h
    exact ⟨h.1, n, h.2⟩
theorem lst_choose {A : Type} {p : A → Prop} {f : A → SV} : ∀ (l : List SV), (∀ x ∈ l, ∃ a, p a ∧ x = f a) → ∃ es : List A, l = es.map f ∧ ∀ a ∈ es, p a
  | [], _ => ⟨[], rfl, fun a h => by simp at h⟩
  | x :: l, h => by
    obtain ⟨a, h1, h2⟩ := h x (by simp)
    obtain ⟨es, h3, h4⟩ := lst_choose l (fun y hy => h y (by simp [hy]))
    exact ⟨a :: es, by simp [h2, h3], fun b hb => by rcases List.mem_cons.1 hb with rfl | hb; exact h1; exact h4 b hb⟩
theorem wf_bytes {n : Nat} {x : SV} (h : wfC tinfo n 22 [x]) : ∃ bs : List UInt8, x = .lst none (u8l bs) ∧ bs.length ≤ 140737488351232 := by
  obtain ⟨l, n', rfl, h2, h3⟩ := wf_slice (show tinfo 22 = some _ from rfl) rfl (show tinfo 5 = some _ from rfl) h
  obtain ⟨bs, h4, _⟩ := lst_choose (A := UInt8) (p := fun _ => True) (f := fun b => SV.int .u8 b.toNat) l (fun x hx => by
    obtain ⟨ys, g1, g2⟩ := h3 x hx
    cases n' with
    | zero => exact g1.elim
    | succ n' =>
      obtain ⟨z, g3, g4⟩ := g1
      refine ⟨UInt8.ofNat z.toNat, trivial, ?_⟩
      rw [g2, g3]
      have := bounds_u8 g4
      show SV.int .u8 z = _
      congr 1
      simp only [UInt8.toNat_ofNat']
      omega)
  refine ⟨bs, by rw [h4]; rfl, ?_⟩
  have : l.length = bs.length := by rw [h4]; simp
  simp only at h2
  omega
theorem open_bytes {n : Nat} {xs : List SV} (h : wfC tinfo n 22 xs) : ∃ bs : List UInt8, bs.length ≤ 140737488351232 ∧ xs = [.lst none (u8l bs)] := by
  have hl : xs.length = 1 := by
    cases n with
    | zero => exact h.elim
    | succ n => obtain ⟨l, c, h1, _⟩ := h; rw [h1]; rfl
  obtain ⟨x, rfl⟩ := List.length_eq_one_iff.1 hl
  obtain ⟨bs, rfl, h2⟩ := wf_bytes h
  exact ⟨bs, h2, rfl⟩
end Go.Proofs.YtligbjbkecmecaaDoor
