/- Texts put together: Opg RO VT Wk VE VG VH VI OB OS VJ OT OU. -/
import Derived.Test.YtjhicdoigllblaaMc
/- How any datum of whole numbers, bools, strings, slices, structs and arrays comes in. -/
namespace Go.Proofs.Ytjhicdoigllblaa
set_option linter.unusedVariables false
set_option linter.unusedSimpArgs false
open Go.ChangeShapes Go.WideShapes Go.ChangeAt Go.RowKit Go.WideElems Go.Deep
def wrapC : Option Nat → List SV → SV
  | none, ys => ys.headD .any
  | some _, ys => .agg ys
/-- The cells xs are of type t. -/
def wfC (T : Nat → Option TI) : Nat → Nat → List SV → Prop
  | 0, _, _ => False
  | m + 1, t, xs => match T t with
    | none => False
    | some i => match i.kind with
      | .bool => ∃ b, xs = [.bool b]
      | .int k => ∃ n, xs = [.int k n] ∧ (Lit.int k n).wf = true
      | .string => ∃ s, xs = [.str s] ∧ s.size ≤ maxLen
      | .slice e => (match T e with
        | some j => ∃ l c, xs = [.lst j.shape l] ∧ l.length ≤ c ∧ c ≤ maxLen ∧ c * j.bytes ≤ 140737488351232 ∧ ∀ x ∈ l, ∃ ys, wfC T m e ys ∧ x = wrapC j.shape ys
        | none => False)
      | .struct fs => xs.length = i.size ∧ ∀ q ∈ fs, ∀ j, T q.2 = some j → wfC T m q.2 ((xs.drop q.1).take j.size)
      | .array n e => xs.length = i.size ∧ ∀ k, k < n → ∀ j, T e = some j → wfC T m e ((xs.drop (k * j.size)).take j.size)
      | .other => False
def tiles (T : Nat → Option TI) (size : Nat) : Nat → List (Nat × Nat) → Bool
  | off, [] => Nat.beq off size
  | off, (o, t) :: fs => (match T t with | some j => Nat.beq o off && tiles T size (off + j.size) fs | none => false)
def okTy (T : Nat → Option TI) : Nat → Nat → Bool
  | 0, _ => false
  | m + 1, t => match T t with
    | none => false
    | some i => match i.kind with
      | .bool | .int _ | .string => true
      | .slice e => (match T e with | some j => !(Nat.beq j.size 0) | none => false) && okTy T m e
      | .struct fs => tiles T i.size 0 fs && fs.all fun q => okTy T m q.2
      | .array n e => (match T e with | some j => Nat.beq i.size (n * j.size) | none => false) && okTy T m e
      | .other => false
section
variable {H : Type} {enc : TypeId × Value → H} {P : Program} {T : Nat → Option TI} {w : World}
theorem cellsOf_T (tys : Types P T) {t : Nat} {i : TI} (h : T t = some i) : P.cellsOf t = i.size ∧ P.bytesOf t = i.bytes := by
  obtain ⟨j, h1, h2, h3⟩ := (tys.ok t i h).inf
  simp [Program.cellsOf, Program.bytesOf, h1, h2, h3]
theorem okTy_T {m t : Nat} (h : okTy T m t = true) : ∃ i m', m = m' + 1 ∧ T t = some i := by
  cases m with
  | zero => cases h
  | succ m =>
    unfold okTy at h
    cases ht : T t with
    | none => rw [ht] at h; cases h
    | some i => exact ⟨i, m, rfl, rfl⟩
theorem DenL.app {w : World} {X : Nat → Prop} {ρ : Env} {xs ys : List SV} {us vs : List Value} (h : DenL w X ρ xs us) (g : DenL w X ρ ys vs) : DenL w X ρ (xs ++ ys) (us ++ vs) := by
  refine ⟨by simp [h.1, g.1], fun i x u hx hu => ?_⟩
  by_cases hi : i < xs.length
  · rw [List.getElem?_append_left hi] at hx
    rw [List.getElem?_append_left (by rw [← h.1]; exact hi)] at hu
    exact h.2 i x u hx hu
  · rw [List.getElem?_append_right (by omega)] at hx
    rw [List.getElem?_append_right (by rw [← h.1]; omega), ← h.1] at hu
    exact g.2 _ x u hx hu

/-- The parts of a struct, joined. -/
theorem fields_join {X : Nat → Prop} {ρ : Env} {m : Nat} {cs : List Value} {size : Nat} (hcs : cs.length = size) : ∀ (fs : List (Nat × Nat)) (off : Nat), tiles T size off fs = true → off ≤ size →
    (∀ q ∈ fs, ∀ j, T q.2 = some j → ∃ xs, wfC T m q.2 xs ∧ DenL w X ρ xs ((cs.drop q.1).take j.size) ∧ xs.length = j.size) →
    ∃ ys, DenL w X ρ ys (cs.drop off) ∧ ys.length = size - off ∧ ∀ q ∈ fs, ∀ j, T q.2 = some j → off ≤ q.1 ∧ wfC T m q.2 ((ys.drop (q.1 - off)).take j.size)
  | [], off, ht, hof, _ => by
    simp only [tiles, nbeq] at ht
    refine ⟨[], ⟨by simp; omega, fun i x u h => by simp at h⟩, by simp; omega, fun q hq => by simp at hq⟩
  | (o, t) :: fs, off, ht, hof, hp => by
    simp only [tiles] at ht
    cases hj : T t with
    | none => rw [hj] at ht; cases ht
    | some j =>
      rw [hj] at ht
      simp only [Bool.and_eq_true, nbeq] at ht
      obtain ⟨rfl, ht⟩ := ht
      obtain ⟨xs, h1, h2, h3⟩ := hp (o, t) (by simp) j hj
      dsimp only at h1 h2
      have hfit : o + j.size ≤ size := by
        have := h2.1
        rw [h3, List.length_take, List.length_drop, hcs] at this
        omega
      obtain ⟨ys, g1, g2, g3⟩ := fields_join hcs fs (o + j.size) ht hfit (fun q hq => hp q (by simp [hq]))
      refine ⟨xs ++ ys, ?_, by simp [h3, g2]; omega, fun q hq j' hj' => ?_⟩
      · have := h2.app g1
        rw [show cs.drop o = (cs.drop o).take j.size ++ cs.drop (o + j.size) by rw [← List.drop_drop]; exact (List.take_append_drop _ _).symm]
        exact this
      · rcases List.mem_cons.1 hq with rfl | hq
        · rw [hj] at hj'
          injection hj' with hj'; subst hj'
          refine ⟨Nat.le_refl _, ?_⟩
          rw [Nat.sub_self, List.drop_zero, List.take_append_of_le_length (by omega), List.take_of_length_le (by omega)]
          exact h1
        · obtain ⟨k1, k2⟩ := g3 q hq j' hj'
          refine ⟨by omega, ?_⟩
          rw [List.drop_append, List.drop_eq_nil_of_le (show xs.length ≤ q.1 - o by omega), List.nil_append, h3, show q.1 - o - j.size = q.1 - (o + j.size) by omega]
          exact k2
/-- Parts of one size, joined. -/
theorem seg_join {X : Nat → Prop} {ρ : Env} {cs : List Value} {c : Nat} {q : List SV → Prop} : ∀ (n : Nat), cs.length = n * c → (∀ k, k < n → ∃ xs, q xs ∧ DenL w X ρ xs ((cs.drop (k * c)).take c) ∧ xs.length = c) →
    ∃ ys, DenL w X ρ ys cs ∧ ys.length = n * c ∧ ∀ k, k < n → q ((ys.drop (k * c)).take c)
  | 0, h, _ => ⟨[], ⟨by simp at h; simp [h], fun i x u h => by simp at h⟩, by simp, fun k hk => absurd hk (by omega)⟩
  | n + 1, h, hp => by
    have hm : (n + 1) * c = n * c + c := Nat.succ_mul n c
    obtain ⟨ys, g1, g2, g3⟩ := seg_join (cs := cs.take (n * c)) (c := c) (q := q) n (by simp; omega) (fun k hk => by
      obtain ⟨xs, h1, h2, h3⟩ := hp k (by omega)
      refine ⟨xs, h1, ?_, h3⟩
      have hle : k * c + c ≤ n * c := by rw [← Nat.succ_mul]; exact Nat.mul_le_mul_right _ hk
      have : ((cs.take (n * c)).drop (k * c)).take c = (cs.drop (k * c)).take c := by
        rw [List.drop_take, List.take_take, Nat.min_eq_left (by omega)]
      rw [this]; exact h2)
    obtain ⟨xs, h1, h2, h3⟩ := hp n (by omega)
    have e : (cs.drop (n * c)).take c = cs.drop (n * c) := List.take_of_length_le (by simp; omega)
    rw [e] at h2
    refine ⟨ys ++ xs, ?_, by simp [g2, h3]; omega, fun k hk => ?_⟩
    · have := g1.app h2
      rw [List.take_append_drop] at this
      exact this
    · by_cases hk' : k < n
      · have hle : k * c + c ≤ n * c := by rw [← Nat.succ_mul]; exact Nat.mul_le_mul_right _ hk'
        rw [List.drop_append_of_le_length (by omega), List.take_append_of_le_length (by simp; omega)]
        exact g3 k hk'
      · obtain rfl : k = n := by omega
        rw [List.drop_append, List.drop_eq_nil_of_le (by omega), List.nil_append, g2, Nat.sub_self, List.drop_zero, List.take_of_length_le (by omega)]
        exact h1
theorem weightsAll_mem {P : Program} {e : TypeId} : ∀ {ds : List (DataW H)} {d : DataW H}, d ∈ ds → ∀ n ∈ d.weights P e, n ∈ DataW.weightsAll P e ds
  | [], d, h, n, hn => by simp at h
  | x :: ds, d, h, n, hn => by
    simp only [DataW.weightsAll, List.mem_append]
    rcases List.mem_cons.1 h with rfl | h
    · exact .inl hn
    · exact .inr (weightsAll_mem h n hn)
theorem all_sub {a b : List Nat} {p : Nat → Bool} (h : a.all p = true) (hs : ∀ n ∈ b, n ∈ a) : b.all p = true := List.all_eq_true.2 fun n hn => List.all_eq_true.1 h n (hs n hn)
def OneC (cs : List Value) : Prop := ∀ u ∈ cs, u.oneCell' = true
theorem open_cells (tys : Types P T) (sz : Sizes T) : ∀ (n m t : Nat) (cs : List Value) (x : DataW H × List MemPlace) (i : TI), T t = some i → okTy T m t = true → DataW.trod enc P w 0 (fun _ => true) true n t cs = some x → (x.1.weights P t).all (· ≤ reachBytes) = true →
    ∃ xs, wfC T n t xs ∧ DenL w NoX noEnv xs cs ∧ xs.length = i.size ∧ OneC cs := by
  intro n
  induction n with
  | zero => intro m t cs x i _ _ h; simp [DataW.trod] at h
  | succ n ih =>
    intro m t cs x i ht hok h hw
    obtain ⟨i', m', rfl, ht'⟩ := okTy_T hok
    rw [ht] at ht'; injection ht' with ht'; subst ht'
    have tok := tys.ok t i ht
    have hok' := hok
    unfold okTy at hok'
    simp only [ht] at hok'
    have one : ∀ {sv : SV} {v : Value}, Den w NoX noEnv sv v → DenL w NoX noEnv [sv] [v] := fun h => denl_cons h denl_nil
    cases hk : i.kind with
    | bool =>
      have hs : i.size = 1 := sz.one t i ht (by rw [hk]; rfl)
      obtain ⟨b, rfl, _⟩ := DataW.trod_bool (tok.und_bool hk) h
      exact ⟨[.bool b], by simp only [wfC, ht, hk]; exact ⟨b, rfl⟩, one (.bool _ _), by simp [hs], fun u hu => by simp at hu; subst hu; rfl⟩
    | int k =>
      have hs : i.size = 1 := sz.one t i ht (by rw [hk]; rfl)
      obtain ⟨b, rfl, _, hb⟩ := DataW.trod_int (tok.und_int hk) h
      exact ⟨[.int k b], by simp only [wfC, ht, hk]; exact ⟨b, rfl, hb⟩, one (.int _ _ _), by simp [hs], fun u hu => by simp at hu; subst hu; rfl⟩
    | string =>
      have hs : i.size = 1 := sz.one t i ht (by rw [hk]; rfl)
      obtain ⟨b, rfl, _, hb⟩ := DataW.trod_string (tok.und_string hk) h
      exact ⟨[.str b], by simp only [wfC, ht, hk]; exact ⟨b, rfl, hb⟩, one (.str _ _), by simp [hs], fun u hu => by simp at hu; subst hu; rfl⟩
    | other => simp [hk] at hok'
    | slice e =>
      simp only [hk, Bool.and_eq_true] at hok'
      have hs : i.size = 1 := sz.one t i ht (by rw [hk]; rfl)
      have hok2 := hok'.1
      replace hok' := hok'.2
      obtain ⟨j, _, _, hj⟩ := okTy_T hok'
      have tokE := tys.ok e j hj
      have hu := tok.und_slice hk
      obtain ⟨hc, hbt⟩ := cellsOf_T tys hj
      rcases DataW.trod_slice hu h with ⟨rfl, _⟩ | ⟨a, len, cap, elems, rest, n', hn, rfl, rfl, _, hlc, hcm, hel, hE, hR, _⟩
      · refine ⟨[.lst j.shape []], ?_, one (.lst0 _ _ _ _), by simp [hs], fun u hu => by simp at hu; subst hu; rfl⟩
        simp only [wfC, ht, hk, hj]
        exact ⟨[], 0, rfl, by simp, by simp [maxLen], by omega, fun x hx => by simp at hx⟩
      · obtain rfl : n = n' := by omega
        simp only [DataW.weights, hu] at hw
        have hcap : cap * j.bytes ≤ 140737488351232 := by
          have := List.all_eq_true.1 hw _ (List.mem_cons_self ..)
          simp only [List.length_map, hel, (hR rfl).1, decide_eq_true_eq, hbt] at this
          rw [Nat.add_sub_cancel' hlc] at this
          simpa [reachBytes] using this
        have hall : ∀ k, k < len → ∃ cs', w.cells? 0 (a.add (k * j.size)) j.size = some cs' ∧ ∃ ys, wfC T n e ys ∧ DenL w NoX noEnv ys cs' ∧ ys.length = j.size ∧ OneC cs' := fun k hk => by
          have := hE k hk
          rw [hc, List.getElem?_eq_getElem (by omega)] at this
          simp only [Option.bind_eq_some_iff] at this
          obtain ⟨cs', h1, h2⟩ := this
          refine ⟨cs', h1, ih m' e cs' _ j hj hok' h2 (all_sub hw fun q hq => ?_)⟩
          refine List.mem_cons_of_mem _ (List.mem_append_left _ (weightsAll_mem (d := elems[k].1) (List.mem_map.2 ⟨elems[k], List.getElem_mem _, rfl⟩) q hq))
        by_cases h0 : len = 0
        · subst h0
          refine ⟨[.lst j.shape []], ?_, one (.lst0 _ _ _ _), by simp [hs], fun u hu => by simp at hu; subst hu; rfl⟩
          simp only [wfC, ht, hk, hj]
          exact ⟨[], cap, rfl, by simp, hcm, hcap, fun x hx => by simp at hx⟩
        · have hw1 := TI.wid_size (sz.one e j hj)
          have hsz0 : 0 < j.size := by
            rw [hj] at hok2
            simp at hok2
            have : j.size ≠ 0 := fun h => by rw [h] at hok2; cases hok2
            omega
          -- the cells of all elements
          have hcells : ∃ us : List Value, us.length = len * j.size ∧ OneC us ∧ (∀ q u, us[q]? = some u → w.cell? (a.add q) = some u) ∧ ∀ k, k < len → ∃ ys, wfC T n e ys ∧ DenL w NoX noEnv ys ((us.drop (k * j.size)).take j.size) ∧ ys.length = j.size := by
            have step : ∀ len', len' ≤ len → ∃ us : List Value, us.length = len' * j.size ∧ OneC us ∧ (∀ q u, us[q]? = some u → w.cell? (a.add q) = some u) ∧ ∀ k, k < len' → ∃ ys, wfC T n e ys ∧ DenL w NoX noEnv ys ((us.drop (k * j.size)).take j.size) ∧ ys.length = j.size := by
              intro len' hle
              induction len' with
              | zero => exact ⟨[], by simp, fun u hu => by simp at hu, fun q u hq => by simp at hq, fun k hk => absurd hk (by omega)⟩
              | succ l ihl =>
                obtain ⟨us, u1, u2, u3, u4⟩ := ihl (by omega)
                obtain ⟨cs', c1, ys, y1, y2, y3, y4⟩ := hall l (by omega)
                obtain ⟨_, c2, c3⟩ := World.cells?_some c1
                have hsm : (l + 1) * j.size = l * j.size + j.size := Nat.succ_mul _ _
                refine ⟨us ++ cs', by simp [u1, c2]; omega, fun u hu => by rcases List.mem_append.1 hu with g | g; exact u2 u g; exact y4 u g, fun q u hq => ?_, fun k hk => ?_⟩
                · by_cases hq' : q < us.length
                  · rw [List.getElem?_append_left hq'] at hq
                    exact u3 q u hq
                  · rw [List.getElem?_append_right (by omega)] at hq
                    have hlt : q - us.length < j.size := by
                      obtain ⟨g, _⟩ := List.getElem?_eq_some_iff.1 hq
                      omega
                    have := c3 (q - us.length) hlt
                    rw [hq, Addr.add_add, u1, show l * j.size + (q - l * j.size) = q by omega] at this
                    exact this
                · by_cases hk' : k < l
                  · obtain ⟨zs, z1, z2, z3⟩ := u4 k hk'
                    have hle2 : k * j.size + j.size ≤ l * j.size := by rw [← Nat.succ_mul]; exact Nat.mul_le_mul_right _ hk'
                    exact ⟨zs, z1, by rw [List.drop_append_of_le_length (by omega), List.take_append_of_le_length (by simp; omega)]; exact z2, z3⟩
                  · obtain rfl : k = l := by omega
                    refine ⟨ys, y1, ?_, y3⟩
                    rw [List.drop_append, List.drop_eq_nil_of_le (by omega), List.nil_append, u1, Nat.sub_self, List.drop_zero, List.take_of_length_le (by omega)]
                    exact y2
            exact step len (Nat.le_refl _)
          obtain ⟨us, u1, u2, u3, u4⟩ := hcells
          have hf : ∃ f : Nat → List SV, ∀ k, k < len → wfC T n e (f k) ∧ DenL w NoX noEnv (f k) ((us.drop (k * j.size)).take j.size) ∧ (f k).length = j.size :=
            ⟨fun k => if h : k < len then Classical.choose (u4 k h) else [], fun k h => by dsimp only; rw [dif_pos h]; exact Classical.choose_spec (u4 k h)⟩
          obtain ⟨f, hf⟩ := hf
          have hlen : us.length ≠ 0 := by
            rw [u1]
            have : 1 * j.size ≤ len * j.size := Nat.mul_le_mul_right _ (by omega)
            omega
          have hc0 := u3 0 _ (List.getElem?_eq_getElem (by omega))
          rw [Addr.add_zero'] at hc0
          have hsp := World.cell?_spot hc0
          have hblt := block_lt hc0
          obtain ⟨b, off, spot⟩ := a
          simp only at hsp
          subst hsp
          have hll : ((List.range len).map fun k => wrapC j.shape (f k)).length = len := by simp
          refine ⟨[.lst j.shape ((List.range len).map fun k => wrapC j.shape (f k))], ?_, one ?_, by simp [hs], fun u hu => by simp at hu; subst hu; rfl⟩
          · simp only [wfC, ht, hk, hj]
            refine ⟨_, cap, rfl, by rw [hll]; exact hlc, hcm, hcap, fun x hx => ?_⟩
            obtain ⟨k, hk, rfl⟩ := List.mem_map.1 hx
            exact ⟨f k, (hf k (by simpa using hk)).1, rfl⟩
          · have key : Den w NoX noEnv (.lst j.shape ((List.range len).map fun k => wrapC j.shape (f k))) (.slice (some ⟨b, off, none⟩) ((List.range len).map fun k => wrapC j.shape (f k)).length cap) := by
              refine .lst _ _ _ b off cap us hblt (fun h => h) (by rw [hll]; exact hlc) (fun q u hq => by have := u3 q u hq; rwa [Addr.add_lit] at this) (by rw [hll, u1, hw1]) u2 (fun k hk => ?_)
              rw [hll] at hk
              obtain ⟨f1, f2, f3⟩ := hf k hk
              simp only [List.getElem_map, List.getElem_range]
              have hle2 : k * j.size + j.size ≤ len * j.size := by rw [← Nat.succ_mul]; exact Nat.mul_le_mul_right _ hk
              rw [valAt_seg j.shape us k (by rw [← hw1]; omega), ← hw1]
              cases hsh : j.shape with
              | none =>
                rw [hsh] at hw1
                simp only [wid] at hw1
                obtain ⟨y, hy⟩ := List.length_eq_one_iff.1 (f3.trans hw1)
                rw [hy] at f2 ⊢
                have hl1 : ((us.drop (k * j.size)).take j.size).length = 1 := by rw [← f2.1]; rfl
                obtain ⟨u, hu⟩ := List.length_eq_one_iff.1 hl1
                rw [hu] at f2 ⊢
                exact f2.2 0 y u rfl rfl
              | some q =>
                rw [hsh] at hw1
                simp only [wid] at hw1
                exact f2.val q (f3.trans hw1)
            rw [hll] at key
            exact key
    | struct fs =>
      simp only [hk, Bool.and_eq_true] at hok'
      obtain ⟨gs, hg, hgs⟩ := tok.und_struct hk
      obtain ⟨xs, n', hn, hx, hcl, hxl, hX⟩ := DataW.trod_struct hg h
      obtain rfl : n = n' := by omega
      rw [(cellsOf_T tys ht).1] at hcl
      subst hx
      simp only [DataW.weights, hg] at hw
      have hparts : ∀ q ∈ fs, ∀ j, T q.2 = some j → ∃ ys, wfC T n q.2 ys ∧ DenL w NoX noEnv ys ((cs.drop q.1).take j.size) ∧ ys.length = j.size ∧ OneC ((cs.drop q.1).take j.size) := fun q hq j hj => by
        subst hgs
        obtain ⟨fd, hfd, rfl⟩ := List.mem_map.1 hq
        obtain ⟨k, hk, rfl⟩ := List.mem_iff_getElem.1 hfd
        have hk' : k < gs.size := by simpa using hk
        simp only [Array.getElem_toList] at hj hq ⊢
        have := hX k gs[k] (by simp [hk'])
        rw [(cellsOf_T tys hj).1, List.getElem?_eq_getElem (by omega)] at this
        have hty : okTy T m' gs[k].type = true := by
          have := List.all_eq_true.1 hok'.2 _ hq
          simpa using this
        have := ih m' gs[k].type _ xs[k] j hj hty this (all_sub hw fun a ha => DataW.weights_mem_each (j := k) (by simp [hk']) (by simp [show k < xs.length by omega]) a ha)
        simpa using this
      obtain ⟨ys, g1, g2, g3⟩ := fields_join (T := T) (w := w) (X := NoX) (ρ := noEnv) (m := n) hcl fs 0 hok'.1 (Nat.zero_le _) (fun q hq j hj => by
        obtain ⟨ys, y1, y2, y3, _⟩ := hparts q hq j hj
        exact ⟨ys, y1, y2, y3⟩)
      refine ⟨ys, ?_, by simpa using g1, by simpa using g2, ?_⟩
      · simp only [wfC, ht, hk]
        exact ⟨by simpa using g2, fun q hq j hj => by simpa using (g3 q hq j hj).2⟩
      · have cover : ∀ (fs : List (Nat × Nat)) (off : Nat), tiles T i.size off fs = true → (∀ q ∈ fs, ∀ j, T q.2 = some j → OneC ((cs.drop q.1).take j.size)) → OneC (cs.drop off) := by
          intro fs
          induction fs with
          | nil => intro off ht _ u hu; simp only [tiles, nbeq] at ht; rw [List.drop_eq_nil_of_le (by omega)] at hu; simp at hu
          | cons q fs ihf =>
            obtain ⟨o, t'⟩ := q
            intro off ht hp u hu
            simp only [tiles] at ht
            cases hj : T t' with
            | none => rw [hj] at ht; cases ht
            | some j =>
              rw [hj] at ht
              simp only [Bool.and_eq_true, nbeq] at ht
              obtain ⟨rfl, ht⟩ := ht
              rw [← List.take_append_drop j.size (cs.drop o), List.drop_drop] at hu
              rcases List.mem_append.1 hu with g | g
              · exact hp (o, t') (by simp) j hj u g
              · exact ihf (o + j.size) ht (fun q hq => hp q (by simp [hq])) u g
        have := cover fs 0 hok'.1 (fun q hq j hj => by obtain ⟨_, _, _, _, y4⟩ := hparts q hq j hj; exact y4)
        simpa using this
    | array n' e =>
      simp only [hk, Bool.and_eq_true] at hok'
      obtain ⟨h1, hok'⟩ := hok'
      obtain ⟨j, _, _, hj⟩ := okTy_T hok'
      rw [hj] at h1
      simp only [nbeq] at h1
      have hu := tok.und_array hk
      obtain ⟨xs, n1, hn, hx, hcl, hxl, hX⟩ := DataW.trod_array hu h
      obtain rfl : n = n1 := by omega
      rw [(cellsOf_T tys ht).1] at hcl
      subst hx
      simp only [DataW.weights, hu] at hw
      have hparts : ∀ k, k < n' → ∃ ys, wfC T n e ys ∧ DenL w NoX noEnv ys ((cs.drop (k * j.size)).take j.size) ∧ ys.length = j.size ∧ OneC ((cs.drop (k * j.size)).take j.size) := fun k hk => by
        have := hX k hk
        rw [(cellsOf_T tys hj).1, List.getElem?_eq_getElem (by omega)] at this
        exact ih m' e _ xs[k] j hj hok' this (all_sub hw fun a ha => weightsAll_mem (d := xs[k].1) (List.mem_map.2 ⟨xs[k], List.getElem_mem _, rfl⟩) a ha)
      obtain ⟨ys, g1, g2, g3⟩ := seg_join (w := w) (X := NoX) (ρ := noEnv) (cs := cs) (c := j.size) (q := wfC T n e) n' (by omega) (fun k hk => by
        obtain ⟨ys, y1, y2, y3, _⟩ := hparts k hk
        exact ⟨ys, y1, y2, y3⟩)
      refine ⟨ys, ?_, g1, by omega, fun u hu => ?_⟩
      · simp only [wfC, ht, hk]
        exact ⟨by omega, fun k hk j' hj' => by rw [hj] at hj'; injection hj' with hj'; subst hj'; exact g3 k hk⟩
      · obtain ⟨q, hq, rfl⟩ := List.mem_iff_getElem.1 hu
        have hpos : 0 < j.size := by
          rcases Nat.eq_zero_or_pos j.size with e0 | e0
          · rw [e0, Nat.mul_zero] at h1; omega
          · exact e0
        have hk : q / j.size < n' := by rw [Nat.div_lt_iff_lt_mul hpos]; omega
        obtain ⟨_, _, _, _, y4⟩ := hparts (q / j.size) hk
        refine y4 _ (List.mem_iff_getElem?.2 ⟨q % j.size, ?_⟩)
        rw [List.getElem?_take, if_pos (Nat.mod_lt _ hpos), List.getElem?_drop, Nat.mul_comm, Nat.div_add_mod, List.getElem?_eq_getElem hq]
theorem weights_of {H : Type} {P : Program} {ts : List TypeId} {ds : List (DataW H)} (h : (DataW.weightsEach P ts ds).all (· ≤ reachBytes) = true) {j : Nat} {t : TypeId} {d : DataW H} (ht : ts[j]? = some t) (hd : ds[j]? = some d) : (d.weights P t).all (· ≤ reachBytes) = true :=
  List.all_eq_true.2 fun n hn => List.all_eq_true.1 h n (DataW.weights_mem_each ht hd n hn)
theorem open_den (tys : Types P T) (sz : Sizes T) {n m t : Nat} {v : Value} {x : DataW H × List MemPlace} {i : TI} (ht : T t = some i) (hok : okTy T m t = true) (hsh : i.kind.aggB = true → ∃ cs, v = .agg cs) (hna : i.kind.aggB = false → ∀ cs, v ≠ .agg cs) (h : DataW.trod enc P w 0 (fun _ => true) true n t v.cells.toList = some x) (hw : (x.1.weights P t).all (· ≤ reachBytes) = true) :
    ∃ xs, wfC T n t xs ∧ Den w NoX noEnv (wrapC i.shape xs) v ∧ xs.length = i.size := by
  obtain ⟨xs, h1, h2, h3, h4⟩ := open_cells tys sz n m t _ x i ht hok h hw
  refine ⟨xs, h1, ?_, h3⟩
  cases hb : i.kind.aggB with
  | true =>
    obtain ⟨cs, rfl⟩ := hsh hb
    simp only [TI.shape, hb, if_true, wrapC]
    exact Den.agg_iff.2 ⟨_, rfl, by simpa [Value.cells] using h2⟩
  | false =>
    have h5 := sz.one t i ht hb
    obtain ⟨y, rfl⟩ := List.length_eq_one_iff.1 (h3.trans h5)
    have : v.cells = #[v] := by
      cases v <;> first | rfl | exact absurd rfl (hna hb _)
    rw [this] at h2
    simp only [TI.shape, hb, wrapC]
    exact h2.2 0 y v rfl rfl
end
theorem wf_int {T : Nat → Option TI} {n t : Nat} {i : TI} {k : IntKind} {x : SV} (ht : T t = some i) (hk : i.kind = .int k) (h : wfC T n t [x]) : ∃ z, x = .int k z ∧ (Lit.int k z).wf = true := by
  cases n with
  | zero => exact h.elim
  | succ n =>
    simp only [wfC, ht, hk] at h
    obtain ⟨z, h1, h2⟩ := h
    simp at h1
    exact ⟨z, h1, h2⟩
theorem wf_slice {T : Nat → Option TI} {n t e : Nat} {i j : TI} {x : SV} (ht : T t = some i) (hk : i.kind = .slice e) (he : T e = some j) (h : wfC T n t [x]) :
    ∃ l n', x = .lst j.shape l ∧ l.length * j.bytes ≤ 140737488351232 ∧ ∀ x ∈ l, ∃ ys, wfC T n' e ys ∧ x = wrapC j.shape ys := by
  cases n with
  | zero => exact h.elim
  | succ n =>
    simp only [wfC, ht, hk, he] at h
    obtain ⟨l, c, h1, h2, h3, h4, h5⟩ := h
    simp at h1
    exact ⟨l, n, h1, Nat.le_trans (Nat.mul_le_mul_right _ h2) h4, h5⟩
theorem wf_struct {T : Nat → Option TI} {n t : Nat} {i : TI} {fs : List (Nat × Nat)} {xs : List SV} (ht : T t = some i) (hk : i.kind = .struct fs) (h : wfC T n t xs) :
    xs.length = i.size ∧ ∃ n', ∀ q ∈ fs, ∀ j, T q.2 = some j → wfC T n' q.2 ((xs.drop q.1).take j.size) := by
  cases n with
  | zero => exact h.elim
  | succ n =>
    simp only [wfC, ht, hk] at h
    exact ⟨h.1, n, h.2⟩
theorem lst_choose {A : Type} {p : A → Prop} {f : A → SV} : ∀ (l : List SV), (∀ x ∈ l, ∃ a, p a ∧ x = f a) → ∃ es : List A, l = es.map f ∧ ∀ a ∈ es, p a
  | [], _ => ⟨[], rfl, fun a h => by simp at h⟩
  | x :: l, h => by
    obtain ⟨a, h1, h2⟩ := h x (by simp)
    obtain ⟨es, h3, h4⟩ := lst_choose l (fun y hy => h y (by simp [hy]))
    exact ⟨a :: es, by simp [h2, h3], fun b hb => by rcases List.mem_cons.1 hb with rfl | hb; exact h1; exact h4 b hb⟩
theorem wf_bytes {n : Nat} {x : SV} (h : wfC tinfo n 26 [x]) : ∃ bs : List UInt8, x = .lst none (u8l bs) ∧ bs.length ≤ 140737488351232 := by
  obtain ⟨l, n', rfl, h2, h3⟩ := wf_slice (show tinfo 26 = some _ from rfl) rfl (show tinfo 5 = some _ from rfl) h
  obtain ⟨bs, h4, _⟩ := lst_choose (A := UInt8) (p := fun _ => True) (f := fun b => SV.int .u8 b.toNat) l (fun x hx => by
    obtain ⟨ys, g1, g2⟩ := h3 x hx
    cases n' with
    | zero => exact g1.elim
    | succ n' =>
      obtain ⟨z, g3, g4⟩ := g1
      refine ⟨UInt8.ofNat z.toNat, trivial, ?_⟩
      rw [g2, g3]
      have := bounds_u8 g4
      show SV.int .u8 z = _
      congr 1
      simp only [UInt8.toNat_ofNat']
      omega)
  refine ⟨bs, by rw [h4]; rfl, ?_⟩
  have : l.length = bs.length := by rw [h4]; simp
  simp only at h2
  omega
theorem open_bytes {n : Nat} {xs : List SV} (h : wfC tinfo n 26 xs) : ∃ bs : List UInt8, bs.length ≤ 140737488351232 ∧ xs = [.lst none (u8l bs)] := by
  have hl : xs.length = 1 := by
    cases n with
    | zero => exact h.elim
    | succ n => obtain ⟨l, c, h1, _⟩ := h; rw [h1]; rfl
  obtain ⟨x, rfl⟩ := List.length_eq_one_iff.1 hl
  obtain ⟨bs, rfl, h2⟩ := wf_bytes h
  exact ⟨bs, h2, rfl⟩
end Go.Proofs.Ytjhicdoigllblaa
/- How pieces, senders and receivers come in. -/
namespace Go.Proofs.Ytjhicdoigllblaa
set_option linter.unusedVariables false
set_option linter.unusedSimpArgs false
open Go.RowKit
theorem wf_bool {T : Nat → Option TI} {n t : Nat} {i : TI} {x : SV} (ht : T t = some i) (hk : i.kind = .bool) (h : wfC T n t [x]) : ∃ b, x = .bool b := by
  cases n with
  | zero => exact h.elim
  | succ n =>
    unfold wfC at h
    rw [ht] at h
    simp only [hk] at h
    obtain ⟨b, hb⟩ := h
    injection hb with hb
    exact ⟨b, hb⟩
theorem open_bss {n : Nat} {x : SV} (h : wfC tinfo n 22 [x]) : ∃ ps : List (List UInt8), x = .lst none (rowsB ps) ∧ (∀ p ∈ ps, p.length ≤ 140737488351232) ∧ ps.length ≤ 5864062014805 := by
  obtain ⟨l, n', rfl, h2, h3⟩ := wf_slice (show tinfo 22 = some _ from rfl) rfl (show tinfo 26 = some _ from rfl) h
  obtain ⟨ps, h4, h5⟩ := lst_choose (A := List UInt8) (p := fun p => p.length ≤ 140737488351232) (f := fun b => .lst none (u8l b)) l (fun x hx => by
    obtain ⟨ys, g1, g2⟩ := h3 x hx
    obtain ⟨bs, g3, g4⟩ := open_bytes g1
    exact ⟨bs, g3, by rw [g2, g4]; rfl⟩)
  refine ⟨ps, by rw [h4]; rfl, h5, ?_⟩
  have : l.length = ps.length := by rw [h4]; simp
  simp only at h2
  omega
structure Pce.fits (p : Pce) : Prop where
  t : 0 ≤ p.tag ∧ p.tag ≤ 255
  n : -9223372036854775808 ≤ p.n ∧ p.n ≤ 9223372036854775807
  c : -9223372036854775808 ≤ p.c ∧ p.c ≤ 9223372036854775807
  d : p.d.length ≤ 140737488351232
theorem open_piece {n : Nat} {xs : List SV} (h : wfC tinfo n 51 xs) : ∃ p : Pce, p.fits ∧ xs = [.int .u8 p.tag, .int .i64 p.n, .int .i64 p.c, .bool p.ack, .lst none (u8l p.d)] := by
  obtain ⟨hl, n', h⟩ := wf_struct (show tinfo 51 = some _ from rfl) rfl h
  match xs, hl with
  | [a, b, c, d, e], _ =>
    obtain ⟨z0, rfl, w0⟩ := wf_int (show tinfo 5 = some _ from rfl) rfl (h (0, 5) (by simp) _ rfl)
    obtain ⟨z1, rfl, w1⟩ := wf_int (show tinfo 3 = some _ from rfl) rfl (h (1, 3) (by simp) _ rfl)
    obtain ⟨z2, rfl, w2⟩ := wf_int (show tinfo 3 = some _ from rfl) rfl (h (2, 3) (by simp) _ rfl)
    obtain ⟨k, rfl⟩ := wf_bool (show tinfo 4 = some _ from rfl) rfl (h (3, 4) (by simp) _ rfl)
    obtain ⟨bs, rfl, w3⟩ := wf_bytes (h (4, 26) (by simp) _ rfl)
    have b0 := bounds_u8 w0
    have b1 := bounds_i64 w1
    have b2 := bounds_i64 w2
    exact ⟨⟨z0, z1, z2, k, bs⟩, ⟨b0, b1, b2, w3⟩, rfl⟩
theorem open_sender {n : Nat} {xs : List SV} (h : wfC tinfo n 25 xs) : ∃ s : Snd, s.fits ∧ xs = [.int .i64 s.st, .int .u8 s.tag, .lst none (rowsB s.ps), .int .u32 s.ak, .int .i64 s.rd, .int .i64 s.un] := by
  obtain ⟨hl, n', h⟩ := wf_struct (show tinfo 25 = some _ from rfl) rfl h
  match xs, hl with
  | [a, b, c, d, e, f], _ =>
    obtain ⟨z0, rfl, w0⟩ := wf_int (show tinfo 3 = some _ from rfl) rfl (h (0, 3) (by simp) _ rfl)
    obtain ⟨z1, rfl, w1⟩ := wf_int (show tinfo 5 = some _ from rfl) rfl (h (1, 5) (by simp) _ rfl)
    obtain ⟨ps, rfl, w2, w3⟩ := open_bss (h (2, 22) (by simp) _ rfl)
    obtain ⟨z3, rfl, w4⟩ := wf_int (show tinfo 23 = some _ from rfl) rfl (h (3, 23) (by simp) _ rfl)
    obtain ⟨z4, rfl, w5⟩ := wf_int (show tinfo 3 = some _ from rfl) rfl (h (4, 3) (by simp) _ rfl)
    obtain ⟨z5, rfl, w6⟩ := wf_int (show tinfo 3 = some _ from rfl) rfl (h (5, 3) (by simp) _ rfl)
    exact ⟨⟨z0, z1, ps, z3, z4, z5⟩, ⟨bounds_i64 w0, bounds_u8 w1, bounds_u32 w4, bounds_i64 w5, bounds_i64 w6, w3, w2⟩, rfl⟩
structure Rcv where
  tag : Int
  cnt : Int
  ps : List (List UInt8)
  hv : Int
  dn : Bool
structure Rcv.fits (r : Rcv) : Prop where
  tag : 0 ≤ r.tag ∧ r.tag ≤ 255
  cnt : -9223372036854775808 ≤ r.cnt ∧ r.cnt ≤ 9223372036854775807
  hv : 0 ≤ r.hv ∧ r.hv ≤ 4294967295
  n : r.ps.length ≤ 5864062014805
  b : ∀ p ∈ r.ps, p.length ≤ 140737488351232
theorem open_receiver {n : Nat} {xs : List SV} (h : wfC tinfo n 55 xs) : ∃ r : Rcv, r.fits ∧ xs = [.int .u8 r.tag, .int .i64 r.cnt, .lst none (rowsB r.ps), .int .u32 r.hv, .bool r.dn] := by
  obtain ⟨hl, n', h⟩ := wf_struct (show tinfo 55 = some _ from rfl) rfl h
  match xs, hl with
  | [a, b, c, d, e], _ =>
    obtain ⟨z0, rfl, w0⟩ := wf_int (show tinfo 5 = some _ from rfl) rfl (h (0, 5) (by simp) _ rfl)
    obtain ⟨z1, rfl, w1⟩ := wf_int (show tinfo 3 = some _ from rfl) rfl (h (1, 3) (by simp) _ rfl)
    obtain ⟨ps, rfl, w2, w3⟩ := open_bss (h (2, 22) (by simp) _ rfl)
    obtain ⟨z3, rfl, w4⟩ := wf_int (show tinfo 23 = some _ from rfl) rfl (h (3, 23) (by simp) _ rfl)
    obtain ⟨k, rfl⟩ := wf_bool (show tinfo 4 = some _ from rfl) rfl (h (4, 4) (by simp) _ rfl)
    exact ⟨⟨z0, z1, ps, z3, k⟩, ⟨bounds_u8 w0, bounds_i64 w1, bounds_u32 w4, w3, w2⟩, rfl⟩
end Go.Proofs.Ytjhicdoigllblaa
/- Copies of pieces as own rows; receivers. -/
namespace Go.Proofs.Ytjhicdoigllblaa
set_option linter.unusedVariables false
set_option linter.unusedSimpArgs false
open Go.RowKit
set_option maxHeartbeats 8000000
theorem clonedRow_c (ps : List (List UInt8)) (R : List SV) (hR : R = rowsB ps) (hn : ps.length ≤ 5864062014805) (hb : ∀ p ∈ ps, p.length ≤ 140737488351232) : Good 51 (nu [.lst none R] (.row 1) (.row none 26 R)) := by
  have hRl : R.length = ps.length := by rw [hR, rowsB_len]
  have hE := fun i hi => rowsB_at hR i hi
  obtain ⟨H, hH⟩ : ∃ H : Nat → List SV, ∀ i, H i = R.take i ++ List.replicate (R.length - i) .nil := ⟨_, fun _ => rfl⟩
  have hH0 : List.replicate R.length SV.nil = H 0 := by rw [hH]; simp
  have hHl : ∀ i, i ≤ R.length → (H i).length = R.length := fun i hi => by rw [hH]; simp; omega
  have hHs : ∀ i y, R[i]? = some y → (H i).set i y = H (i + 1) := fun i y hy => by
    obtain ⟨h1, h2⟩ := List.getElem?_eq_some_iff.1 hy
    rw [hH, hH]
    apply List.ext_getElem?
    intro k
    rw [List.getElem?_set]
    by_cases hk : i = k
    · subst hk
      rw [if_pos rfl, if_pos (by simp; omega), List.getElem?_append_left (by simp; omega), List.getElem?_take, if_pos (by omega), hy]
    · rw [if_neg hk]
      by_cases h3 : k < i
      · rw [List.getElem?_append_left (by simp; omega), List.getElem?_append_left (by simp; omega), List.getElem?_take, List.getElem?_take, if_pos h3, if_pos (by omega)]
      · rw [List.getElem?_append_right (by simp; omega), List.getElem?_append_right (by simp; omega), List.getElem?_replicate, List.getElem?_replicate]
        simp only [List.length_take]
        by_cases h4 : k < R.length
        · rw [if_pos (by omega), if_pos (by omega)]
        · rw [if_neg (by omega), if_neg (by omega)]
  have hHn : H R.length = R := by rw [hH]; simp
  clear hH
  refine Good.of Try.func51 rfl (by rfl) (by kernel_rfl) ?_
  cbv
  (repeat' (first
    | (refine q1 (by first | exact trivial | omega | (dsimp only; omega) | exact pow62 _ (by omega) | exact mul9 (by omega) (by omega) | (simp only [sm] at *; omega)) (fun z hz => ?_); (try simp only at hz); cbv)
    | (refine rq (by first | exact trivial | omega | (dsimp only; omega) | (simp only [sm] at *; omega)) ?_; cbv)
    | (refine QC.tt (by first | omega | (dsimp only; omega) | exact rfl | (simp only [sm] at *; omega)) ?_; cbv)
    | (refine QC.tt ?_ ?_; (focus (simp only [decide_true, Bool.and_true, Bool.and_self] <;> fail)); cbv)
    | (refine QC.ff ?_ ?_; (focus (simp only [decide_true, Bool.and_true, Bool.and_self, decide_false, Bool.false_and, reduceCtorEq, not_false_eq_true] <;> fail)); cbv)
    | (refine QC.ff (by first | omega | (dsimp only; omega) | (simp only [sm] at *; omega)) ?_; cbv)
    | (refine QC.mk (fun hc => ?_) (fun hc => ?_) <;> (try dsimp only at hc) <;> cbv)
    | (refine br_mk2 (fun hb => ?_) (fun hb => ?_) <;> (try subst hb) <;> cbv)))
  refine loopQ (A := Nat × Int) (fun p => p.2 = p.1 ∧ p.1 ≤ ps.length) (fun p => ps.length - p.1) (fun p => [(11, .int .i64 p.2), (3, .row 8)]) (fun p => [(8, .row none 26 (H p.1))]) (0, 0) ⟨rfl, Nat.zero_le _⟩ ?_ ?_
  · cbv
    rename_i z0 hz0
    refine ⟨?_, trivial⟩
    show Blk.row none 26 (O.rp z0 .nil) = .row none 26 (H 0)
    rw [orp, ← hH0, show z0.toNat = R.length by (first | omega | (simp only [cst] at *; omega) | (simp only [sm] at *; omega))]
  · intro ⟨i, j⟩ hi0
    have hj : j = (i : Int) := hi0.1
    have hi : i ≤ ps.length := hi0.2
    clear hi0
    have hmk : True := trivial
    have hli := hHl i (by omega)
    cbv
    (repeat' (first
    | (refine q1 (by first | exact trivial | omega | (dsimp only; omega) | exact pow62 _ (by omega) | exact mul9 (by omega) (by omega) | (simp only [sm] at *; omega)) (fun z hz => ?_); (try simp only at hz); cbv)
    | (refine rq (by first | exact trivial | omega | (dsimp only; omega) | (simp only [sm] at *; omega)) ?_; cbv)
    | (refine QC.tt (by first | omega | (dsimp only; omega) | exact rfl | (simp only [sm] at *; omega)) ?_; cbv)
    | (refine QC.tt ?_ ?_; (focus (simp only [decide_true, Bool.and_true, Bool.and_self] <;> fail)); cbv)
    | (refine QC.ff ?_ ?_; (focus (simp only [decide_true, Bool.and_true, Bool.and_self, decide_false, Bool.false_and, reduceCtorEq, not_false_eq_true] <;> fail)); cbv)
    | (refine QC.ff (by first | omega | (dsimp only; omega) | (simp only [sm] at *; omega)) ?_; cbv)
    | (refine QC.mk (fun hc => ?_) (fun hc => ?_) <;> (try dsimp only at hc) <;> cbv)
    | (refine br_mk2 (fun hb => ?_) (fun hb => ?_) <;> (try subst hb) <;> cbv)))
    · have hlt : i < ps.length := by (first | omega | (simp only [cst] at *; omega) | (simp only [sm] at *; omega))
      obtain ⟨b, B, hbi, hB, hEi⟩ := hE i hlt
      have hbl := hb b (List.mem_of_getElem? hbi)
      have g1 := cloned_c b B hB hbl
      have hs := hHs i _ hEi
      (refine qv (i, _) ⟨hj, hEi⟩ ?_; cbv; (repeat' (first
    | (refine q1 (by first | exact trivial | omega | (dsimp only; omega) | exact pow62 _ (by omega) | exact mul9 (by omega) (by omega) | (simp only [sm] at *; omega)) (fun z hz => ?_); (try simp only at hz); cbv)
    | (refine rq (by first | exact trivial | omega | (dsimp only; omega) | (simp only [sm] at *; omega)) ?_; cbv)
    | (refine QC.tt (by first | omega | (dsimp only; omega) | exact rfl | (simp only [sm] at *; omega)) ?_; cbv)
    | (refine QC.tt ?_ ?_; (focus (simp only [decide_true, Bool.and_true, Bool.and_self] <;> fail)); cbv)
    | (refine QC.ff ?_ ?_; (focus (simp only [decide_true, Bool.and_true, Bool.and_self, decide_false, Bool.false_and, reduceCtorEq, not_false_eq_true] <;> fail)); cbv)
    | (refine QC.ff (by first | omega | (dsimp only; omega) | (simp only [sm] at *; omega)) ?_; cbv)
    | (refine QC.mk (fun hc => ?_) (fun hc => ?_) <;> (try dsimp only at hc) <;> cbv)
    | (refine br_mk2 (fun hb => ?_) (fun hb => ?_) <;> (try subst hb) <;> cbv))))
      (refine callq (g1) rfl rfl ?_; cbv; (repeat' (first
    | (refine q1 (by first | exact trivial | omega | (dsimp only; omega) | exact pow62 _ (by omega) | exact mul9 (by omega) (by omega) | (simp only [sm] at *; omega)) (fun z hz => ?_); (try simp only at hz); cbv)
    | (refine rq (by first | exact trivial | omega | (dsimp only; omega) | (simp only [sm] at *; omega)) ?_; cbv)
    | (refine QC.tt (by first | omega | (dsimp only; omega) | exact rfl | (simp only [sm] at *; omega)) ?_; cbv)
    | (refine QC.tt ?_ ?_; (focus (simp only [decide_true, Bool.and_true, Bool.and_self] <;> fail)); cbv)
    | (refine QC.ff ?_ ?_; (focus (simp only [decide_true, Bool.and_true, Bool.and_self, decide_false, Bool.false_and, reduceCtorEq, not_false_eq_true] <;> fail)); cbv)
    | (refine QC.ff (by first | omega | (dsimp only; omega) | (simp only [sm] at *; omega)) ?_; cbv)
    | (refine QC.mk (fun hc => ?_) (fun hc => ?_) <;> (try dsimp only at hc) <;> cbv)
    | (refine br_mk2 (fun hb => ?_) (fun hb => ?_) <;> (try subst hb) <;> cbv))))
      refine qv i ⟨hj, by show i < O.ln (H i); rw [oln]; omega⟩ ?_
      cbv
      (repeat' (first
    | (refine q1 (by first | exact trivial | omega | (dsimp only; omega) | exact pow62 _ (by omega) | exact mul9 (by omega) (by omega) | (simp only [sm] at *; omega)) (fun z hz => ?_); (try simp only at hz); cbv)
    | (refine rq (by first | exact trivial | omega | (dsimp only; omega) | (simp only [sm] at *; omega)) ?_; cbv)
    | (refine QC.tt (by first | omega | (dsimp only; omega) | exact rfl | (simp only [sm] at *; omega)) ?_; cbv)
    | (refine QC.tt ?_ ?_; (focus (simp only [decide_true, Bool.and_true, Bool.and_self] <;> fail)); cbv)
    | (refine QC.ff ?_ ?_; (focus (simp only [decide_true, Bool.and_true, Bool.and_self, decide_false, Bool.false_and, reduceCtorEq, not_false_eq_true] <;> fail)); cbv)
    | (refine QC.ff (by first | omega | (dsimp only; omega) | (simp only [sm] at *; omega)) ?_; cbv)
    | (refine QC.mk (fun hc => ?_) (fun hc => ?_) <;> (try dsimp only at hc) <;> cbv)
    | (refine br_mk2 (fun hb => ?_) (fun hb => ?_) <;> (try subst hb) <;> cbv)))
      refine ⟨(i + 1, z), ⟨by show z = ((i + 1 : Nat) : Int); (first | omega | (simp only [cst] at *; omega) | (simp only [sm] at *; omega)), by show i + 1 ≤ ps.length; omega⟩, by show ps.length - (i + 1) < ps.length - i; omega, ?_⟩
      cbv
      refine ⟨?_, trivial⟩
      show Blk.row none 26 (O.st (H i) i (.lst none B)) = .row none 26 (H (i + 1))
      rw [ost, hs]
    · have e : i = ps.length := by (first | omega | (simp only [cst] at *; omega) | (simp only [sm] at *; omega))
      refine ⟨rfl, ?_, rfl⟩
      show Blk.row none 26 (H i) = _
      rw [e, ← hRl, hHn]
theorem copiedRow_c (ps : List (List UInt8)) (R : List SV) (hR : R = rowsB ps) (hn : ps.length ≤ 5864062014805) (hb : ∀ p ∈ ps, p.length ≤ 140737488351232) : Good 55 (nu [.lst none R] (.row 1) (.row none 26 R)) := by
  have hRl : R.length = ps.length := by rw [hR, rowsB_len]
  have hE := fun i hi => rowsB_at hR i hi
  obtain ⟨H, hH⟩ : ∃ H : Nat → List SV, ∀ i, H i = R.take i := ⟨_, fun _ => rfl⟩
  have hH0 : [] = H 0 := by rw [hH]; simp
  have hHl : ∀ i, i ≤ R.length → (H i).length = i := fun i hi => by rw [hH]; simp; omega
  have hHs : ∀ i y, R[i]? = some y → H i ++ [y] = H (i + 1) := fun i y hy => by
    obtain ⟨h1, h2⟩ := List.getElem?_eq_some_iff.1 hy
    rw [hH, hH, ← h2, List.take_append_getElem h1]
  have hHn : H R.length = R := by rw [hH]; simp
  clear hH
  refine Good.of Try.func55 rfl (by rfl) (by kernel_rfl) ?_
  cbv
  (repeat' (first
    | (refine q1 (by first | exact trivial | omega | (dsimp only; omega) | exact pow62 _ (by omega) | exact mul9 (by omega) (by omega) | (simp only [sm] at *; omega)) (fun z hz => ?_); (try simp only at hz); cbv)
    | (refine rq (by first | exact trivial | omega | (dsimp only; omega) | (simp only [sm] at *; omega)) ?_; cbv)
    | (refine QC.tt (by first | omega | (dsimp only; omega) | exact rfl | (simp only [sm] at *; omega)) ?_; cbv)
    | (refine QC.tt ?_ ?_; (focus (simp only [decide_true, Bool.and_true, Bool.and_self] <;> fail)); cbv)
    | (refine QC.ff ?_ ?_; (focus (simp only [decide_true, Bool.and_true, Bool.and_self, decide_false, Bool.false_and, reduceCtorEq, not_false_eq_true] <;> fail)); cbv)
    | (refine QC.ff (by first | omega | (dsimp only; omega) | (simp only [sm] at *; omega)) ?_; cbv)
    | (refine QC.mk (fun hc => ?_) (fun hc => ?_) <;> (try dsimp only at hc) <;> cbv)
    | (refine br_mk2 (fun hb => ?_) (fun hb => ?_) <;> (try subst hb) <;> cbv)))
  refine loopQ (A := Nat × Int) (fun p => p.2 = p.1 ∧ p.1 ≤ ps.length) (fun p => ps.length - p.1) (fun p => [(4, .int .i64 p.2), (3, .row 3)]) (fun p => [(3, .row none 26 (H p.1))]) (0, 0) ⟨rfl, Nat.zero_le _⟩ ?_ ?_
  · cbv
    refine ⟨?_, trivial⟩
    show Blk.row none 26 [] = .row none 26 (H 0)
    rw [← hH0]
  · intro ⟨i, j⟩ hi0
    have hj : j = (i : Int) := hi0.1
    have hi : i ≤ ps.length := hi0.2
    clear hi0
    have hmk : True := trivial
    have hli := hHl i (by omega)
    cbv
    (repeat' (first
    | (refine q1 (by first | exact trivial | omega | (dsimp only; omega) | exact pow62 _ (by omega) | exact mul9 (by omega) (by omega) | (simp only [sm] at *; omega)) (fun z hz => ?_); (try simp only at hz); cbv)
    | (refine rq (by first | exact trivial | omega | (dsimp only; omega) | (simp only [sm] at *; omega)) ?_; cbv)
    | (refine QC.tt (by first | omega | (dsimp only; omega) | exact rfl | (simp only [sm] at *; omega)) ?_; cbv)
    | (refine QC.tt ?_ ?_; (focus (simp only [decide_true, Bool.and_true, Bool.and_self] <;> fail)); cbv)
    | (refine QC.ff ?_ ?_; (focus (simp only [decide_true, Bool.and_true, Bool.and_self, decide_false, Bool.false_and, reduceCtorEq, not_false_eq_true] <;> fail)); cbv)
    | (refine QC.ff (by first | omega | (dsimp only; omega) | (simp only [sm] at *; omega)) ?_; cbv)
    | (refine QC.mk (fun hc => ?_) (fun hc => ?_) <;> (try dsimp only at hc) <;> cbv)
    | (refine br_mk2 (fun hb => ?_) (fun hb => ?_) <;> (try subst hb) <;> cbv)))
    · have hlt : i < ps.length := by (first | omega | (simp only [cst] at *; omega) | (simp only [sm] at *; omega))
      obtain ⟨b, B, hbi, hB, hEi⟩ := hE i hlt
      have hbl := hb b (List.mem_of_getElem? hbi)
      have hBl : B.length = b.length := by rw [hB, u8l_len]
      have hs := hHs i _ hEi
      (refine qv (i, _) ⟨hj, hEi⟩ ?_; cbv; (repeat' (first
    | (refine q1 (by first | exact trivial | omega | (dsimp only; omega) | exact pow62 _ (by omega) | exact mul9 (by omega) (by omega) | (simp only [sm] at *; omega)) (fun z hz => ?_); (try simp only at hz); cbv)
    | (refine rq (by first | exact trivial | omega | (dsimp only; omega) | (simp only [sm] at *; omega)) ?_; cbv)
    | (refine QC.tt (by first | omega | (dsimp only; omega) | exact rfl | (simp only [sm] at *; omega)) ?_; cbv)
    | (refine QC.tt ?_ ?_; (focus (simp only [decide_true, Bool.and_true, Bool.and_self] <;> fail)); cbv)
    | (refine QC.ff ?_ ?_; (focus (simp only [decide_true, Bool.and_true, Bool.and_self, decide_false, Bool.false_and, reduceCtorEq, not_false_eq_true] <;> fail)); cbv)
    | (refine QC.ff (by first | omega | (dsimp only; omega) | (simp only [sm] at *; omega)) ?_; cbv)
    | (refine QC.mk (fun hc => ?_) (fun hc => ?_) <;> (try dsimp only at hc) <;> cbv)
    | (refine br_mk2 (fun hb => ?_) (fun hb => ?_) <;> (try subst hb) <;> cbv))))
      refine ⟨(i + 1, z), ⟨by show z = ((i + 1 : Nat) : Int); (first | omega | (simp only [cst] at *; omega) | (simp only [sm] at *; omega)), by show i + 1 ≤ ps.length; omega⟩, by show ps.length - (i + 1) < ps.length - i; omega, ?_⟩
      cbv
      refine ⟨?_, trivial⟩
      show Blk.row none 26 (apL (H i) [.lst none B]) = .row none 26 (H (i + 1))
      rw [apL_eq, hs]
    · have e : i = ps.length := by (first | omega | (simp only [cst] at *; omega) | (simp only [sm] at *; omega))
      refine ⟨rfl, ?_, rfl⟩
      show Blk.row none 26 (H i) = _
      rw [e, ← hRl, hHn]
def zeroB (tag cnt : Int) (n : Nat) (hv : Int) (dn : Bool) : Bool := !dn && decide (tag = 0 ∧ cnt = 0 ∧ n = 0 ∧ hv = 0)
theorem zero_c (tag cnt hv : Int) (dn : Bool) (R : List SV) (n : Nat) (hRl : R.length = n) (r : Bool) (hr : r = zeroB tag cnt n hv dn) :
    Good 61 (pu [.agg [.int .u8 tag, .int .i64 cnt, .lst none R, .int .u32 hv, .bool dn]] (.bool r)) := by
  cases dn
  · have hr : r = decide (tag = 0 ∧ cnt = 0 ∧ n = 0 ∧ hv = 0) := hr
    refine Good.of Try.func61 rfl (by rfl) (by kernel_rfl) ?_
    cbv
    (repeat' (first
    | (refine q1 (by first | exact trivial | omega | (dsimp only; omega) | exact pow62 _ (by omega) | exact mul9 (by omega) (by omega) | (simp only [sm] at *; omega)) (fun z hz => ?_); (try simp only at hz); cbv)
    | (refine rq (by first | exact trivial | omega | (dsimp only; omega) | (simp only [sm] at *; omega)) ?_; cbv)
    | (refine QC.tt (by first | omega | (dsimp only; omega) | exact rfl | (simp only [sm] at *; omega)) ?_; cbv)
    | (refine QC.tt ?_ ?_; (focus (simp only [decide_true, Bool.and_true, Bool.and_self] <;> fail)); cbv)
    | (refine QC.ff ?_ ?_; (focus (simp only [decide_true, Bool.and_true, Bool.and_self, decide_false, Bool.false_and, reduceCtorEq, not_false_eq_true] <;> fail)); cbv)
    | (refine QC.ff (by first | omega | (dsimp only; omega) | (simp only [sm] at *; omega)) ?_; cbv)
    | (refine QC.mk (fun hc => ?_) (fun hc => ?_) <;> (try dsimp only at hc) <;> cbv)
    | (refine br_mk2 (fun hb => ?_) (fun hb => ?_) <;> (try subst hb) <;> cbv)))
    all_goals first
      | (refine Fin.mk ?_ rfl rfl
         have : r = true := by rw [hr]; exact decide_eq_true (by (first | omega | (simp only [cst] at *; omega) | (simp only [sm] at *; omega)))
         rw [this]; done)
      | (refine Fin.mk ?_ rfl rfl
         have : r = false := by rw [hr]; exact decide_eq_false (by (first | omega | (simp only [cst] at *; omega) | (simp only [sm] at *; omega)))
         rw [this]; done)
      | skip
  · have hr : r = false := hr
    refine Good.of Try.func61 rfl (by rfl) (by kernel_rfl) ?_
    cbv
    (repeat' (first
    | (refine q1 (by first | exact trivial | omega | (dsimp only; omega) | exact pow62 _ (by omega) | exact mul9 (by omega) (by omega) | (simp only [sm] at *; omega)) (fun z hz => ?_); (try simp only at hz); cbv)
    | (refine rq (by first | exact trivial | omega | (dsimp only; omega) | (simp only [sm] at *; omega)) ?_; cbv)
    | (refine QC.tt (by first | omega | (dsimp only; omega) | exact rfl | (simp only [sm] at *; omega)) ?_; cbv)
    | (refine QC.tt ?_ ?_; (focus (simp only [decide_true, Bool.and_true, Bool.and_self] <;> fail)); cbv)
    | (refine QC.ff ?_ ?_; (focus (simp only [decide_true, Bool.and_true, Bool.and_self, decide_false, Bool.false_and, reduceCtorEq, not_false_eq_true] <;> fail)); cbv)
    | (refine QC.ff (by first | omega | (dsimp only; omega) | (simp only [sm] at *; omega)) ?_; cbv)
    | (refine QC.mk (fun hc => ?_) (fun hc => ?_) <;> (try dsimp only at hc) <;> cbv)
    | (refine br_mk2 (fun hb => ?_) (fun hb => ?_) <;> (try subst hb) <;> cbv)))
    all_goals (refine Fin.mk ?_ rfl rfl; rw [hr])
theorem rzero_c (tag cnt hv : Int) (dn : Bool) (R : List SV) (n : Nat) (hRl : R.length = n) (r : Bool) (hr : r = zeroB tag cnt n hv dn) :
    Good 62 (pu [.agg [.int .u8 tag, .int .i64 cnt, .lst none R, .int .u32 hv, .bool dn]] (.bool r)) := by
  cases dn
  · have hr : r = decide (tag = 0 ∧ cnt = 0 ∧ n = 0 ∧ hv = 0) := hr
    refine Good.of Try.func62 rfl (by rfl) (by kernel_rfl) ?_
    cbv
    (repeat' (first
    | (refine q1 (by first | exact trivial | omega | (dsimp only; omega) | exact pow62 _ (by omega) | exact mul9 (by omega) (by omega) | (simp only [sm] at *; omega)) (fun z hz => ?_); (try simp only at hz); cbv)
    | (refine rq (by first | exact trivial | omega | (dsimp only; omega) | (simp only [sm] at *; omega)) ?_; cbv)
    | (refine QC.tt (by first | omega | (dsimp only; omega) | exact rfl | (simp only [sm] at *; omega)) ?_; cbv)
    | (refine QC.tt ?_ ?_; (focus (simp only [decide_true, Bool.and_true, Bool.and_self] <;> fail)); cbv)
    | (refine QC.ff ?_ ?_; (focus (simp only [decide_true, Bool.and_true, Bool.and_self, decide_false, Bool.false_and, reduceCtorEq, not_false_eq_true] <;> fail)); cbv)
    | (refine QC.ff (by first | omega | (dsimp only; omega) | (simp only [sm] at *; omega)) ?_; cbv)
    | (refine QC.mk (fun hc => ?_) (fun hc => ?_) <;> (try dsimp only at hc) <;> cbv)
    | (refine br_mk2 (fun hb => ?_) (fun hb => ?_) <;> (try subst hb) <;> cbv)))
    all_goals first
      | (refine Fin.mk ?_ rfl rfl
         have : r = true := by rw [hr]; exact decide_eq_true (by (first | omega | (simp only [cst] at *; omega) | (simp only [sm] at *; omega)))
         rw [this]; done)
      | (refine Fin.mk ?_ rfl rfl
         have : r = false := by rw [hr]; exact decide_eq_false (by (first | omega | (simp only [cst] at *; omega) | (simp only [sm] at *; omega)))
         rw [this]; done)
      | skip
  · have hr : r = false := hr
    refine Good.of Try.func62 rfl (by rfl) (by kernel_rfl) ?_
    cbv
    (repeat' (first
    | (refine q1 (by first | exact trivial | omega | (dsimp only; omega) | exact pow62 _ (by omega) | exact mul9 (by omega) (by omega) | (simp only [sm] at *; omega)) (fun z hz => ?_); (try simp only at hz); cbv)
    | (refine rq (by first | exact trivial | omega | (dsimp only; omega) | (simp only [sm] at *; omega)) ?_; cbv)
    | (refine QC.tt (by first | omega | (dsimp only; omega) | exact rfl | (simp only [sm] at *; omega)) ?_; cbv)
    | (refine QC.tt ?_ ?_; (focus (simp only [decide_true, Bool.and_true, Bool.and_self] <;> fail)); cbv)
    | (refine QC.ff ?_ ?_; (focus (simp only [decide_true, Bool.and_true, Bool.and_self, decide_false, Bool.false_and, reduceCtorEq, not_false_eq_true] <;> fail)); cbv)
    | (refine QC.ff (by first | omega | (dsimp only; omega) | (simp only [sm] at *; omega)) ?_; cbv)
    | (refine QC.mk (fun hc => ?_) (fun hc => ?_) <;> (try dsimp only at hc) <;> cbv)
    | (refine br_mk2 (fun hb => ?_) (fun hb => ?_) <;> (try subst hb) <;> cbv)))
    all_goals (refine Fin.mk ?_ rfl rfl; rw [hr])
/-- What a receiver is. -/
def VRc (tag cnt : Int) (ps : List (List UInt8)) (hv : Int) (dn : Bool) : Prop :=
  zeroB tag cnt ps.length hv dn = true ∨ (1 ≤ cnt ∧ cnt ≤ 32 ∧ (ps.length : Int) = cnt ∧ hv ≠ 0 ∧ hv = hasN ps ps.length ∧ (dn = true ↔ hv = allI ps.length))
theorem vreceiver_c (tag cnt hv : Int) (dn : Bool) (ps : List (List UInt8)) (R : List SV) (hR : R = rowsB ps) (hf : Rcv.fits ⟨tag, cnt, ps, hv, dn⟩) (b : Bool) (hb : b = true ↔ VRc tag cnt ps hv dn) :
    Good 36 (pu [.agg [.int .u8 tag, .int .i64 cnt, .lst none R, .int .u32 hv, .bool dn]] (.bool b)) := by
  have hRl : R.length = ps.length := by rw [hR, rowsB_len]
  have hfb := hf.b
  have hcb := hf.cnt
  obtain ⟨r, hr⟩ : ∃ r, r = zeroB tag cnt ps.length hv dn := ⟨_, rfl⟩
  have g0 := zero_c tag cnt hv dn R ps.length hRl r hr
  have g1 : ps.length ≤ 32 → Good 59 (pu [.lst none R] (.int .u32 (hasN ps ps.length))) := fun hn => has_c ps R hR hn hfb _ rfl
  have g2 : ∀ N : Int, N = ps.length → ps.length ≤ 32 → Good 57 (pu [.int .i64 N] (.int .u32 (allI ps.length))) := fun N hN hn => all_c ps.length N _ hN hn rfl
  unfold VRc at hb
  rw [← hr] at hb
  obtain ⟨h, hh⟩ : ∃ h : Int, h = hasN ps ps.length := ⟨_, rfl⟩
  obtain ⟨A, hA⟩ : ∃ A : Int, A = allI ps.length := ⟨_, rfl⟩
  rw [← hh] at g1 hb
  rw [← hA] at g2 hb
  have hbt : r = true → b = true := fun h => hb.2 (.inl h)
  have hbf : r = false → (b = true ↔ 1 ≤ cnt ∧ cnt ≤ 32 ∧ (ps.length : Int) = cnt ∧ hv ≠ 0 ∧ hv = h ∧ (dn = true ↔ hv = A)) := fun h => by rw [hb, h]; simp
  clear hb hr
  have hmk : True := trivial
  cases dn
  · have hbf : r = false → (b = true ↔ 1 ≤ cnt ∧ cnt ≤ 32 ∧ (ps.length : Int) = cnt ∧ hv ≠ 0 ∧ hv = h ∧ ¬ hv = A) := fun e => by have := hbf e; simpa using this
    refine Good.of Try.func36 rfl (by rfl) (by kernel_rfl) ?_
    cbv
    (repeat' (first
    | (refine q1 (by first | exact trivial | omega | (dsimp only; omega) | exact pow62 _ (by omega) | exact mul9 (by omega) (by omega) | (simp only [sm] at *; omega)) (fun z hz => ?_); (try simp only at hz); cbv)
    | (refine rq (by first | exact trivial | omega | (dsimp only; omega) | (simp only [sm] at *; omega)) ?_; cbv)
    | (refine QC.tt (by first | omega | (dsimp only; omega) | exact rfl | (simp only [sm] at *; omega)) ?_; cbv)
    | (refine QC.tt ?_ ?_; (focus (simp only [decide_true, Bool.and_true, Bool.and_self] <;> fail)); cbv)
    | (refine QC.ff ?_ ?_; (focus (simp only [decide_true, Bool.and_true, Bool.and_self, decide_false, Bool.false_and, reduceCtorEq, not_false_eq_true] <;> fail)); cbv)
    | (refine QC.ff (by first | omega | (dsimp only; omega) | (simp only [sm] at *; omega)) ?_; cbv)
    | (refine QC.mk (fun hc => ?_) (fun hc => ?_) <;> (try dsimp only at hc) <;> cbv)
    | (refine br_mk2 (fun hb => ?_) (fun hb => ?_) <;> (try subst hb) <;> cbv)))
    (refine callq (g0) rfl rfl ?_; cbv; (repeat' (first
    | (refine q1 (by first | exact trivial | omega | (dsimp only; omega) | exact pow62 _ (by omega) | exact mul9 (by omega) (by omega) | (simp only [sm] at *; omega)) (fun z hz => ?_); (try simp only at hz); cbv)
    | (refine rq (by first | exact trivial | omega | (dsimp only; omega) | (simp only [sm] at *; omega)) ?_; cbv)
    | (refine QC.tt (by first | omega | (dsimp only; omega) | exact rfl | (simp only [sm] at *; omega)) ?_; cbv)
    | (refine QC.tt ?_ ?_; (focus (simp only [decide_true, Bool.and_true, Bool.and_self] <;> fail)); cbv)
    | (refine QC.ff ?_ ?_; (focus (simp only [decide_true, Bool.and_true, Bool.and_self, decide_false, Bool.false_and, reduceCtorEq, not_false_eq_true] <;> fail)); cbv)
    | (refine QC.ff (by first | omega | (dsimp only; omega) | (simp only [sm] at *; omega)) ?_; cbv)
    | (refine QC.mk (fun hc => ?_) (fun hc => ?_) <;> (try dsimp only at hc) <;> cbv)
    | (refine br_mk2 (fun hb => ?_) (fun hb => ?_) <;> (try subst hb) <;> cbv))))
    · refine Fin.mk ?_ rfl rfl
      rw [hbt rfl]
    all_goals first
      | (refine Fin.mk ?_ rfl rfl
         have : b = true := (hbf rfl).2 (by (first | omega | (simp only [cst] at *; omega) | (simp only [sm] at *; omega)))
         rw [this]; done)
      | (refine Fin.mk ?_ rfl rfl
         have : b = false := by
           cases hb0 : b
           · rfl
           · exfalso
             have hq := (hbf rfl).1 hb0
             clear hbf
             (first | omega | (simp only [cst] at *; omega) | (simp only [sm] at *; omega))
         rw [this]; done)
      | skip
    have hn : ps.length ≤ 32 := by (first | omega | (simp only [cst] at *; omega) | (simp only [sm] at *; omega))
    have g1 := g1 hn
    (refine callq (g1) rfl rfl ?_; cbv; (repeat' (first
    | (refine q1 (by first | exact trivial | omega | (dsimp only; omega) | exact pow62 _ (by omega) | exact mul9 (by omega) (by omega) | (simp only [sm] at *; omega)) (fun z hz => ?_); (try simp only at hz); cbv)
    | (refine rq (by first | exact trivial | omega | (dsimp only; omega) | (simp only [sm] at *; omega)) ?_; cbv)
    | (refine QC.tt (by first | omega | (dsimp only; omega) | exact rfl | (simp only [sm] at *; omega)) ?_; cbv)
    | (refine QC.tt ?_ ?_; (focus (simp only [decide_true, Bool.and_true, Bool.and_self] <;> fail)); cbv)
    | (refine QC.ff ?_ ?_; (focus (simp only [decide_true, Bool.and_true, Bool.and_self, decide_false, Bool.false_and, reduceCtorEq, not_false_eq_true] <;> fail)); cbv)
    | (refine QC.ff (by first | omega | (dsimp only; omega) | (simp only [sm] at *; omega)) ?_; cbv)
    | (refine QC.mk (fun hc => ?_) (fun hc => ?_) <;> (try dsimp only at hc) <;> cbv)
    | (refine br_mk2 (fun hb => ?_) (fun hb => ?_) <;> (try subst hb) <;> cbv))))
    all_goals first
      | (refine Fin.mk ?_ rfl rfl
         have : b = true := (hbf rfl).2 (by (first | omega | (simp only [cst] at *; omega) | (simp only [sm] at *; omega)))
         rw [this]; done)
      | (refine Fin.mk ?_ rfl rfl
         have : b = false := by
           cases hb0 : b
           · rfl
           · exfalso
             have hq := (hbf rfl).1 hb0
             clear hbf
             (first | omega | (simp only [cst] at *; omega) | (simp only [sm] at *; omega))
         rw [this]; done)
      | skip
    have g2 := g2 cnt (by (first | omega | (simp only [cst] at *; omega) | (simp only [sm] at *; omega))) hn
    (refine callq (g2) rfl rfl ?_; cbv; (repeat' (first
    | (refine q1 (by first | exact trivial | omega | (dsimp only; omega) | exact pow62 _ (by omega) | exact mul9 (by omega) (by omega) | (simp only [sm] at *; omega)) (fun z hz => ?_); (try simp only at hz); cbv)
    | (refine rq (by first | exact trivial | omega | (dsimp only; omega) | (simp only [sm] at *; omega)) ?_; cbv)
    | (refine QC.tt (by first | omega | (dsimp only; omega) | exact rfl | (simp only [sm] at *; omega)) ?_; cbv)
    | (refine QC.tt ?_ ?_; (focus (simp only [decide_true, Bool.and_true, Bool.and_self] <;> fail)); cbv)
    | (refine QC.ff ?_ ?_; (focus (simp only [decide_true, Bool.and_true, Bool.and_self, decide_false, Bool.false_and, reduceCtorEq, not_false_eq_true] <;> fail)); cbv)
    | (refine QC.ff (by first | omega | (dsimp only; omega) | (simp only [sm] at *; omega)) ?_; cbv)
    | (refine QC.mk (fun hc => ?_) (fun hc => ?_) <;> (try dsimp only at hc) <;> cbv)
    | (refine br_mk2 (fun hb => ?_) (fun hb => ?_) <;> (try subst hb) <;> cbv))))
    all_goals first
      | (refine Fin.mk ?_ rfl rfl
         have : b = true := (hbf rfl).2 (by (first | omega | (simp only [cst] at *; omega) | (simp only [sm] at *; omega)))
         rw [this]; done)
      | (refine Fin.mk ?_ rfl rfl
         have : b = false := by
           cases hb0 : b
           · rfl
           · exfalso
             have hq := (hbf rfl).1 hb0
             clear hbf
             (first | omega | (simp only [cst] at *; omega) | (simp only [sm] at *; omega))
         rw [this]; done)
      | skip
  · have hbf : r = false → (b = true ↔ 1 ≤ cnt ∧ cnt ≤ 32 ∧ (ps.length : Int) = cnt ∧ hv ≠ 0 ∧ hv = h ∧ hv = A) := fun e => by have := hbf e; simpa using this
    refine Good.of Try.func36 rfl (by rfl) (by kernel_rfl) ?_
    cbv
    (repeat' (first
    | (refine q1 (by first | exact trivial | omega | (dsimp only; omega) | exact pow62 _ (by omega) | exact mul9 (by omega) (by omega) | (simp only [sm] at *; omega)) (fun z hz => ?_); (try simp only at hz); cbv)
    | (refine rq (by first | exact trivial | omega | (dsimp only; omega) | (simp only [sm] at *; omega)) ?_; cbv)
    | (refine QC.tt (by first | omega | (dsimp only; omega) | exact rfl | (simp only [sm] at *; omega)) ?_; cbv)
    | (refine QC.tt ?_ ?_; (focus (simp only [decide_true, Bool.and_true, Bool.and_self] <;> fail)); cbv)
    | (refine QC.ff ?_ ?_; (focus (simp only [decide_true, Bool.and_true, Bool.and_self, decide_false, Bool.false_and, reduceCtorEq, not_false_eq_true] <;> fail)); cbv)
    | (refine QC.ff (by first | omega | (dsimp only; omega) | (simp only [sm] at *; omega)) ?_; cbv)
    | (refine QC.mk (fun hc => ?_) (fun hc => ?_) <;> (try dsimp only at hc) <;> cbv)
    | (refine br_mk2 (fun hb => ?_) (fun hb => ?_) <;> (try subst hb) <;> cbv)))
    (refine callq (g0) rfl rfl ?_; cbv; (repeat' (first
    | (refine q1 (by first | exact trivial | omega | (dsimp only; omega) | exact pow62 _ (by omega) | exact mul9 (by omega) (by omega) | (simp only [sm] at *; omega)) (fun z hz => ?_); (try simp only at hz); cbv)
    | (refine rq (by first | exact trivial | omega | (dsimp only; omega) | (simp only [sm] at *; omega)) ?_; cbv)
    | (refine QC.tt (by first | omega | (dsimp only; omega) | exact rfl | (simp only [sm] at *; omega)) ?_; cbv)
    | (refine QC.tt ?_ ?_; (focus (simp only [decide_true, Bool.and_true, Bool.and_self] <;> fail)); cbv)
    | (refine QC.ff ?_ ?_; (focus (simp only [decide_true, Bool.and_true, Bool.and_self, decide_false, Bool.false_and, reduceCtorEq, not_false_eq_true] <;> fail)); cbv)
    | (refine QC.ff (by first | omega | (dsimp only; omega) | (simp only [sm] at *; omega)) ?_; cbv)
    | (refine QC.mk (fun hc => ?_) (fun hc => ?_) <;> (try dsimp only at hc) <;> cbv)
    | (refine br_mk2 (fun hb => ?_) (fun hb => ?_) <;> (try subst hb) <;> cbv))))
    · refine Fin.mk ?_ rfl rfl
      rw [hbt rfl]
    all_goals first
      | (refine Fin.mk ?_ rfl rfl
         have : b = true := (hbf rfl).2 (by (first | omega | (simp only [cst] at *; omega) | (simp only [sm] at *; omega)))
         rw [this]; done)
      | (refine Fin.mk ?_ rfl rfl
         have : b = false := by
           cases hb0 : b
           · rfl
           · exfalso
             have hq := (hbf rfl).1 hb0
             clear hbf
             (first | omega | (simp only [cst] at *; omega) | (simp only [sm] at *; omega))
         rw [this]; done)
      | skip
    have hn : ps.length ≤ 32 := by (first | omega | (simp only [cst] at *; omega) | (simp only [sm] at *; omega))
    have g1 := g1 hn
    (refine callq (g1) rfl rfl ?_; cbv; (repeat' (first
    | (refine q1 (by first | exact trivial | omega | (dsimp only; omega) | exact pow62 _ (by omega) | exact mul9 (by omega) (by omega) | (simp only [sm] at *; omega)) (fun z hz => ?_); (try simp only at hz); cbv)
    | (refine rq (by first | exact trivial | omega | (dsimp only; omega) | (simp only [sm] at *; omega)) ?_; cbv)
    | (refine QC.tt (by first | omega | (dsimp only; omega) | exact rfl | (simp only [sm] at *; omega)) ?_; cbv)
    | (refine QC.tt ?_ ?_; (focus (simp only [decide_true, Bool.and_true, Bool.and_self] <;> fail)); cbv)
    | (refine QC.ff ?_ ?_; (focus (simp only [decide_true, Bool.and_true, Bool.and_self, decide_false, Bool.false_and, reduceCtorEq, not_false_eq_true] <;> fail)); cbv)
    | (refine QC.ff (by first | omega | (dsimp only; omega) | (simp only [sm] at *; omega)) ?_; cbv)
    | (refine QC.mk (fun hc => ?_) (fun hc => ?_) <;> (try dsimp only at hc) <;> cbv)
    | (refine br_mk2 (fun hb => ?_) (fun hb => ?_) <;> (try subst hb) <;> cbv))))
    all_goals first
      | (refine Fin.mk ?_ rfl rfl
         have : b = true := (hbf rfl).2 (by (first | omega | (simp only [cst] at *; omega) | (simp only [sm] at *; omega)))
         rw [this]; done)
      | (refine Fin.mk ?_ rfl rfl
         have : b = false := by
           cases hb0 : b
           · rfl
           · exfalso
             have hq := (hbf rfl).1 hb0
             clear hbf
             (first | omega | (simp only [cst] at *; omega) | (simp only [sm] at *; omega))
         rw [this]; done)
      | skip
    have g2 := g2 cnt (by (first | omega | (simp only [cst] at *; omega) | (simp only [sm] at *; omega))) hn
    (refine callq (g2) rfl rfl ?_; cbv; (repeat' (first
    | (refine q1 (by first | exact trivial | omega | (dsimp only; omega) | exact pow62 _ (by omega) | exact mul9 (by omega) (by omega) | (simp only [sm] at *; omega)) (fun z hz => ?_); (try simp only at hz); cbv)
    | (refine rq (by first | exact trivial | omega | (dsimp only; omega) | (simp only [sm] at *; omega)) ?_; cbv)
    | (refine QC.tt (by first | omega | (dsimp only; omega) | exact rfl | (simp only [sm] at *; omega)) ?_; cbv)
    | (refine QC.tt ?_ ?_; (focus (simp only [decide_true, Bool.and_true, Bool.and_self] <;> fail)); cbv)
    | (refine QC.ff ?_ ?_; (focus (simp only [decide_true, Bool.and_true, Bool.and_self, decide_false, Bool.false_and, reduceCtorEq, not_false_eq_true] <;> fail)); cbv)
    | (refine QC.ff (by first | omega | (dsimp only; omega) | (simp only [sm] at *; omega)) ?_; cbv)
    | (refine QC.mk (fun hc => ?_) (fun hc => ?_) <;> (try dsimp only at hc) <;> cbv)
    | (refine br_mk2 (fun hb => ?_) (fun hb => ?_) <;> (try subst hb) <;> cbv))))
    all_goals first
      | (refine Fin.mk ?_ rfl rfl
         have : b = true := (hbf rfl).2 (by (first | omega | (simp only [cst] at *; omega) | (simp only [sm] at *; omega)))
         rw [this]; done)
      | (refine Fin.mk ?_ rfl rfl
         have : b = false := by
           cases hb0 : b
           · rfl
           · exfalso
             have hq := (hbf rfl).1 hb0
             clear hbf
             (first | omega | (simp only [cst] at *; omega) | (simp only [sm] at *; omega))
         rw [this]; done)
      | skip
theorem rvreceiver_c (tag cnt hv : Int) (dn : Bool) (ps : List (List UInt8)) (R : List SV) (hR : R = rowsB ps) (hf : Rcv.fits ⟨tag, cnt, ps, hv, dn⟩) (b : Bool) (hb : b = true ↔ VRc tag cnt ps hv dn) :
    Good 37 (pu [.agg [.int .u8 tag, .int .i64 cnt, .lst none R, .int .u32 hv, .bool dn]] (.bool b)) := by
  have hRl : R.length = ps.length := by rw [hR, rowsB_len]
  have hfb := hf.b
  have hcb := hf.cnt
  obtain ⟨r, hr⟩ : ∃ r, r = zeroB tag cnt ps.length hv dn := ⟨_, rfl⟩
  have g0 := rzero_c tag cnt hv dn R ps.length hRl r hr
  have hE := fun i hi => rowsB_at hR i hi
  obtain ⟨H, hH⟩ : ∃ H : Nat → Int, ∀ i, H i = hasN ps i := ⟨_, fun _ => rfl⟩
  have hHb : ∀ i, i ≤ 32 → 0 ≤ H i ∧ H i ≤ 4294967295 := fun i hi => by
    have h1 := bm_lt (fun i => decide (0 < (ps.getD i []).length)) i
    have h2 : (2 : Nat) ^ i ≤ 2 ^ 32 := Nat.pow_le_pow_right (by omega) hi
    rw [hH, hasN]
    omega
  have hHs : ∀ i b, ps[i]? = some b → (0 < b.length → (((H i).toNat ||| (2 ^ i : Nat) : Nat) : Int) = H (i + 1)) ∧ (¬ 0 < b.length → H i = H (i + 1)) := fun i b hib => by
    have hg : ps.getD i [] = b := by rw [List.getD_eq_getElem?_getD, hib]; rfl
    refine ⟨fun hp => ?_, fun hp => ?_⟩
    · rw [hH, hH, hasN, hasN, Int.toNat_natCast, bm_or _ _ (by rw [hg]; simpa using hp)]
    · rw [hH, hH, hasN, hasN, bm, if_neg (by rw [hg]; simpa using hp), Nat.add_zero]
  have hH0 : (0 : Int) = H 0 := by rw [hH]; rfl
  have g2 : ∀ N : Int, N = ps.length → ps.length ≤ 32 → Good 58 (pu [.int .i64 N] (.int .u32 (allI ps.length))) := fun N hN hn => rall_c ps.length N _ hN hn rfl
  unfold VRc at hb
  rw [← hr] at hb
  obtain ⟨h, hh⟩ : ∃ h : Int, h = hasN ps ps.length := ⟨_, rfl⟩
  obtain ⟨A, hA⟩ : ∃ A : Int, A = allI ps.length := ⟨_, rfl⟩
  rw [← hh] at hb
  rw [← hH] at hh
  clear hH
  rw [← hA] at g2 hb
  have hbt : r = true → b = true := fun h => hb.2 (.inl h)
  have hbf : r = false → (b = true ↔ 1 ≤ cnt ∧ cnt ≤ 32 ∧ (ps.length : Int) = cnt ∧ hv ≠ 0 ∧ hv = h ∧ (dn = true ↔ hv = A)) := fun h => by rw [hb, h]; simp
  clear hb hr
  cases dn
  · have hbf : r = false → (b = true ↔ 1 ≤ cnt ∧ cnt ≤ 32 ∧ (ps.length : Int) = cnt ∧ hv ≠ 0 ∧ hv = h ∧ ¬ hv = A) := fun e => by have := hbf e; simpa using this
    skip
    refine Good.of Try.func37 rfl (by rfl) (by kernel_rfl) ?_
    cbv
    (repeat' (first
    | (refine q1 (by first | exact trivial | omega | (dsimp only; omega) | exact pow62 _ (by omega) | exact mul9 (by omega) (by omega) | (simp only [sm] at *; omega)) (fun z hz => ?_); (try simp only at hz); cbv)
    | (refine rq (by first | exact trivial | omega | (dsimp only; omega) | (simp only [sm] at *; omega)) ?_; cbv)
    | (refine QC.tt (by first | omega | (dsimp only; omega) | exact rfl | (simp only [sm] at *; omega)) ?_; cbv)
    | (refine QC.tt ?_ ?_; (focus (simp only [decide_true, Bool.and_true, Bool.and_self] <;> fail)); cbv)
    | (refine QC.ff ?_ ?_; (focus (simp only [decide_true, Bool.and_true, Bool.and_self, decide_false, Bool.false_and, reduceCtorEq, not_false_eq_true] <;> fail)); cbv)
    | (refine QC.ff (by first | omega | (dsimp only; omega) | (simp only [sm] at *; omega)) ?_; cbv)
    | (refine QC.mk (fun hc => ?_) (fun hc => ?_) <;> (try dsimp only at hc) <;> cbv)
    | (refine br_mk2 (fun hb => ?_) (fun hb => ?_) <;> (try subst hb) <;> cbv)))
    (refine callq (g0) rfl rfl ?_; cbv; (repeat' (first
    | (refine q1 (by first | exact trivial | omega | (dsimp only; omega) | exact pow62 _ (by omega) | exact mul9 (by omega) (by omega) | (simp only [sm] at *; omega)) (fun z hz => ?_); (try simp only at hz); cbv)
    | (refine rq (by first | exact trivial | omega | (dsimp only; omega) | (simp only [sm] at *; omega)) ?_; cbv)
    | (refine QC.tt (by first | omega | (dsimp only; omega) | exact rfl | (simp only [sm] at *; omega)) ?_; cbv)
    | (refine QC.tt ?_ ?_; (focus (simp only [decide_true, Bool.and_true, Bool.and_self] <;> fail)); cbv)
    | (refine QC.ff ?_ ?_; (focus (simp only [decide_true, Bool.and_true, Bool.and_self, decide_false, Bool.false_and, reduceCtorEq, not_false_eq_true] <;> fail)); cbv)
    | (refine QC.ff (by first | omega | (dsimp only; omega) | (simp only [sm] at *; omega)) ?_; cbv)
    | (refine QC.mk (fun hc => ?_) (fun hc => ?_) <;> (try dsimp only at hc) <;> cbv)
    | (refine br_mk2 (fun hb => ?_) (fun hb => ?_) <;> (try subst hb) <;> cbv))))
    · refine Fin.mk ?_ rfl rfl
      rw [hbt rfl]
    all_goals first
      | (refine Fin.mk ?_ rfl rfl
         have : b = true := (hbf rfl).2 (by (first | omega | (simp only [cst] at *; omega) | (simp only [sm] at *; omega)))
         rw [this]; done)
      | (refine Fin.mk ?_ rfl rfl
         have : b = false := by
           cases hb0 : b
           · rfl
           · exfalso
             have hq := (hbf rfl).1 hb0
             clear hbf
             (first | omega | (simp only [cst] at *; omega) | (simp only [sm] at *; omega))
         rw [this]; done)
      | skip
    have hn : ps.length ≤ 32 := by (first | omega | (simp only [cst] at *; omega) | (simp only [sm] at *; omega))
    have hcn : cnt = ps.length := by (first | omega | (simp only [cst] at *; omega) | (simp only [sm] at *; omega))
    have g2 := g2 cnt hcn hn
    refine loopQ (A := Nat × Int × Int) (fun p => p.2.1 = p.1 ∧ p.1 ≤ ps.length ∧ p.2.2 = H p.1) (fun p => ps.length - p.1) (fun p => [(4, .int .i64 p.2.1), (3, .int .u32 p.2.2)]) (fun p => []) (0, 0, 0) ⟨rfl, Nat.zero_le _, hH0⟩ ?_ ?_
    · cbv
    · intro ⟨i, j, x⟩ hi0
      have hj : j = (i : Int) := hi0.1
      have hi : i ≤ ps.length := hi0.2.1
      have hx : x = H i := hi0.2.2
      clear hi0
      have hmk : True := trivial
      have hHi := hHb i (by omega)
      cbv
      (repeat' (first
    | (refine q1 (by first | exact trivial | omega | (dsimp only; omega) | exact pow62 _ (by omega) | exact mul9 (by omega) (by omega) | (simp only [sm] at *; omega)) (fun z hz => ?_); (try simp only at hz); cbv)
    | (refine rq (by first | exact trivial | omega | (dsimp only; omega) | (simp only [sm] at *; omega)) ?_; cbv)
    | (refine QC.tt (by first | omega | (dsimp only; omega) | exact rfl | (simp only [sm] at *; omega)) ?_; cbv)
    | (refine QC.tt ?_ ?_; (focus (simp only [decide_true, Bool.and_true, Bool.and_self] <;> fail)); cbv)
    | (refine QC.ff ?_ ?_; (focus (simp only [decide_true, Bool.and_true, Bool.and_self, decide_false, Bool.false_and, reduceCtorEq, not_false_eq_true] <;> fail)); cbv)
    | (refine QC.ff (by first | omega | (dsimp only; omega) | (simp only [sm] at *; omega)) ?_; cbv)
    | (refine QC.mk (fun hc => ?_) (fun hc => ?_) <;> (try dsimp only at hc) <;> cbv)
    | (refine br_mk2 (fun hb => ?_) (fun hb => ?_) <;> (try subst hb) <;> cbv)))
      · have hlt : i < ps.length := by (first | omega | (simp only [cst] at *; omega) | (simp only [sm] at *; omega))
        obtain ⟨b0, B, hbi, hB, hEi⟩ := hE i hlt
        have hBl : B.length = b0.length := by rw [hB, u8l_len]
        have hs := hHs i b0 hbi
        have hbl := hfb b0 (List.mem_of_getElem? hbi)
        (refine qv (i, _) ⟨hj, hEi⟩ ?_; cbv; (repeat' (first
    | (refine q1 (by first | exact trivial | omega | (dsimp only; omega) | exact pow62 _ (by omega) | exact mul9 (by omega) (by omega) | (simp only [sm] at *; omega)) (fun z hz => ?_); (try simp only at hz); cbv)
    | (refine rq (by first | exact trivial | omega | (dsimp only; omega) | (simp only [sm] at *; omega)) ?_; cbv)
    | (refine QC.tt (by first | omega | (dsimp only; omega) | exact rfl | (simp only [sm] at *; omega)) ?_; cbv)
    | (refine QC.tt ?_ ?_; (focus (simp only [decide_true, Bool.and_true, Bool.and_self] <;> fail)); cbv)
    | (refine QC.ff ?_ ?_; (focus (simp only [decide_true, Bool.and_true, Bool.and_self, decide_false, Bool.false_and, reduceCtorEq, not_false_eq_true] <;> fail)); cbv)
    | (refine QC.ff (by first | omega | (dsimp only; omega) | (simp only [sm] at *; omega)) ?_; cbv)
    | (refine QC.mk (fun hc => ?_) (fun hc => ?_) <;> (try dsimp only at hc) <;> cbv)
    | (refine br_mk2 (fun hb => ?_) (fun hb => ?_) <;> (try subst hb) <;> cbv))))
        · rename_i zj hzj zs hzs zo hzo
          have hp : 0 < b0.length := by (first | omega | (simp only [cst] at *; omega) | (simp only [sm] at *; omega))
          have ej : zj.toNat = i := by (first | omega | (simp only [cst] at *; omega) | (simp only [sm] at *; omega))
          have e2 : (2 : Nat) ^ i < 4294967296 := by
            have : (2 : Nat) ^ i ≤ 2 ^ 31 := Nat.pow_le_pow_right (by omega) (by omega)
            omega
          have e3 : zs = ((2 ^ i : Nat) : Int) := by
            rw [hzs, ej, Int.one_mul]
            have : (2 : Int) ^ i = ((2 ^ i : Nat) : Int) := by simp
            have e5 : ∀ p : Nat, p < 4294967296 → (p : Int) % 4294967296 = p := fun p hp => by omega
            rw [this]
            exact e5 _ e2
          have e4 : zo = H (i + 1) := by
            rw [hzo, hx, e3, Int.toNat_natCast]
            exact hs.1 hp
          refine ⟨(i + 1, z, zo), ⟨by show z = ((i + 1 : Nat) : Int); (first | omega | (simp only [cst] at *; omega) | (simp only [sm] at *; omega)), by show i + 1 ≤ ps.length; omega, e4⟩, by show ps.length - (i + 1) < ps.length - i; omega, ?_⟩
          cbv
        · have hp : ¬ 0 < b0.length := by (first | omega | (simp only [cst] at *; omega) | (simp only [sm] at *; omega))
          refine ⟨(i + 1, z, x), ⟨by show z = ((i + 1 : Nat) : Int); (first | omega | (simp only [cst] at *; omega) | (simp only [sm] at *; omega)), by show i + 1 ≤ ps.length; omega, by show x = H (i + 1); rw [hx]; exact hs.2 hp⟩, by show ps.length - (i + 1) < ps.length - i; omega, ?_⟩
          cbv
      all_goals have e : i = ps.length := by (first | omega | (simp only [cst] at *; omega) | (simp only [sm] at *; omega))
      all_goals have hxh : x = h := by rw [hx, hh, e]
      skip
      all_goals first
        | (refine Fin.mk ?_ rfl rfl
           have : b = true := (hbf rfl).2 (by (first | omega | (simp only [cst] at *; omega) | (simp only [sm] at *; omega)))
           rw [this]; done)
        | (refine Fin.mk ?_ rfl rfl
           have : b = false := by
             cases hb0 : b
             · rfl
             · exfalso
               have hq := (hbf rfl).1 hb0
               clear hbf
               (first | omega | (simp only [cst] at *; omega) | (simp only [sm] at *; omega))
           rw [this]; done)
        | skip
      (refine callq (g2) rfl rfl ?_; cbv; (repeat' (first
    | (refine q1 (by first | exact trivial | omega | (dsimp only; omega) | exact pow62 _ (by omega) | exact mul9 (by omega) (by omega) | (simp only [sm] at *; omega)) (fun z hz => ?_); (try simp only at hz); cbv)
    | (refine rq (by first | exact trivial | omega | (dsimp only; omega) | (simp only [sm] at *; omega)) ?_; cbv)
    | (refine QC.tt (by first | omega | (dsimp only; omega) | exact rfl | (simp only [sm] at *; omega)) ?_; cbv)
    | (refine QC.tt ?_ ?_; (focus (simp only [decide_true, Bool.and_true, Bool.and_self] <;> fail)); cbv)
    | (refine QC.ff ?_ ?_; (focus (simp only [decide_true, Bool.and_true, Bool.and_self, decide_false, Bool.false_and, reduceCtorEq, not_false_eq_true] <;> fail)); cbv)
    | (refine QC.ff (by first | omega | (dsimp only; omega) | (simp only [sm] at *; omega)) ?_; cbv)
    | (refine QC.mk (fun hc => ?_) (fun hc => ?_) <;> (try dsimp only at hc) <;> cbv)
    | (refine br_mk2 (fun hb => ?_) (fun hb => ?_) <;> (try subst hb) <;> cbv))))
      all_goals first
        | (refine Fin.mk ?_ rfl rfl
           have : b = true := (hbf rfl).2 (by (first | omega | (simp only [cst] at *; omega) | (simp only [sm] at *; omega)))
           rw [this]; done)
        | (refine Fin.mk ?_ rfl rfl
           have : b = false := by
             cases hb0 : b
             · rfl
             · exfalso
               have hq := (hbf rfl).1 hb0
               clear hbf
               (first | omega | (simp only [cst] at *; omega) | (simp only [sm] at *; omega))
           rw [this]; done)
        | skip
  · have hbf : r = false → (b = true ↔ 1 ≤ cnt ∧ cnt ≤ 32 ∧ (ps.length : Int) = cnt ∧ hv ≠ 0 ∧ hv = h ∧ hv = A) := fun e => by have := hbf e; simpa using this
    skip
    refine Good.of Try.func37 rfl (by rfl) (by kernel_rfl) ?_
    cbv
    (repeat' (first
    | (refine q1 (by first | exact trivial | omega | (dsimp only; omega) | exact pow62 _ (by omega) | exact mul9 (by omega) (by omega) | (simp only [sm] at *; omega)) (fun z hz => ?_); (try simp only at hz); cbv)
    | (refine rq (by first | exact trivial | omega | (dsimp only; omega) | (simp only [sm] at *; omega)) ?_; cbv)
    | (refine QC.tt (by first | omega | (dsimp only; omega) | exact rfl | (simp only [sm] at *; omega)) ?_; cbv)
    | (refine QC.tt ?_ ?_; (focus (simp only [decide_true, Bool.and_true, Bool.and_self] <;> fail)); cbv)
    | (refine QC.ff ?_ ?_; (focus (simp only [decide_true, Bool.and_true, Bool.and_self, decide_false, Bool.false_and, reduceCtorEq, not_false_eq_true] <;> fail)); cbv)
    | (refine QC.ff (by first | omega | (dsimp only; omega) | (simp only [sm] at *; omega)) ?_; cbv)
    | (refine QC.mk (fun hc => ?_) (fun hc => ?_) <;> (try dsimp only at hc) <;> cbv)
    | (refine br_mk2 (fun hb => ?_) (fun hb => ?_) <;> (try subst hb) <;> cbv)))
    (refine callq (g0) rfl rfl ?_; cbv; (repeat' (first
    | (refine q1 (by first | exact trivial | omega | (dsimp only; omega) | exact pow62 _ (by omega) | exact mul9 (by omega) (by omega) | (simp only [sm] at *; omega)) (fun z hz => ?_); (try simp only at hz); cbv)
    | (refine rq (by first | exact trivial | omega | (dsimp only; omega) | (simp only [sm] at *; omega)) ?_; cbv)
    | (refine QC.tt (by first | omega | (dsimp only; omega) | exact rfl | (simp only [sm] at *; omega)) ?_; cbv)
    | (refine QC.tt ?_ ?_; (focus (simp only [decide_true, Bool.and_true, Bool.and_self] <;> fail)); cbv)
    | (refine QC.ff ?_ ?_; (focus (simp only [decide_true, Bool.and_true, Bool.and_self, decide_false, Bool.false_and, reduceCtorEq, not_false_eq_true] <;> fail)); cbv)
    | (refine QC.ff (by first | omega | (dsimp only; omega) | (simp only [sm] at *; omega)) ?_; cbv)
    | (refine QC.mk (fun hc => ?_) (fun hc => ?_) <;> (try dsimp only at hc) <;> cbv)
    | (refine br_mk2 (fun hb => ?_) (fun hb => ?_) <;> (try subst hb) <;> cbv))))
    · refine Fin.mk ?_ rfl rfl
      rw [hbt rfl]
    all_goals first
      | (refine Fin.mk ?_ rfl rfl
         have : b = true := (hbf rfl).2 (by (first | omega | (simp only [cst] at *; omega) | (simp only [sm] at *; omega)))
         rw [this]; done)
      | (refine Fin.mk ?_ rfl rfl
         have : b = false := by
           cases hb0 : b
           · rfl
           · exfalso
             have hq := (hbf rfl).1 hb0
             clear hbf
             (first | omega | (simp only [cst] at *; omega) | (simp only [sm] at *; omega))
         rw [this]; done)
      | skip
    have hn : ps.length ≤ 32 := by (first | omega | (simp only [cst] at *; omega) | (simp only [sm] at *; omega))
    have hcn : cnt = ps.length := by (first | omega | (simp only [cst] at *; omega) | (simp only [sm] at *; omega))
    have g2 := g2 cnt hcn hn
    refine loopQ (A := Nat × Int × Int) (fun p => p.2.1 = p.1 ∧ p.1 ≤ ps.length ∧ p.2.2 = H p.1) (fun p => ps.length - p.1) (fun p => [(4, .int .i64 p.2.1), (3, .int .u32 p.2.2)]) (fun p => []) (0, 0, 0) ⟨rfl, Nat.zero_le _, hH0⟩ ?_ ?_
    · cbv
    · intro ⟨i, j, x⟩ hi0
      have hj : j = (i : Int) := hi0.1
      have hi : i ≤ ps.length := hi0.2.1
      have hx : x = H i := hi0.2.2
      clear hi0
      have hmk : True := trivial
      have hHi := hHb i (by omega)
      cbv
      (repeat' (first
    | (refine q1 (by first | exact trivial | omega | (dsimp only; omega) | exact pow62 _ (by omega) | exact mul9 (by omega) (by omega) | (simp only [sm] at *; omega)) (fun z hz => ?_); (try simp only at hz); cbv)
    | (refine rq (by first | exact trivial | omega | (dsimp only; omega) | (simp only [sm] at *; omega)) ?_; cbv)
    | (refine QC.tt (by first | omega | (dsimp only; omega) | exact rfl | (simp only [sm] at *; omega)) ?_; cbv)
    | (refine QC.tt ?_ ?_; (focus (simp only [decide_true, Bool.and_true, Bool.and_self] <;> fail)); cbv)
    | (refine QC.ff ?_ ?_; (focus (simp only [decide_true, Bool.and_true, Bool.and_self, decide_false, Bool.false_and, reduceCtorEq, not_false_eq_true] <;> fail)); cbv)
    | (refine QC.ff (by first | omega | (dsimp only; omega) | (simp only [sm] at *; omega)) ?_; cbv)
    | (refine QC.mk (fun hc => ?_) (fun hc => ?_) <;> (try dsimp only at hc) <;> cbv)
    | (refine br_mk2 (fun hb => ?_) (fun hb => ?_) <;> (try subst hb) <;> cbv)))
      · have hlt : i < ps.length := by (first | omega | (simp only [cst] at *; omega) | (simp only [sm] at *; omega))
        obtain ⟨b0, B, hbi, hB, hEi⟩ := hE i hlt
        have hBl : B.length = b0.length := by rw [hB, u8l_len]
        have hs := hHs i b0 hbi
        have hbl := hfb b0 (List.mem_of_getElem? hbi)
        (refine qv (i, _) ⟨hj, hEi⟩ ?_; cbv; (repeat' (first
    | (refine q1 (by first | exact trivial | omega | (dsimp only; omega) | exact pow62 _ (by omega) | exact mul9 (by omega) (by omega) | (simp only [sm] at *; omega)) (fun z hz => ?_); (try simp only at hz); cbv)
    | (refine rq (by first | exact trivial | omega | (dsimp only; omega) | (simp only [sm] at *; omega)) ?_; cbv)
    | (refine QC.tt (by first | omega | (dsimp only; omega) | exact rfl | (simp only [sm] at *; omega)) ?_; cbv)
    | (refine QC.tt ?_ ?_; (focus (simp only [decide_true, Bool.and_true, Bool.and_self] <;> fail)); cbv)
    | (refine QC.ff ?_ ?_; (focus (simp only [decide_true, Bool.and_true, Bool.and_self, decide_false, Bool.false_and, reduceCtorEq, not_false_eq_true] <;> fail)); cbv)
    | (refine QC.ff (by first | omega | (dsimp only; omega) | (simp only [sm] at *; omega)) ?_; cbv)
    | (refine QC.mk (fun hc => ?_) (fun hc => ?_) <;> (try dsimp only at hc) <;> cbv)
    | (refine br_mk2 (fun hb => ?_) (fun hb => ?_) <;> (try subst hb) <;> cbv))))
        · rename_i zj hzj zs hzs zo hzo
          have hp : 0 < b0.length := by (first | omega | (simp only [cst] at *; omega) | (simp only [sm] at *; omega))
          have ej : zj.toNat = i := by (first | omega | (simp only [cst] at *; omega) | (simp only [sm] at *; omega))
          have e2 : (2 : Nat) ^ i < 4294967296 := by
            have : (2 : Nat) ^ i ≤ 2 ^ 31 := Nat.pow_le_pow_right (by omega) (by omega)
            omega
          have e3 : zs = ((2 ^ i : Nat) : Int) := by
            rw [hzs, ej, Int.one_mul]
            have : (2 : Int) ^ i = ((2 ^ i : Nat) : Int) := by simp
            have e5 : ∀ p : Nat, p < 4294967296 → (p : Int) % 4294967296 = p := fun p hp => by omega
            rw [this]
            exact e5 _ e2
          have e4 : zo = H (i + 1) := by
            rw [hzo, hx, e3, Int.toNat_natCast]
            exact hs.1 hp
          refine ⟨(i + 1, z, zo), ⟨by show z = ((i + 1 : Nat) : Int); (first | omega | (simp only [cst] at *; omega) | (simp only [sm] at *; omega)), by show i + 1 ≤ ps.length; omega, e4⟩, by show ps.length - (i + 1) < ps.length - i; omega, ?_⟩
          cbv
        · have hp : ¬ 0 < b0.length := by (first | omega | (simp only [cst] at *; omega) | (simp only [sm] at *; omega))
          refine ⟨(i + 1, z, x), ⟨by show z = ((i + 1 : Nat) : Int); (first | omega | (simp only [cst] at *; omega) | (simp only [sm] at *; omega)), by show i + 1 ≤ ps.length; omega, by show x = H (i + 1); rw [hx]; exact hs.2 hp⟩, by show ps.length - (i + 1) < ps.length - i; omega, ?_⟩
          cbv
      all_goals have e : i = ps.length := by (first | omega | (simp only [cst] at *; omega) | (simp only [sm] at *; omega))
      all_goals have hxh : x = h := by rw [hx, hh, e]
      skip
      all_goals first
        | (refine Fin.mk ?_ rfl rfl
           have : b = true := (hbf rfl).2 (by (first | omega | (simp only [cst] at *; omega) | (simp only [sm] at *; omega)))
           rw [this]; done)
        | (refine Fin.mk ?_ rfl rfl
           have : b = false := by
             cases hb0 : b
             · rfl
             · exfalso
               have hq := (hbf rfl).1 hb0
               clear hbf
               (first | omega | (simp only [cst] at *; omega) | (simp only [sm] at *; omega))
           rw [this]; done)
        | skip
      (refine callq (g2) rfl rfl ?_; cbv; (repeat' (first
    | (refine q1 (by first | exact trivial | omega | (dsimp only; omega) | exact pow62 _ (by omega) | exact mul9 (by omega) (by omega) | (simp only [sm] at *; omega)) (fun z hz => ?_); (try simp only at hz); cbv)
    | (refine rq (by first | exact trivial | omega | (dsimp only; omega) | (simp only [sm] at *; omega)) ?_; cbv)
    | (refine QC.tt (by first | omega | (dsimp only; omega) | exact rfl | (simp only [sm] at *; omega)) ?_; cbv)
    | (refine QC.tt ?_ ?_; (focus (simp only [decide_true, Bool.and_true, Bool.and_self] <;> fail)); cbv)
    | (refine QC.ff ?_ ?_; (focus (simp only [decide_true, Bool.and_true, Bool.and_self, decide_false, Bool.false_and, reduceCtorEq, not_false_eq_true] <;> fail)); cbv)
    | (refine QC.ff (by first | omega | (dsimp only; omega) | (simp only [sm] at *; omega)) ?_; cbv)
    | (refine QC.mk (fun hc => ?_) (fun hc => ?_) <;> (try dsimp only at hc) <;> cbv)
    | (refine br_mk2 (fun hb => ?_) (fun hb => ?_) <;> (try subst hb) <;> cbv))))
      all_goals first
        | (refine Fin.mk ?_ rfl rfl
           have : b = true := (hbf rfl).2 (by (first | omega | (simp only [cst] at *; omega) | (simp only [sm] at *; omega)))
           rw [this]; done)
        | (refine Fin.mk ?_ rfl rfl
           have : b = false := by
             cases hb0 : b
             · rfl
             · exfalso
               have hq := (hbf rfl).1 hb0
               clear hbf
               (first | omega | (simp only [cst] at *; omega) | (simp only [sm] at *; omega))
           rw [this]; done)
        | skip
end Go.Proofs.Ytjhicdoigllblaa
/- A contract's result, weakened: nil is an empty list. -/
namespace Go.Proofs.Ytjhicdoigllblaa
set_option linter.unusedVariables false
set_option linter.unusedSimpArgs false
open Go.RowKit
def Wk (x y : SV) : Prop := ∀ (w : World) (X : Nat → Prop) (ρ : Env) (v : Value), Den w X ρ x v → Den w X ρ y v
def WkL : List SV → List SV → Prop
  | [], [] => True
  | x :: xs, y :: ys => Wk x y ∧ WkL xs ys
  | _, _ => False
theorem Wk.rfl' (x : SV) : Wk x x := fun _ _ _ _ h => h
theorem Wk.nil (sh : Option Nat) : Wk .nil (.lst sh []) := fun _ _ ρ _ h => by
  cases h
  exact .lst0 ρ sh none 0
theorem WkL.len : ∀ {xs ys : List SV}, WkL xs ys → xs.length = ys.length
  | [], [], _ => rfl
  | _ :: _, _ :: _, h => by rw [List.length_cons, List.length_cons, WkL.len h.2]
  | [], _ :: _, h => h.elim
  | _ :: _, [], h => h.elim
theorem WkL.at : ∀ {xs ys : List SV}, WkL xs ys → ∀ (i : Nat) (y : SV), ys[i]? = some y → ∃ x, xs[i]? = some x ∧ Wk x y
  | [], [], _ => fun i y h => by cases h
  | x :: xs, y :: ys, h => fun i z hz => by
    cases i with
    | zero => injection hz with hz; subst hz; exact ⟨x, rfl, h.1⟩
    | succ i => exact WkL.at h.2 i z hz
  | [], _ :: _, h => h.elim
  | _ :: _, [], h => h.elim
theorem WkL.den {xs ys : List SV} (h : WkL xs ys) {w : World} {X : Nat → Prop} {ρ : Env} {us : List Value} (hd : DenL w X ρ xs us) : DenL w X ρ ys us :=
  ⟨h.len.symm.trans hd.1, fun i y u hy hu => by
    obtain ⟨x, hx, hw⟩ := h.at i y hy
    exact hw _ _ _ _ (hd.2 i x u hx hu)⟩
theorem Wk.agg {xs ys : List SV} (h : WkL xs ys) : Wk (.agg xs) (.agg ys) := fun _ _ _ _ hd => by
  obtain ⟨cs, hv, hc⟩ := Den.agg_iff.1 hd
  exact Den.agg_iff.2 ⟨cs, hv, h.den hc⟩
theorem Wk.tup {xs ys : List SV} (h : WkL xs ys) : Wk (.tup xs) (.tup ys) := fun _ _ _ _ hd => by
  obtain ⟨cs, hv, hc⟩ := Den.tup_iff.1 hd
  exact Den.tup_iff.2 ⟨cs, hv, h.den hc⟩
theorem Good.res {f : Nat} {a : List SV} {r r' : SV} (h : Good f (pu a r)) (hw : Wk r r') : Good f (pu a r') :=
  ⟨⟨h.h.fn, (fun hq => nomatch hq), fun _ N w X ρ vs hm hd => (h.h.h rfl N w X ρ vs hm hd).mono fun e w' ⟨v, ρ', h1, h2, h3, h4⟩ => ⟨v, ρ', h1, h2, h3, hw _ _ _ _ h4⟩⟩⟩
theorem Good.arg {f : Nat} {a a' : List SV} {r : SV} (h : Good f (pu a r)) (hw : WkL a' a) : Good f (pu a' r) :=
  ⟨⟨h.h.fn, (fun hq => nomatch hq), fun _ N w X ρ vs hm hd => h.h.h rfl N w X ρ vs hm (hw.den hd)⟩⟩
end Go.Proofs.Ytjhicdoigllblaa
/- Contracts: Begin of the program and of the document. -/
namespace Go.Proofs.Ytjhicdoigllblaa
set_option linter.unusedVariables false
set_option linter.unusedSimpArgs false
open Go.RowKit
set_option maxHeartbeats 8000000
/-- The first n pieces of sz bytes. -/
def chk (sz : Nat) (b : List UInt8) (n : Nat) : List (List UInt8) := (List.range n).map fun i => (b.drop (i * sz)).take sz
theorem chk_len (sz : Nat) (b : List UInt8) (n : Nat) : (chk sz b n).length = n := by simp [chk]
theorem chk_succ (sz : Nat) (b : List UInt8) (n : Nat) : chk sz b (n + 1) = chk sz b n ++ [(b.drop (n * sz)).take sz] := by simp [chk, List.range_succ]
/-- How many pieces there are. -/
def nPc (len sz : Nat) : Nat := (len - 1) / sz + 1
theorem nPc_lt {len sz i : Nat} (h1 : 1 ≤ len) (hs : 1 ≤ sz) (h : i < nPc len sz) : i * sz < len := by
  have h2 : i ≤ (len - 1) / sz := by unfold nPc at h; omega
  have h3 := (Nat.le_div_iff_mul_le (by omega)).1 h2
  omega
theorem nPc_ge {len sz : Nat} (h1 : 1 ≤ len) (hs : 1 ≤ sz) : len ≤ nPc len sz * sz := by
  have h2 := Nat.lt_div_mul_add (show 0 < sz by omega) (a := len - 1)
  unfold nPc
  rw [Nat.add_mul]
  omega
def zeroS : SV := .agg [.int .i64 0, .int .u8 0, .nil, .int .u32 0, .int .i64 0, .int .i64 0]
/-- What Begin returns. -/
def begX (b : List UInt8) (tag room : Int) : SV × Int :=
  if room ≤ 4 then (zeroS, 2) else if b.length = 0 ∨ 32 ≤ ((b.length : Int) - 1) / (room - 4) then (zeroS, 3)
  else ((⟨1, tag, chk (room - 4).toNat b (nPc b.length (room - 4).toNat), 0, 0, 0⟩ : Snd).v, 0)
theorem begin_c (b : List UInt8) (B : List SV) (hB : B = u8l b) (hb : b.length ≤ 140737488351232) (tag room : Int) (hr : -9223372036854775808 ≤ room ∧ room ≤ 9223372036854775807) (X : SV) (e : Int) (hX : begX b tag room = (X, e)) :
    Good 24 (pu [.lst none B, .int .u8 tag, .int .i64 room] (.tup [X, .int .i64 e])) := by
  have hBl : B.length = b.length := by rw [hB, u8l_len]
  unfold begX at hX
  refine Good.of Try.func24 rfl (by rfl) (by kernel_rfl) ?_
  cbv
  have hmk : True := trivial
  (repeat' (first
    | (refine q1 (by first | exact trivial | omega | (dsimp only; omega) | exact pow62 _ (by omega) | exact mul9 (by omega) (by omega) | (simp only [sm] at *; omega)) (fun z hz => ?_); (try simp only at hz); cbv)
    | (refine rq (by first | exact trivial | omega | (dsimp only; omega) | (simp only [sm] at *; omega)) ?_; cbv)
    | (refine QC.tt (by first | omega | (dsimp only; omega) | exact rfl | (simp only [sm] at *; omega)) ?_; cbv)
    | (refine QC.tt ?_ ?_; (focus (simp only [decide_true, Bool.and_true, Bool.and_self] <;> fail)); cbv)
    | (refine QC.ff ?_ ?_; (focus (simp only [decide_true, Bool.and_true, Bool.and_self, decide_false, Bool.false_and, reduceCtorEq, not_false_eq_true] <;> fail)); cbv)
    | (refine QC.ff (by first | omega | (dsimp only; omega) | (simp only [sm] at *; omega)) ?_; cbv)
    | (refine QC.mk (fun hc => ?_) (fun hc => ?_) <;> (try dsimp only at hc) <;> cbv)
    | (refine br_mk2 (fun hb => ?_) (fun hb => ?_) <;> (try subst hb) <;> cbv)))
  · rw [if_pos hc] at hX
    obtain ⟨rfl, rfl⟩ := Prod.mk.inj hX
    exact ⟨rfl, rfl, rfl⟩
  · rename_i h4 z0 hz0
    rw [if_neg h4, if_pos (.inl (by (first | omega | (simp only [cst] at *; omega) | (simp only [sm] at *; omega))))] at hX
    obtain ⟨rfl, rfl⟩ := Prod.mk.inj hX
    exact ⟨rfl, rfl, rfl⟩
  · rename_i h4 z0 hz0 z1 hz1 h5 z2 hz2 z3 hz3
    have hz3b : 0 ≤ z3 := by (first | omega | (simp only [cst] at *; omega) | (simp only [sm] at *; omega))
    have e3 : z3 = (b.length : Int) - 1 := by (first | omega | (simp only [cst] at *; omega) | (simp only [sm] at *; omega))
    have e1 : z = ((b.length : Int) - 1) / (room - 4) := by rw [hz.1 hz3b, e3, hz0]
    rw [e1] at hc
    rw [if_neg h4, if_pos (.inr hc)] at hX
    obtain ⟨rfl, rfl⟩ := Prod.mk.inj hX
    exact ⟨rfl, rfl, rfl⟩
  · rename_i h4 z0 hz0 z1 hz1 h5 z2 hz2 z3 hz3
    have hz3b : 0 ≤ z3 := by (first | omega | (simp only [cst] at *; omega) | (simp only [sm] at *; omega))
    have e3 : z3 = (b.length : Int) - 1 := by (first | omega | (simp only [cst] at *; omega) | (simp only [sm] at *; omega))
    have e1 : z = ((b.length : Int) - 1) / (room - 4) := by rw [hz.1 hz3b, e3, hz0]
    rw [e1] at hc
    have hb1 : 1 ≤ b.length := by (first | omega | (simp only [cst] at *; omega) | (simp only [sm] at *; omega))
    rw [if_neg h4, if_neg (by rintro (h | h); omega; exact hc h)] at hX
    obtain ⟨hXv, rfl⟩ := Prod.mk.inj hX
    obtain ⟨sz, hsz⟩ : ∃ sz : Nat, sz = (room - 4).toNat := ⟨_, rfl⟩
    have hsz1 : 1 ≤ sz := by omega
    have hz0' : z0 = sz := by omega
    obtain ⟨n, hn⟩ : ∃ n, n = nPc b.length sz := ⟨_, rfl⟩
    have hn32 : n ≤ 32 := by
      rw [hn, nPc]
      have e4 : ((b.length : Int) - 1) / (room - 4) = (((b.length - 1) / sz : Nat) : Int) := by
        rw [show (b.length : Int) - 1 = ((b.length - 1 : Nat) : Int) by omega, show room - 4 = (sz : Int) by omega]
        rfl
      rw [e4] at hc
      omega
    rw [← hsz, ← hn] at hXv
    obtain ⟨q, hq⟩ : ∃ q : Nat → Nat, ∀ i, q i = i * sz := ⟨_, fun _ => rfl⟩
    have hq0 : q 0 = 0 := by rw [hq]; simp
    have hqs : ∀ i, q (i + 1) = q i + sz := fun i => by rw [hq, hq, Nat.add_mul, Nat.one_mul]
    have hql : ∀ i, i < n → q i < b.length := fun i hi => by rw [hq]; exact nPc_lt hb1 hsz1 (hn ▸ hi)
    have hqn : b.length ≤ q n := by rw [hq, hn]; exact nPc_ge hb1 hsz1
    have hcs : ∀ i, chk sz b (i + 1) = chk sz b i ++ [(b.drop (q i)).take sz] := fun i => by rw [hq]; exact chk_succ sz b i
    clear hq hX hn e1 hc hz hz3 hz2
    obtain ⟨G, hG⟩ : ∃ G : Nat → List SV, ∀ i, G i = u8l (b.drop (q i)) := ⟨_, fun _ => rfl⟩
    obtain ⟨U, hU⟩ : ∃ U : Nat → List SV, ∀ i, U i = rowsB (chk sz b i) := ⟨_, fun _ => rfl⟩
    have hG0 : B = G 0 := by rw [hG, hq0, hB]; rfl
    have hGl : ∀ i, (G i).length = b.length - q i := fun i => by rw [hG, u8l_len, List.length_drop]
    have hU0 : [] = U 0 := by rw [hU]; rfl
    have hUl : ∀ i, (U i).length = i := fun i => by rw [hU, rowsB_len, chk_len]
    refine loopQ (A := Nat) (fun p => p ≤ n) (fun p => n - p) (fun p => [(10, .lst none (G p)), (9, .row 9)]) (fun p => [(9, .row none 26 (U p))]) 0 (Nat.zero_le _) ?_ ?_
    · cbv
      refine ⟨⟨by rw [hG0], trivial⟩, ?_, trivial⟩
      show Blk.row none 26 [] = .row none 26 (U 0)
      rw [← hU0]
    · intro i hi
      have hmk : True := trivial
      have hgl := hGl i
      have hul := hUl i
      cbv
      (repeat' (first
    | (refine q1 (by first | exact trivial | omega | (dsimp only; omega) | exact pow62 _ (by omega) | exact mul9 (by omega) (by omega) | (simp only [sm] at *; omega)) (fun z hz => ?_); (try simp only at hz); cbv)
    | (refine rq (by first | exact trivial | omega | (dsimp only; omega) | (simp only [sm] at *; omega)) ?_; cbv)
    | (refine QC.tt (by first | omega | (dsimp only; omega) | exact rfl | (simp only [sm] at *; omega)) ?_; cbv)
    | (refine QC.tt ?_ ?_; (focus (simp only [decide_true, Bool.and_true, Bool.and_self] <;> fail)); cbv)
    | (refine QC.ff ?_ ?_; (focus (simp only [decide_true, Bool.and_true, Bool.and_self, decide_false, Bool.false_and, reduceCtorEq, not_false_eq_true] <;> fail)); cbv)
    | (refine QC.ff (by first | omega | (dsimp only; omega) | (simp only [sm] at *; omega)) ?_; cbv)
    | (refine QC.mk (fun hc => ?_) (fun hc => ?_) <;> (try dsimp only at hc) <;> cbv)
    | (refine br_mk2 (fun hb => ?_) (fun hb => ?_) <;> (try subst hb) <;> cbv)))
      · rename_i zl hzl hzp zm hzm
        have hlt : i < n := by
          rcases Nat.lt_or_ge i n with h | h
          · exact h
          · exfalso
            have : b.length ≤ q i := by rw [show i = n by omega]; exact hqn
            (first | omega | (simp only [cst] at *; omega) | (simp only [sm] at *; omega))
        obtain ⟨P, hP⟩ : ∃ P, P = (b.drop (q i)).take sz := ⟨_, rfl⟩
        have hzn : z.toNat = min sz (b.length - q i) := by (first | omega | (simp only [cst] at *; omega) | (simp only [sm] at *; omega))
        have hT : O.tk z (G i) = u8l P := by
          rw [otk, hG, u8l_take, hP, hzn]
          congr 1
          rw [List.take_eq_take_iff, List.length_drop]
          omega
        have hD : O.dr z (G i) = G (i + 1) := by
          rw [odr, hG, hG, u8l_drop, List.drop_drop, hqs, hzn]
          congr 1
          rw [List.drop_eq_drop_iff]
          omega
        have hPl : P.length ≤ b.length := by rw [hP, List.length_take, List.length_drop]; omega
        have hUs : apL (U i) [.lst none (O.tk z (G i))] = U (i + 1) := by
          rw [apL_eq, hU, hU, hcs, hT, ← hP]
          simp [rowsB]
        have g1 := cloned_c P _ hT (by omega)
        (refine callq (g1) rfl rfl ?_; cbv; (repeat' (first
    | (refine q1 (by first | exact trivial | omega | (dsimp only; omega) | exact pow62 _ (by omega) | exact mul9 (by omega) (by omega) | (simp only [sm] at *; omega)) (fun z hz => ?_); (try simp only at hz); cbv)
    | (refine rq (by first | exact trivial | omega | (dsimp only; omega) | (simp only [sm] at *; omega)) ?_; cbv)
    | (refine QC.tt (by first | omega | (dsimp only; omega) | exact rfl | (simp only [sm] at *; omega)) ?_; cbv)
    | (refine QC.tt ?_ ?_; (focus (simp only [decide_true, Bool.and_true, Bool.and_self] <;> fail)); cbv)
    | (refine QC.ff ?_ ?_; (focus (simp only [decide_true, Bool.and_true, Bool.and_self, decide_false, Bool.false_and, reduceCtorEq, not_false_eq_true] <;> fail)); cbv)
    | (refine QC.ff (by first | omega | (dsimp only; omega) | (simp only [sm] at *; omega)) ?_; cbv)
    | (refine QC.mk (fun hc => ?_) (fun hc => ?_) <;> (try dsimp only at hc) <;> cbv)
    | (refine br_mk2 (fun hb => ?_) (fun hb => ?_) <;> (try subst hb) <;> cbv))))
        refine ⟨i + 1, hlt, by show n - (i + 1) < n - i; omega, ?_⟩
        cbv
        refine ⟨⟨?_, trivial⟩, ?_, trivial⟩
        · show SV.lst none (O.dr z (G i)) = .lst none (G (i + 1))
          rw [hD]
        · show Blk.row none 26 (apL (U i) [.lst none (O.tk z (G i))]) = .row none 26 (U (i + 1))
          rw [hUs]
      · have e : i = n := by
          rcases Nat.lt_or_ge i n with h | h
          · have := hql i h
            exfalso
            (first | omega | (simp only [cst] at *; omega) | (simp only [sm] at *; omega))
          · omega
        refine ⟨?_, rfl, rfl⟩
        rw [← hXv]
        show SV.tup [.agg [.int .i64 1, .int .u8 tag, .lst none (U i), .int .u32 0, .int .i64 0, .int .i64 0], .int .i64 0] = _
        rw [e, hU]
        rfl
set_option maxRecDepth 4000 in
theorem rbegin_c (b : List UInt8) (B : List SV) (hB : B = u8l b) (hb : b.length ≤ 140737488351232) (tag room : Int) (hr : -9223372036854775808 ≤ room ∧ room ≤ 9223372036854775807) (X : SV) (e : Int) (hX : begX b tag room = (X, e)) :
    Good 25 (pu [.lst none B, .int .u8 tag, .int .i64 room] (.tup [X, .int .i64 e])) := by
  have hBl : B.length = b.length := by rw [hB, u8l_len]
  unfold begX at hX
  refine Good.of Try.func25 rfl (by rfl) (by kernel_rfl) ?_
  cbv
  have hmk : True := trivial
  (repeat' (first
    | (refine q1 (by first | exact trivial | omega | (dsimp only; omega) | exact pow62 _ (by omega) | exact mul9 (by omega) (by omega) | (simp only [sm] at *; omega)) (fun z hz => ?_); (try simp only at hz); cbv)
    | (refine rq (by first | exact trivial | omega | (dsimp only; omega) | (simp only [sm] at *; omega)) ?_; cbv)
    | (refine QC.tt (by first | omega | (dsimp only; omega) | exact rfl | (simp only [sm] at *; omega)) ?_; cbv)
    | (refine QC.tt ?_ ?_; (focus (simp only [decide_true, Bool.and_true, Bool.and_self] <;> fail)); cbv)
    | (refine QC.ff ?_ ?_; (focus (simp only [decide_true, Bool.and_true, Bool.and_self, decide_false, Bool.false_and, reduceCtorEq, not_false_eq_true] <;> fail)); cbv)
    | (refine QC.ff (by first | omega | (dsimp only; omega) | (simp only [sm] at *; omega)) ?_; cbv)
    | (refine QC.mk (fun hc => ?_) (fun hc => ?_) <;> (try dsimp only at hc) <;> cbv)
    | (refine br_mk2 (fun hb => ?_) (fun hb => ?_) <;> (try subst hb) <;> cbv)))
  · rw [if_pos (by omega)] at hX
    obtain ⟨rfl, rfl⟩ := Prod.mk.inj hX
    exact ⟨rfl, rfl, rfl⟩
  · rename_i h4 z0 hz0
    rw [if_neg (by omega), if_pos (.inl (by (first | omega | (simp only [cst] at *; omega) | (simp only [sm] at *; omega))))] at hX
    obtain ⟨rfl, rfl⟩ := Prod.mk.inj hX
    exact ⟨rfl, rfl, rfl⟩
  rename_i h4 z0 hz0 z1 hz1 z2 hz2 z3 hz3
  have h5 := hc
  have hz3b : 0 ≤ z3 := by (first | omega | (simp only [cst] at *; omega) | (simp only [sm] at *; omega))
  have e3 : z3 = (b.length : Int) - 1 := by (first | omega | (simp only [cst] at *; omega) | (simp only [sm] at *; omega))
  have e1 : z = ((b.length : Int) - 1) / (room - 4) := by rw [hz.1 hz3b, e3, hz0]
  have hzz1 : z ≤ z3 := by rw [hz.1 hz3b]; exact Int.ediv_le_self _ hz3b
  have hzz2 : 0 ≤ z := by rw [hz.1 hz3b]; exact Int.ediv_nonneg hz3b (by omega)
  have hb1 : 1 ≤ b.length := by (first | omega | (simp only [cst] at *; omega) | (simp only [sm] at *; omega))
  clear hz
  (repeat' (first
    | (refine q1 (by first | exact trivial | omega | (dsimp only; omega) | exact pow62 _ (by omega) | exact mul9 (by omega) (by omega) | (simp only [sm] at *; omega)) (fun z hz => ?_); (try simp only at hz); cbv)
    | (refine rq (by first | exact trivial | omega | (dsimp only; omega) | (simp only [sm] at *; omega)) ?_; cbv)
    | (refine QC.tt (by first | omega | (dsimp only; omega) | exact rfl | (simp only [sm] at *; omega)) ?_; cbv)
    | (refine QC.tt ?_ ?_; (focus (simp only [decide_true, Bool.and_true, Bool.and_self] <;> fail)); cbv)
    | (refine QC.ff ?_ ?_; (focus (simp only [decide_true, Bool.and_true, Bool.and_self, decide_false, Bool.false_and, reduceCtorEq, not_false_eq_true] <;> fail)); cbv)
    | (refine QC.ff (by first | omega | (dsimp only; omega) | (simp only [sm] at *; omega)) ?_; cbv)
    | (refine QC.mk (fun hc => ?_) (fun hc => ?_) <;> (try dsimp only at hc) <;> cbv)
    | (refine br_mk2 (fun hb => ?_) (fun hb => ?_) <;> (try subst hb) <;> cbv)))
  · rw [if_neg (by omega), if_pos (.inr (by omega))] at hX
    obtain ⟨rfl, rfl⟩ := Prod.mk.inj hX
    exact ⟨rfl, rfl, rfl⟩
  · rename_i z4 hz4
    rw [if_neg (by omega), if_neg (by rintro (h | h) <;> omega)] at hX
    obtain ⟨hXv, rfl⟩ := Prod.mk.inj hX
    obtain ⟨sz, hsz⟩ : ∃ sz : Nat, sz = (room - 4).toNat := ⟨_, rfl⟩
    have hsz1 : 1 ≤ sz := by omega
    have hz0' : z0 = sz := by omega
    obtain ⟨n, hn⟩ : ∃ n, n = nPc b.length sz := ⟨_, rfl⟩
    have hn32 : n ≤ 32 := by
      rw [hn, nPc]
      have e4 : ((b.length : Int) - 1) / (room - 4) = (((b.length - 1) / sz : Nat) : Int) := by
        rw [show (b.length : Int) - 1 = ((b.length - 1 : Nat) : Int) by omega, show room - 4 = (sz : Int) by omega]
        rfl
      rw [e4] at e1
      omega
    rw [← hsz, ← hn] at hXv
    obtain ⟨q, hq⟩ : ∃ q : Nat → Nat, ∀ i, q i = i * sz := ⟨_, fun _ => rfl⟩
    have hq0 : q 0 = 0 := by rw [hq]; simp
    have hqs : ∀ i, q (i + 1) = q i + sz := fun i => by rw [hq, hq, Nat.add_mul, Nat.one_mul]
    have hql : ∀ i, i < n → q i < b.length := fun i hi => by rw [hq]; exact nPc_lt hb1 hsz1 (hn ▸ hi)
    have hqn : b.length ≤ q n := by rw [hq, hn]; exact nPc_ge hb1 hsz1
    have hcs : ∀ i, chk sz b (i + 1) = chk sz b i ++ [(b.drop (q i)).take sz] := fun i => by rw [hq]; exact chk_succ sz b i
    clear hq hX hn e1 hz3 hz2
    obtain ⟨U, hU⟩ : ∃ U : Nat → List SV, ∀ i, U i = rowsB (chk sz b i) := ⟨_, fun _ => rfl⟩
    have hU0 : [] = U 0 := by rw [hU]; rfl
    have hUl : ∀ i, (U i).length = i := fun i => by rw [hU, rowsB_len, chk_len]
    have hn1 : 1 ≤ n := by
      rcases Nat.eq_zero_or_pos n with h | h
      · rw [h, hq0] at hqn; omega
      · exact h
    refine loopQ (A := Option (Nat × Int)) (fun p => match p with | none => True | some p => (((q p.1 : Int) ≤ b.length → p.2 = q p.1) ∧ ((b.length : Int) ≤ q p.1 → p.2 = b.length)) ∧ 1 ≤ p.1 ∧ p.1 ≤ n) (fun p => match p with | none => n | some p => n - p.1)
      (fun p => match p with | none => [(10, .int .i64 0)] | some p => [(10, .int .i64 p.2)])
      (fun p => match p with
        | none => [(9, .chunk 25 (.agg [.int .i64 1, .int .u8 tag, .nil, .int .u32 0, .int .i64 0, .int .i64 0])), (53, .no)]
        | some p => [(9, .chunk 25 (.agg [.int .i64 1, .int .u8 tag, .row 53, .int .u32 0, .int .i64 0, .int .i64 0])), (53, .row none 26 (U p.1))]) none trivial ?_ ?_
    · cbv
      try trace_state
    · intro p hp
      cases p with
      | none =>
        clear hp
        have hmk : True := trivial
        cbv
        (repeat' (first
    | (refine q1 (by first | exact trivial | omega | (dsimp only; omega) | exact pow62 _ (by omega) | exact mul9 (by omega) (by omega) | (simp only [sm] at *; omega)) (fun z hz => ?_); (try simp only at hz); cbv)
    | (refine rq (by first | exact trivial | omega | (dsimp only; omega) | (simp only [sm] at *; omega)) ?_; cbv)
    | (refine QC.tt (by first | omega | (dsimp only; omega) | exact rfl | (simp only [sm] at *; omega)) ?_; cbv)
    | (refine QC.tt ?_ ?_; (focus (simp only [decide_true, Bool.and_true, Bool.and_self] <;> fail)); cbv)
    | (refine QC.ff ?_ ?_; (focus (simp only [decide_true, Bool.and_true, Bool.and_self, decide_false, Bool.false_and, reduceCtorEq, not_false_eq_true] <;> fail)); cbv)
    | (refine QC.ff (by first | omega | (dsimp only; omega) | (simp only [sm] at *; omega)) ?_; cbv)
    | (refine QC.mk (fun hc => ?_) (fun hc => ?_) <;> (try dsimp only at hc) <;> cbv)
    | (refine br_mk2 (fun hb => ?_) (fun hb => ?_) <;> (try subst hb) <;> cbv)))
        have hq1 : q 1 = sz := by show q (0 + 1) = sz; rw [hqs, hq0]; omega
        rename_i a1 g1 a2 g2 a3 g3 a4 g4 a5 g5
        have hUs : O.sg B (O.tn 0) (O.si a5 0) = u8l ((b.drop (q 0)).take sz) := by
          have e0 : Int.toNat 0 = 0 := rfl
          rw [osg, otn, osi, hq0, hB, u8l_drop, u8l_take, e0]
          congr 1
          rw [List.take_eq_take_iff, List.length_drop]
          (first | omega | (simp only [cst] at *; omega) | (simp only [sm] at *; omega))
        refine ⟨some (1, z), ⟨⟨fun h => by show z = ((q 1 : Nat) : Int); rw [hq1] at h ⊢; (first | omega | (simp only [cst] at *; omega) | (simp only [sm] at *; omega)), fun h => by show z = (b.length : Int); rw [hq1] at h; (first | omega | (simp only [cst] at *; omega) | (simp only [sm] at *; omega))⟩, Nat.le_refl _, hn1⟩, by show n - 1 < n; omega, ?_⟩
        cbv
        refine ⟨?_, trivial⟩
        show Blk.row none 26 [.lst none (O.sg B (O.tn 0) (O.si a5 0))] = .row none 26 (U 1)
        rw [hUs, hU, hcs 0]
        rfl
      | some p =>
        obtain ⟨i, j⟩ := p
        have hj1 : (q i : Int) ≤ b.length → j = q i := hp.1.1
        have hj2 : (b.length : Int) ≤ q i → j = b.length := hp.1.2
        have hi1 : 1 ≤ i := hp.2.1
        have hin : i ≤ n := hp.2.2
        clear hp
        have hqi := hqs i
        have hql := hql i
        have hul := hUl i
        have hmk : True := trivial
        cbv
        (repeat' (first
    | (refine q1 (by first | exact trivial | omega | (dsimp only; omega) | exact pow62 _ (by omega) | exact mul9 (by omega) (by omega) | (simp only [sm] at *; omega)) (fun z hz => ?_); (try simp only at hz); cbv)
    | (refine rq (by first | exact trivial | omega | (dsimp only; omega) | (simp only [sm] at *; omega)) ?_; cbv)
    | (refine QC.tt (by first | omega | (dsimp only; omega) | exact rfl | (simp only [sm] at *; omega)) ?_; cbv)
    | (refine QC.tt ?_ ?_; (focus (simp only [decide_true, Bool.and_true, Bool.and_self] <;> fail)); cbv)
    | (refine QC.ff ?_ ?_; (focus (simp only [decide_true, Bool.and_true, Bool.and_self, decide_false, Bool.false_and, reduceCtorEq, not_false_eq_true] <;> fail)); cbv)
    | (refine QC.ff (by first | omega | (dsimp only; omega) | (simp only [sm] at *; omega)) ?_; cbv)
    | (refine QC.mk (fun hc => ?_) (fun hc => ?_) <;> (try dsimp only at hc) <;> cbv)
    | (refine br_mk2 (fun hb => ?_) (fun hb => ?_) <;> (try subst hb) <;> cbv)))
        · rename_i a0 g0 hjl a1 g1 a2 g2 a3 g3 a4 g4 a5 g5
          have hlt : i < n := by
            rcases Nat.lt_or_ge i n with h | h
            · exact h
            · exfalso
              have h6 : b.length ≤ q i := by rw [show i = n by omega]; exact hqn
              have h7 := hj2 (by (first | omega | (simp only [cst] at *; omega) | (simp only [sm] at *; omega)))
              (first | omega | (simp only [cst] at *; omega) | (simp only [sm] at *; omega))
          have hql := hql hlt
          have hjq : j = q i := hj1 (by (first | omega | (simp only [cst] at *; omega) | (simp only [sm] at *; omega)))
          have hUs : O.sg B (O.tn j) (O.si a5 j) = u8l ((b.drop (q i)).take sz) := by
            rw [osg, otn, osi, hB, u8l_drop, u8l_take, hjq, Int.toNat_natCast]
            congr 1
            rw [List.take_eq_take_iff, List.length_drop]
            (first | omega | (simp only [cst] at *; omega) | (simp only [sm] at *; omega))
          refine ⟨some (i + 1, z), ⟨⟨fun h => by show z = ((q (i + 1) : Nat) : Int); rw [hqi] at h ⊢; (first | omega | (simp only [cst] at *; omega) | (simp only [sm] at *; omega)), fun h => by show z = (b.length : Int); rw [hqi] at h; (first | omega | (simp only [cst] at *; omega) | (simp only [sm] at *; omega))⟩, by show 1 ≤ i + 1; omega, hlt⟩, by show n - (i + 1) < n - i; omega, ?_⟩
          cbv
          refine ⟨?_, trivial⟩
          show Blk.row none 26 (apL (U i) [.lst none (O.sg B (O.tn j) (O.si a5 j))]) = .row none 26 (U (i + 1))
          rw [apL_eq, hUs, hU, hU, hcs i]
          simp [rowsB]
        · have e : i = n := by
            rcases Nat.lt_or_ge i n with h | h
            · have := hql h
              exfalso
              (first | omega | (simp only [cst] at *; omega) | (simp only [sm] at *; omega))
            · omega
          refine ⟨?_, rfl, rfl⟩
          rw [← hXv]
          show SV.tup [.agg [.int .i64 1, .int .u8 tag, .lst none (U i), .int .u32 0, .int .i64 0, .int .i64 0], .int .i64 0] = _
          rw [e, hU]
          rfl
end Go.Proofs.Ytjhicdoigllblaa
/- Contract of recovery.Next. -/
namespace Go.Proofs.Ytjhicdoigllblaa
set_option linter.unusedVariables false
set_option linter.unusedSimpArgs false
open Go.RowKit
set_option maxHeartbeats 16000000
theorem missing_c (st tag ak rd un : Int) (R : List SV) :
    Good 52 (pu [.agg [.int .i64 st, .int .u8 tag, .lst none R, .int .u32 ak, .int .i64 rd, .int .i64 un]] (.clo 67 [.eptr (some 6) (.agg [.int .i64 st, .int .u8 tag, .lst none R, .int .u32 ak, .int .i64 rd, .int .i64 un]) 0])) := by
  refine Good.of Try.func52 rfl (by rfl) (by kernel_rfl) ?_
  cbv
  (repeat' (first
    | (refine q1 (by first | exact trivial | omega | (dsimp only; omega) | exact pow62 _ (by omega) | exact mul9 (by omega) (by omega) | (simp only [sm] at *; omega)) (fun z hz => ?_); (try simp only at hz); cbv)
    | (refine rq (by first | exact trivial | omega | (dsimp only; omega) | (simp only [sm] at *; omega)) ?_; cbv)
    | (refine QC.tt (by first | omega | (dsimp only; omega) | exact rfl | (simp only [sm] at *; omega)) ?_; cbv)
    | (refine QC.tt ?_ ?_; (focus (simp only [decide_true, Bool.and_true, Bool.and_self] <;> fail)); cbv)
    | (refine QC.ff ?_ ?_; (focus (simp only [decide_true, Bool.and_true, Bool.and_self, decide_false, Bool.false_and, reduceCtorEq, not_false_eq_true] <;> fail)); cbv)
    | (refine QC.ff (by first | omega | (dsimp only; omega) | (simp only [sm] at *; omega)) ?_; cbv)
    | (refine QC.mk (fun hc => ?_) (fun hc => ?_) <;> (try dsimp only at hc) <;> cbv)
    | (refine br_mk2 (fun hb => ?_) (fun hb => ?_) <;> (try subst hb) <;> cbv)))
  exact ⟨rfl, rfl, rfl⟩
theorem pce_at {tag : Int} {ps : List (List UInt8)} {ak : Int} {R : List SV} (hR : R = rowsB ps) {k i : Nat} (h : (opn ak ps.length)[k]? = some i) :
    ∃ (b : List UInt8) (B : List SV), ps[i]? = some b ∧ B = u8l b ∧ R[i]? = some (.lst none B) ∧ (misX ak 0 R)[k]? = some [.int .i64 (i : Int), .lst none B] ∧ pcL (pre tag ps ak (k + 1)) = pcL (pre tag ps ak k) ++ [.agg [.int .u8 tag, .int .i64 (i : Int), .int .i64 (ps.length : Int), .bool false, .lst none B]] := by
  obtain ⟨b, B, h1, h2, h3⟩ := rowsB_at hR i (opn_lt h).1
  refine ⟨b, B, h1, h2, h3, ?_, ?_⟩
  · rw [misX_eq]
    have hl : R.length = ps.length := by rw [hR, rowsB_len]
    have : ((List.range R.length).filter fun i => decide (ak / 2 ^ (0 + i) % 2 = 0)) = opn ak ps.length := by rw [hl, opn]; simp
    rw [this, List.getElem?_map, h]
    simp [h3]
  · rw [pre_succ _ _ _ _ _ h, pcL, List.map_append]
    have : ps.getD i [] = b := by rw [List.getD_eq_getElem?_getD, h1]; rfl
    rw [this, h2]
    rfl
theorem misX_opn (ak : Int) (ps : List (List UInt8)) (R : List SV) (hR : R = rowsB ps) : (misX ak 0 R).length = (opn ak ps.length).length := by
  rw [misX_eq]
  have hl : R.length = ps.length := by rw [hR, rowsB_len]
  rw [List.length_map, hl, opn]
  simp
theorem misX_shape (ak : Int) (ps : List (List UInt8)) (R : List SV) (hR : R = rowsB ps) : ∀ x ∈ misX ak 0 R, x.length = 2 ∧ datas x = true := by
  intro x hx
  obtain ⟨k, hk, rfl⟩ := List.mem_iff_getElem.1 hx
  have hk' : k < (opn ak ps.length).length := by rw [← misX_opn ak ps R hR]; exact hk
  obtain ⟨b, B, _, _, _, h, _⟩ := pce_at (tag := 0) hR (List.getElem?_eq_getElem hk')
  rw [List.getElem?_eq_getElem hk] at h
  injection h with h
  rw [h]
  exact ⟨rfl, rfl⟩
/-- The last piece of those sent is marked. -/
theorem pre_mark {tag : Int} {ps : List (List UInt8)} {ak : Int} {R : List SV} (hR : R = rowsB ps) {k : Nat} (h : k + 1 ≤ (opn ak ps.length).length) :
    ∃ (i : Nat) (B : List SV), (pcL (pre tag ps ak (k + 1)))[k]? = some (.agg [.int .u8 tag, .int .i64 (i : Int), .int .i64 (ps.length : Int), .bool false, .lst none B]) ∧
      (pcL (pre tag ps ak (k + 1))).set k (.agg [.int .u8 tag, .int .i64 (i : Int), .int .i64 (ps.length : Int), .bool true, .lst none B]) = pcL (mark (pre tag ps ak (k + 1))) := by
  have hk : (opn ak ps.length)[k]? = some (opn ak ps.length)[k] := List.getElem?_eq_getElem (by omega)
  have hs := pre_succ tag ps ak k _ hk
  have hl : (pre tag ps ak k).length = k := pre_len _ _ _ _ (by omega)
  have hg : (pre tag ps ak (k + 1))[k]? = some ⟨tag, ((opn ak ps.length)[k] : Nat), ps.length, false, ps.getD (opn ak ps.length)[k] []⟩ := by
    rw [hs, List.getElem?_append_right (by omega), hl]; simp
  refine ⟨(opn ak ps.length)[k], u8l (ps.getD (opn ak ps.length)[k] []), ?_, ?_⟩
  · rw [pcL, List.getElem?_map, hg]; rfl
  · rw [← mark_set _ k _ (by rw [pre_len _ _ _ _ h]) hg, pcL, pcL, List.map_set]
    rfl
set_option maxRecDepth 4000 in
theorem nx_c (st tag ak rd un : Int) (ps : List (List UInt8)) (R : List SV) (hR : R = rowsB ps) (hf : Snd.fits ⟨st, tag, ps, ak, rd, un⟩) (b : Bool) (hb : b = true ↔ VS ⟨st, tag, ps, ak, rd, un⟩) (now : Int) (hnow : -9223372036854775808 ≤ now ∧ now ≤ 9223372036854775807)
    (X : SV) (l : List Pce) (L : List SV) (hL : L = pcL l) (e : Int) (hX : nextX ⟨st, tag, ps, ak, rd, un⟩ b now = (X, l, e)) :
    Good 15 (pu [.agg [.int .i64 st, .int .u8 tag, .lst none R, .int .u32 ak, .int .i64 rd, .int .i64 un], .int .i64 now] (.tup [X, .lst (some 5) L, .int .i64 e])) := by
  have hRl : R.length = ps.length := by rw [hR, rowsB_len]
  have hfb := hf.b
  have hfn := hf.n
  have hak := hf.ak
  have g1 := vsender_c st tag ak rd un ps R hR hf b hb
  have g2 := clonedPieces_c ps R hR hf.n hf.b
  have gm := fun rd' un' => missing_c st tag ak rd' un' R
  have hv := fun h : b = true => hb.1 h
  have gq := fun (rd' un' : Int) (hn : ps.length ≤ 32) => missing1_q st tag rd' un' ak R (by have := hak; dsimp only at this; omega) (by omega)
  have hxs := misX_shape ak ps R hR
  obtain ⟨W, hW⟩ : ∃ W, W = (opn ak ps.length).length := ⟨_, rfl⟩
  have hxl := misX_opn ak ps R hR
  rw [← hW] at hxl
  have hpos : b = true → st = 1 → 1 ≤ W := fun h hst => by
    have v := hv h
    rw [hW]
    refine opn_pos hak.1 v.ak fun he => ?_
    have := v.d he
    dsimp only at this
    omega
  have hn32 : b = true → ps.length ≤ 32 := fun h => (hv h).n2
  have hrd : b = true → 0 ≤ rd ∧ rd ≤ 8 := fun h => ⟨(hv h).r1, (hv h).r2⟩
  obtain ⟨S, hS⟩ : ∃ S : Nat → List SV, ∀ k, S k = pcL (pre tag ps ak k) := ⟨_, fun _ => rfl⟩
  obtain ⟨iF, hiF⟩ : ∃ iF : Nat → Nat, ∀ k, iF k = (opn ak ps.length).getD k 0 := ⟨_, fun _ => rfl⟩
  obtain ⟨bF, hbF⟩ : ∃ bF : Nat → List UInt8, ∀ k, bF k = ps.getD (iF k) [] := ⟨_, fun _ => rfl⟩
  obtain ⟨BF, hBF⟩ : ∃ BF : Nat → List SV, ∀ k, BF k = u8l (bF k) := ⟨_, fun _ => rfl⟩
  have hS1 : ∀ (k : Nat) (x : List SV), (misX ak 0 R)[k]? = some x → x = [.int .i64 (iF k : Int), .lst none (BF k)] ∧ k < W ∧ iF k < ps.length ∧ (bF k).length ≤ 140737488351232 ∧ S (k + 1) = S k ++ [.agg [.int .u8 tag, .int .i64 (iF k : Int), .int .i64 (ps.length : Int), .bool false, .lst none (BF k)]] := fun k x hx => by
    have hk : k < (opn ak ps.length).length := by have := (List.getElem?_eq_some_iff.1 hx).1; omega
    have hki := List.getElem?_eq_getElem hk
    have hik : iF k = (opn ak ps.length)[k] := by rw [hiF, List.getD_eq_getElem?_getD, hki]; rfl
    obtain ⟨b, B, h1, h2, h3, h4, h5⟩ := pce_at (tag := tag) hR hki
    have hb : bF k = b := by rw [hbF, hik, List.getD_eq_getElem?_getD, h1]; rfl
    have hB : BF k = B := by rw [hBF, hb, h2]
    rw [hx] at h4
    injection h4 with h4
    rw [hik, hB, hb]
    exact ⟨h4, by omega, (opn_lt hki).1, hfb b (List.mem_of_getElem? h1), by rw [hS, hS]; exact h5⟩
  clear hiF hbF
  have hS0 : S 0 = [] := by rw [hS]; rfl
  have hSl : ∀ k, k ≤ W → (S k).length = k := fun k hk => by rw [hS, pcL_len, pre_len _ _ _ _ (by omega)]
  obtain ⟨F, hF⟩ : ∃ F : Nat → List SV, ∀ k, F k = pcL (mark (pre tag ps ak k)) := ⟨_, fun _ => rfl⟩
  have hSm0 : ∀ k, k + 1 ≤ W → ∃ (i : Nat) (B : List SV), (S (k + 1))[k]? = some (.agg [.int .u8 tag, .int .i64 (i : Int), .int .i64 (ps.length : Int), .bool false, .lst none B]) ∧ (S (k + 1)).set k (.agg [.int .u8 tag, .int .i64 (i : Int), .int .i64 (ps.length : Int), .bool true, .lst none B]) = F (k + 1) := fun k hk => by
    rw [hS, hF]; exact pre_mark hR (by omega)
  obtain ⟨N, hN⟩ : ∃ N : Int, N = ps.length := ⟨_, rfl⟩
  rw [← hN] at hSm0
  obtain ⟨iM, BM, hSm⟩ : ∃ (iM : Nat → Nat) (BM : Nat → List SV), ∀ k, 1 ≤ k → k ≤ W → (S k)[k - 1]? = some (.agg [.int .u8 tag, .int .i64 (iM k : Int), .int .i64 N, .bool false, .lst none (BM k)]) ∧ (S k).set (k - 1) (.agg [.int .u8 tag, .int .i64 (iM k : Int), .int .i64 N, .bool true, .lst none (BM k)]) = F k := by
    have : ∀ k, ∃ (i : Nat) (B : List SV), 1 ≤ k → k ≤ W → (S k)[k - 1]? = some (.agg [.int .u8 tag, .int .i64 (i : Int), .int .i64 N, .bool false, .lst none B]) ∧ (S k).set (k - 1) (.agg [.int .u8 tag, .int .i64 (i : Int), .int .i64 N, .bool true, .lst none B]) = F k := fun k => by
      by_cases h : 1 ≤ k ∧ k ≤ W
      · obtain ⟨i, B, h1, h2⟩ := hSm0 (k - 1) (by omega)
        rw [show k - 1 + 1 = k by omega] at h1 h2
        exact ⟨i, B, fun _ _ => ⟨h1, h2⟩⟩
      · exact ⟨0, [], fun a b => absurd ⟨a, b⟩ h⟩
    exact ⟨fun k => Classical.choose (this k), fun k => Classical.choose (Classical.choose_spec (this k)), fun k => Classical.choose_spec (Classical.choose_spec (this k))⟩
  clear hSm0
  have x1 : b = false → X = .agg [.int .i64 0, .int .u8 0, .nil, .int .u32 0, .int .i64 0, .int .i64 0] ∧ L = [] ∧ e = 1 := fun h => by
    unfold nextX at hX; rw [if_pos h] at hX; obtain ⟨a1, a2⟩ := Prod.mk.inj hX; obtain ⟨a2, a3⟩ := Prod.mk.inj a2; exact ⟨a1.symm, by rw [hL, ← a2]; rfl, a3.symm⟩
  have x2 : b = true → now < 0 ∨ 1099511627776 < now → X = .agg [.int .i64 0, .int .u8 0, .nil, .int .u32 0, .int .i64 0, .int .i64 0] ∧ L = [] ∧ e = 2 := fun h h2 => by
    unfold nextX at hX; rw [if_neg (by rw [h]; simp), if_pos h2] at hX; obtain ⟨a1, a2⟩ := Prod.mk.inj hX; obtain ⟨a2, a3⟩ := Prod.mk.inj a2; exact ⟨a1.symm, by rw [hL, ← a2]; rfl, a3.symm⟩
  have x3 : b = true → ¬ (now < 0 ∨ 1099511627776 < now) → st ≠ 1 ∨ now < un → X = .agg [.int .i64 st, .int .u8 tag, .lst none R, .int .u32 ak, .int .i64 rd, .int .i64 un] ∧ L = [] ∧ e = 0 := fun h h2 h3 => by
    unfold nextX at hX; rw [if_neg (by rw [h]; simp), if_neg h2, if_pos h3] at hX; obtain ⟨a1, a2⟩ := Prod.mk.inj hX; obtain ⟨a2, a3⟩ := Prod.mk.inj a2; exact ⟨by rw [← a1, hR]; rfl, by rw [hL, ← a2]; rfl, a3.symm⟩
  have x4 : b = true → ¬ (now < 0 ∨ 1099511627776 < now) → ¬ (st ≠ 1 ∨ now < un) → rd = 8 → X = .agg [.int .i64 3, .int .u8 tag, .lst none R, .int .u32 ak, .int .i64 rd, .int .i64 un] ∧ L = [] ∧ e = 0 := fun h h2 h3 h4 => by
    unfold nextX at hX; rw [if_neg (by rw [h]; simp), if_neg h2, if_neg h3, if_pos h4] at hX; obtain ⟨a1, a2⟩ := Prod.mk.inj hX; obtain ⟨a2, a3⟩ := Prod.mk.inj a2; exact ⟨by rw [← a1, hR]; rfl, by rw [hL, ← a2]; rfl, a3.symm⟩
  have x5 : b = true → ¬ (now < 0 ∨ 1099511627776 < now) → ¬ (st ≠ 1 ∨ now < un) → ¬ rd = 8 → X = .agg [.int .i64 st, .int .u8 tag, .lst none R, .int .u32 ak, .int .i64 (rd + 1), .int .i64 (min (now + 8) 1099511627776)] ∧ L = F (min W 8) ∧ e = 0 := fun h h2 h3 h4 => by
    unfold nextX at hX; rw [if_neg (by rw [h]; simp), if_neg h2, if_neg h3, if_neg h4] at hX; obtain ⟨a1, a2⟩ := Prod.mk.inj hX; obtain ⟨a2, a3⟩ := Prod.mk.inj a2; exact ⟨by rw [← a1, hR]; rfl, by rw [hF, hW, hL, ← a2], a3.symm⟩
  clear hX hb hv hS hF hW
  refine Good.of Try.func15 rfl (by rfl) (by kernel_rfl) ?_
  cbv
  have hmk : True := trivial
  (repeat' (first
    | (refine q1 (by first | exact trivial | omega | (dsimp only; omega) | exact pow62 _ (by omega) | exact mul9 (by omega) (by omega) | (simp only [sm] at *; omega)) (fun z hz => ?_); (try simp only at hz); cbv)
    | (refine rq (by first | exact trivial | omega | (dsimp only; omega) | (simp only [sm] at *; omega)) ?_; cbv)
    | (refine QC.tt (by first | omega | (dsimp only; omega) | exact rfl | (simp only [sm] at *; omega)) ?_; cbv)
    | (refine QC.tt ?_ ?_; (focus (simp only [decide_true, Bool.and_true, Bool.and_self] <;> fail)); cbv)
    | (refine QC.ff ?_ ?_; (focus (simp only [decide_true, Bool.and_true, Bool.and_self, decide_false, Bool.false_and, reduceCtorEq, not_false_eq_true] <;> fail)); cbv)
    | (refine QC.ff (by first | omega | (dsimp only; omega) | (simp only [sm] at *; omega)) ?_; cbv)
    | (refine QC.mk (fun hc => ?_) (fun hc => ?_) <;> (try dsimp only at hc) <;> cbv)
    | (refine br_mk2 (fun hb => ?_) (fun hb => ?_) <;> (try subst hb) <;> cbv)))
  (refine callq (g1) rfl rfl ?_; cbv; (repeat' (first
    | (refine q1 (by first | exact trivial | omega | (dsimp only; omega) | exact pow62 _ (by omega) | exact mul9 (by omega) (by omega) | (simp only [sm] at *; omega)) (fun z hz => ?_); (try simp only at hz); cbv)
    | (refine rq (by first | exact trivial | omega | (dsimp only; omega) | (simp only [sm] at *; omega)) ?_; cbv)
    | (refine QC.tt (by first | omega | (dsimp only; omega) | exact rfl | (simp only [sm] at *; omega)) ?_; cbv)
    | (refine QC.tt ?_ ?_; (focus (simp only [decide_true, Bool.and_true, Bool.and_self] <;> fail)); cbv)
    | (refine QC.ff ?_ ?_; (focus (simp only [decide_true, Bool.and_true, Bool.and_self, decide_false, Bool.false_and, reduceCtorEq, not_false_eq_true] <;> fail)); cbv)
    | (refine QC.ff (by first | omega | (dsimp only; omega) | (simp only [sm] at *; omega)) ?_; cbv)
    | (refine QC.mk (fun hc => ?_) (fun hc => ?_) <;> (try dsimp only at hc) <;> cbv)
    | (refine br_mk2 (fun hb => ?_) (fun hb => ?_) <;> (try subst hb) <;> cbv))))
  · obtain ⟨e1, e2, e3⟩ := x2 rfl (.inl hc)
    refine Fin.mk ?_ rfl rfl
    rw [e1, e2, e3]
  · obtain ⟨e1, e2, e3⟩ := x2 rfl (.inr hc)
    refine Fin.mk ?_ rfl rfl
    rw [e1, e2, e3]
  · rename_i h1
    have ht : ¬ (now < 0 ∨ 1099511627776 < now) := by omega
    have x3 := x3 rfl ht
    have x4 := x4 rfl ht
    have x5 := x5 rfl ht
    have hpos := hpos rfl
    have hn32 := hn32 rfl
    have hrd := hrd rfl
    clear x1 x2
    (refine callq (g2) rfl rfl ?_; cbv; (repeat' (first
    | (refine q1 (by first | exact trivial | omega | (dsimp only; omega) | exact pow62 _ (by omega) | exact mul9 (by omega) (by omega) | (simp only [sm] at *; omega)) (fun z hz => ?_); (try simp only at hz); cbv)
    | (refine rq (by first | exact trivial | omega | (dsimp only; omega) | (simp only [sm] at *; omega)) ?_; cbv)
    | (refine QC.tt (by first | omega | (dsimp only; omega) | exact rfl | (simp only [sm] at *; omega)) ?_; cbv)
    | (refine QC.tt ?_ ?_; (focus (simp only [decide_true, Bool.and_true, Bool.and_self] <;> fail)); cbv)
    | (refine QC.ff ?_ ?_; (focus (simp only [decide_true, Bool.and_true, Bool.and_self, decide_false, Bool.false_and, reduceCtorEq, not_false_eq_true] <;> fail)); cbv)
    | (refine QC.ff (by first | omega | (dsimp only; omega) | (simp only [sm] at *; omega)) ?_; cbv)
    | (refine QC.mk (fun hc => ?_) (fun hc => ?_) <;> (try dsimp only at hc) <;> cbv)
    | (refine br_mk2 (fun hb => ?_) (fun hb => ?_) <;> (try subst hb) <;> cbv))))
    · obtain ⟨e1, e2, e3⟩ := x3 (.inl hc)
      refine Fin.mk ?_ rfl rfl
      rw [e1, e2, e3]
    · obtain ⟨e1, e2, e3⟩ := x3 (.inr hc)
      refine Fin.mk ?_ rfl rfl
      rw [e1, e2, e3]
    · rename_i h2 h3
      obtain ⟨e1, e2, e3⟩ := x4 (by omega) hc
      refine Fin.mk ?_ rfl rfl
      rw [e1, e2, e3]
    · rename_i h2 h3 h4 z1 hz1 z2 hz2
      have x5 := x5 (by omega) hc
      have hpos := hpos (by omega)
      clear x3 x4
      have gm := gm z1 z
      (refine callq (gm) rfl rfl ?_; cbv; (repeat' (first
    | (refine q1 (by first | exact trivial | omega | (dsimp only; omega) | exact pow62 _ (by omega) | exact mul9 (by omega) (by omega) | (simp only [sm] at *; omega)) (fun z hz => ?_); (try simp only at hz); cbv)
    | (refine rq (by first | exact trivial | omega | (dsimp only; omega) | (simp only [sm] at *; omega)) ?_; cbv)
    | (refine QC.tt (by first | omega | (dsimp only; omega) | exact rfl | (simp only [sm] at *; omega)) ?_; cbv)
    | (refine QC.tt ?_ ?_; (focus (simp only [decide_true, Bool.and_true, Bool.and_self] <;> fail)); cbv)
    | (refine QC.ff ?_ ?_; (focus (simp only [decide_true, Bool.and_true, Bool.and_self, decide_false, Bool.false_and, reduceCtorEq, not_false_eq_true] <;> fail)); cbv)
    | (refine QC.ff (by first | omega | (dsimp only; omega) | (simp only [sm] at *; omega)) ?_; cbv)
    | (refine QC.mk (fun hc => ?_) (fun hc => ?_) <;> (try dsimp only at hc) <;> cbv)
    | (refine br_mk2 (fun hb => ?_) (fun hb => ?_) <;> (try subst hb) <;> cbv))))
      obtain ⟨e1, e2, e3⟩ := x5
      rw [← hz2, ← hz, ← hz1] at e1
      have gq := gq z1 z hn32
      clear gm g1
      refine rangeQ (misX ak 0 R) gq hxs (A := Option Nat) (fun p => match p with | none => True | some k => 1 ≤ k ∧ k ≤ W ∧ k ≤ 8) (fun p => match p with | none => 0 | some k => k) (fun p => [])
        (fun p => match p with | none => [(7, .chunk 36 .nil)] | some k => [(7, .chunk 36 (.row 66)), (66, .row (some 5) 51 (S k))]) none ⟨trivial, rfl⟩ ?_ ?_ ?_
      · cbv
        try trace_state
      · intro p x hp hx
        cases p with
        | none =>
          have hx1 := hS1 0 x hx
          have hxe := hx1.1
          subst hxe
          have hkW := hx1.2.1
          have hi := hx1.2.2.1
          have hbl := hx1.2.2.2.1
          have hSs := hx1.2.2.2.2
          clear hp hx hx1
          have g3 := cloned_c (bF 0) (BF 0) (hBF 0) hbl
          have hmz : True := trivial
          cbv
          (repeat' (first
    | (refine q1 (by first | exact trivial | omega | (dsimp only; omega) | exact pow62 _ (by omega) | exact mul9 (by omega) (by omega) | (simp only [sm] at *; omega)) (fun z hz => ?_); (try simp only at hz); cbv)
    | (refine rq (by first | exact trivial | omega | (dsimp only; omega) | (simp only [sm] at *; omega)) ?_; cbv)
    | (refine QC.tt (by first | omega | (dsimp only; omega) | exact rfl | (simp only [sm] at *; omega)) ?_; cbv)
    | (refine QC.tt ?_ ?_; (focus (simp only [decide_true, Bool.and_true, Bool.and_self] <;> fail)); cbv)
    | (refine QC.ff ?_ ?_; (focus (simp only [decide_true, Bool.and_true, Bool.and_self, decide_false, Bool.false_and, reduceCtorEq, not_false_eq_true] <;> fail)); cbv)
    | (refine QC.ff (by first | omega | (dsimp only; omega) | (simp only [sm] at *; omega)) ?_; cbv)
    | (refine QC.mk (fun hc => ?_) (fun hc => ?_) <;> (try dsimp only at hc) <;> cbv)
    | (refine br_mk2 (fun hb => ?_) (fun hb => ?_) <;> (try subst hb) <;> cbv)))
          (refine callq (g3) rfl rfl ?_; cbv; (repeat' (first
    | (refine q1 (by first | exact trivial | omega | (dsimp only; omega) | exact pow62 _ (by omega) | exact mul9 (by omega) (by omega) | (simp only [sm] at *; omega)) (fun z hz => ?_); (try simp only at hz); cbv)
    | (refine rq (by first | exact trivial | omega | (dsimp only; omega) | (simp only [sm] at *; omega)) ?_; cbv)
    | (refine QC.tt (by first | omega | (dsimp only; omega) | exact rfl | (simp only [sm] at *; omega)) ?_; cbv)
    | (refine QC.tt ?_ ?_; (focus (simp only [decide_true, Bool.and_true, Bool.and_self] <;> fail)); cbv)
    | (refine QC.ff ?_ ?_; (focus (simp only [decide_true, Bool.and_true, Bool.and_self, decide_false, Bool.false_and, reduceCtorEq, not_false_eq_true] <;> fail)); cbv)
    | (refine QC.ff (by first | omega | (dsimp only; omega) | (simp only [sm] at *; omega)) ?_; cbv)
    | (refine QC.mk (fun hc => ?_) (fun hc => ?_) <;> (try dsimp only at hc) <;> cbv)
    | (refine br_mk2 (fun hb => ?_) (fun hb => ?_) <;> (try subst hb) <;> cbv))))
          refine ⟨some 1, ⟨Nat.le_refl _, by show 1 ≤ W; omega, by show 1 ≤ 8; omega⟩, rfl, ?_⟩
          cbv
          refine ⟨?_, trivial⟩
          show Blk.row (some 5) 51 [.agg [.int .u8 tag, .int .i64 (iF 0 : Int), .int .i64 z, .bool false, .lst none (BF 0)]] = .row (some 5) 51 (S (0 + 1))
          rw [hSs, hS0, show z = (ps.length : Int) by (first | omega | (simp only [cst] at *; omega) | (simp only [sm] at *; omega))]
          rfl
        | some k =>
          have hk1 : 1 ≤ k := hp.1
          have hkW : k ≤ W := hp.2.1
          have hk8 : k ≤ 8 := hp.2.2
          have hx1 := hS1 k x hx
          have hxe := hx1.1
          subst hxe
          have hkW2 := hx1.2.1
          have hi := hx1.2.2.1
          have hbl := hx1.2.2.2.1
          have hSs := hx1.2.2.2.2
          have hSlk := hSl k hkW
          clear hp hx hx1
          have g3 := cloned_c (bF k) (BF k) (hBF k) hbl
          have hmz : True := trivial
          cbv
          (repeat' (first
    | (refine q1 (by first | exact trivial | omega | (dsimp only; omega) | exact pow62 _ (by omega) | exact mul9 (by omega) (by omega) | (simp only [sm] at *; omega)) (fun z hz => ?_); (try simp only at hz); cbv)
    | (refine rq (by first | exact trivial | omega | (dsimp only; omega) | (simp only [sm] at *; omega)) ?_; cbv)
    | (refine QC.tt (by first | omega | (dsimp only; omega) | exact rfl | (simp only [sm] at *; omega)) ?_; cbv)
    | (refine QC.tt ?_ ?_; (focus (simp only [decide_true, Bool.and_true, Bool.and_self] <;> fail)); cbv)
    | (refine QC.ff ?_ ?_; (focus (simp only [decide_true, Bool.and_true, Bool.and_self, decide_false, Bool.false_and, reduceCtorEq, not_false_eq_true] <;> fail)); cbv)
    | (refine QC.ff (by first | omega | (dsimp only; omega) | (simp only [sm] at *; omega)) ?_; cbv)
    | (refine QC.mk (fun hc => ?_) (fun hc => ?_) <;> (try dsimp only at hc) <;> cbv)
    | (refine br_mk2 (fun hb => ?_) (fun hb => ?_) <;> (try subst hb) <;> cbv)))
          · have hkk : k = 8 := by (first | omega | (simp only [cst] at *; omega) | (simp only [sm] at *; omega))
            have hWk : min W 8 = k := by omega
            have hm1 := (hSm k hk1 hkW).1
            have hm2 := (hSm k hk1 hkW).2
            skip
            refine qv (k - 1) ⟨by (first | omega | (simp only [cst] at *; omega) | (simp only [sm] at *; omega)), by rw [oln]; omega⟩ ?_
            cbv
            (repeat' (first
    | (refine q1 (by first | exact trivial | omega | (dsimp only; omega) | exact pow62 _ (by omega) | exact mul9 (by omega) (by omega) | (simp only [sm] at *; omega)) (fun z hz => ?_); (try simp only at hz); cbv)
    | (refine rq (by first | exact trivial | omega | (dsimp only; omega) | (simp only [sm] at *; omega)) ?_; cbv)
    | (refine QC.tt (by first | omega | (dsimp only; omega) | exact rfl | (simp only [sm] at *; omega)) ?_; cbv)
    | (refine QC.tt ?_ ?_; (focus (simp only [decide_true, Bool.and_true, Bool.and_self] <;> fail)); cbv)
    | (refine QC.ff ?_ ?_; (focus (simp only [decide_true, Bool.and_true, Bool.and_self, decide_false, Bool.false_and, reduceCtorEq, not_false_eq_true] <;> fail)); cbv)
    | (refine QC.ff (by first | omega | (dsimp only; omega) | (simp only [sm] at *; omega)) ?_; cbv)
    | (refine QC.mk (fun hc => ?_) (fun hc => ?_) <;> (try dsimp only at hc) <;> cbv)
    | (refine br_mk2 (fun hb => ?_) (fun hb => ?_) <;> (try subst hb) <;> cbv)))
            refine qv _ ⟨hm1, by simp⟩ ?_
            cbv
            (repeat' (first
    | (refine q1 (by first | exact trivial | omega | (dsimp only; omega) | exact pow62 _ (by omega) | exact mul9 (by omega) (by omega) | (simp only [sm] at *; omega)) (fun z hz => ?_); (try simp only at hz); cbv)
    | (refine rq (by first | exact trivial | omega | (dsimp only; omega) | (simp only [sm] at *; omega)) ?_; cbv)
    | (refine QC.tt (by first | omega | (dsimp only; omega) | exact rfl | (simp only [sm] at *; omega)) ?_; cbv)
    | (refine QC.tt ?_ ?_; (focus (simp only [decide_true, Bool.and_true, Bool.and_self] <;> fail)); cbv)
    | (refine QC.ff ?_ ?_; (focus (simp only [decide_true, Bool.and_true, Bool.and_self, decide_false, Bool.false_and, reduceCtorEq, not_false_eq_true] <;> fail)); cbv)
    | (refine QC.ff (by first | omega | (dsimp only; omega) | (simp only [sm] at *; omega)) ?_; cbv)
    | (refine QC.mk (fun hc => ?_) (fun hc => ?_) <;> (try dsimp only at hc) <;> cbv)
    | (refine br_mk2 (fun hb => ?_) (fun hb => ?_) <;> (try subst hb) <;> cbv)))
            refine Fin.mk ?_ rfl rfl
            rw [e1, e2, e3, hWk, ← hm2]
            show SV.tup [_, .lst (some 5) (O.st (S k) (k - 1) _), _] = _
            rw [ost]
            rfl
          · (refine callq (g3) rfl rfl ?_; cbv; (repeat' (first
    | (refine q1 (by first | exact trivial | omega | (dsimp only; omega) | exact pow62 _ (by omega) | exact mul9 (by omega) (by omega) | (simp only [sm] at *; omega)) (fun z hz => ?_); (try simp only at hz); cbv)
    | (refine rq (by first | exact trivial | omega | (dsimp only; omega) | (simp only [sm] at *; omega)) ?_; cbv)
    | (refine QC.tt (by first | omega | (dsimp only; omega) | exact rfl | (simp only [sm] at *; omega)) ?_; cbv)
    | (refine QC.tt ?_ ?_; (focus (simp only [decide_true, Bool.and_true, Bool.and_self] <;> fail)); cbv)
    | (refine QC.ff ?_ ?_; (focus (simp only [decide_true, Bool.and_true, Bool.and_self, decide_false, Bool.false_and, reduceCtorEq, not_false_eq_true] <;> fail)); cbv)
    | (refine QC.ff (by first | omega | (dsimp only; omega) | (simp only [sm] at *; omega)) ?_; cbv)
    | (refine QC.mk (fun hc => ?_) (fun hc => ?_) <;> (try dsimp only at hc) <;> cbv)
    | (refine br_mk2 (fun hb => ?_) (fun hb => ?_) <;> (try subst hb) <;> cbv))))
            have hkk : k ≠ 8 := by (first | omega | (simp only [cst] at *; omega) | (simp only [sm] at *; omega))
            refine ⟨some (k + 1), ⟨by show 1 ≤ k + 1; omega, by show k + 1 ≤ W; omega, by show k + 1 ≤ 8; omega⟩, rfl, ?_⟩
            cbv
            refine ⟨?_, trivial⟩
            show Blk.row (some 5) 51 (apL (S k) [.agg [.int .u8 tag, .int .i64 (iF k : Int), .int .i64 z, .bool false, .lst none (BF k)]]) = .row (some 5) 51 (S (k + 1))
            rw [apL_eq, hSs, show z = (ps.length : Int) by (first | omega | (simp only [cst] at *; omega) | (simp only [sm] at *; omega))]
      · intro p hp hps
        cases p with
        | none =>
          have hps' : 0 = (misX ak 0 R).length := hps
          have hWk : 0 = W := by rw [← hxl]; exact hps'
          clear hp hps hps'
          cbv
          exfalso
          (first | omega | (simp only [cst] at *; omega) | (simp only [sm] at *; omega))
        | some k =>
          have hk1 : 1 ≤ k := hp.1
          have hkW : k ≤ W := hp.2.1
          have hk8 : k ≤ 8 := hp.2.2
          have hps' : k = (misX ak 0 R).length := hps
          have hSlk := hSl k hkW
          have hWk : min W 8 = k := by omega
          have hm1 := (hSm k hk1 hkW).1
          have hm2 := (hSm k hk1 hkW).2
          clear hp hps
          have hmz : True := trivial
          cbv
          (repeat' (first
    | (refine q1 (by first | exact trivial | omega | (dsimp only; omega) | exact pow62 _ (by omega) | exact mul9 (by omega) (by omega) | (simp only [sm] at *; omega)) (fun z hz => ?_); (try simp only at hz); cbv)
    | (refine rq (by first | exact trivial | omega | (dsimp only; omega) | (simp only [sm] at *; omega)) ?_; cbv)
    | (refine QC.tt (by first | omega | (dsimp only; omega) | exact rfl | (simp only [sm] at *; omega)) ?_; cbv)
    | (refine QC.tt ?_ ?_; (focus (simp only [decide_true, Bool.and_true, Bool.and_self] <;> fail)); cbv)
    | (refine QC.ff ?_ ?_; (focus (simp only [decide_true, Bool.and_true, Bool.and_self, decide_false, Bool.false_and, reduceCtorEq, not_false_eq_true] <;> fail)); cbv)
    | (refine QC.ff (by first | omega | (dsimp only; omega) | (simp only [sm] at *; omega)) ?_; cbv)
    | (refine QC.mk (fun hc => ?_) (fun hc => ?_) <;> (try dsimp only at hc) <;> cbv)
    | (refine br_mk2 (fun hb => ?_) (fun hb => ?_) <;> (try subst hb) <;> cbv)))
          refine qv (k - 1) ⟨by (first | omega | (simp only [cst] at *; omega) | (simp only [sm] at *; omega)), by rw [oln]; omega⟩ ?_
          cbv
          (repeat' (first
    | (refine q1 (by first | exact trivial | omega | (dsimp only; omega) | exact pow62 _ (by omega) | exact mul9 (by omega) (by omega) | (simp only [sm] at *; omega)) (fun z hz => ?_); (try simp only at hz); cbv)
    | (refine rq (by first | exact trivial | omega | (dsimp only; omega) | (simp only [sm] at *; omega)) ?_; cbv)
    | (refine QC.tt (by first | omega | (dsimp only; omega) | exact rfl | (simp only [sm] at *; omega)) ?_; cbv)
    | (refine QC.tt ?_ ?_; (focus (simp only [decide_true, Bool.and_true, Bool.and_self] <;> fail)); cbv)
    | (refine QC.ff ?_ ?_; (focus (simp only [decide_true, Bool.and_true, Bool.and_self, decide_false, Bool.false_and, reduceCtorEq, not_false_eq_true] <;> fail)); cbv)
    | (refine QC.ff (by first | omega | (dsimp only; omega) | (simp only [sm] at *; omega)) ?_; cbv)
    | (refine QC.mk (fun hc => ?_) (fun hc => ?_) <;> (try dsimp only at hc) <;> cbv)
    | (refine br_mk2 (fun hb => ?_) (fun hb => ?_) <;> (try subst hb) <;> cbv)))
          refine qv _ ⟨hm1, by simp⟩ ?_
          cbv
          (repeat' (first
    | (refine q1 (by first | exact trivial | omega | (dsimp only; omega) | exact pow62 _ (by omega) | exact mul9 (by omega) (by omega) | (simp only [sm] at *; omega)) (fun z hz => ?_); (try simp only at hz); cbv)
    | (refine rq (by first | exact trivial | omega | (dsimp only; omega) | (simp only [sm] at *; omega)) ?_; cbv)
    | (refine QC.tt (by first | omega | (dsimp only; omega) | exact rfl | (simp only [sm] at *; omega)) ?_; cbv)
    | (refine QC.tt ?_ ?_; (focus (simp only [decide_true, Bool.and_true, Bool.and_self] <;> fail)); cbv)
    | (refine QC.ff ?_ ?_; (focus (simp only [decide_true, Bool.and_true, Bool.and_self, decide_false, Bool.false_and, reduceCtorEq, not_false_eq_true] <;> fail)); cbv)
    | (refine QC.ff (by first | omega | (dsimp only; omega) | (simp only [sm] at *; omega)) ?_; cbv)
    | (refine QC.mk (fun hc => ?_) (fun hc => ?_) <;> (try dsimp only at hc) <;> cbv)
    | (refine br_mk2 (fun hb => ?_) (fun hb => ?_) <;> (try subst hb) <;> cbv)))
          refine Fin.mk ?_ rfl rfl
          rw [e1, e2, e3, hWk, ← hm2]
          show SV.tup [_, .lst (some 5) (O.st (S k) (k - 1) _), _] = _
          rw [ost]
          rfl
  · obtain ⟨e1, e2, e3⟩ := x1 rfl
    refine Fin.mk ?_ rfl rfl
    rw [e1, e2, e3]
end Go.Proofs.Ytjhicdoigllblaa
/- Contract of multihopref19.Next. -/
namespace Go.Proofs.Ytjhicdoigllblaa
set_option linter.unusedVariables false
set_option linter.unusedSimpArgs false
open Go.RowKit
set_option maxHeartbeats 16000000
theorem opn_at {ak : Int} {n i : Nat} (hi : i < n) (h : ak / 2 ^ i % 2 = 0) : (opn ak n)[cntF ak 0 i]? = some i := by
  have h1 := misX_at ak (List.replicate n .any) 0 i .any (by simp [hi]) (by rw [Nat.zero_add]; exact h)
  rw [misX_eq, List.length_replicate, List.getElem?_map] at h1
  have e : ((List.range n).filter fun i => decide (ak / 2 ^ (0 + i) % 2 = 0)) = opn ak n := by rw [opn]; simp
  rw [e] at h1
  cases h2 : (opn ak n)[cntF ak 0 i]? with
  | none => rw [h2] at h1; cases h1
  | some q =>
    rw [h2] at h1
    simp at h1
    rw [show q = i by omega]
theorem opn_cnt (ak : Int) (n : Nat) : cntF ak 0 n = (opn ak n).length := by
  have h1 := misX_len ak (List.replicate n .any) 0
  rw [misX_eq, List.length_map, List.length_replicate] at h1
  rw [← h1, opn]
  simp
theorem and1n (m : Int) (h : 0 ≤ m) (i : Nat) : (((m / 2 ^ i).toNat &&& 1 : Nat) : Int) = m / 2 ^ i % 2 := by
  have h0 : 0 ≤ m / 2 ^ i := Int.ediv_nonneg h (Int.pow_nonneg (by omega))
  obtain ⟨k, hk⟩ := Int.eq_ofNat_of_zero_le h0
  rw [hk, Int.toNat_natCast, Nat.and_one_is_mod]
  omega
set_option maxRecDepth 4000 in
theorem rnx_c (st tag ak rd un : Int) (ps : List (List UInt8)) (R : List SV) (hR : R = rowsB ps) (hf : Snd.fits ⟨st, tag, ps, ak, rd, un⟩) (b : Bool) (hb : b = true ↔ VS ⟨st, tag, ps, ak, rd, un⟩) (now : Int) (hnow : -9223372036854775808 ≤ now ∧ now ≤ 9223372036854775807)
    (X : SV) (l : List Pce) (L : List SV) (hL : L = pcL l) (e : Int) (hX : nextX ⟨st, tag, ps, ak, rd, un⟩ b now = (X, l, e)) :
    Good 16 (pu [.agg [.int .i64 st, .int .u8 tag, .lst none R, .int .u32 ak, .int .i64 rd, .int .i64 un], .int .i64 now] (.tup [X, .lst (some 5) L, .int .i64 e])) := by
  have hRl : R.length = ps.length := by rw [hR, rowsB_len]
  have hfb := hf.b
  have hfn := hf.n
  have hak := hf.ak
  have g1 := rvsender_c st tag ak rd un ps R hR hf b hb
  have g2 := copied_c ps R hR hf.n hf.b
  have g3 := rtime_c now _ rfl
  obtain ⟨lt, hlt⟩ : ∃ lt : Int, lt = min (now + 8) 1099511627776 := ⟨_, rfl⟩
  have g4 := fun h => rlater_c now lt h hlt
  obtain ⟨tb, htb⟩ : ∃ tb, tb = timeT now := ⟨_, rfl⟩
  have htb1 : tb = true → ¬ (now < 0 ∨ 1099511627776 < now) := fun h => by rw [htb, timeT] at h; simp at h; omega
  have htb0 : tb = false → now < 0 ∨ 1099511627776 < now := fun h => by rw [htb, timeT] at h; simp at h; omega
  rw [← htb] at g3
  clear htb
  have hv := fun h : b = true => hb.1 h
  obtain ⟨W, hW⟩ : ∃ W, W = (opn ak ps.length).length := ⟨_, rfl⟩
  have hpos : b = true → st = 1 → 1 ≤ W := fun h hst => by
    have v := hv h
    rw [hW]
    refine opn_pos hak.1 v.ak fun he => ?_
    have := v.d he
    dsimp only at this
    omega
  have hn32 : b = true → ps.length ≤ 32 := fun h => (hv h).n2
  have hrd : b = true → 0 ≤ rd ∧ rd ≤ 8 := fun h => ⟨(hv h).r1, (hv h).r2⟩
  obtain ⟨S, hS⟩ : ∃ S : Nat → List SV, ∀ k, S k = pcL (pre tag ps ak k) := ⟨_, fun _ => rfl⟩
  obtain ⟨N, hN⟩ : ∃ N : Int, N = ps.length := ⟨_, rfl⟩
  have hE := fun i hi => rowsB_at hR i hi
  obtain ⟨cn, hcn⟩ : ∃ cn : Nat → Nat, ∀ i, cn i = cntF ak 0 i := ⟨_, fun _ => rfl⟩
  have hcn0 : cn 0 = 0 := by rw [hcn]; rfl
  have hcnn : cn ps.length = W := by rw [hcn, hW, opn_cnt]
  have hcnW : ∀ i, i ≤ ps.length → cn i ≤ W := fun i hi => by
    rw [← hcnn]
    have : ∀ d, cn i ≤ cn (i + d) := fun d => by
      induction d with
      | zero => exact Nat.le_refl _
      | succ d ih =>
        have e : cn (i + (d + 1)) = cn (i + d) + (if ak / 2 ^ (0 + (i + d)) % 2 = 0 then 1 else 0) := by rw [hcn, hcn, ← cntF_succ]; rfl
        omega
    have := this (ps.length - i)
    rw [show i + (ps.length - i) = ps.length by omega] at this
    exact this
  obtain ⟨bt, hbt⟩ : ∃ bt : Nat → Int, ∀ i, bt i = ((ak / 2 ^ i).toNat &&& 1 : Nat) := ⟨_, fun _ => rfl⟩
  have hS1 : ∀ (i : Nat) (B : List SV), i < ps.length → R[i]? = some (.lst none B) → (bt i = 0 → cn (i + 1) = cn i + 1 ∧ S (cn i + 1) = S (cn i) ++ [.agg [.int .u8 tag, .int .i64 (i : Int), .int .i64 N, .bool false, .lst none B]]) ∧ (¬ bt i = 0 → cn (i + 1) = cn i) := fun i B hi hRi => by
    rw [hbt, and1n ak hak.1]
    have e : cn (i + 1) = cn i + (if ak / 2 ^ i % 2 = 0 then 1 else 0) := by rw [hcn, hcn, cntF_succ, Nat.zero_add]
    refine ⟨fun h => ?_, fun h => ?_⟩
    · rw [if_pos h] at e
      refine ⟨e, ?_⟩
      obtain ⟨b, B', h1, h2, h3, h4, h5⟩ := pce_at (tag := tag) hR (opn_at hi h)
      rw [hRi] at h3
      injection h3 with h3
      injection h3 with _ h3
      rw [hS, hS, hcn, h3, hN]
      exact h5
    · rw [if_neg h] at e
      exact e
  clear hcn
  have hS0 : S 0 = [] := by rw [hS]; rfl
  have hSl : ∀ k, k ≤ W → (S k).length = k := fun k hk => by rw [hS, pcL_len, pre_len _ _ _ _ (by omega)]
  obtain ⟨F, hF⟩ : ∃ F : Nat → List SV, ∀ k, F k = pcL (mark (pre tag ps ak k)) := ⟨_, fun _ => rfl⟩
  have hSm0 : ∀ k, k + 1 ≤ W → ∃ (i : Nat) (B : List SV), (S (k + 1))[k]? = some (.agg [.int .u8 tag, .int .i64 (i : Int), .int .i64 (ps.length : Int), .bool false, .lst none B]) ∧ (S (k + 1)).set k (.agg [.int .u8 tag, .int .i64 (i : Int), .int .i64 (ps.length : Int), .bool true, .lst none B]) = F (k + 1) := fun k hk => by
    rw [hS, hF]; exact pre_mark hR (by omega)
  rw [← hN] at hSm0
  obtain ⟨iM, BM, hSm⟩ : ∃ (iM : Nat → Nat) (BM : Nat → List SV), ∀ k, 1 ≤ k → k ≤ W → (S k)[k - 1]? = some (.agg [.int .u8 tag, .int .i64 (iM k : Int), .int .i64 N, .bool false, .lst none (BM k)]) ∧ (S k).set (k - 1) (.agg [.int .u8 tag, .int .i64 (iM k : Int), .int .i64 N, .bool true, .lst none (BM k)]) = F k := by
    have : ∀ k, ∃ (i : Nat) (B : List SV), 1 ≤ k → k ≤ W → (S k)[k - 1]? = some (.agg [.int .u8 tag, .int .i64 (i : Int), .int .i64 N, .bool false, .lst none B]) ∧ (S k).set (k - 1) (.agg [.int .u8 tag, .int .i64 (i : Int), .int .i64 N, .bool true, .lst none B]) = F k := fun k => by
      by_cases h : 1 ≤ k ∧ k ≤ W
      · obtain ⟨i, B, h1, h2⟩ := hSm0 (k - 1) (by omega)
        rw [show k - 1 + 1 = k by omega] at h1 h2
        exact ⟨i, B, fun _ _ => ⟨h1, h2⟩⟩
      · exact ⟨0, [], fun a b => absurd ⟨a, b⟩ h⟩
    exact ⟨fun k => Classical.choose (this k), fun k => Classical.choose (Classical.choose_spec (this k)), fun k => Classical.choose_spec (Classical.choose_spec (this k))⟩
  clear hSm0
  have x1 : b = false → X = .agg [.int .i64 0, .int .u8 0, .nil, .int .u32 0, .int .i64 0, .int .i64 0] ∧ L = [] ∧ e = 1 := fun h => by
    unfold nextX at hX; rw [if_pos h] at hX; obtain ⟨a1, a2⟩ := Prod.mk.inj hX; obtain ⟨a2, a3⟩ := Prod.mk.inj a2; exact ⟨a1.symm, by rw [hL, ← a2]; rfl, a3.symm⟩
  have x2 : b = true → now < 0 ∨ 1099511627776 < now → X = .agg [.int .i64 0, .int .u8 0, .nil, .int .u32 0, .int .i64 0, .int .i64 0] ∧ L = [] ∧ e = 2 := fun h h2 => by
    unfold nextX at hX; rw [if_neg (by rw [h]; simp), if_pos h2] at hX; obtain ⟨a1, a2⟩ := Prod.mk.inj hX; obtain ⟨a2, a3⟩ := Prod.mk.inj a2; exact ⟨a1.symm, by rw [hL, ← a2]; rfl, a3.symm⟩
  have x3 : b = true → ¬ (now < 0 ∨ 1099511627776 < now) → st ≠ 1 ∨ now < un → X = .agg [.int .i64 st, .int .u8 tag, .lst none R, .int .u32 ak, .int .i64 rd, .int .i64 un] ∧ L = [] ∧ e = 0 := fun h h2 h3 => by
    unfold nextX at hX; rw [if_neg (by rw [h]; simp), if_neg h2, if_pos h3] at hX; obtain ⟨a1, a2⟩ := Prod.mk.inj hX; obtain ⟨a2, a3⟩ := Prod.mk.inj a2; exact ⟨by rw [← a1, hR]; rfl, by rw [hL, ← a2]; rfl, a3.symm⟩
  have x4 : b = true → ¬ (now < 0 ∨ 1099511627776 < now) → ¬ (st ≠ 1 ∨ now < un) → rd = 8 → X = .agg [.int .i64 3, .int .u8 tag, .lst none R, .int .u32 ak, .int .i64 rd, .int .i64 un] ∧ L = [] ∧ e = 0 := fun h h2 h3 h4 => by
    unfold nextX at hX; rw [if_neg (by rw [h]; simp), if_neg h2, if_neg h3, if_pos h4] at hX; obtain ⟨a1, a2⟩ := Prod.mk.inj hX; obtain ⟨a2, a3⟩ := Prod.mk.inj a2; exact ⟨by rw [← a1, hR]; rfl, by rw [hL, ← a2]; rfl, a3.symm⟩
  have x5 : b = true → ¬ (now < 0 ∨ 1099511627776 < now) → ¬ (st ≠ 1 ∨ now < un) → ¬ rd = 8 → X = .agg [.int .i64 st, .int .u8 tag, .lst none R, .int .u32 ak, .int .i64 (rd + 1), .int .i64 (min (now + 8) 1099511627776)] ∧ L = F (min W 8) ∧ e = 0 := fun h h2 h3 h4 => by
    unfold nextX at hX; rw [if_neg (by rw [h]; simp), if_neg h2, if_neg h3, if_neg h4] at hX; obtain ⟨a1, a2⟩ := Prod.mk.inj hX; obtain ⟨a2, a3⟩ := Prod.mk.inj a2; exact ⟨by rw [← a1, hR]; rfl, by rw [hF, hW, hL, ← a2], a3.symm⟩
  rw [← hlt] at x5
  clear hX hb hv hS hF hW hlt
  refine Good.of Try.func16 rfl (by rfl) (by kernel_rfl) ?_
  cbv
  have hmz : True := trivial
  (repeat' (first
    | (refine q1 (by first | exact trivial | omega | (dsimp only; omega) | exact pow62 _ (by omega) | exact mul9 (by omega) (by omega) | (simp only [sm] at *; omega)) (fun z hz => ?_); (try simp only at hz); cbv)
    | (refine rq (by first | exact trivial | omega | (dsimp only; omega) | (simp only [sm] at *; omega)) ?_; cbv)
    | (refine QC.tt (by first | omega | (dsimp only; omega) | exact rfl | (simp only [sm] at *; omega)) ?_; cbv)
    | (refine QC.tt ?_ ?_; (focus (simp only [decide_true, Bool.and_true, Bool.and_self] <;> fail)); cbv)
    | (refine QC.ff ?_ ?_; (focus (simp only [decide_true, Bool.and_true, Bool.and_self, decide_false, Bool.false_and, reduceCtorEq, not_false_eq_true] <;> fail)); cbv)
    | (refine QC.ff (by first | omega | (dsimp only; omega) | (simp only [sm] at *; omega)) ?_; cbv)
    | (refine QC.mk (fun hc => ?_) (fun hc => ?_) <;> (try dsimp only at hc) <;> cbv)
    | (refine br_mk2 (fun hb => ?_) (fun hb => ?_) <;> (try subst hb) <;> cbv)))
  (refine callq (g1) rfl rfl ?_; cbv; (repeat' (first
    | (refine q1 (by first | exact trivial | omega | (dsimp only; omega) | exact pow62 _ (by omega) | exact mul9 (by omega) (by omega) | (simp only [sm] at *; omega)) (fun z hz => ?_); (try simp only at hz); cbv)
    | (refine rq (by first | exact trivial | omega | (dsimp only; omega) | (simp only [sm] at *; omega)) ?_; cbv)
    | (refine QC.tt (by first | omega | (dsimp only; omega) | exact rfl | (simp only [sm] at *; omega)) ?_; cbv)
    | (refine QC.tt ?_ ?_; (focus (simp only [decide_true, Bool.and_true, Bool.and_self] <;> fail)); cbv)
    | (refine QC.ff ?_ ?_; (focus (simp only [decide_true, Bool.and_true, Bool.and_self, decide_false, Bool.false_and, reduceCtorEq, not_false_eq_true] <;> fail)); cbv)
    | (refine QC.ff (by first | omega | (dsimp only; omega) | (simp only [sm] at *; omega)) ?_; cbv)
    | (refine QC.mk (fun hc => ?_) (fun hc => ?_) <;> (try dsimp only at hc) <;> cbv)
    | (refine br_mk2 (fun hb => ?_) (fun hb => ?_) <;> (try subst hb) <;> cbv))))
  · (refine callq (g3) rfl rfl ?_; cbv; (repeat' (first
    | (refine q1 (by first | exact trivial | omega | (dsimp only; omega) | exact pow62 _ (by omega) | exact mul9 (by omega) (by omega) | (simp only [sm] at *; omega)) (fun z hz => ?_); (try simp only at hz); cbv)
    | (refine rq (by first | exact trivial | omega | (dsimp only; omega) | (simp only [sm] at *; omega)) ?_; cbv)
    | (refine QC.tt (by first | omega | (dsimp only; omega) | exact rfl | (simp only [sm] at *; omega)) ?_; cbv)
    | (refine QC.tt ?_ ?_; (focus (simp only [decide_true, Bool.and_true, Bool.and_self] <;> fail)); cbv)
    | (refine QC.ff ?_ ?_; (focus (simp only [decide_true, Bool.and_true, Bool.and_self, decide_false, Bool.false_and, reduceCtorEq, not_false_eq_true] <;> fail)); cbv)
    | (refine QC.ff (by first | omega | (dsimp only; omega) | (simp only [sm] at *; omega)) ?_; cbv)
    | (refine QC.mk (fun hc => ?_) (fun hc => ?_) <;> (try dsimp only at hc) <;> cbv)
    | (refine br_mk2 (fun hb => ?_) (fun hb => ?_) <;> (try subst hb) <;> cbv))))
    · have ht := htb1 rfl
      have x3 := x3 rfl ht
      have x4 := x4 rfl ht
      have x5 := x5 rfl ht
      have hpos := hpos rfl
      have hn32 := hn32 rfl
      have hrd := hrd rfl
      clear x1 x2 htb0 htb1
      (refine callq (g2) rfl rfl ?_; cbv; (repeat' (first
    | (refine q1 (by first | exact trivial | omega | (dsimp only; omega) | exact pow62 _ (by omega) | exact mul9 (by omega) (by omega) | (simp only [sm] at *; omega)) (fun z hz => ?_); (try simp only at hz); cbv)
    | (refine rq (by first | exact trivial | omega | (dsimp only; omega) | (simp only [sm] at *; omega)) ?_; cbv)
    | (refine QC.tt (by first | omega | (dsimp only; omega) | exact rfl | (simp only [sm] at *; omega)) ?_; cbv)
    | (refine QC.tt ?_ ?_; (focus (simp only [decide_true, Bool.and_true, Bool.and_self] <;> fail)); cbv)
    | (refine QC.ff ?_ ?_; (focus (simp only [decide_true, Bool.and_true, Bool.and_self, decide_false, Bool.false_and, reduceCtorEq, not_false_eq_true] <;> fail)); cbv)
    | (refine QC.ff (by first | omega | (dsimp only; omega) | (simp only [sm] at *; omega)) ?_; cbv)
    | (refine QC.mk (fun hc => ?_) (fun hc => ?_) <;> (try dsimp only at hc) <;> cbv)
    | (refine br_mk2 (fun hb => ?_) (fun hb => ?_) <;> (try subst hb) <;> cbv))))
      · obtain ⟨e1, e2, e3⟩ := x3 (.inl hc)
        refine Fin.mk ?_ rfl rfl
        rw [e1, e2, e3]
      · obtain ⟨e1, e2, e3⟩ := x3 (.inr hc)
        refine Fin.mk ?_ rfl rfl
        rw [e1, e2, e3]
      · rename_i h2 h3
        obtain ⟨e1, e2, e3⟩ := x4 (fun h => h.elim h2 h3) hc
        refine Fin.mk ?_ rfl rfl
        rw [e1, e2, e3]
      · rename_i h2 h3
        have x5 := x5 (fun h => h.elim h2 h3) hc
        have hpos1 := hpos (Classical.not_not.1 h2)
        have g4 := g4 ⟨Int.not_lt.1 (fun h => ht (.inl h)), Int.not_lt.1 (fun h => ht (.inr h))⟩
        clear x3 x4
        (refine callq (g4) rfl rfl ?_; cbv; (repeat' (first
    | (refine q1 (by first | exact trivial | omega | (dsimp only; omega) | exact pow62 _ (by omega) | exact mul9 (by omega) (by omega) | (simp only [sm] at *; omega)) (fun z hz => ?_); (try simp only at hz); cbv)
    | (refine rq (by first | exact trivial | omega | (dsimp only; omega) | (simp only [sm] at *; omega)) ?_; cbv)
    | (refine QC.tt (by first | omega | (dsimp only; omega) | exact rfl | (simp only [sm] at *; omega)) ?_; cbv)
    | (refine QC.tt ?_ ?_; (focus (simp only [decide_true, Bool.and_true, Bool.and_self] <;> fail)); cbv)
    | (refine QC.ff ?_ ?_; (focus (simp only [decide_true, Bool.and_true, Bool.and_self, decide_false, Bool.false_and, reduceCtorEq, not_false_eq_true] <;> fail)); cbv)
    | (refine QC.ff (by first | omega | (dsimp only; omega) | (simp only [sm] at *; omega)) ?_; cbv)
    | (refine QC.mk (fun hc => ?_) (fun hc => ?_) <;> (try dsimp only at hc) <;> cbv)
    | (refine br_mk2 (fun hb => ?_) (fun hb => ?_) <;> (try subst hb) <;> cbv))))
        obtain ⟨e1, e2, e3⟩ := x5
        rw [← hz] at e1
        clear g1 g2 g3 g4 ht hpos
        refine loopQ (A := Nat × Int) (fun p => p.2 = p.1 ∧ p.1 ≤ ps.length ∧ cn p.1 ≤ 8) (fun p => ps.length - p.1) (fun p => [(8, .int .i64 p.2), (7, .row 7)]) (fun p => [(7, .row (some 5) 51 (S (cn p.1)))]) (0, 0) ⟨rfl, Nat.zero_le _, by rw [hcn0]; exact Nat.zero_le _⟩ ?_ ?_
        · cbv
          refine ⟨?_, trivial⟩
          show Blk.row (some 5) 51 [] = .row (some 5) 51 (S (cn 0))
          rw [hcn0, hS0]
        · intro ⟨i, j⟩ hh
          have hj : j = (i : Int) := hh.1
          have hi : i ≤ ps.length := hh.2.1
          have hc8 : cn i ≤ 8 := hh.2.2
          clear hh
          have hcw := hcnW i hi
          have hSlk := hSl (cn i) hcw
          have hmy : True := trivial
          cbv
          (repeat' (first
    | (refine q1 (by first | exact trivial | omega | (dsimp only; omega) | exact pow62 _ (by omega) | exact mul9 (by omega) (by omega) | (simp only [sm] at *; omega)) (fun z hz => ?_); (try simp only at hz); cbv)
    | (refine rq (by first | exact trivial | omega | (dsimp only; omega) | (simp only [sm] at *; omega)) ?_; cbv)
    | (refine QC.tt (by first | omega | (dsimp only; omega) | exact rfl | (simp only [sm] at *; omega)) ?_; cbv)
    | (refine QC.tt ?_ ?_; (focus (simp only [decide_true, Bool.and_true, Bool.and_self] <;> fail)); cbv)
    | (refine QC.ff ?_ ?_; (focus (simp only [decide_true, Bool.and_true, Bool.and_self, decide_false, Bool.false_and, reduceCtorEq, not_false_eq_true] <;> fail)); cbv)
    | (refine QC.ff (by first | omega | (dsimp only; omega) | (simp only [sm] at *; omega)) ?_; cbv)
    | (refine QC.mk (fun hc => ?_) (fun hc => ?_) <;> (try dsimp only at hc) <;> cbv)
    | (refine br_mk2 (fun hb => ?_) (fun hb => ?_) <;> (try subst hb) <;> cbv)))
          · rename_i zr hzr hcr zs hzs zj hzj
            have hiL : i < ps.length := by (first | omega | (simp only [cst] at *; omega) | (simp only [sm] at *; omega))
            have hji : zj.toNat = i := by (first | omega | (simp only [cst] at *; omega) | (simp only [sm] at *; omega))
            have hz0 : 0 ≤ z := by rw [hz]; exact Int.ediv_nonneg hak.1 (Int.pow_nonneg (by omega))
            have hz4 : z ≤ ak := by rw [hz]; exact Int.ediv_le_self _ hak.1
            have hak2 : ak ≤ 4294967295 := by have := hak.2; dsimp only at this; omega
            have hzz : ((z.toNat &&& Int.toNat 1 : Nat) : Int) = bt i := by rw [hbt, hz, hji]; rfl
            obtain ⟨b, B, hbi, hB, hEi⟩ := hE i hiL
            have hs := hS1 i B hiL hEi
            have hbl := hfb b (List.mem_of_getElem? hbi)
            have hBl : B.length = b.length := by rw [hB, u8l_len]
            have hcw2 := hcnW (i + 1) hiL
            clear hz
            refine q1 ⟨hz0, by omega, by omega, by omega⟩ ?_
            intro za hza
            have hza := hza.trans hzz
            clear hzz
            cbv
            (repeat' (first
    | (refine q1 (by first | exact trivial | omega | (dsimp only; omega) | exact pow62 _ (by omega) | exact mul9 (by omega) (by omega) | (simp only [sm] at *; omega)) (fun z hz => ?_); (try simp only at hz); cbv)
    | (refine rq (by first | exact trivial | omega | (dsimp only; omega) | (simp only [sm] at *; omega)) ?_; cbv)
    | (refine QC.tt (by first | omega | (dsimp only; omega) | exact rfl | (simp only [sm] at *; omega)) ?_; cbv)
    | (refine QC.tt ?_ ?_; (focus (simp only [decide_true, Bool.and_true, Bool.and_self] <;> fail)); cbv)
    | (refine QC.ff ?_ ?_; (focus (simp only [decide_true, Bool.and_true, Bool.and_self, decide_false, Bool.false_and, reduceCtorEq, not_false_eq_true] <;> fail)); cbv)
    | (refine QC.ff (by first | omega | (dsimp only; omega) | (simp only [sm] at *; omega)) ?_; cbv)
    | (refine QC.mk (fun hc => ?_) (fun hc => ?_) <;> (try dsimp only at hc) <;> cbv)
    | (refine br_mk2 (fun hb => ?_) (fun hb => ?_) <;> (try subst hb) <;> cbv)))
            · have hs := hs.1 (hza.symm.trans hc)
              have hs1 := hs.1
              have hs2 := hs.2
              clear hs
              rename_i zn hzn
              skip
              (refine qv (i, _) ⟨hj, hEi⟩ ?_; cbv; (repeat' (first
    | (refine q1 (by first | exact trivial | omega | (dsimp only; omega) | exact pow62 _ (by omega) | exact mul9 (by omega) (by omega) | (simp only [sm] at *; omega)) (fun z hz => ?_); (try simp only at hz); cbv)
    | (refine rq (by first | exact trivial | omega | (dsimp only; omega) | (simp only [sm] at *; omega)) ?_; cbv)
    | (refine QC.tt (by first | omega | (dsimp only; omega) | exact rfl | (simp only [sm] at *; omega)) ?_; cbv)
    | (refine QC.tt ?_ ?_; (focus (simp only [decide_true, Bool.and_true, Bool.and_self] <;> fail)); cbv)
    | (refine QC.ff ?_ ?_; (focus (simp only [decide_true, Bool.and_true, Bool.and_self, decide_false, Bool.false_and, reduceCtorEq, not_false_eq_true] <;> fail)); cbv)
    | (refine QC.ff (by first | omega | (dsimp only; omega) | (simp only [sm] at *; omega)) ?_; cbv)
    | (refine QC.mk (fun hc => ?_) (fun hc => ?_) <;> (try dsimp only at hc) <;> cbv)
    | (refine br_mk2 (fun hb => ?_) (fun hb => ?_) <;> (try subst hb) <;> cbv))))
              refine ⟨(i + 1, z), ⟨by show z = ((i + 1 : Nat) : Int); (first | omega | (simp only [cst] at *; omega) | (simp only [sm] at *; omega)), by show i + 1 ≤ ps.length; omega, by show cn (i + 1) ≤ 8; rw [hs1]; (first | omega | (simp only [cst] at *; omega) | (simp only [sm] at *; omega))⟩, by show ps.length - (i + 1) < ps.length - i; omega, ?_⟩
              cbv
              rename_i zN hzN
              refine ⟨?_, trivial⟩
              show Blk.row (some 5) 51 (apL (S (cn i)) [.agg [.int .u8 tag, .int .i64 j, .int .i64 zN, .bool false, .lst none B]]) = .row (some 5) 51 (S (cn (i + 1)))
              rw [apL_eq, hs1, hs2, show zN = N by (first | omega | (simp only [cst] at *; omega) | (simp only [sm] at *; omega)), hj]
            · have hs := hs.2 (fun h => hc (hza.trans h))
              refine ⟨(i + 1, z), ⟨by show z = ((i + 1 : Nat) : Int); (first | omega | (simp only [cst] at *; omega) | (simp only [sm] at *; omega)), by show i + 1 ≤ ps.length; omega, by show cn (i + 1) ≤ 8; omega⟩, by show ps.length - (i + 1) < ps.length - i; omega, ?_⟩
              cbv
              refine ⟨?_, trivial⟩
              show Blk.row (some 5) 51 (S (cn i)) = .row (some 5) 51 (S (cn (i + 1)))
              rw [hs]
          · have hWk : min W 8 = cn i := by (first | omega | (simp only [cst] at *; omega) | (simp only [sm] at *; omega))
            have hm1 := (hSm (cn i) (by (first | omega | (simp only [cst] at *; omega) | (simp only [sm] at *; omega))) hcw).1
            have hm2 := (hSm (cn i) (by (first | omega | (simp only [cst] at *; omega) | (simp only [sm] at *; omega))) hcw).2
            skip
            refine qv (cn i - 1) ⟨by (first | omega | (simp only [cst] at *; omega) | (simp only [sm] at *; omega)), by show cn i - 1 < O.ln (S (cn i)); rw [oln]; omega⟩ ?_
            cbv
            (repeat' (first
    | (refine q1 (by first | exact trivial | omega | (dsimp only; omega) | exact pow62 _ (by omega) | exact mul9 (by omega) (by omega) | (simp only [sm] at *; omega)) (fun z hz => ?_); (try simp only at hz); cbv)
    | (refine rq (by first | exact trivial | omega | (dsimp only; omega) | (simp only [sm] at *; omega)) ?_; cbv)
    | (refine QC.tt (by first | omega | (dsimp only; omega) | exact rfl | (simp only [sm] at *; omega)) ?_; cbv)
    | (refine QC.tt ?_ ?_; (focus (simp only [decide_true, Bool.and_true, Bool.and_self] <;> fail)); cbv)
    | (refine QC.ff ?_ ?_; (focus (simp only [decide_true, Bool.and_true, Bool.and_self, decide_false, Bool.false_and, reduceCtorEq, not_false_eq_true] <;> fail)); cbv)
    | (refine QC.ff (by first | omega | (dsimp only; omega) | (simp only [sm] at *; omega)) ?_; cbv)
    | (refine QC.mk (fun hc => ?_) (fun hc => ?_) <;> (try dsimp only at hc) <;> cbv)
    | (refine br_mk2 (fun hb => ?_) (fun hb => ?_) <;> (try subst hb) <;> cbv)))
            refine qv _ ⟨hm1, by simp⟩ ?_
            cbv
            (repeat' (first
    | (refine q1 (by first | exact trivial | omega | (dsimp only; omega) | exact pow62 _ (by omega) | exact mul9 (by omega) (by omega) | (simp only [sm] at *; omega)) (fun z hz => ?_); (try simp only at hz); cbv)
    | (refine rq (by first | exact trivial | omega | (dsimp only; omega) | (simp only [sm] at *; omega)) ?_; cbv)
    | (refine QC.tt (by first | omega | (dsimp only; omega) | exact rfl | (simp only [sm] at *; omega)) ?_; cbv)
    | (refine QC.tt ?_ ?_; (focus (simp only [decide_true, Bool.and_true, Bool.and_self] <;> fail)); cbv)
    | (refine QC.ff ?_ ?_; (focus (simp only [decide_true, Bool.and_true, Bool.and_self, decide_false, Bool.false_and, reduceCtorEq, not_false_eq_true] <;> fail)); cbv)
    | (refine QC.ff (by first | omega | (dsimp only; omega) | (simp only [sm] at *; omega)) ?_; cbv)
    | (refine QC.mk (fun hc => ?_) (fun hc => ?_) <;> (try dsimp only at hc) <;> cbv)
    | (refine br_mk2 (fun hb => ?_) (fun hb => ?_) <;> (try subst hb) <;> cbv)))
            refine Fin.mk ?_ rfl rfl
            rw [e1, e2, e3, hWk, ← hm2]
            show SV.tup [_, .lst (some 5) (O.st (S (cn i)) (cn i - 1) _), _] = _
            rw [ost]
            rfl
          · have hii : i = ps.length := by (first | omega | (simp only [cst] at *; omega) | (simp only [sm] at *; omega))
            have hcc : cn i = W := by rw [hii, hcnn]
            have hWk : min W 8 = cn i := by omega
            have hm1 := (hSm (cn i) (by omega) hcw).1
            have hm2 := (hSm (cn i) (by omega) hcw).2
            skip
            refine qv (cn i - 1) ⟨by (first | omega | (simp only [cst] at *; omega) | (simp only [sm] at *; omega)), by show cn i - 1 < O.ln (S (cn i)); rw [oln]; omega⟩ ?_
            cbv
            (repeat' (first
    | (refine q1 (by first | exact trivial | omega | (dsimp only; omega) | exact pow62 _ (by omega) | exact mul9 (by omega) (by omega) | (simp only [sm] at *; omega)) (fun z hz => ?_); (try simp only at hz); cbv)
    | (refine rq (by first | exact trivial | omega | (dsimp only; omega) | (simp only [sm] at *; omega)) ?_; cbv)
    | (refine QC.tt (by first | omega | (dsimp only; omega) | exact rfl | (simp only [sm] at *; omega)) ?_; cbv)
    | (refine QC.tt ?_ ?_; (focus (simp only [decide_true, Bool.and_true, Bool.and_self] <;> fail)); cbv)
    | (refine QC.ff ?_ ?_; (focus (simp only [decide_true, Bool.and_true, Bool.and_self, decide_false, Bool.false_and, reduceCtorEq, not_false_eq_true] <;> fail)); cbv)
    | (refine QC.ff (by first | omega | (dsimp only; omega) | (simp only [sm] at *; omega)) ?_; cbv)
    | (refine QC.mk (fun hc => ?_) (fun hc => ?_) <;> (try dsimp only at hc) <;> cbv)
    | (refine br_mk2 (fun hb => ?_) (fun hb => ?_) <;> (try subst hb) <;> cbv)))
            refine qv _ ⟨hm1, by simp⟩ ?_
            cbv
            (repeat' (first
    | (refine q1 (by first | exact trivial | omega | (dsimp only; omega) | exact pow62 _ (by omega) | exact mul9 (by omega) (by omega) | (simp only [sm] at *; omega)) (fun z hz => ?_); (try simp only at hz); cbv)
    | (refine rq (by first | exact trivial | omega | (dsimp only; omega) | (simp only [sm] at *; omega)) ?_; cbv)
    | (refine QC.tt (by first | omega | (dsimp only; omega) | exact rfl | (simp only [sm] at *; omega)) ?_; cbv)
    | (refine QC.tt ?_ ?_; (focus (simp only [decide_true, Bool.and_true, Bool.and_self] <;> fail)); cbv)
    | (refine QC.ff ?_ ?_; (focus (simp only [decide_true, Bool.and_true, Bool.and_self, decide_false, Bool.false_and, reduceCtorEq, not_false_eq_true] <;> fail)); cbv)
    | (refine QC.ff (by first | omega | (dsimp only; omega) | (simp only [sm] at *; omega)) ?_; cbv)
    | (refine QC.mk (fun hc => ?_) (fun hc => ?_) <;> (try dsimp only at hc) <;> cbv)
    | (refine br_mk2 (fun hb => ?_) (fun hb => ?_) <;> (try subst hb) <;> cbv)))
            refine Fin.mk ?_ rfl rfl
            rw [e1, e2, e3, hWk, ← hm2]
            show SV.tup [_, .lst (some 5) (O.st (S (cn i)) (cn i - 1) _), _] = _
            rw [ost]
            rfl
    · obtain ⟨e1, e2, e3⟩ := x2 rfl (htb0 rfl)
      refine Fin.mk ?_ rfl rfl
      rw [e1, e2, e3]
  · obtain ⟨e1, e2, e3⟩ := x1 rfl
    refine Fin.mk ?_ rfl rfl
    rw [e1, e2, e3]
end Go.Proofs.Ytjhicdoigllblaa
/- Contracts of Acknowledge, both sides. -/
namespace Go.Proofs.Ytjhicdoigllblaa
set_option linter.unusedVariables false
set_option linter.unusedSimpArgs false
open Go.RowKit
set_option maxHeartbeats 16000000
def zeroV : SV := .agg [.int .i64 0, .int .u8 0, .nil, .int .u32 0, .int .i64 0, .int .i64 0]
/-- The acknowledged bits that count. -/
def ackW (m : Int) (n : Nat) : Int := ((m.toNat &&& (allI n).toNat : Nat) : Int)
def ackD (w ak : Int) : Int := ((w.toNat ^^^ (w.toNat &&& ak.toNat) : Nat) : Int)
def ackO (w ak : Int) : Int := ((ak.toNat ||| w.toNat : Nat) : Int)
/-- The sender after an acknowledgement. -/
def ackS (s : Snd) (m : Int) : Snd :=
  let w := ackW m s.ps.length
  if w = 0 then { s with st := 3 }
  else { s with st := if ackO w s.ak = allI s.ps.length then 2 else s.st, ak := ackO w s.ak, rd := if ackD w s.ak = 0 then s.rd else 0, un := 0 }
def ackX (s : Snd) (b : Bool) (t m : Int) : SV × Int :=
  if b = false then (zeroV, 1) else if s.tag ≠ t then (zeroV, 9) else if s.st ≠ 1 then (s.v, 0) else ((ackS s m).v, 0)
theorem ackW_b (m : Int) (n : Nat) (hn : n ≤ 32) : 0 ≤ ackW m n ∧ ackW m n ≤ 4294967295 := by
  have := (allI_b hn).2
  have h := Nat.and_le_right (n := m.toNat) (m := (allI n).toNat)
  rw [ackW]; omega
theorem ackO_b (w ak : Int) (hw : 0 ≤ w ∧ w ≤ 4294967295) (ha : 0 ≤ ak ∧ ak ≤ 4294967295) : 0 ≤ ackO w ak ∧ ackO w ak ≤ 4294967295 := by
  have h := Nat.or_lt_two_pow (show ak.toNat < 2 ^ 32 by omega) (show w.toNat < 2 ^ 32 by omega)
  rw [ackO]; omega
theorem ack_c (st tag ak rd un : Int) (ps : List (List UInt8)) (R : List SV) (hR : R = rowsB ps) (hf : Snd.fits ⟨st, tag, ps, ak, rd, un⟩) (b : Bool) (hb : b = true ↔ VS ⟨st, tag, ps, ak, rd, un⟩)
    (t m : Int) (ht : 0 ≤ t ∧ t ≤ 255) (hm : 0 ≤ m ∧ m ≤ 4294967295) (X : SV) (e : Int) (hX : ackX ⟨st, tag, ps, ak, rd, un⟩ b t m = (X, e)) :
    Good 17 (pu [.agg [.int .i64 st, .int .u8 tag, .lst none R, .int .u32 ak, .int .i64 rd, .int .i64 un], .int .u8 t, .int .u32 m] (.tup [X, .int .i64 e])) := by
  have g1 := vsender_c st tag ak rd un ps R hR hf b hb
  have g2 := clonedPieces_c ps R hR hf.n hf.b
  have g3 : ∀ N : Int, N = ps.length → ps.length ≤ 32 → Good 57 (pu [.int .i64 N] (.int .u32 (allI ps.length))) := fun N hN hn => all_c ps.length N _ hN hn rfl
  skip
  have hRl : R.length = ps.length := by rw [hR, rowsB_len]
  have hfb := hf.b
  have hfn := hf.n
  have hak := hf.ak
  have hv := fun h : b = true => hb.1 h
  have hn32 : b = true → ps.length ≤ 32 := fun h => (hv h).n2
  have hWb := fun h : b = true => ackW_b m ps.length (hn32 h)
  obtain ⟨w, hw⟩ : ∃ w, w = ackW m ps.length := ⟨_, rfl⟩
  obtain ⟨d, hd⟩ : ∃ d, d = ackD w ak := ⟨_, rfl⟩
  obtain ⟨o, ho⟩ : ∃ o, o = ackO w ak := ⟨_, rfl⟩
  obtain ⟨A, hA⟩ : ∃ A, A = allI ps.length := ⟨_, rfl⟩
  have hAb := fun h : b = true => allI_b (hn32 h)
  have hob := fun h : 0 ≤ w ∧ w ≤ 4294967295 => ackO_b w ak h hf.ak
  rw [← hw] at hWb
  rw [← hA] at hAb
  rw [← ho] at hob
  have x1 : b = false → X = .agg [.int .i64 0, .int .u8 0, .nil, .int .u32 0, .int .i64 0, .int .i64 0] ∧ e = 1 := fun h => by
    unfold ackX at hX; rw [if_pos h] at hX; obtain ⟨a1, a2⟩ := Prod.mk.inj hX; exact ⟨a1.symm, a2.symm⟩
  have x2 : b = true → tag ≠ t → X = .agg [.int .i64 0, .int .u8 0, .nil, .int .u32 0, .int .i64 0, .int .i64 0] ∧ e = 9 := fun h h2 => by
    unfold ackX at hX; rw [if_neg (by rw [h]; simp), if_pos h2] at hX; obtain ⟨a1, a2⟩ := Prod.mk.inj hX; exact ⟨a1.symm, a2.symm⟩
  have x3 : b = true → ¬ tag ≠ t → st ≠ 1 → X = .agg [.int .i64 st, .int .u8 tag, .lst none R, .int .u32 ak, .int .i64 rd, .int .i64 un] ∧ e = 0 := fun h h2 h3 => by
    unfold ackX at hX; rw [if_neg (by rw [h]; simp), if_neg h2, if_pos h3] at hX; obtain ⟨a1, a2⟩ := Prod.mk.inj hX; exact ⟨by rw [← a1, hR]; rfl, a2.symm⟩
  have x4 : b = true → ¬ tag ≠ t → ¬ st ≠ 1 → w = 0 → X = .agg [.int .i64 3, .int .u8 tag, .lst none R, .int .u32 ak, .int .i64 rd, .int .i64 un] ∧ e = 0 := fun h h2 h3 h4 => by
    unfold ackX ackS at hX; rw [if_neg (by rw [h]; simp), if_neg h2, if_neg h3] at hX; obtain ⟨a1, a2⟩ := Prod.mk.inj hX
    refine ⟨?_, a2.symm⟩
    rw [← a1, hR, if_pos (by rw [← hw]; exact h4)]; rfl
  have x5 : b = true → ¬ tag ≠ t → ¬ st ≠ 1 → ¬ w = 0 → X = .agg [.int .i64 (if o = A then 2 else st), .int .u8 tag, .lst none R, .int .u32 o, .int .i64 (if d = 0 then rd else 0), .int .i64 0] ∧ e = 0 := fun h h2 h3 h4 => by
    unfold ackX ackS at hX; rw [if_neg (by rw [h]; simp), if_neg h2, if_neg h3] at hX; obtain ⟨a1, a2⟩ := Prod.mk.inj hX
    refine ⟨?_, a2.symm⟩
    rw [← a1, hR, if_neg (by rw [← hw]; exact h4), hA, ho, hd, hw]; rfl
  have hw : w = ((m.toNat &&& A.toNat : Nat) : Int) := by rw [hw, hA]; rfl
  have hd : d = ((w.toNat ^^^ (w.toNat &&& ak.toNat) : Nat) : Int) := hd
  have ho : o = ((ak.toNat ||| w.toNat : Nat) : Int) := ho
  clear hX hb hv
  rw [← hA] at g3
  refine Good.of Try.func17 rfl (by rfl) (by kernel_rfl) ?_
  cbv
  have hmk : True := trivial
  (repeat' (first
    | (refine q1 (by first | exact trivial | omega | (dsimp only; omega) | exact pow62 _ (by omega) | exact mul9 (by omega) (by omega) | (simp only [sm] at *; omega)) (fun z hz => ?_); (try simp only at hz); cbv)
    | (refine rq (by first | exact trivial | omega | (dsimp only; omega) | (simp only [sm] at *; omega)) ?_; cbv)
    | (refine QC.tt (by first | omega | (dsimp only; omega) | exact rfl | (simp only [sm] at *; omega)) ?_; cbv)
    | (refine QC.tt ?_ ?_; (focus (simp only [decide_true, Bool.and_true, Bool.and_self] <;> fail)); cbv)
    | (refine QC.ff ?_ ?_; (focus (simp only [decide_true, Bool.and_true, Bool.and_self, decide_false, Bool.false_and, reduceCtorEq, not_false_eq_true] <;> fail)); cbv)
    | (refine QC.ff (by first | omega | (dsimp only; omega) | (simp only [sm] at *; omega)) ?_; cbv)
    | (refine QC.mk (fun hc => ?_) (fun hc => ?_) <;> (try dsimp only at hc) <;> cbv)
    | (refine br_mk2 (fun hb => ?_) (fun hb => ?_) <;> (try subst hb) <;> cbv)))
  (refine callq (g1) rfl rfl ?_; cbv; (repeat' (first
    | (refine q1 (by first | exact trivial | omega | (dsimp only; omega) | exact pow62 _ (by omega) | exact mul9 (by omega) (by omega) | (simp only [sm] at *; omega)) (fun z hz => ?_); (try simp only at hz); cbv)
    | (refine rq (by first | exact trivial | omega | (dsimp only; omega) | (simp only [sm] at *; omega)) ?_; cbv)
    | (refine QC.tt (by first | omega | (dsimp only; omega) | exact rfl | (simp only [sm] at *; omega)) ?_; cbv)
    | (refine QC.tt ?_ ?_; (focus (simp only [decide_true, Bool.and_true, Bool.and_self] <;> fail)); cbv)
    | (refine QC.ff ?_ ?_; (focus (simp only [decide_true, Bool.and_true, Bool.and_self, decide_false, Bool.false_and, reduceCtorEq, not_false_eq_true] <;> fail)); cbv)
    | (refine QC.ff (by first | omega | (dsimp only; omega) | (simp only [sm] at *; omega)) ?_; cbv)
    | (refine QC.mk (fun hc => ?_) (fun hc => ?_) <;> (try dsimp only at hc) <;> cbv)
    | (refine br_mk2 (fun hb => ?_) (fun hb => ?_) <;> (try subst hb) <;> cbv))))
  · obtain ⟨e1, e2⟩ := x2 rfl hc
    refine Fin.mk ?_ rfl rfl
    rw [e1, e2]
  · have x3 := x3 rfl hc
    have x4 := x4 rfl hc
    have x5 := x5 rfl hc
    have hWb := hWb rfl
    have hAb := hAb rfl
    have hob := hob hWb
    have hn32 := hn32 rfl
    have hm0 : True := trivial
    clear x1 x2
    (refine callq (g2) rfl rfl ?_; cbv; (repeat' (first
    | (refine q1 (by first | exact trivial | omega | (dsimp only; omega) | exact pow62 _ (by omega) | exact mul9 (by omega) (by omega) | (simp only [sm] at *; omega)) (fun z hz => ?_); (try simp only at hz); cbv)
    | (refine rq (by first | exact trivial | omega | (dsimp only; omega) | (simp only [sm] at *; omega)) ?_; cbv)
    | (refine QC.tt (by first | omega | (dsimp only; omega) | exact rfl | (simp only [sm] at *; omega)) ?_; cbv)
    | (refine QC.tt ?_ ?_; (focus (simp only [decide_true, Bool.and_true, Bool.and_self] <;> fail)); cbv)
    | (refine QC.ff ?_ ?_; (focus (simp only [decide_true, Bool.and_true, Bool.and_self, decide_false, Bool.false_and, reduceCtorEq, not_false_eq_true] <;> fail)); cbv)
    | (refine QC.ff (by first | omega | (dsimp only; omega) | (simp only [sm] at *; omega)) ?_; cbv)
    | (refine QC.mk (fun hc => ?_) (fun hc => ?_) <;> (try dsimp only at hc) <;> cbv)
    | (refine br_mk2 (fun hb => ?_) (fun hb => ?_) <;> (try subst hb) <;> cbv))))
    · obtain ⟨e1, e2⟩ := x3 hc
      refine Fin.mk ?_ rfl rfl
      rw [e1, e2]
    · have x4 := x4 hc
      have x5 := x5 hc
      have g3 := g3 z (by (first | omega | (simp only [cst] at *; omega) | (simp only [sm] at *; omega))) hn32
      clear x3 g2 g1 hfb hR hn32
      (refine callq (g3) rfl rfl ?_; cbv; (repeat' (first
    | (refine q1 (by first | exact trivial | omega | (dsimp only; omega) | exact pow62 _ (by omega) | exact mul9 (by omega) (by omega) | (simp only [sm] at *; omega)) (fun z hz => ?_); (try simp only at hz); cbv)
    | (refine rq (by first | exact trivial | omega | (dsimp only; omega) | (simp only [sm] at *; omega)) ?_; cbv)
    | (refine QC.tt (by first | omega | (dsimp only; omega) | exact rfl | (simp only [sm] at *; omega)) ?_; cbv)
    | (refine QC.tt ?_ ?_; (focus (simp only [decide_true, Bool.and_true, Bool.and_self] <;> fail)); cbv)
    | (refine QC.ff ?_ ?_; (focus (simp only [decide_true, Bool.and_true, Bool.and_self, decide_false, Bool.false_and, reduceCtorEq, not_false_eq_true] <;> fail)); cbv)
    | (refine QC.ff (by first | omega | (dsimp only; omega) | (simp only [sm] at *; omega)) ?_; cbv)
    | (refine QC.mk (fun hc => ?_) (fun hc => ?_) <;> (try dsimp only at hc) <;> cbv)
    | (refine br_mk2 (fun hb => ?_) (fun hb => ?_) <;> (try subst hb) <;> cbv))))
      · obtain ⟨e1, e2⟩ := x4 (hw.trans (hz.symm.trans hc))
        refine Fin.mk ?_ rfl rfl
        rw [e1, e2]
      · skip
        rename_i zw hzw h1 zd hzd h2
        have ew : zw = w := hzw.trans hw.symm
        have ed : zd = d := hzd.trans (by rw [ew]; exact hd.symm)
        have eo : z = o := hz.trans (by rw [ew]; exact ho.symm)
        obtain ⟨e1, e2⟩ := x5 (fun h => h1 (ew.trans h))
        refine Fin.mk ?_ rfl rfl
        rw [e1, e2, if_pos (eo.symm.trans hc), if_neg (fun h => h2 (ed.trans h)), eo]
      · skip
        rename_i zw hzw h1 zd hzd h2
        have ew : zw = w := hzw.trans hw.symm
        have ed : zd = d := hzd.trans (by rw [ew]; exact hd.symm)
        have eo : z = o := hz.trans (by rw [ew]; exact ho.symm)
        obtain ⟨e1, e2⟩ := x5 (fun h => h1 (ew.trans h))
        refine Fin.mk ?_ rfl rfl
        rw [e1, e2, if_neg (fun h => hc (eo.trans h)), if_neg (fun h => h2 (ed.trans h)), eo]
      · skip
        rename_i zw hzw h1 zd hzd h2
        have ew : zw = w := hzw.trans hw.symm
        have ed : zd = d := hzd.trans (by rw [ew]; exact hd.symm)
        have eo : z = o := hz.trans (by rw [ew]; exact ho.symm)
        obtain ⟨e1, e2⟩ := x5 (fun h => h1 (ew.trans h))
        refine Fin.mk ?_ rfl rfl
        rw [e1, e2, if_pos (eo.symm.trans hc), if_pos (ed.symm.trans (Classical.not_not.1 h2)), eo]
      · skip
        rename_i zw hzw h1 zd hzd h2
        have ew : zw = w := hzw.trans hw.symm
        have ed : zd = d := hzd.trans (by rw [ew]; exact hd.symm)
        have eo : z = o := hz.trans (by rw [ew]; exact ho.symm)
        obtain ⟨e1, e2⟩ := x5 (fun h => h1 (ew.trans h))
        refine Fin.mk ?_ rfl rfl
        rw [e1, e2, if_neg (fun h => hc (eo.trans h)), if_pos (ed.symm.trans (Classical.not_not.1 h2)), eo]
  · obtain ⟨e1, e2⟩ := x1 rfl
    refine Fin.mk ?_ rfl rfl
    rw [e1, e2]
theorem rack_c (st tag ak rd un : Int) (ps : List (List UInt8)) (R : List SV) (hR : R = rowsB ps) (hf : Snd.fits ⟨st, tag, ps, ak, rd, un⟩) (b : Bool) (hb : b = true ↔ VS ⟨st, tag, ps, ak, rd, un⟩)
    (t m : Int) (ht : 0 ≤ t ∧ t ≤ 255) (hm : 0 ≤ m ∧ m ≤ 4294967295) (X : SV) (e : Int) (hX : ackX ⟨st, tag, ps, ak, rd, un⟩ b t m = (X, e)) :
    Good 18 (pu [.agg [.int .i64 st, .int .u8 tag, .lst none R, .int .u32 ak, .int .i64 rd, .int .i64 un], .int .u8 t, .int .u32 m] (.tup [X, .int .i64 e])) := by
  have g1 := rvsender_c st tag ak rd un ps R hR hf b hb
  have g2 := copied_c ps R hR hf.n hf.b
  have g3 : ∀ N : Int, N = ps.length → ps.length ≤ 32 → Good 58 (pu [.int .i64 N] (.int .u32 (allI ps.length))) := fun N hN hn => rall_c ps.length N _ hN hn rfl
  skip
  have hRl : R.length = ps.length := by rw [hR, rowsB_len]
  have hfb := hf.b
  have hfn := hf.n
  have hak := hf.ak
  have hv := fun h : b = true => hb.1 h
  have hn32 : b = true → ps.length ≤ 32 := fun h => (hv h).n2
  have hWb := fun h : b = true => ackW_b m ps.length (hn32 h)
  obtain ⟨w, hw⟩ : ∃ w, w = ackW m ps.length := ⟨_, rfl⟩
  obtain ⟨d, hd⟩ : ∃ d, d = ackD w ak := ⟨_, rfl⟩
  obtain ⟨o, ho⟩ : ∃ o, o = ackO w ak := ⟨_, rfl⟩
  obtain ⟨A, hA⟩ : ∃ A, A = allI ps.length := ⟨_, rfl⟩
  have hAb := fun h : b = true => allI_b (hn32 h)
  have hob := fun h : 0 ≤ w ∧ w ≤ 4294967295 => ackO_b w ak h hf.ak
  rw [← hw] at hWb
  rw [← hA] at hAb
  rw [← ho] at hob
  have x1 : b = false → X = .agg [.int .i64 0, .int .u8 0, .nil, .int .u32 0, .int .i64 0, .int .i64 0] ∧ e = 1 := fun h => by
    unfold ackX at hX; rw [if_pos h] at hX; obtain ⟨a1, a2⟩ := Prod.mk.inj hX; exact ⟨a1.symm, a2.symm⟩
  have x2 : b = true → tag ≠ t → X = .agg [.int .i64 0, .int .u8 0, .nil, .int .u32 0, .int .i64 0, .int .i64 0] ∧ e = 9 := fun h h2 => by
    unfold ackX at hX; rw [if_neg (by rw [h]; simp), if_pos h2] at hX; obtain ⟨a1, a2⟩ := Prod.mk.inj hX; exact ⟨a1.symm, a2.symm⟩
  have x3 : b = true → ¬ tag ≠ t → st ≠ 1 → X = .agg [.int .i64 st, .int .u8 tag, .lst none R, .int .u32 ak, .int .i64 rd, .int .i64 un] ∧ e = 0 := fun h h2 h3 => by
    unfold ackX at hX; rw [if_neg (by rw [h]; simp), if_neg h2, if_pos h3] at hX; obtain ⟨a1, a2⟩ := Prod.mk.inj hX; exact ⟨by rw [← a1, hR]; rfl, a2.symm⟩
  have x4 : b = true → ¬ tag ≠ t → ¬ st ≠ 1 → w = 0 → X = .agg [.int .i64 3, .int .u8 tag, .lst none R, .int .u32 ak, .int .i64 rd, .int .i64 un] ∧ e = 0 := fun h h2 h3 h4 => by
    unfold ackX ackS at hX; rw [if_neg (by rw [h]; simp), if_neg h2, if_neg h3] at hX; obtain ⟨a1, a2⟩ := Prod.mk.inj hX
    refine ⟨?_, a2.symm⟩
    rw [← a1, hR, if_pos (by rw [← hw]; exact h4)]; rfl
  have x5 : b = true → ¬ tag ≠ t → ¬ st ≠ 1 → ¬ w = 0 → X = .agg [.int .i64 (if o = A then 2 else st), .int .u8 tag, .lst none R, .int .u32 o, .int .i64 (if d = 0 then rd else 0), .int .i64 0] ∧ e = 0 := fun h h2 h3 h4 => by
    unfold ackX ackS at hX; rw [if_neg (by rw [h]; simp), if_neg h2, if_neg h3] at hX; obtain ⟨a1, a2⟩ := Prod.mk.inj hX
    refine ⟨?_, a2.symm⟩
    rw [← a1, hR, if_neg (by rw [← hw]; exact h4), hA, ho, hd, hw]; rfl
  have hw : w = ((m.toNat &&& A.toNat : Nat) : Int) := by rw [hw, hA]; rfl
  have hd : d = ((w.toNat ^^^ (w.toNat &&& ak.toNat) : Nat) : Int) := hd
  have ho : o = ((ak.toNat ||| w.toNat : Nat) : Int) := ho
  clear hX hb hv
  rw [← hA] at g3
  refine Good.of Try.func18 rfl (by rfl) (by kernel_rfl) ?_
  cbv
  have hmk : True := trivial
  (repeat' (first
    | (refine q1 (by first | exact trivial | omega | (dsimp only; omega) | exact pow62 _ (by omega) | exact mul9 (by omega) (by omega) | (simp only [sm] at *; omega)) (fun z hz => ?_); (try simp only at hz); cbv)
    | (refine rq (by first | exact trivial | omega | (dsimp only; omega) | (simp only [sm] at *; omega)) ?_; cbv)
    | (refine QC.tt (by first | omega | (dsimp only; omega) | exact rfl | (simp only [sm] at *; omega)) ?_; cbv)
    | (refine QC.tt ?_ ?_; (focus (simp only [decide_true, Bool.and_true, Bool.and_self] <;> fail)); cbv)
    | (refine QC.ff ?_ ?_; (focus (simp only [decide_true, Bool.and_true, Bool.and_self, decide_false, Bool.false_and, reduceCtorEq, not_false_eq_true] <;> fail)); cbv)
    | (refine QC.ff (by first | omega | (dsimp only; omega) | (simp only [sm] at *; omega)) ?_; cbv)
    | (refine QC.mk (fun hc => ?_) (fun hc => ?_) <;> (try dsimp only at hc) <;> cbv)
    | (refine br_mk2 (fun hb => ?_) (fun hb => ?_) <;> (try subst hb) <;> cbv)))
  (refine callq (g1) rfl rfl ?_; cbv; (repeat' (first
    | (refine q1 (by first | exact trivial | omega | (dsimp only; omega) | exact pow62 _ (by omega) | exact mul9 (by omega) (by omega) | (simp only [sm] at *; omega)) (fun z hz => ?_); (try simp only at hz); cbv)
    | (refine rq (by first | exact trivial | omega | (dsimp only; omega) | (simp only [sm] at *; omega)) ?_; cbv)
    | (refine QC.tt (by first | omega | (dsimp only; omega) | exact rfl | (simp only [sm] at *; omega)) ?_; cbv)
    | (refine QC.tt ?_ ?_; (focus (simp only [decide_true, Bool.and_true, Bool.and_self] <;> fail)); cbv)
    | (refine QC.ff ?_ ?_; (focus (simp only [decide_true, Bool.and_true, Bool.and_self, decide_false, Bool.false_and, reduceCtorEq, not_false_eq_true] <;> fail)); cbv)
    | (refine QC.ff (by first | omega | (dsimp only; omega) | (simp only [sm] at *; omega)) ?_; cbv)
    | (refine QC.mk (fun hc => ?_) (fun hc => ?_) <;> (try dsimp only at hc) <;> cbv)
    | (refine br_mk2 (fun hb => ?_) (fun hb => ?_) <;> (try subst hb) <;> cbv))))
  · obtain ⟨e1, e2⟩ := x2 rfl hc
    refine Fin.mk ?_ rfl rfl
    rw [e1, e2]
  · have x3 := x3 rfl hc
    have x4 := x4 rfl hc
    have x5 := x5 rfl hc
    have hWb := hWb rfl
    have hAb := hAb rfl
    have hob := hob hWb
    have hn32 := hn32 rfl
    have hm0 : True := trivial
    clear x1 x2
    (refine callq (g2) rfl rfl ?_; cbv; (repeat' (first
    | (refine q1 (by first | exact trivial | omega | (dsimp only; omega) | exact pow62 _ (by omega) | exact mul9 (by omega) (by omega) | (simp only [sm] at *; omega)) (fun z hz => ?_); (try simp only at hz); cbv)
    | (refine rq (by first | exact trivial | omega | (dsimp only; omega) | (simp only [sm] at *; omega)) ?_; cbv)
    | (refine QC.tt (by first | omega | (dsimp only; omega) | exact rfl | (simp only [sm] at *; omega)) ?_; cbv)
    | (refine QC.tt ?_ ?_; (focus (simp only [decide_true, Bool.and_true, Bool.and_self] <;> fail)); cbv)
    | (refine QC.ff ?_ ?_; (focus (simp only [decide_true, Bool.and_true, Bool.and_self, decide_false, Bool.false_and, reduceCtorEq, not_false_eq_true] <;> fail)); cbv)
    | (refine QC.ff (by first | omega | (dsimp only; omega) | (simp only [sm] at *; omega)) ?_; cbv)
    | (refine QC.mk (fun hc => ?_) (fun hc => ?_) <;> (try dsimp only at hc) <;> cbv)
    | (refine br_mk2 (fun hb => ?_) (fun hb => ?_) <;> (try subst hb) <;> cbv))))
    · obtain ⟨e1, e2⟩ := x3 hc
      refine Fin.mk ?_ rfl rfl
      rw [e1, e2]
    · have x4 := x4 hc
      have x5 := x5 hc
      have g3 := g3 z (by (first | omega | (simp only [cst] at *; omega) | (simp only [sm] at *; omega))) hn32
      clear x3 g2 g1 hfb hR hn32
      (refine callq (g3) rfl rfl ?_; cbv; (repeat' (first
    | (refine q1 (by first | exact trivial | omega | (dsimp only; omega) | exact pow62 _ (by omega) | exact mul9 (by omega) (by omega) | (simp only [sm] at *; omega)) (fun z hz => ?_); (try simp only at hz); cbv)
    | (refine rq (by first | exact trivial | omega | (dsimp only; omega) | (simp only [sm] at *; omega)) ?_; cbv)
    | (refine QC.tt (by first | omega | (dsimp only; omega) | exact rfl | (simp only [sm] at *; omega)) ?_; cbv)
    | (refine QC.tt ?_ ?_; (focus (simp only [decide_true, Bool.and_true, Bool.and_self] <;> fail)); cbv)
    | (refine QC.ff ?_ ?_; (focus (simp only [decide_true, Bool.and_true, Bool.and_self, decide_false, Bool.false_and, reduceCtorEq, not_false_eq_true] <;> fail)); cbv)
    | (refine QC.ff (by first | omega | (dsimp only; omega) | (simp only [sm] at *; omega)) ?_; cbv)
    | (refine QC.mk (fun hc => ?_) (fun hc => ?_) <;> (try dsimp only at hc) <;> cbv)
    | (refine br_mk2 (fun hb => ?_) (fun hb => ?_) <;> (try subst hb) <;> cbv))))
      · obtain ⟨e1, e2⟩ := x4 (hw.trans (hz.symm.trans hc))
        refine Fin.mk ?_ rfl rfl
        rw [e1, e2]
      · (refine callq (g3) rfl rfl ?_; cbv; (repeat' (first
    | (refine q1 (by first | exact trivial | omega | (dsimp only; omega) | exact pow62 _ (by omega) | exact mul9 (by omega) (by omega) | (simp only [sm] at *; omega)) (fun z hz => ?_); (try simp only at hz); cbv)
    | (refine rq (by first | exact trivial | omega | (dsimp only; omega) | (simp only [sm] at *; omega)) ?_; cbv)
    | (refine QC.tt (by first | omega | (dsimp only; omega) | exact rfl | (simp only [sm] at *; omega)) ?_; cbv)
    | (refine QC.tt ?_ ?_; (focus (simp only [decide_true, Bool.and_true, Bool.and_self] <;> fail)); cbv)
    | (refine QC.ff ?_ ?_; (focus (simp only [decide_true, Bool.and_true, Bool.and_self, decide_false, Bool.false_and, reduceCtorEq, not_false_eq_true] <;> fail)); cbv)
    | (refine QC.ff (by first | omega | (dsimp only; omega) | (simp only [sm] at *; omega)) ?_; cbv)
    | (refine QC.mk (fun hc => ?_) (fun hc => ?_) <;> (try dsimp only at hc) <;> cbv)
    | (refine br_mk2 (fun hb => ?_) (fun hb => ?_) <;> (try subst hb) <;> cbv))))
        · skip
          rename_i zw hzw h1 zd hzd h2
          have ew : zw = w := hzw.trans hw.symm
          have ed : zd = d := hzd.trans (by rw [ew]; exact hd.symm)
          have eo : z = o := hz.trans (by rw [ew]; exact ho.symm)
          obtain ⟨e1, e2⟩ := x5 (fun h => h1 (ew.trans h))
          refine Fin.mk ?_ rfl rfl
          rw [e1, e2, if_pos (eo.symm.trans hc), if_neg (fun h => h2 (ed.trans h)), eo]
        · skip
          rename_i zw hzw h1 zd hzd h2
          have ew : zw = w := hzw.trans hw.symm
          have ed : zd = d := hzd.trans (by rw [ew]; exact hd.symm)
          have eo : z = o := hz.trans (by rw [ew]; exact ho.symm)
          obtain ⟨e1, e2⟩ := x5 (fun h => h1 (ew.trans h))
          refine Fin.mk ?_ rfl rfl
          rw [e1, e2, if_neg (fun h => hc (eo.trans h)), if_neg (fun h => h2 (ed.trans h)), eo]
      · (refine callq (g3) rfl rfl ?_; cbv; (repeat' (first
    | (refine q1 (by first | exact trivial | omega | (dsimp only; omega) | exact pow62 _ (by omega) | exact mul9 (by omega) (by omega) | (simp only [sm] at *; omega)) (fun z hz => ?_); (try simp only at hz); cbv)
    | (refine rq (by first | exact trivial | omega | (dsimp only; omega) | (simp only [sm] at *; omega)) ?_; cbv)
    | (refine QC.tt (by first | omega | (dsimp only; omega) | exact rfl | (simp only [sm] at *; omega)) ?_; cbv)
    | (refine QC.tt ?_ ?_; (focus (simp only [decide_true, Bool.and_true, Bool.and_self] <;> fail)); cbv)
    | (refine QC.ff ?_ ?_; (focus (simp only [decide_true, Bool.and_true, Bool.and_self, decide_false, Bool.false_and, reduceCtorEq, not_false_eq_true] <;> fail)); cbv)
    | (refine QC.ff (by first | omega | (dsimp only; omega) | (simp only [sm] at *; omega)) ?_; cbv)
    | (refine QC.mk (fun hc => ?_) (fun hc => ?_) <;> (try dsimp only at hc) <;> cbv)
    | (refine br_mk2 (fun hb => ?_) (fun hb => ?_) <;> (try subst hb) <;> cbv))))
        · skip
          rename_i zw hzw h1 zd hzd h2
          have ew : zw = w := hzw.trans hw.symm
          have ed : zd = d := hzd.trans (by rw [ew]; exact hd.symm)
          have eo : z = o := hz.trans (by rw [ew]; exact ho.symm)
          obtain ⟨e1, e2⟩ := x5 (fun h => h1 (ew.trans h))
          refine Fin.mk ?_ rfl rfl
          rw [e1, e2, if_pos (eo.symm.trans hc), if_pos (ed.symm.trans (Classical.not_not.1 h2)), eo]
        · skip
          rename_i zw hzw h1 zd hzd h2
          have ew : zw = w := hzw.trans hw.symm
          have ed : zd = d := hzd.trans (by rw [ew]; exact hd.symm)
          have eo : z = o := hz.trans (by rw [ew]; exact ho.symm)
          obtain ⟨e1, e2⟩ := x5 (fun h => h1 (ew.trans h))
          refine Fin.mk ?_ rfl rfl
          rw [e1, e2, if_neg (fun h => hc (eo.trans h)), if_pos (ed.symm.trans (Classical.not_not.1 h2)), eo]
  · obtain ⟨e1, e2⟩ := x1 rfl
    refine Fin.mk ?_ rfl rfl
    rw [e1, e2]
end Go.Proofs.Ytjhicdoigllblaa
/- Contracts of octets.Append and octets.Uint. -/
namespace Go.Proofs.Ytjhicdoigllblaa
set_option linter.unusedVariables false
set_option linter.unusedSimpArgs false
open Go.RowKit
set_option maxHeartbeats 2000000
set_option linter.unusedSimpArgs false
theorem appG (bs : List UInt8) (v : Int) (n : Nat) (X : List SV) (hX : X = u8l bs) : ∃ G : Nat → List SV, G 0 = u8l (bs ++ List.replicate n 0) ∧ (∀ i, (G i).length = bs.length + n) ∧ (∀ i, i < n → O.st (G i) (bs.length + i) (.int .u8 (v / 2 ^ (8 * (n - 1 - i)) % 256)) = G (i + 1)) ∧ G n = u8l (bs ++ bytesOf v n) := by
  refine ⟨fun i => u8l (appRow bs v n i), by simp [appRow], ?_, ?_, ?_⟩
  · intro i; simp [u8l, appRow, bytesOf_length]; omega
  · intro i hi
    rw [ost, ← digit_val, u8l_set, appRow_set _ _ _ _ hi]
  · simp only [appRow_full]
theorem append_c (bs : List UInt8) (X R : List SV) (v N : Int) (n : Nat) (hX : X = u8l bs) (hN : N = n) (hn : n ≤ 8) (hv : 0 ≤ v ∧ v < 18446744073709551616) (hl : bs.length ≤ 140737488352000) (hR : R = u8l (bs ++ bytesOf v n)) :
    Good 66 (nu [.lst none X, .int .u64 v, .int .i64 N] (.row 1) (.row none 5 R)) := by
  obtain ⟨G, G0, Gl, Gs, Gn⟩ := appG bs v n X hX
  have hl : X.length = bs.length := by rw [hX, u8l_len]
  refine Good.of Try.func66 rfl (by rfl) (by kernel_rfl) ?_
  cbv
  (repeat' (first
    | (refine q1 (by first | exact trivial | omega | (dsimp only; omega) | exact pow62 _ (by omega) | exact mul9 (by omega) (by omega) | (simp only [sm] at *; omega)) (fun z hz => ?_); (try simp only at hz); cbv)
    | (refine rq (by first | exact trivial | omega | (dsimp only; omega) | (simp only [sm] at *; omega)) ?_; cbv)
    | (refine QC.tt (by first | omega | (dsimp only; omega) | exact rfl | (simp only [sm] at *; omega)) ?_; cbv)
    | (refine QC.tt ?_ ?_; (focus (simp only [decide_true, Bool.and_true, Bool.and_self] <;> fail)); cbv)
    | (refine QC.ff ?_ ?_; (focus (simp only [decide_true, Bool.and_true, Bool.and_self, decide_false, Bool.false_and, reduceCtorEq, not_false_eq_true] <;> fail)); cbv)
    | (refine QC.ff (by first | omega | (dsimp only; omega) | (simp only [sm] at *; omega)) ?_; cbv)
    | (refine QC.mk (fun hc => ?_) (fun hc => ?_) <;> (try dsimp only at hc) <;> cbv)
    | (refine br_mk2 (fun hb => ?_) (fun hb => ?_) <;> (try subst hb) <;> cbv)))
  refine loopQ (A := Nat × Int) (fun p => p.2 = p.1 ∧ p.1 ≤ n) (fun p => n - p.1) (fun p => [(7, .row 7), (24, .int .i64 p.2)]) (fun p => [(7, .row none 5 (G p.1))]) (0, 0) ⟨rfl, Nat.zero_le _⟩ ?_ ?_
  · cbv
    refine ⟨?_, trivial⟩
    show _ = Blk.row none 5 (G 0)
    rw [G0]
    simp only [pcp, prp, pln, u8l_len, List.length_replicate, u8l_rep, List.take_zero, List.nil_append]
    rename_i z1 h1 z2 h2
    have e : z2.toNat = bs.length + n := by (first | omega | (simp only [cst] at *; omega) | (simp only [sm] at *; omega))
    rw [e, Nat.zero_add, hl, hX, Nat.min_eq_left (by omega), ← u8l_app]
    simp only [u8l_drop, u8l_take, List.drop_replicate]
    rw [List.take_of_length_le (by omega), Nat.add_sub_cancel_left]
  · intro ⟨i, j⟩ h
    have hj : j = (i : Int) := h.1
    have hi : i ≤ n := h.2
    clear h
    have hgl := Gl i
    cbv
    (repeat' (first
    | (refine q1 (by first | exact trivial | omega | (dsimp only; omega) | exact pow62 _ (by omega) | exact mul9 (by omega) (by omega) | (simp only [sm] at *; omega)) (fun z hz => ?_); (try simp only at hz); cbv)
    | (refine rq (by first | exact trivial | omega | (dsimp only; omega) | (simp only [sm] at *; omega)) ?_; cbv)
    | (refine QC.tt (by first | omega | (dsimp only; omega) | exact rfl | (simp only [sm] at *; omega)) ?_; cbv)
    | (refine QC.tt ?_ ?_; (focus (simp only [decide_true, Bool.and_true, Bool.and_self] <;> fail)); cbv)
    | (refine QC.ff ?_ ?_; (focus (simp only [decide_true, Bool.and_true, Bool.and_self, decide_false, Bool.false_and, reduceCtorEq, not_false_eq_true] <;> fail)); cbv)
    | (refine QC.ff (by first | omega | (dsimp only; omega) | (simp only [sm] at *; omega)) ?_; cbv)
    | (refine QC.mk (fun hc => ?_) (fun hc => ?_) <;> (try dsimp only at hc) <;> cbv)
    | (refine br_mk2 (fun hb => ?_) (fun hb => ?_) <;> (try subst hb) <;> cbv)))
    · have hjm : i < n := by (first | omega | (simp only [cst] at *; omega) | (simp only [sm] at *; omega))
      have hs := Gs i hjm
      generalize hq : bs.length + i = q at hs
      refine qv q (by (first | omega | (simp only [cst] at *; omega) | (simp only [sm] at *; omega))) ?_
      cbv
      (repeat' (first
    | (refine q1 (by first | exact trivial | omega | (dsimp only; omega) | exact pow62 _ (by omega) | exact mul9 (by omega) (by omega) | (simp only [sm] at *; omega)) (fun z hz => ?_); (try simp only at hz); cbv)
    | (refine rq (by first | exact trivial | omega | (dsimp only; omega) | (simp only [sm] at *; omega)) ?_; cbv)
    | (refine QC.tt (by first | omega | (dsimp only; omega) | exact rfl | (simp only [sm] at *; omega)) ?_; cbv)
    | (refine QC.tt ?_ ?_; (focus (simp only [decide_true, Bool.and_true, Bool.and_self] <;> fail)); cbv)
    | (refine QC.ff ?_ ?_; (focus (simp only [decide_true, Bool.and_true, Bool.and_self, decide_false, Bool.false_and, reduceCtorEq, not_false_eq_true] <;> fail)); cbv)
    | (refine QC.ff (by first | omega | (dsimp only; omega) | (simp only [sm] at *; omega)) ?_; cbv)
    | (refine QC.mk (fun hc => ?_) (fun hc => ?_) <;> (try dsimp only at hc) <;> cbv)
    | (refine br_mk2 (fun hb => ?_) (fun hb => ?_) <;> (try subst hb) <;> cbv)))
      rename_i z6 h6 z5 h5 z4 h4 z3 h3 z2 h2 z1 h1 z0 h0 z hz
      refine ⟨(i + 1, z), ⟨by (first | omega | (simp only [cst] at *; omega) | (simp only [sm] at *; omega)), by omega⟩, by (first | omega | (simp only [cst] at *; omega) | (simp only [sm] at *; omega)), ?_⟩
      cbv
      refine ⟨?_, trivial⟩
      show Blk.row none 5 (O.st (G i) q (.int .u8 _)) = .row none 5 (G (i + 1))
      rw [← hs]
      rename_i _ hz1
      rw [hz1, h0, show z1.toNat = 8 * (n - 1 - i) by (first | omega | (simp only [cst] at *; omega) | (simp only [sm] at *; omega))]
    · have e : i = n := by (first | omega | (simp only [cst] at *; omega) | (simp only [sm] at *; omega))
      refine ⟨rfl, ?_, rfl⟩
      show Blk.row none 5 (G i) = _
      rw [e, Gn, hR]
theorem append0_c (R : List SV) (v N : Int) (n : Nat) (hN : N = n) (hn : n ≤ 8) (hv : 0 ≤ v ∧ v < 18446744073709551616) (hR : R = u8l (bytesOf v n)) :
    Good 66 (nu [.nil, .int .u64 v, .int .i64 N] (.row 1) (.row none 5 R)) := by
  obtain ⟨G, G0, Gl, Gs, Gn⟩ := appG [] v n [] rfl
  refine Good.of Try.func66 rfl (by rfl) (by kernel_rfl) ?_
  cbv
  (repeat' (first
    | (refine q1 (by first | exact trivial | omega | (dsimp only; omega) | exact pow62 _ (by omega) | exact mul9 (by omega) (by omega) | (simp only [sm] at *; omega)) (fun z hz => ?_); (try simp only at hz); cbv)
    | (refine rq (by first | exact trivial | omega | (dsimp only; omega) | (simp only [sm] at *; omega)) ?_; cbv)
    | (refine QC.tt (by first | omega | (dsimp only; omega) | exact rfl | (simp only [sm] at *; omega)) ?_; cbv)
    | (refine QC.tt ?_ ?_; (focus (simp only [decide_true, Bool.and_true, Bool.and_self] <;> fail)); cbv)
    | (refine QC.ff ?_ ?_; (focus (simp only [decide_true, Bool.and_true, Bool.and_self, decide_false, Bool.false_and, reduceCtorEq, not_false_eq_true] <;> fail)); cbv)
    | (refine QC.ff (by first | omega | (dsimp only; omega) | (simp only [sm] at *; omega)) ?_; cbv)
    | (refine QC.mk (fun hc => ?_) (fun hc => ?_) <;> (try dsimp only at hc) <;> cbv)
    | (refine br_mk2 (fun hb => ?_) (fun hb => ?_) <;> (try subst hb) <;> cbv)))
  refine loopQ (A := Nat × Int) (fun p => p.2 = p.1 ∧ p.1 ≤ n) (fun p => n - p.1) (fun p => [(7, .row 7), (24, .int .i64 p.2)]) (fun p => [(7, .row none 5 (G p.1))]) (0, 0) ⟨rfl, Nat.zero_le _⟩ ?_ ?_
  · cbv
    refine ⟨?_, trivial⟩
    show _ = Blk.row none 5 (G 0)
    rw [G0]
    rename_i z2 h2
    have e : z2.toNat = n := by (first | omega | (simp only [cst] at *; omega) | (simp only [sm] at *; omega))
    simp only [pcp, prp, pln, List.length_replicate, List.length_nil, List.take_zero, List.nil_append, List.take_nil, Nat.min_self, Nat.zero_min, Nat.add_zero, List.drop_zero, e, u8l_rep]
  · intro ⟨i, j⟩ h
    have hj : j = (i : Int) := h.1
    have hi : i ≤ n := h.2
    clear h
    have hgl := Gl i
    cbv
    (repeat' (first
    | (refine q1 (by first | exact trivial | omega | (dsimp only; omega) | exact pow62 _ (by omega) | exact mul9 (by omega) (by omega) | (simp only [sm] at *; omega)) (fun z hz => ?_); (try simp only at hz); cbv)
    | (refine rq (by first | exact trivial | omega | (dsimp only; omega) | (simp only [sm] at *; omega)) ?_; cbv)
    | (refine QC.tt (by first | omega | (dsimp only; omega) | exact rfl | (simp only [sm] at *; omega)) ?_; cbv)
    | (refine QC.tt ?_ ?_; (focus (simp only [decide_true, Bool.and_true, Bool.and_self] <;> fail)); cbv)
    | (refine QC.ff ?_ ?_; (focus (simp only [decide_true, Bool.and_true, Bool.and_self, decide_false, Bool.false_and, reduceCtorEq, not_false_eq_true] <;> fail)); cbv)
    | (refine QC.ff (by first | omega | (dsimp only; omega) | (simp only [sm] at *; omega)) ?_; cbv)
    | (refine QC.mk (fun hc => ?_) (fun hc => ?_) <;> (try dsimp only at hc) <;> cbv)
    | (refine br_mk2 (fun hb => ?_) (fun hb => ?_) <;> (try subst hb) <;> cbv)))
    · have hjm : i < n := by (first | omega | (simp only [cst] at *; omega) | (simp only [sm] at *; omega))
      have hs := Gs i hjm
      rw [show [].length + i = i from Nat.zero_add i] at hs
      obtain ⟨q, hq⟩ : ∃ q, q = i := ⟨_, rfl⟩
      rw [← hq] at hs
      refine qv q (by (first | omega | (simp only [cst] at *; omega) | (simp only [sm] at *; omega))) ?_
      cbv
      (repeat' (first
    | (refine q1 (by first | exact trivial | omega | (dsimp only; omega) | exact pow62 _ (by omega) | exact mul9 (by omega) (by omega) | (simp only [sm] at *; omega)) (fun z hz => ?_); (try simp only at hz); cbv)
    | (refine rq (by first | exact trivial | omega | (dsimp only; omega) | (simp only [sm] at *; omega)) ?_; cbv)
    | (refine QC.tt (by first | omega | (dsimp only; omega) | exact rfl | (simp only [sm] at *; omega)) ?_; cbv)
    | (refine QC.tt ?_ ?_; (focus (simp only [decide_true, Bool.and_true, Bool.and_self] <;> fail)); cbv)
    | (refine QC.ff ?_ ?_; (focus (simp only [decide_true, Bool.and_true, Bool.and_self, decide_false, Bool.false_and, reduceCtorEq, not_false_eq_true] <;> fail)); cbv)
    | (refine QC.ff (by first | omega | (dsimp only; omega) | (simp only [sm] at *; omega)) ?_; cbv)
    | (refine QC.mk (fun hc => ?_) (fun hc => ?_) <;> (try dsimp only at hc) <;> cbv)
    | (refine br_mk2 (fun hb => ?_) (fun hb => ?_) <;> (try subst hb) <;> cbv)))
      rename_i z4 h4 z3 h3 z2 h2 z1 h1 z0 h0 z hz
      refine ⟨(i + 1, z), ⟨by (first | omega | (simp only [cst] at *; omega) | (simp only [sm] at *; omega)), by omega⟩, by (first | omega | (simp only [cst] at *; omega) | (simp only [sm] at *; omega)), ?_⟩
      cbv
      refine ⟨?_, trivial⟩
      show Blk.row none 5 (O.st (G i) q (.int .u8 _)) = .row none 5 (G (i + 1))
      rw [hq] at hs ⊢
      rw [← hs]
      rename_i _ hz1
      rw [hz1, h0, show z1.toNat = 8 * (n - 1 - i) by (first | omega | (simp only [cst] at *; omega) | (simp only [sm] at *; omega))]
    · have e : i = n := by (first | omega | (simp only [cst] at *; omega) | (simp only [sm] at *; omega))
      refine ⟨rfl, ?_, rfl⟩
      show Blk.row none 5 (G i) = _
      rw [e, Gn, hR]
      rfl

/-- Uint of bytes that are there. -/
theorem beG (bs : List UInt8) (X : List SV) (hX : X = u8l bs) (a n : Nat) (h : a + n ≤ bs.length) : ∃ H Y : Nat → Int, H 0 = 0 ∧ (∀ i, 0 ≤ H i ∧ (i < 8 → H i < 72057594037927936)) ∧ (∀ i, 0 ≤ Y i ∧ Y i < 256) ∧ H n = be ((bs.drop a).take n) ∧
    (∀ i, i < n → H i * 256 + Y i = H (i + 1)) ∧ (∀ i, i < n → (O.sg X a n)[i]? = some (.int .u8 (Y i))) ∧ (O.sg X a n).length = n := by
  refine ⟨fun i => (be ((bs.drop a).take i) : Int), fun i => (bs.getD (a + i) 0).toNat, by simp [be], ?_, ?_, rfl, ?_, ?_, ?_⟩
  · intro i
    refine ⟨by dsimp only; omega, fun hi => ?_⟩
    have h1 := be_lt ((bs.drop a).take i)
    have h2 : 256 ^ ((bs.drop a).take i).length ≤ 256 ^ 7 := Nat.pow_le_pow_right (by omega) (by simp; omega)
    dsimp only
    omega
  · intro i; have := (bs.getD (a + i) 0).toNat_lt; dsimp only; omega
  · intro i hi
    dsimp only
    rw [take_snoc_u8 _ i (by simp; omega), be_snoc]
    simp [show a + i < bs.length by omega]
  · intro i hi
    rw [osg, hX, u8l_drop, u8l_take, u8l_at _ (by simp; omega)]
    simp [show a + i < bs.length by omega, hi]
  · rw [osg, hX]; simp [u8l]; omega
theorem or_i (x y a b z : Int) (hx : 0 ≤ x ∧ x < 72057594037927936) (hy : 0 ≤ y ∧ y < 256) (ha : a = x * 2 ^ Int.toNat 8 % 18446744073709551616) (hb : b = y % 18446744073709551616) (hz : z = ((a.toNat ||| b.toNat : Nat) : Int)) : z = x * 256 + y := by
  have e1 : (2 : Int) ^ Int.toNat 8 = 256 := rfl
  rw [e1] at ha
  have e2 : a.toNat = x.toNat * 256 := by omega
  have e3 : b = y := by omega
  rw [hz, e2, e3, or_byte _ _ (by omega)]
  omega
theorem uint_c (bs : List UInt8) (X : List SV) (A N r : Int) (a n : Nat) (hX : X = u8l bs) (hA : A = a) (hN : N = n) (h1 : 1 ≤ n) (hn : n ≤ 8) (hl : bs.length ≤ 140737488352000) (hb : a + n ≤ bs.length) (hr : r = be ((bs.drop a).take n)) :
    Good 64 (pu [.lst none X, .int .i64 A, .int .i64 N] (.tup [.int .u64 r, .bool true])) := by
  have hl : X.length = bs.length := by rw [hX, u8l_len]
  obtain ⟨H, Y, H0, Hb, HY, Hn, Hs, Hy, HL⟩ := beG bs X hX a n hb
  refine Good.of Try.func64 rfl (by rfl) (by kernel_rfl) ?_
  cbv
  (repeat' (first
    | (refine q1 (by first | exact trivial | omega | (dsimp only; omega) | exact pow62 _ (by omega) | exact mul9 (by omega) (by omega) | (simp only [sm] at *; omega)) (fun z hz => ?_); (try simp only at hz); cbv)
    | (refine rq (by first | exact trivial | omega | (dsimp only; omega) | (simp only [sm] at *; omega)) ?_; cbv)
    | (refine QC.tt (by first | omega | (dsimp only; omega) | exact rfl | (simp only [sm] at *; omega)) ?_; cbv)
    | (refine QC.tt ?_ ?_; (focus (simp only [decide_true, Bool.and_true, Bool.and_self] <;> fail)); cbv)
    | (refine QC.ff ?_ ?_; (focus (simp only [decide_true, Bool.and_true, Bool.and_self, decide_false, Bool.false_and, reduceCtorEq, not_false_eq_true] <;> fail)); cbv)
    | (refine QC.ff (by first | omega | (dsimp only; omega) | (simp only [sm] at *; omega)) ?_; cbv)
    | (refine QC.mk (fun hc => ?_) (fun hc => ?_) <;> (try dsimp only at hc) <;> cbv)
    | (refine br_mk2 (fun hb => ?_) (fun hb => ?_) <;> (try subst hb) <;> cbv)))
  rename_i z2 h2 z1 h1' z0 h0
  have e1 : (Classical.choice lo_ex).tn A = a := by rw [ptn]; (first | omega | (simp only [cst] at *; omega) | (simp only [sm] at *; omega))
  have e2 : (Classical.choice lo_ex).si z0 A = n := by rw [psi]; (first | omega | (simp only [cst] at *; omega) | (simp only [sm] at *; omega))
  have hsg : (Classical.choice lo_ex).sg X ((Classical.choice lo_ex).tn A) ((Classical.choice lo_ex).si z0 A) = O.sg X a n := by rw [e1, e2]; rfl
  have hzn : z = n := by
    rw [hz, hsg, oln, HL]
  rw [← hsg] at Hy
  refine loopQ (A := Nat × Int × Int) (fun p => p.2.1 = p.1 ∧ p.1 ≤ n ∧ p.2.2 = H p.1) (fun p => n - p.1) (fun p => [(8, .int .u64 p.2.2), (36, .int .i64 p.2.1)]) (fun p => []) (0, 0, 0) ⟨rfl, Nat.zero_le _, H0.symm⟩ ?_ ?_
  · cbv
  · intro ⟨i, j, x⟩ h
    have hj : j = (i : Int) := h.1
    have hi : i ≤ n := h.2.1
    have hx : x = H i := h.2.2
    clear h
    have hb1 := Hb i
    have hy1 := HY i
    cbv
    (repeat' (first
    | (refine q1 (by first | exact trivial | omega | (dsimp only; omega) | exact pow62 _ (by omega) | exact mul9 (by omega) (by omega) | (simp only [sm] at *; omega)) (fun z hz => ?_); (try simp only at hz); cbv)
    | (refine rq (by first | exact trivial | omega | (dsimp only; omega) | (simp only [sm] at *; omega)) ?_; cbv)
    | (refine QC.tt (by first | omega | (dsimp only; omega) | exact rfl | (simp only [sm] at *; omega)) ?_; cbv)
    | (refine QC.tt ?_ ?_; (focus (simp only [decide_true, Bool.and_true, Bool.and_self] <;> fail)); cbv)
    | (refine QC.ff ?_ ?_; (focus (simp only [decide_true, Bool.and_true, Bool.and_self, decide_false, Bool.false_and, reduceCtorEq, not_false_eq_true] <;> fail)); cbv)
    | (refine QC.ff (by first | omega | (dsimp only; omega) | (simp only [sm] at *; omega)) ?_; cbv)
    | (refine QC.mk (fun hc => ?_) (fun hc => ?_) <;> (try dsimp only at hc) <;> cbv)
    | (refine br_mk2 (fun hb => ?_) (fun hb => ?_) <;> (try subst hb) <;> cbv)))
    · have hjm : i < n := by (first | omega | (simp only [cst] at *; omega) | (simp only [sm] at *; omega))
      have hs := Hs i hjm
      have hb2 := hb1.2 (by omega)
      have hy2 := Hy i hjm
      generalize Y i = y at hy1 hs hy2
      refine qv (i, .int .u8 y) ⟨hj, hy2⟩ ?_
      cbv
      (repeat' (first
    | (refine q1 (by first | exact trivial | omega | (dsimp only; omega) | exact pow62 _ (by omega) | exact mul9 (by omega) (by omega) | (simp only [sm] at *; omega)) (fun z hz => ?_); (try simp only at hz); cbv)
    | (refine rq (by first | exact trivial | omega | (dsimp only; omega) | (simp only [sm] at *; omega)) ?_; cbv)
    | (refine QC.tt (by first | omega | (dsimp only; omega) | exact rfl | (simp only [sm] at *; omega)) ?_; cbv)
    | (refine QC.tt ?_ ?_; (focus (simp only [decide_true, Bool.and_true, Bool.and_self] <;> fail)); cbv)
    | (refine QC.ff ?_ ?_; (focus (simp only [decide_true, Bool.and_true, Bool.and_self, decide_false, Bool.false_and, reduceCtorEq, not_false_eq_true] <;> fail)); cbv)
    | (refine QC.ff (by first | omega | (dsimp only; omega) | (simp only [sm] at *; omega)) ?_; cbv)
    | (refine QC.mk (fun hc => ?_) (fun hc => ?_) <;> (try dsimp only at hc) <;> cbv)
    | (refine br_mk2 (fun hb => ?_) (fun hb => ?_) <;> (try subst hb) <;> cbv)))
      rename_i z3 h3 z4 h4 z5 h5
      have e := or_i x y z3 z4 z5 (by (first | omega | (simp only [cst] at *; omega) | (simp only [sm] at *; omega))) hy1 h3 h4 h5
      refine ⟨(i + 1, z, z5), ⟨by (first | omega | (simp only [cst] at *; omega) | (simp only [sm] at *; omega)), by omega, by (first | omega | (simp only [cst] at *; omega) | (simp only [sm] at *; omega))⟩, by (first | omega | (simp only [cst] at *; omega) | (simp only [sm] at *; omega)), ?_⟩
      cbv
    · have e : i = n := by (first | omega | (simp only [cst] at *; omega) | (simp only [sm] at *; omega))
      refine ⟨?_, rfl, rfl⟩
      rw [hx, hr, e, Hn]
end Go.Proofs.Ytjhicdoigllblaa
/- Contract of multihopref01.Same. -/
namespace Go.Proofs.Ytjhicdoigllblaa
set_option linter.unusedVariables false
set_option linter.unusedSimpArgs false
open Go.RowKit
set_option maxHeartbeats 2000000
theorem same_c (xs ys : List UInt8) (X Y : List SV) (r : Bool) (hX : X = u8l xs) (hY : Y = u8l ys) (hlx : xs.length ≤ 140737488352000) (hly : ys.length ≤ 140737488352000) (hr : r = decide (xs = ys)) :
    Good 28 (pu [.lst none X, .lst none Y] (.bool r)) := by
  have hl : X.length = xs.length := by rw [hX, u8l_len]
  have hl' : Y.length = ys.length := by rw [hY, u8l_len]
  have hx : ∀ i, i < xs.length → X[i]? = some (.int .u8 (xs.getD i 0).toNat) := fun i hi => by rw [hX]; exact u8l_at i hi
  have hy : ∀ i, i < ys.length → Y[i]? = some (.int .u8 (ys.getD i 0).toNat) := fun i hi => by rw [hY]; exact u8l_at i hi
  obtain ⟨F, hF⟩ : ∃ F : Nat → Int, ∀ i, F i = (xs.getD i 0).toNat := ⟨_, fun _ => rfl⟩
  obtain ⟨G, hG⟩ : ∃ G : Nat → Int, ∀ i, G i = (ys.getD i 0).toNat := ⟨_, fun _ => rfl⟩
  have key : ∀ i, xs.take i = ys.take i → i < xs.length → i < ys.length → F i = G i → xs.take (i + 1) = ys.take (i + 1) := by
    intro i h h1 h2 h3
    rw [take_snoc_u8 _ _ h1, take_snoc_u8 _ _ h2, h]
    rw [hF, hG] at h3
    have : (xs.getD i 0).toNat = (ys.getD i 0).toNat := by omega
    have := UInt8.toNat_inj.1 this
    simp only [List.getD, List.getElem?_eq_getElem h1, List.getElem?_eq_getElem h2, Option.getD_some] at this
    rw [this]
  have key2 : ∀ i, ¬ F i = G i → xs ≠ ys := by
    intro i h e; subst e; rw [hF, hG] at h; exact h rfl
  simp only [← hF] at hx
  simp only [← hG] at hy
  refine Good.of Try.func28 rfl (by rfl) (by kernel_rfl) ?_
  cbv
  (repeat' (first
    | (refine q1 (by first | exact trivial | omega | (dsimp only; omega) | exact pow62 _ (by omega) | exact mul9 (by omega) (by omega) | (simp only [sm] at *; omega)) (fun z hz => ?_); (try simp only at hz); cbv)
    | (refine rq (by first | exact trivial | omega | (dsimp only; omega) | (simp only [sm] at *; omega)) ?_; cbv)
    | (refine QC.tt (by first | omega | (dsimp only; omega) | exact rfl | (simp only [sm] at *; omega)) ?_; cbv)
    | (refine QC.tt ?_ ?_; (focus (simp only [decide_true, Bool.and_true, Bool.and_self] <;> fail)); cbv)
    | (refine QC.ff ?_ ?_; (focus (simp only [decide_true, Bool.and_true, Bool.and_self, decide_false, Bool.false_and, reduceCtorEq, not_false_eq_true] <;> fail)); cbv)
    | (refine QC.ff (by first | omega | (dsimp only; omega) | (simp only [sm] at *; omega)) ?_; cbv)
    | (refine QC.mk (fun hc => ?_) (fun hc => ?_) <;> (try dsimp only at hc) <;> cbv)
    | (refine br_mk2 (fun hb => ?_) (fun hb => ?_) <;> (try subst hb) <;> cbv)))
  · have e : ¬ xs.length = ys.length := by (first | omega | (simp only [cst] at *; omega) | (simp only [sm] at *; omega))
    have e2 : ¬ xs = ys := fun h => e (by rw [h])
    refine ⟨?_, rfl, rfl⟩
    rw [hr, decide_eq_false e2]
  · have e : xs.length = ys.length := by (first | omega | (simp only [cst] at *; omega) | (simp only [sm] at *; omega))
    refine loopQ (A := Nat × Int) (fun p => p.2 = p.1 ∧ p.1 ≤ xs.length ∧ xs.take p.1 = ys.take p.1) (fun p => xs.length - p.1) (fun p => [(5, .int .i64 p.2)]) (fun p => []) (0, 0) ⟨rfl, Nat.zero_le _, rfl⟩ ?_ ?_
    · cbv
    · intro ⟨i, j⟩ h
      have hj : j = (i : Int) := h.1
      have hi : i ≤ xs.length := h.2.1
      have ht : xs.take i = ys.take i := h.2.2
      clear h
      have h1 := hx i
      have h2 := hy i
      have h3 := key i ht
      have h4 := key2 i
      cbv
      (repeat' (first
    | (refine q1 (by first | exact trivial | omega | (dsimp only; omega) | exact pow62 _ (by omega) | exact mul9 (by omega) (by omega) | (simp only [sm] at *; omega)) (fun z hz => ?_); (try simp only at hz); cbv)
    | (refine rq (by first | exact trivial | omega | (dsimp only; omega) | (simp only [sm] at *; omega)) ?_; cbv)
    | (refine QC.tt (by first | omega | (dsimp only; omega) | exact rfl | (simp only [sm] at *; omega)) ?_; cbv)
    | (refine QC.tt ?_ ?_; (focus (simp only [decide_true, Bool.and_true, Bool.and_self] <;> fail)); cbv)
    | (refine QC.ff ?_ ?_; (focus (simp only [decide_true, Bool.and_true, Bool.and_self, decide_false, Bool.false_and, reduceCtorEq, not_false_eq_true] <;> fail)); cbv)
    | (refine QC.ff (by first | omega | (dsimp only; omega) | (simp only [sm] at *; omega)) ?_; cbv)
    | (refine QC.mk (fun hc => ?_) (fun hc => ?_) <;> (try dsimp only at hc) <;> cbv)
    | (refine br_mk2 (fun hb => ?_) (fun hb => ?_) <;> (try subst hb) <;> cbv)))
      · have hi2 : i < xs.length := by (first | omega | (simp only [cst] at *; omega) | (simp only [sm] at *; omega))
        have h3 := h3 hi2 (by omega)
        have h1 := h1 hi2
        have h2 := h2 (by omega)
        generalize F i = x at h1 h3 h4
        generalize G i = y at h2 h3 h4
        refine qv (i, .int .u8 x) ⟨hj, h1⟩ ?_
        cbv
        (repeat' (first
    | (refine q1 (by first | exact trivial | omega | (dsimp only; omega) | exact pow62 _ (by omega) | exact mul9 (by omega) (by omega) | (simp only [sm] at *; omega)) (fun z hz => ?_); (try simp only at hz); cbv)
    | (refine rq (by first | exact trivial | omega | (dsimp only; omega) | (simp only [sm] at *; omega)) ?_; cbv)
    | (refine QC.tt (by first | omega | (dsimp only; omega) | exact rfl | (simp only [sm] at *; omega)) ?_; cbv)
    | (refine QC.tt ?_ ?_; (focus (simp only [decide_true, Bool.and_true, Bool.and_self] <;> fail)); cbv)
    | (refine QC.ff ?_ ?_; (focus (simp only [decide_true, Bool.and_true, Bool.and_self, decide_false, Bool.false_and, reduceCtorEq, not_false_eq_true] <;> fail)); cbv)
    | (refine QC.ff (by first | omega | (dsimp only; omega) | (simp only [sm] at *; omega)) ?_; cbv)
    | (refine QC.mk (fun hc => ?_) (fun hc => ?_) <;> (try dsimp only at hc) <;> cbv)
    | (refine br_mk2 (fun hb => ?_) (fun hb => ?_) <;> (try subst hb) <;> cbv)))
        refine qv (i, .int .u8 y) ⟨hj, h2⟩ ?_
        cbv
        (repeat' (first
    | (refine q1 (by first | exact trivial | omega | (dsimp only; omega) | exact pow62 _ (by omega) | exact mul9 (by omega) (by omega) | (simp only [sm] at *; omega)) (fun z hz => ?_); (try simp only at hz); cbv)
    | (refine rq (by first | exact trivial | omega | (dsimp only; omega) | (simp only [sm] at *; omega)) ?_; cbv)
    | (refine QC.tt (by first | omega | (dsimp only; omega) | exact rfl | (simp only [sm] at *; omega)) ?_; cbv)
    | (refine QC.tt ?_ ?_; (focus (simp only [decide_true, Bool.and_true, Bool.and_self] <;> fail)); cbv)
    | (refine QC.ff ?_ ?_; (focus (simp only [decide_true, Bool.and_true, Bool.and_self, decide_false, Bool.false_and, reduceCtorEq, not_false_eq_true] <;> fail)); cbv)
    | (refine QC.ff (by first | omega | (dsimp only; omega) | (simp only [sm] at *; omega)) ?_; cbv)
    | (refine QC.mk (fun hc => ?_) (fun hc => ?_) <;> (try dsimp only at hc) <;> cbv)
    | (refine br_mk2 (fun hb => ?_) (fun hb => ?_) <;> (try subst hb) <;> cbv)))
        · refine ⟨?_, rfl, rfl⟩
          rw [hr, decide_eq_false (h4 hc)]
        · refine ⟨(i + 1, z), ⟨by (first | omega | (simp only [cst] at *; omega) | (simp only [sm] at *; omega)), by omega, h3 (by omega)⟩, by (first | omega | (simp only [cst] at *; omega) | (simp only [sm] at *; omega)), ?_⟩
          cbv
      · have e2 : i = xs.length := by (first | omega | (simp only [cst] at *; omega) | (simp only [sm] at *; omega))
        refine ⟨?_, rfl, rfl⟩
        rw [e2, List.take_length, e, List.take_length] at ht
        rw [hr, decide_eq_true ht]
end Go.Proofs.Ytjhicdoigllblaa
/- Begin, Next and Acknowledge of both sides over plain senders. -/
namespace Go.Proofs.Ytjhicdoigllblaa
set_option linter.unusedVariables false
set_option linter.unusedSimpArgs false
open Go.RowKit
set_option maxHeartbeats 8000000
noncomputable def vs (s : Snd) : Bool := @decide (VS s) (Classical.propDecidable _)
theorem vs_iff (s : Snd) : vs s = true ↔ VS s := by rw [vs]; exact @decide_eq_true_iff _ (Classical.propDecidable _)
def zS : Snd := ⟨0, 0, [], 0, 0, 0⟩
/-- A sender with its list of pieces. -/
abbrev Snd.w (s : Snd) (R : List SV) : SV := .agg [.int .i64 s.st, .int .u8 s.tag, .lst none R, .int .u32 s.ak, .int .i64 s.rd, .int .i64 s.un]
def begP (b : List UInt8) (tag room : Int) : Snd × Int :=
  if room ≤ 4 then (zS, 2) else if b.length = 0 ∨ 32 ≤ ((b.length : Int) - 1) / (room - 4) then (zS, 3)
  else (⟨1, tag, chk (room - 4).toNat b (nPc b.length (room - 4).toNat), 0, 0, 0⟩, 0)
noncomputable def nextP (s : Snd) (now : Int) : Snd × List Pce × Int :=
  if vs s = false then (zS, [], 1)
  else if now < 0 ∨ 1099511627776 < now then (zS, [], 2)
  else if s.st ≠ 1 ∨ now < s.un then (s, [], 0)
  else if s.rd = 8 then ({ s with st := 3 }, [], 0)
  else ({ s with rd := s.rd + 1, un := min (now + 8) 1099511627776 }, mark (pre s.tag s.ps s.ak (min (opn s.ak s.ps.length).length 8)), 0)
noncomputable def ackP (s : Snd) (t m : Int) : Snd × Int :=
  if vs s = false then (zS, 1) else if s.tag ≠ t then (zS, 9) else if s.st ≠ 1 then (s, 0) else (ackS s m, 0)
theorem wk_zero : Wk (.agg [.int .i64 0, .int .u8 0, .nil, .int .u32 0, .int .i64 0, .int .i64 0]) zS.v :=
  .agg ⟨.rfl' _, .rfl' _, .nil _, .rfl' _, .rfl' _, .rfl' _, trivial⟩
theorem beg_wk (b : List UInt8) (tag room : Int) : ∃ X, begX b tag room = (X, (begP b tag room).2) ∧ Wk X (begP b tag room).1.v := by
  unfold begX begP
  split
  · exact ⟨_, rfl, wk_zero⟩
  split
  · exact ⟨_, rfl, wk_zero⟩
  · exact ⟨_, rfl, .rfl' _⟩
theorem next_wk (s : Snd) (now : Int) : ∃ X, nextX s (vs s) now = (X, (nextP s now).2.1, (nextP s now).2.2) ∧ Wk X (nextP s now).1.v := by
  unfold nextX nextP
  split
  · exact ⟨_, rfl, wk_zero⟩
  split
  · exact ⟨_, rfl, wk_zero⟩
  split
  · exact ⟨_, rfl, .rfl' _⟩
  split
  · exact ⟨_, rfl, .rfl' _⟩
  · exact ⟨_, rfl, .rfl' _⟩
theorem ack_wk (s : Snd) (t m : Int) : ∃ X, ackX s (vs s) t m = (X, (ackP s t m).2) ∧ Wk X (ackP s t m).1.v := by
  unfold ackX ackP
  split
  · exact ⟨_, rfl, wk_zero⟩
  split
  · exact ⟨_, rfl, wk_zero⟩
  split
  · exact ⟨_, rfl, .rfl' _⟩
  · exact ⟨_, rfl, .rfl' _⟩
theorem begin_p (b : List UInt8) (B : List SV) (hB : B = u8l b) (hb : b.length ≤ 140737488351232) (tag room : Int) (hr : -9223372036854775808 ≤ room ∧ room ≤ 9223372036854775807) (s : Snd) (R : List SV) (hR : R = rowsB s.ps) (e : Int) (hX : begP b tag room = (s, e)) :
    Good 24 (pu [.lst none B, .int .u8 tag, .int .i64 room] (.tup [s.w R, .int .i64 e])) := by
  obtain ⟨X, h1, h2⟩ := beg_wk b tag room
  rw [hX] at h1 h2
  exact (begin_c b B hB hb tag room hr X e h1).res (.tup ⟨by rw [hR]; exact h2, .rfl' _, trivial⟩)
theorem rbegin_p (b : List UInt8) (B : List SV) (hB : B = u8l b) (hb : b.length ≤ 140737488351232) (tag room : Int) (hr : -9223372036854775808 ≤ room ∧ room ≤ 9223372036854775807) (s : Snd) (R : List SV) (hR : R = rowsB s.ps) (e : Int) (hX : begP b tag room = (s, e)) :
    Good 25 (pu [.lst none B, .int .u8 tag, .int .i64 room] (.tup [s.w R, .int .i64 e])) := by
  obtain ⟨X, h1, h2⟩ := beg_wk b tag room
  rw [hX] at h1 h2
  exact (rbegin_c b B hB hb tag room hr X e h1).res (.tup ⟨by rw [hR]; exact h2, .rfl' _, trivial⟩)
theorem next_p (s : Snd) (R : List SV) (hR : R = rowsB s.ps) (hf : s.fits) (now : Int) (hnow : -9223372036854775808 ≤ now ∧ now ≤ 9223372036854775807) (s' : Snd) (R' : List SV) (hR' : R' = rowsB s'.ps) (l : List Pce) (L : List SV) (hL : L = pcL l) (e : Int) (hX : nextP s now = (s', l, e)) :
    Good 15 (pu [s.w R, .int .i64 now] (.tup [s'.w R', .lst (some 5) L, .int .i64 e])) := by
  obtain ⟨X, h1, h2⟩ := next_wk s now
  rw [hX] at h1 h2
  exact (nx_c _ _ _ _ _ _ R hR hf _ (vs_iff s) now hnow X l L hL e h1).res (.tup ⟨by rw [hR']; exact h2, .rfl' _, .rfl' _, trivial⟩)
theorem rnext_p (s : Snd) (R : List SV) (hR : R = rowsB s.ps) (hf : s.fits) (now : Int) (hnow : -9223372036854775808 ≤ now ∧ now ≤ 9223372036854775807) (s' : Snd) (R' : List SV) (hR' : R' = rowsB s'.ps) (l : List Pce) (L : List SV) (hL : L = pcL l) (e : Int) (hX : nextP s now = (s', l, e)) :
    Good 16 (pu [s.w R, .int .i64 now] (.tup [s'.w R', .lst (some 5) L, .int .i64 e])) := by
  obtain ⟨X, h1, h2⟩ := next_wk s now
  rw [hX] at h1 h2
  exact (rnx_c _ _ _ _ _ _ R hR hf _ (vs_iff s) now hnow X l L hL e h1).res (.tup ⟨by rw [hR']; exact h2, .rfl' _, .rfl' _, trivial⟩)
theorem ack_p (s : Snd) (R : List SV) (hR : R = rowsB s.ps) (hf : s.fits) (t m : Int) (ht : 0 ≤ t ∧ t ≤ 255) (hm : 0 ≤ m ∧ m ≤ 4294967295) (s' : Snd) (R' : List SV) (hR' : R' = rowsB s'.ps) (e : Int) (hX : ackP s t m = (s', e)) :
    Good 17 (pu [s.w R, .int .u8 t, .int .u32 m] (.tup [s'.w R', .int .i64 e])) := by
  obtain ⟨X, h1, h2⟩ := ack_wk s t m
  rw [hX] at h1 h2
  exact (ack_c _ _ _ _ _ _ R hR hf _ (vs_iff s) t m ht hm X e h1).res (.tup ⟨by rw [hR']; exact h2, .rfl' _, trivial⟩)
theorem rack_p (s : Snd) (R : List SV) (hR : R = rowsB s.ps) (hf : s.fits) (t m : Int) (ht : 0 ≤ t ∧ t ≤ 255) (hm : 0 ≤ m ∧ m ≤ 4294967295) (s' : Snd) (R' : List SV) (hR' : R' = rowsB s'.ps) (e : Int) (hX : ackP s t m = (s', e)) :
    Good 18 (pu [s.w R, .int .u8 t, .int .u32 m] (.tup [s'.w R', .int .i64 e])) := by
  obtain ⟨X, h1, h2⟩ := ack_wk s t m
  rw [hX] at h1 h2
  exact (rack_c _ _ _ _ _ _ R hR hf _ (vs_iff s) t m ht hm X e h1).res (.tup ⟨by rw [hR']; exact h2, .rfl' _, trivial⟩)
theorem zS_fits : zS.fits := ⟨by decide, by decide, by decide, by decide, by decide, by decide, fun p hp => by cases hp⟩
theorem next_fits (s : Snd) (now : Int) (hf : s.fits) : (nextP s now).1.fits := by
  unfold nextP
  split
  · exact zS_fits
  rename_i hv
  have v := (vs_iff s).1 (by simpa using hv)
  split
  · exact zS_fits
  split
  · exact hf
  split
  · exact ⟨by dsimp only; omega, hf.tag, hf.ak, hf.rd, hf.un, hf.n, hf.b⟩
  · exact ⟨hf.st, hf.tag, hf.ak, by have := v.r1; have := v.r2; dsimp only; omega, by dsimp only; omega, hf.n, hf.b⟩
theorem ack_fits (s : Snd) (t m : Int) (hf : s.fits) : (ackP s t m).1.fits := by
  unfold ackP
  split
  · exact zS_fits
  rename_i hv
  have v := (vs_iff s).1 (by simpa using hv)
  split
  · exact zS_fits
  split
  · exact hf
  · rw [ackS]
    dsimp only
    split
    · exact ⟨by dsimp only; omega, hf.tag, hf.ak, hf.rd, hf.un, hf.n, hf.b⟩
    · exact ⟨by dsimp only; have := hf.st; split <;> omega, hf.tag, ackO_b _ _ (ackW_b _ _ v.n2) hf.ak, by dsimp only; have := hf.rd; split <;> omega, by dsimp only; omega, hf.n, hf.b⟩
theorem beg_fits (b : List UInt8) (tag room : Int) (ht : 0 ≤ tag ∧ tag ≤ 255) (hb : b.length ≤ 140737488351232) : (begP b tag room).1.fits := by
  unfold begP
  split
  · exact zS_fits
  split
  · exact zS_fits
  · rename_i h1 h2
    refine ⟨by dsimp only; omega, ht, by dsimp only; omega, by dsimp only; omega, by dsimp only; omega, ?_, ?_⟩
    · dsimp only
      rw [chk_len, nPc]
      have : (b.length - 1) / (room - 4).toNat < 32 := by
        have h3 : ((b.length : Int) - 1) / (room - 4) = (((b.length - 1) / (room - 4).toNat : Nat) : Int) := by
          rw [Int.natCast_ediv]
          congr 1 <;> omega
        omega
      omega
    · intro p hp
      simp only [chk, List.mem_map] at hp
      obtain ⟨i, _, rfl⟩ := hp
      rw [List.length_take, List.length_drop]
      omega
end Go.Proofs.Ytjhicdoigllblaa
/- Contract of multihopref01.Append. -/
namespace Go.Proofs.Ytjhicdoigllblaa
set_option linter.unusedVariables false
set_option linter.unusedSimpArgs false
open Go.RowKit
set_option maxHeartbeats 4000000
theorem rappG (bs : List UInt8) (v : Int) (n : Nat) : ∃ G : Nat → List SV, G 0 = u8l bs ∧ (∀ k, k < n → apL (G k) [.int .u8 (v / 2 ^ (8 * (n - 1 - k)) % 256)] = G (k + 1)) ∧ (∀ k, k ≤ n → (G k).length = bs.length + k) ∧ G n = u8l (bs ++ bytesOf v n) := by
  refine ⟨fun k => u8l (bs ++ (bytesOf v n).take k), by simp, ?_, ?_, ?_⟩
  · intro k hk
    rw [apL_eq, ← digit_val, show [SV.int .u8 ((digit v n k).toNat : Int)] = u8l [digit v n k] from rfl, u8l_app, List.append_assoc]
    congr 2
    rw [List.take_add_one, bytesOf_get v n k hk]; rfl
  · intro k hk; simp [u8l_len, bytesOf_length]; omega
  · simp [List.take_of_length_le (Nat.le_of_eq (bytesOf_length v n))]
theorem rappend_c (bs : List UInt8) (X R : List SV) (v N : Int) (n : Nat) (hX : X = u8l bs) (hN : N = n) (hn : n ≤ 8) (hv : 0 ≤ v ∧ v < 18446744073709551616) (hl : bs.length ≤ 140737488352000) (hR : R = u8l (bs ++ bytesOf v n)) :
    Good 63 (nu [.lst none X, .int .u64 v, .int .i64 N] (.row 1) (.row none 5 R)) := by
  obtain ⟨G, G0, Gs, Gl, Gn⟩ := rappG bs v n
  have hl' : X.length = bs.length := by rw [hX, u8l_len]
  refine Good.of Try.func63 rfl (by rfl) (by kernel_rfl) ?_
  cbv
  (repeat' (first
    | (refine q1 (by first | exact trivial | omega | (dsimp only; omega) | exact pow62 _ (by omega) | exact mul9 (by omega) (by omega) | (simp only [sm] at *; omega)) (fun z hz => ?_); (try simp only at hz); cbv)
    | (refine rq (by first | exact trivial | omega | (dsimp only; omega) | (simp only [sm] at *; omega)) ?_; cbv)
    | (refine QC.tt (by first | omega | (dsimp only; omega) | exact rfl | (simp only [sm] at *; omega)) ?_; cbv)
    | (refine QC.tt ?_ ?_; (focus (simp only [decide_true, Bool.and_true, Bool.and_self] <;> fail)); cbv)
    | (refine QC.ff ?_ ?_; (focus (simp only [decide_true, Bool.and_true, Bool.and_self, decide_false, Bool.false_and, reduceCtorEq, not_false_eq_true] <;> fail)); cbv)
    | (refine QC.ff (by first | omega | (dsimp only; omega) | (simp only [sm] at *; omega)) ?_; cbv)
    | (refine QC.mk (fun hc => ?_) (fun hc => ?_) <;> (try dsimp only at hc) <;> cbv)
    | (refine br_mk2 (fun hb => ?_) (fun hb => ?_) <;> (try subst hb) <;> cbv)))
  refine loopQ (A := Nat × Int) (fun p => p.2 = n - 1 - p.1 ∧ p.1 ≤ n) (fun p => n - p.1) (fun p => [(7, .row 7), (8, .int .i64 p.2), (9, .any), (11, .any)]) (fun p => [(7, .row none 5 (G p.1))]) (0, z) ⟨by show z = (n : Int) - 1 - (0 : Nat); (first | omega | (simp only [cst] at *; omega) | (simp only [sm] at *; omega)), Nat.zero_le _⟩ ?_ ?_
  · cbv
    refine ⟨?_, trivial⟩
    show _ = Blk.row none 5 (G 0)
    rw [G0, hX]
  · intro ⟨i, j⟩ h
    have hj : j = (n : Int) - 1 - (i : Int) := h.1
    have hi : i ≤ n := h.2
    clear h
    have hgs := Gs i
    have hgl := Gl i hi
    cbv
    (repeat' (first
    | (refine q1 (by first | exact trivial | omega | (dsimp only; omega) | exact pow62 _ (by omega) | exact mul9 (by omega) (by omega) | (simp only [sm] at *; omega)) (fun z hz => ?_); (try simp only at hz); cbv)
    | (refine rq (by first | exact trivial | omega | (dsimp only; omega) | (simp only [sm] at *; omega)) ?_; cbv)
    | (refine QC.tt (by first | omega | (dsimp only; omega) | exact rfl | (simp only [sm] at *; omega)) ?_; cbv)
    | (refine QC.tt ?_ ?_; (focus (simp only [decide_true, Bool.and_true, Bool.and_self] <;> fail)); cbv)
    | (refine QC.ff ?_ ?_; (focus (simp only [decide_true, Bool.and_true, Bool.and_self, decide_false, Bool.false_and, reduceCtorEq, not_false_eq_true] <;> fail)); cbv)
    | (refine QC.ff (by first | omega | (dsimp only; omega) | (simp only [sm] at *; omega)) ?_; cbv)
    | (refine QC.mk (fun hc => ?_) (fun hc => ?_) <;> (try dsimp only at hc) <;> cbv)
    | (refine br_mk2 (fun hb => ?_) (fun hb => ?_) <;> (try subst hb) <;> cbv)))
    · have hlt : i < n := by (first | omega | (simp only [cst] at *; omega) | (simp only [sm] at *; omega))
      have hgs := hgs hlt
      rename_i z1 h1 z2 h2 z3 h3 z4 h4
      refine ⟨(i + 1, z), ⟨by show z = (n : Int) - 1 - (i + 1 : Nat); (first | omega | (simp only [cst] at *; omega) | (simp only [sm] at *; omega)), by omega⟩, by show n - (i + 1) < n - i; omega, ?_⟩
      cbv
      refine ⟨?_, trivial⟩
      have e4 : z4 = v / 2 ^ (8 * (n - 1 - i)) % 256 := by rw [h4, h3, show z2.toNat = 8 * (n - 1 - i) by (first | omega | (simp only [cst] at *; omega) | (simp only [sm] at *; omega))]
      rw [← e4] at hgs
      exact congrArg (Blk.row none 5) hgs
    · have e : i = n := by (first | omega | (simp only [cst] at *; omega) | (simp only [sm] at *; omega))
      refine ⟨rfl, ?_, rfl⟩
      show Blk.row none 5 (G i) = _
      rw [e, Gn, hR]
end Go.Proofs.Ytjhicdoigllblaa
/- Contract of multihopref01.Uint. -/
namespace Go.Proofs.Ytjhicdoigllblaa
set_option linter.unusedVariables false
set_option linter.unusedSimpArgs false
open Go.RowKit
set_option maxHeartbeats 4000000
theorem rbeG (bs : List UInt8) (X : List SV) (hX : X = u8l bs) (a n : Nat) (h : a + n ≤ bs.length) : ∃ H Y : Nat → Int, H 0 = 0 ∧ (∀ i, 0 ≤ H i ∧ (i < 8 → H i < 72057594037927936)) ∧ (∀ i, 0 ≤ Y i ∧ Y i < 256) ∧ H n = be ((bs.drop a).take n) ∧
    (∀ i, i < n → H i * 256 + Y i = H (i + 1)) ∧ (∀ i, i < n → X[a + i]? = some (.int .u8 (Y i))) := by
  refine ⟨fun i => (be ((bs.drop a).take i) : Int), fun i => (bs.getD (a + i) 0).toNat, by simp [be], ?_, ?_, rfl, ?_, ?_⟩
  · intro i
    refine ⟨by dsimp only; omega, fun hi => ?_⟩
    have h1 := be_lt ((bs.drop a).take i)
    have h2 : 256 ^ ((bs.drop a).take i).length ≤ 256 ^ 7 := Nat.pow_le_pow_right (by omega) (by simp; omega)
    dsimp only
    omega
  · intro i; have := (bs.getD (a + i) 0).toNat_lt; dsimp only; omega
  · intro i hi
    dsimp only
    rw [take_snoc_u8 _ i (by simp; omega), be_snoc]
    simp [show a + i < bs.length by omega]
  · intro i hi
    rw [hX]
    exact u8l_at (a + i) (by omega)
theorem ruint_c (bs : List UInt8) (X : List SV) (A N r : Int) (a n : Nat) (hX : X = u8l bs) (hA : A = a) (hN : N = n) (h1 : 1 ≤ n) (hn : n ≤ 8) (hl : bs.length ≤ 140737488352000) (hb : a + n ≤ bs.length) (hr : r = be ((bs.drop a).take n)) :
    Good 65 (pu [.lst none X, .int .i64 A, .int .i64 N] (.tup [.int .u64 r, .bool true])) := by
  have hl : X.length = bs.length := by rw [hX, u8l_len]
  obtain ⟨H, Y, H0, Hb, HY, Hn, Hs, Hy⟩ := rbeG bs X hX a n hb
  refine Good.of Try.func65 rfl (by rfl) (by kernel_rfl) ?_
  cbv
  (repeat' (first
    | (refine q1 (by first | exact trivial | omega | (dsimp only; omega) | exact pow62 _ (by omega) | exact mul9 (by omega) (by omega) | (simp only [sm] at *; omega)) (fun z hz => ?_); (try simp only at hz); cbv)
    | (refine rq (by first | exact trivial | omega | (dsimp only; omega) | (simp only [sm] at *; omega)) ?_; cbv)
    | (refine QC.tt (by first | omega | (dsimp only; omega) | exact rfl | (simp only [sm] at *; omega)) ?_; cbv)
    | (refine QC.tt ?_ ?_; (focus (simp only [decide_true, Bool.and_true, Bool.and_self] <;> fail)); cbv)
    | (refine QC.ff ?_ ?_; (focus (simp only [decide_true, Bool.and_true, Bool.and_self, decide_false, Bool.false_and, reduceCtorEq, not_false_eq_true] <;> fail)); cbv)
    | (refine QC.ff (by first | omega | (dsimp only; omega) | (simp only [sm] at *; omega)) ?_; cbv)
    | (refine QC.mk (fun hc => ?_) (fun hc => ?_) <;> (try dsimp only at hc) <;> cbv)
    | (refine br_mk2 (fun hb => ?_) (fun hb => ?_) <;> (try subst hb) <;> cbv)))
  refine loopQ (A := Nat × Int × Int) (fun p => p.2.1 = p.1 ∧ p.1 ≤ n ∧ p.2.2 = H p.1) (fun p => n - p.1) (fun p => [(8, .int .u64 p.2.2), (9, .int .i64 p.2.1)]) (fun p => []) (0, 0, 0) ⟨rfl, Nat.zero_le _, H0.symm⟩ ?_ ?_
  · cbv
  · intro ⟨i, j, x⟩ h
    have hj : j = (i : Int) := h.1
    have hi : i ≤ n := h.2.1
    have hx : x = H i := h.2.2
    clear h
    have hb1 := Hb i
    have hy1 := HY i
    have hs1 := Hs i
    have hy2 := Hy i
    generalize Y i = y at hy1 hs1 hy2
    generalize hq : a + i = q at hy2
    have hmk : True := trivial
    cbv
    (repeat' (first
    | (refine q1 (by first | exact trivial | omega | (dsimp only; omega) | exact pow62 _ (by omega) | exact mul9 (by omega) (by omega) | (simp only [sm] at *; omega)) (fun z hz => ?_); (try simp only at hz); cbv)
    | (refine rq (by first | exact trivial | omega | (dsimp only; omega) | (simp only [sm] at *; omega)) ?_; cbv)
    | (refine QC.tt (by first | omega | (dsimp only; omega) | exact rfl | (simp only [sm] at *; omega)) ?_; cbv)
    | (refine QC.tt ?_ ?_; (focus (simp only [decide_true, Bool.and_true, Bool.and_self] <;> fail)); cbv)
    | (refine QC.ff ?_ ?_; (focus (simp only [decide_true, Bool.and_true, Bool.and_self, decide_false, Bool.false_and, reduceCtorEq, not_false_eq_true] <;> fail)); cbv)
    | (refine QC.ff (by first | omega | (dsimp only; omega) | (simp only [sm] at *; omega)) ?_; cbv)
    | (refine QC.mk (fun hc => ?_) (fun hc => ?_) <;> (try dsimp only at hc) <;> cbv)
    | (refine br_mk2 (fun hb => ?_) (fun hb => ?_) <;> (try subst hb) <;> cbv)))
    · have hjm : i < n := by (first | omega | (simp only [cst] at *; omega) | (simp only [sm] at *; omega))
      have hy3 := hy2 hjm
      have hs3 := hs1 hjm
      have hb2 := hb1.2 (by omega)
      (refine qv (q, _) ⟨(by (first | omega | (simp only [cst] at *; omega) | (simp only [sm] at *; omega))), hy3⟩ ?_; cbv; (repeat' (first
    | (refine q1 (by first | exact trivial | omega | (dsimp only; omega) | exact pow62 _ (by omega) | exact mul9 (by omega) (by omega) | (simp only [sm] at *; omega)) (fun z hz => ?_); (try simp only at hz); cbv)
    | (refine rq (by first | exact trivial | omega | (dsimp only; omega) | (simp only [sm] at *; omega)) ?_; cbv)
    | (refine QC.tt (by first | omega | (dsimp only; omega) | exact rfl | (simp only [sm] at *; omega)) ?_; cbv)
    | (refine QC.tt ?_ ?_; (focus (simp only [decide_true, Bool.and_true, Bool.and_self] <;> fail)); cbv)
    | (refine QC.ff ?_ ?_; (focus (simp only [decide_true, Bool.and_true, Bool.and_self, decide_false, Bool.false_and, reduceCtorEq, not_false_eq_true] <;> fail)); cbv)
    | (refine QC.ff (by first | omega | (dsimp only; omega) | (simp only [sm] at *; omega)) ?_; cbv)
    | (refine QC.mk (fun hc => ?_) (fun hc => ?_) <;> (try dsimp only at hc) <;> cbv)
    | (refine br_mk2 (fun hb => ?_) (fun hb => ?_) <;> (try subst hb) <;> cbv))))
      rename_i z3 h3 z2 h2 z1 h1' z0 h0
      have e1 : (2 : Int) ^ Int.toNat 8 = 256 := rfl
      rw [e1] at h3
      refine ⟨(i + 1, z, z0), ⟨by show z = ((i + 1 : Nat) : Int); (first | omega | (simp only [cst] at *; omega) | (simp only [sm] at *; omega)), by show i + 1 ≤ n; omega, by show z0 = H (i + 1); (first | omega | (simp only [cst] at *; omega) | (simp only [sm] at *; omega))⟩, by show n - (i + 1) < n - i; omega, ?_⟩
      cbv
    · have e : i = n := by (first | omega | (simp only [cst] at *; omega) | (simp only [sm] at *; omega))
      refine ⟨?_, rfl, rfl⟩
      rw [hx, hr, e, Hn]
end Go.Proofs.Ytjhicdoigllblaa
