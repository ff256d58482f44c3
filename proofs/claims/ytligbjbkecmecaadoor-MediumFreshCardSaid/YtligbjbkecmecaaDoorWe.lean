/- How append, copy and make run. -/
import Derived.Test.YtligbjbkecmecaaDoorWv
import Derived.Laws.CopyOwn
import Derived.Laws.MakeOwn
namespace Go.Proofs.YtligbjbkecmecaaDoor
set_option linter.unusedVariables false
set_option linter.unusedSimpArgs false
open Go.RowKit
variable {P : Program} {T : Nat → Option TI}

/-- What is read off a slice or a string: its cells. -/
structure Src (P : Program) (w : World) (Y : Nat → Prop) (sh : Option Nat) (l : List SV) (x : Value) : Prop where
  h : ∃ us : List Value, us.length = l.length * wid sh ∧ (∀ u ∈ us, u.oneCell' = true) ∧ (∀ (i : Nat) (h : i < l.length), Den w Y noEnv l[i] (valAt sh us i)) ∧
    (∀ w', (Builtin.lenOf x).run P w' = .ok l.length w') ∧ ∀ (w' : World) (n : Nat), w'.heap = w.heap → n ≤ l.length → (Builtin.firstCells (wid sh) n x).run P w' = .ok (us.take (n * wid sh)).toArray w'

theorem Src.of_slice {w : World} {Y ok : Nat → Prop} {sh : Option Nat} {l : List SV} {x : Value} (h : SliceAt w Y ok sh l x) : Src P w Y sh l x := by
  obtain ⟨ad, c, rfl, hc, h⟩ := h
  rcases h with rfl | ⟨b, off, us, rfl, g1, g2, g3, g6, g4, g5⟩
  · refine ⟨[], by simp, by simp, fun i h => by simp at h, fun w' => by simp [Builtin.lenOf], fun w' n hw hn => ?_⟩
    obtain rfl : n = 0 := by simpa using hn
    cases ad with
    | none => simp [Builtin.firstCells]
    | some a => simp [Builtin.firstCells, loadCells, loadCellsFrom]
  · refine ⟨us, g3, g6, g5, fun w' => by simp [Builtin.lenOf], fun w' n hw hn => ?_⟩
    have hle : n * wid sh ≤ us.length := by rw [g3]; exact Nat.mul_le_mul_right _ hn
    refine run_firstCells_some (P := P) w' (wid sh) n ⟨b, off, none⟩ l.length c (us.take (n * wid sh)) (by rw [List.length_take]; omega) (fun j v hv => ?_)
    rw [addr_add]
    rw [List.getElem?_take] at hv
    split at hv
    · have := g4 j v hv
      simpa [World.cell?, hw] using this
    · cases hv

def bytesSV (s : ByteArray) : List SV := s.data.toList.map fun b => .int .u8 b.toNat
theorem O.by_eq (s : ByteArray) : O.by' s = bytesSV s := O.hby s
theorem Src.of_string {w : World} {Y : Nat → Prop} (s : ByteArray) : Src P w Y none (bytesSV s) (.string s) := by
  have hl : (bytesSV s).length = s.size := by simp [bytesSV]
  refine ⟨s.data.toList.map fun b => .int .u8 b.toNat, by simp [bytesSV, wid], fun u hu => ?_, fun i h => ?_, fun w' => by rw [hl]; simp [Builtin.lenOf], fun w' n hw hn => ?_⟩
  · obtain ⟨b, _, rfl⟩ := List.mem_map.1 hu
    rfl
  · simp only [bytesSV, valAt]
    have h' : i < (s.data.toList.map fun b => Value.int .u8 b.toNat).length := by simpa [bytesSV] using h
    rw [List.getElem?_eq_getElem h']
    simp only [List.getElem_map, Option.getD_some]
    exact .int _ _ _
  · simp only [Builtin.firstCells, wid, Nat.mul_one, Sem.run_pure]
    congr 1
    apply Array.ext'
    simp [ByteArray.extract, ByteArray.copySlice]

/-- A growable slice's cells. -/
def RowAt (w : World) (e : TypeId) (sh : Option Nat) (v : Value) (n : Nat) (cs : List Value) (old : Option Nat) (sz : Nat) : Prop :=
  (∃ a, v = .slice a 0 0 ∧ n = 0 ∧ cs = []) ∨ ∃ b off cap cur, v = .slice (some ⟨b, off, none⟩) n cap ∧ (sz ≤ b ∨ old = some b) ∧ w.heap[b]? = some (.cells cur e (0, 0)) ∧ n ≤ cap ∧ cap ≤ maxLen ∧
    off + cap * wid sh ≤ cur.size ∧ 0 < cap ∧ (∀ u ∈ cur.toList, u.oneCell' = true) ∧ (cur.toList.drop off).take (n * wid sh) = cs

theorem take_splice (L : List Value) (off k : Nat) (news : List Value) (h : off + k + news.length ≤ L.length) :
    ((L.take (off + k) ++ news ++ L.drop (off + k + news.length)).drop off).take (k + news.length) = (L.drop off).take k ++ news := by
  apply List.ext_getElem?
  intro i
  rw [List.getElem?_take, List.getElem?_drop]
  have h1 : (L.take (off + k)).length = off + k := by rw [List.length_take]; omega
  have h2 : ((L.drop off).take k).length = k := by rw [List.length_take, List.length_drop]; omega
  by_cases hi : i < k + news.length
  · rw [if_pos hi]
    by_cases hk : i < k
    · rw [List.append_assoc, List.getElem?_append_left (by omega), List.getElem?_append_left (by omega), List.getElem?_take, if_pos (by omega), List.getElem?_take, if_pos hk, List.getElem?_drop]
    · rw [List.append_assoc, List.getElem?_append_right (by omega), List.getElem?_append_left (by omega), List.getElem?_append_right (by omega)]
      congr 1
      omega
  · rw [if_neg hi, List.getElem?_append_right (by omega), List.getElem?_eq_none (by omega)]

theorem zero_one {z : Value} (hz : (z.cells.all (·.oneCell')) = true) (hs : 0 < z.cells.size) (n : Nat) : ∀ u ∈ (Builtin.zeroCells z.cells n).toList, u.oneCell' = true := by
  intro u hu
  simp only [Builtin.zeroCells, Array.toList_map, Array.toList_range, List.mem_map] at hu
  obtain ⟨j, _, rfl⟩ := hu
  have hlt : j % z.cells.size < z.cells.size := Nat.mod_lt _ hs
  rw [getElem!_pos z.cells _ hlt]
  exact (Array.all_eq_true_iff_forall_mem.1 hz) _ (Array.getElem_mem hlt)

/-- append onto a row of the call's own. -/
theorem run_append_row (w : World) (t t2 ty e : TypeId) (d2 : TypeDesc) (i : TypeInfo) (z : Value) (sh : Option Nat) (ht : P.underlying t = some (.slice e)) (ht2 : P.underlying t2 = some d2) (hd2 : d2 = .string ∨ ∃ e', d2 = .slice e') (hi : P.info? e = some i) (hz : i.zero = some z)
    (hsz : i.size = wid sh) (hzs : z.cells.size = i.size) (hz1 : (z.cells.all (·.oneCell')) = true) (hpos : 0 < wid sh) (v : Value) (n m : Nat) (olds news : List Value)
    (old : Option Nat) (hold : RowAt w e sh v n olds old w.heap.size) (x : Value) (hn1 : ∀ u ∈ news, u.oneCell' = true) (hnl : news.length = m * wid sh)
    (hlen : ∀ w', (Builtin.lenOf x).run P w' = .ok m w') (hfc : ∀ w' : World, w'.heap = w.heap → (Builtin.firstCells (wid sh) m x).run P w' = .ok news.toArray w')
    (hb : (n + m) * i.bytes ≤ 140737488355328) (hm : n + m ≤ maxLen) :
    ∃ v' w', (Builtin.append_ #[t, t2] ty #[v, x]).run P w = .ok v' w' ∧ w'.os = w.os ∧ w'.tape = w.tape ∧ w'.output = w.output ∧ w.heap.size ≤ w'.heap.size ∧
      (∀ k, k < w.heap.size → old ≠ some k → w'.heap[k]? = w.heap[k]?) ∧ RowAt w' e sh v' (n + m) (olds ++ news) old w.heap.size := by
  have grow : ∀ (base : Option Addr) (cap : Nat), v = .slice base n cap → (∀ w' : World, w'.heap = w.heap → (Builtin.firstCells (wid sh) n v).run P w' = .ok olds.toArray w') → olds.length = n * wid sh → (∀ u ∈ olds, u.oneCell' = true) → cap < n + m →
      ∃ v' w', (Builtin.append_ #[t, t2] ty #[v, x]).run P w = .ok v' w' ∧ w'.os = w.os ∧ w'.tape = w.tape ∧ w'.output = w.output ∧ w.heap.size ≤ w'.heap.size ∧
      (∀ k, k < w.heap.size → old ≠ some k → w'.heap[k]? = w.heap[k]?) ∧ RowAt w' e sh v' (n + m) (olds ++ news) old w.heap.size := by
    intro base cap hv hfo hol ho1 hcap
    have hn : ¬ (n + m ≤ cap) := by omega
    have h63' : ¬ (9223372036854775807 < ((n : Int) + (m : Int))) := by simp only [maxLen] at hm; omega
    have h48' : ¬ (281474976710656 < Builtin.nextslicecap (n + m) cap * i.bytes) := by have := growslice_fits hcap hb; omega
    have hf := hfc w.drew rfl
    have hfo' := hfo w.drew rfl
    rw [hv] at hfo'
    have hge := grownCap_ge w (n + m) cap e
    have hcm := grownCap_le_maxLen w (n + m) cap e hm
    refine ⟨.slice (some ⟨w.heap.size, 0, none⟩) (n + m) (grownCap w (n + m) cap e), w.drew.alloc (.cells (olds.toArray ++ news.toArray ++ Builtin.zeroCells z.cells (grownCap w (n + m) cap e - (n + m))) e), ?_, rfl, rfl, rfl, by simp, fun k hk _ => heap_alloc_old w.drew _ hk, .inr ⟨w.heap.size, 0, _, _, rfl, .inl (Nat.le_refl _), heap_alloc_new w.drew _, hge, hcm, ?_, by omega, fun u hu => ?_, ?_⟩⟩
    · rw [hv]
      rcases hd2 with rfl | ⟨e', rfl⟩
      all_goals simp [Builtin.append_, run_underlying ht, run_underlying ht2, sizeOf, typeInfo, zeroValue, hi, hz, hsz, hn, h63', h48', Question.forced, hf, hfo', newRow, grownCap, hlen]
      all_goals (congr 2; apply Array.ext'; simp [List.append_assoc])
    · simp only [Array.size_append, List.size_toArray, size_zeroCells, hzs, hsz, hol, hnl, ← Nat.add_mul, Nat.zero_add]
      rw [Nat.add_sub_cancel' hge]
      exact Nat.le_refl _
    · simp only [Array.toList_append, List.mem_append] at hu
      rcases hu with (hu | hu) | hu
      · exact ho1 u hu
      · exact hn1 u hu
      · exact zero_one hz1 (by rw [hzs, hsz]; exact hpos) _ u hu
    · simp only [List.drop_zero, Array.toList_append, List.append_assoc]
      rw [← List.append_assoc, Nat.add_mul, ← hol, ← hnl, ← List.length_append]
      exact List.take_left
  rcases hold with ⟨a, rfl, rfl, rfl⟩ | ⟨b, off, cap, cur, rfl, hbo, hg, hnc, hcm, hfit, hc0, hc1, hcs⟩
  · by_cases hm0 : m = 0
    · subst hm0
      obtain rfl : news = [] := List.eq_nil_of_length_eq_zero (by simpa using hnl)
      refine ⟨.slice a 0 0, w, ?_, rfl, rfl, rfl, Nat.le_refl _, fun _ _ _ => rfl, .inl ⟨a, rfl, rfl, rfl⟩⟩
      have hf := hfc w rfl
      rcases hd2 with rfl | ⟨e', rfl⟩
      all_goals cases a <;> simp [Builtin.append_, run_underlying ht, run_underlying ht2, sizeOf, typeInfo, hi, hsz, hf, hlen, storeCells]
    · refine grow a 0 rfl (fun w' _ => ?_) (by simp) (by simp) (by omega)
      cases a with
      | none => simp [Builtin.firstCells]
      | some a => simp [Builtin.firstCells, loadCells, loadCellsFrom]
  · have hle : n * wid sh ≤ cap * wid sh := Nat.mul_le_mul_right _ hnc
    have hcl : cur.toList.length = cur.size := Array.length_toList
    have hol : olds.length = n * wid sh := by rw [← hcs, List.length_take, List.length_drop]; omega
    by_cases hroom : n + m ≤ cap
    · have hle2 : (n + m) * wid sh ≤ cap * wid sh := Nat.mul_le_mul_right _ hroom
      rw [Nat.add_mul] at hle2
      have hst := run_storeCells_at P b (off + n * wid sh) e news 0 cur w hg (by omega) hn1
      simp only [Nat.add_zero] at hst
      have hf := hfc w rfl
      refine ⟨.slice (some ⟨b, off, none⟩) (n + m) cap, w.setRow b (cur.toList.take (off + n * wid sh) ++ news ++ cur.toList.drop (off + n * wid sh + news.length)).toArray, ?_, rfl, rfl, rfl, by simp [World.setRow], fun k hk hne => setRow_other w b k _ (fun e => ?_), .inr ⟨b, off, cap, _, rfl, hbo, setRow_heap w b cur _ e _ hg, hroom, hcm, ?_, hc0, fun u hu => ?_, ?_⟩⟩
      · rcases hd2 with rfl | ⟨e', rfl⟩ <;> simp [Builtin.append_, run_underlying ht, run_underlying ht2, sizeOf, typeInfo, hi, hsz, hf, hlen, hroom, addr_add, hst]
      · subst e
        rcases hbo with h | h
        · omega
        · exact hne h
      · simp only [List.size_toArray, List.length_append, List.length_take, List.length_drop, hcl]
        omega
      · simp only [List.mem_append] at hu
        rcases hu with (hu | hu) | hu
        · exact hc1 u (List.mem_of_mem_take hu)
        · exact hn1 u hu
        · exact hc1 u (List.mem_of_mem_drop hu)
      · simp only
        rw [Nat.add_mul, ← hnl, take_splice _ _ _ _ (by omega), hcs]
    · refine grow (some ⟨b, off, none⟩) cap rfl (fun w' hw => ?_) hol (fun u hu => ?_) (by omega)
      · refine run_firstCells_some (P := P) w' (wid sh) n ⟨b, off, none⟩ n cap olds hol (fun j v hv => ?_)
        rw [addr_add, cell_of_row w' b (off + j) cur e (0, 0) (by rw [hw]; exact hg)]
        rw [← hcs, List.getElem?_take] at hv
        split at hv
        · simpa using hv
        · cases hv
      · rw [← hcs] at hu
        exact hc1 u (List.mem_of_mem_drop (List.mem_of_mem_take hu))

/-- copy into a row of the call's own. -/
theorem run_copy_into (w : World) (t t2 ty e : TypeId) (i : TypeInfo) (size : Nat) (ht : P.underlying t = some (.slice e)) (hi : P.info? e = some i) (hsz : i.size = size)
    (b off n c : Nat) (cur : Array Value) (eb : TypeId) (hg : w.heap[b]? = some (.cells cur eb (0, 0))) (x : Value) (m : Nat) (news : List Value) (hn1 : ∀ u ∈ news, u.oneCell' = true)
    (hlen : ∀ w', (Builtin.lenOf x).run P w' = .ok m w') (hfc : (Builtin.firstCells size (Nat.min m n) x).run P w = .ok news.toArray w) (hfit : off + news.length ≤ cur.size) :
    (Builtin.copy_ #[t, t2] ty #[.slice (some ⟨b, off, none⟩) n c, x]).run P w = .ok (goInt (Nat.min m n)) (w.setRow b (cur.toList.take off ++ news ++ cur.toList.drop (off + news.length)).toArray) := by
  have hst := run_storeCells_at P b off eb news 0 cur w hg (by simpa using hfit) hn1
  simp only [Nat.add_zero] at hst
  simp [Builtin.copy_, run_underlying ht, sizeOf, typeInfo, hi, hsz, hlen, hfc, hst]
/-- copy into no memory. -/
theorem run_copy_no (w : World) (t t2 ty e : TypeId) (i : TypeInfo) (size : Nat) (ht : P.underlying t = some (.slice e)) (hi : P.info? e = some i) (hsz : i.size = size)
    (a : Option Addr) (c : Nat) (x : Value) (m : Nat) (hlen : ∀ w', (Builtin.lenOf x).run P w' = .ok m w') (hfc : (Builtin.firstCells size 0 x).run P w = .ok #[] w) :
    (Builtin.copy_ #[t, t2] ty #[.slice a 0 c, x]).run P w = .ok (goInt 0) w := by
  cases a <;> simp [Builtin.copy_, run_underlying ht, sizeOf, typeInfo, hi, hsz, hlen, hfc, storeCells]
end Go.Proofs.YtligbjbkecmecaaDoor
