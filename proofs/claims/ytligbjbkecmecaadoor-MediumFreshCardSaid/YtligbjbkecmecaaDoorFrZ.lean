/- What the package's variable holds. -/
import Derived.Test.YtligbjbkecmecaaDoorMB
import Derived.Test.YtligbjbkecmecaaDoorOpn
import Derived.Test.YtligbjbkecmecaaDoorTie
import Derived.LaidMore
import Derived.MakeChecks
import Derived.LaidHandle
import Derived.LaidLaws
import Derived.Deep.Slices
namespace Go.Proofs.YtligbjbkecmecaaDoor
set_option linter.unusedVariables false
set_option linter.unusedSimpArgs false
open Go.RowKit Go.Deep
/-- A slice of one-cell elements, read. -/
theorem den_slice1 {H : Type} {enc : TypeId × Value → H} {P : Program} {w : World} {t e : TypeId} {fuel : Nat} {v : Value} {held : Bool} {l : List SV} {es : List (DataW H)} {p : List MemPlace} (ht : P.underlying t = some (.slice e)) (hc : P.cellsOf e = 1)
    (h : DataW.trod enc P w 0 (fun _ => true) held fuel t [v] = some (.slice es [], p)) (hl : l.length = es.length) (h1 : ∀ (n i : Nat) (u : Value) (q : List MemPlace) (h1 : i < es.length) (h2 : i < l.length), DataW.trod enc P w 0 (fun _ => true) held n e [u] = some (es[i], q) → Den w NoX noEnv l[i] u ∧ u.oneCell' = true) :
    Den w NoX noEnv (.lst none l) v := by
  rcases open_slice1 ht hc h with ⟨_, hx⟩ | ⟨a, len, cap, m, n, V, D, Pl, hv, hb, hle, hm, hmm, hx, hel⟩
  · simp at hx
  · simp only [List.cons.injEq, and_true] at hv
    subst hv
    simp only [Prod.mk.injEq, DataW.slice.injEq] at hx
    obtain ⟨⟨hx1, hx2⟩, _⟩ := hx
    have hlen : es.length = len := by rw [hx1]; simp
    simp only [if_true] at hmm
    subst hmm
    have hD : ∀ i (hi : i < es.length), D i = es[i] := fun i hi => by simp only [hx1]; simp
    by_cases h0 : len = 0
    · subst h0
      obtain rfl : l = [] := List.eq_nil_of_length_eq_zero (by omega)
      exact .lst0 _ _ _ _
    · have hspot : a.spot = none := by
        have := (hel 0 (by omega)).1
        have := World.cell?_spot this
        simpa [Addr.add] using this
      have hblk : a.block < w.heap.size := block_lt (w := w) (ad := a.add 0) (hel 0 (by omega)).1
      obtain ⟨b, off, spot⟩ := a
      simp only at hspot
      subst hspot
      have := Den.lst (w := w) (X := NoX) noEnv none l b off m ((List.range len).map V) hblk (fun h => h) (by omega) (fun j u hj => by
          rw [List.getElem?_map] at hj
          by_cases hjl : j < len
          · rw [List.getElem?_range hjl] at hj
            simp at hj
            subst hj
            have := (hel j (by omega)).1
            have e : (⟨b, off, none⟩ : Addr).add j = ⟨b, off + j, none⟩ := addr_add _ _ _
            rw [e] at this
            exact this
          · rw [List.getElem?_eq_none (by simp; omega)] at hj; simp at hj) (by simp [wid]; omega) (fun u hu => by
          obtain ⟨i, hi, rfl⟩ := List.mem_map.1 hu
          have hi := List.mem_range.1 hi
          have h2 := (hel i (by omega)).2
          rw [hD i (by omega)] at h2
          exact (h1 n i (V i) _ (by omega) (by omega) h2).2) (fun i hi => by
          have h2 := (hel i (by omega)).2
          rw [hD i (by omega)] at h2
          have := (h1 n i (V i) _ (by omega) hi h2).1
          have e : valAt none ((List.range len).map V) i = V i := by
            simp only [valAt, List.getElem?_map]
            rw [List.getElem?_range (by omega)]; rfl
          rw [e]
          exact this)
      rw [hl, hlen] at this
      exact this
theorem den_ints {H : Type} {enc : TypeId × Value → H} {P : Program} {w : World} {t e : TypeId} {k : IntKind} {fuel : Nat} {v : Value} {held : Bool} {zs : List Int} {p : List MemPlace} (ht : P.underlying t = some (.slice e)) (he : P.underlying e = some (.int k)) (hc : P.cellsOf e = 1)
    (h : DataW.trod enc P w 0 (fun _ => true) held fuel t [v] = some (.slice (zs.map fun z => .lit (.int k z)) [], p)) : Den w NoX noEnv (.lst none (zs.map (SV.int k))) v :=
  den_slice1 ht hc h (by simp) fun n i u q h1 h2 h => by
    obtain ⟨z, hz, hx, _⟩ := DataW.trod_int he h
    simp at hz hx
    subst hz
    simp at h1
    rw [List.getElem_map, hx.1]
    exact ⟨.int _ _ _, rfl⟩
def laidV : List (String × DataW Unit) := [("multihop/multihoplaw11.line", Rows.laid_multihop_multihoplaw11_line)]
theorem gLine : Tryd.prog.globalNamed "multihop/multihoplaw11.line" = some 0 := by kernel_rfl
theorem tLine : (Tryd.prog.globals[0]?).map (·.type) = some 24 := by kernel_rfl
theorem door_met (os : Os) (args : Array Value) : laidMetH Tryd.prog laidV ((World.doorLaid Tryd.prog 17 os).forCall (fun _ _ => 0) ⟨#[], args, []⟩).memory :=
  laidMetH_of_parts3 (fuel := 8) (laidMet_of_run' 8 (by kernel_rfl) (by kernel_rfl)) (by kernel_rfl) (by kernel_rfl)
theorem globs_of {w : World} (h : laidMetH Tryd.prog laidV w) : GlobsAt w := by
  rw [MakeChecks.laidMetH_plain _ _ _ (by kernel_rfl)] at h
  obtain ⟨ps, ⟨g0, t0, cs0, f0, p0, q0, hg0, ht0, hv0, hd0, _, _⟩, _, _⟩ := h
  obtain rfl := Option.some.inj (gLine.symm.trans hg0)
  obtain rfl := Option.some.inj (tLine.symm.trans ht0)
  have hc := fun i => World.var?_cell hg0 hv0 i
  obtain ⟨l⟩ := cs0
  have ci : Tryd.prog.cellsOf 3 = 1 := by kernel_rfl
  have cr : Tryd.prog.cellsOf 23 = 1 := by kernel_rfl
  obtain ⟨v, rfl⟩ : ∃ v, l = [v] := by
    rcases DataW.trod_slice Tryd.underlying24 hd0 with ⟨e, _⟩ | ⟨a, len, cap, _, _, _, _, e, _⟩
    · exact ⟨_, e⟩
    · exact ⟨_, e⟩
  have hden : Den w NoX noEnv (.lst none [.lst none [.int .i64 0, .int .i64 256, .int .i64 0], .lst none [.int .i64 256, .int .i64 0, .int .i64 256], .lst none [.int .i64 0, .int .i64 256, .int .i64 0]]) v := by
    refine den_slice1 (l := [.lst none [.int .i64 0, .int .i64 256, .int .i64 0], .lst none [.int .i64 256, .int .i64 0, .int .i64 256], .lst none [.int .i64 0, .int .i64 256, .int .i64 0]]) Tryd.underlying24 cr hd0 rfl (fun n i u q h1 h2 h => ?_)
    have hone : u.oneCell' = true := by
      rcases DataW.trod_slice Tryd.underlying23 h with ⟨e, _⟩ | ⟨a, len, cap, _, _, _, _, e, _⟩
      · simp at e; subst e; rfl
      · simp at e; subst e; rfl
    refine ⟨?_, hone⟩
    match i, h1, h with
    | 0, _, h => exact den_ints (zs := [0, 256, 0]) Tryd.underlying23 Tryd.underlying3 ci h
    | 1, _, h => exact den_ints (zs := [256, 0, 256]) Tryd.underlying23 Tryd.underlying3 ci h
    | 2, _, h => exact den_ints (zs := [0, 256, 0]) Tryd.underlying23 Tryd.underlying3 ci h
  have h0 : w.cell? ⟨0, 0, none⟩ = some v := by have := hc 0; simpa using this
  intro g x hgx
  unfold glob at hgx
  split at hgx
  · injection hgx with hgx; subst hgx
    refine ⟨rfl, .eptr _ none _ 0 0 0 [v] (World.block_lt_of_cell? w _ h0) (fun h => h) (fun j u hj => ?_) rfl ?_⟩
    · match j, hj with
      | 0, hj => simp at hj; subst hj; exact h0
    · exact hden
  · cases hgx
end Go.Proofs.YtligbjbkecmecaaDoor
