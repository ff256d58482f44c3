/- How a bit string comes in. -/
import Derived.Test.YtapcbkcnokoljaaOpn
namespace Go.Proofs.Ytapcbkcnokoljaa
set_option linter.unusedVariables false
set_option linter.unusedSimpArgs false
open Go.ChangeShapes Go.WideShapes Go.ChangeAt Go.RowKit Go.WideElems Go.Deep
section
variable {H : Type} {enc : TypeId × Value → H} {P : Program} {w : World}
theorem open_list1 {t e : TypeId} {k : IntKind} {v : Value} {x : DataW H × List MemPlace} {fuel : Nat} (ht : P.underlying t = some (.slice e)) (he : P.underlying e = some (.int k)) (hc : P.cellsOf e = 1)
    (hf : DataW.trod enc P w 0 (fun _ => true) true fuel t [v] = some x) :
    ∃ (zs : List Int) (c : Nat), Den w NoX noEnv (.lst none (zs.map (SV.int k))) v ∧ zs.length ≤ c ∧ c ≤ maxLen ∧ (∀ n ∈ zs, (Lit.int k n).wf = true) ∧ SliceDatum x.1 zs.length c := by
  rcases open_ints ht he hc hf with ⟨hcs, hx⟩ | ⟨x, len0, cap0, zs, hcs, _, hl, hm, hz, hx, hcell, hwz⟩
  · simp at hcs
    subst hcs
    subst hx
    exact ⟨[], 0, .lst0 _ _ _ _, Nat.le_refl _, by simp [maxLen], by simp, .inl ⟨rfl, rfl, rfl⟩⟩
  · simp at hcs
    subst hcs
    simp only [if_true] at hz
    subst hx
    have hlen : (zs.take len0).length = len0 := by rw [List.length_take]; omega
    refine ⟨zs.take len0, cap0, ?_, by omega, hm, fun n hn => hwz n (List.mem_of_mem_take hn), .inr ⟨_, _, rfl, ?_, ?_⟩⟩
    · by_cases h0 : len0 = 0
      · subst h0
        exact .lst0 _ _ _ _
      · have hspot : x.spot = none := by
          have := hcell 0 (by omega)
          have := World.cell?_spot this
          simpa [Addr.add] using this
        obtain ⟨b, off, spot⟩ := x
        simp only at hspot
        subst hspot
        have e1 : ((zs.take len0).map (SV.int k)).length = len0 := by rw [List.length_map, hlen]
        have e2 : Den w NoX noEnv (.lst none ((zs.take len0).map (SV.int k))) (.slice (some ⟨b, off, none⟩) ((zs.take len0).map (SV.int k)).length cap0) := by
          refine .lst _ _ _ b off cap0 ((zs.take len0).map (Value.int k)) ?_ (fun h => h) (by rw [e1]; omega) (fun j u hu => ?_) (by simp [wid]) (fun u hu => by obtain ⟨z, _, rfl⟩ := List.mem_map.1 hu; rfl) (fun i h1 => ?_)
          · have := block_lt (hcell 0 (by omega))
            exact this
          · obtain ⟨hj, hu⟩ := List.getElem?_eq_some_iff.1 hu
            rw [List.length_map] at hj
            have := hcell j (by omega)
            rw [Addr.add_lit] at this
            rw [this, ← hu]
            simp [List.getD]
            rw [List.getElem?_eq_getElem (by omega)]
            rfl
          · simp only [valAt]
            rw [List.length_map] at h1
            rw [List.getElem?_eq_getElem (by simpa using h1)]
            simp only [List.getElem_map, Option.getD_some]
            exact .int _ _ _
        rw [e1] at e2
        exact e2
    · simp [lits] <;> omega
    · simp [lits] <;> omega
/-- A struct of two one-cell fields that came in. -/
theorem open_agg2 {r : Reach} {b0 : Nat} {t : TypeId} {f0 f1 : Field} {v : Value} {d : DataW H} {p : List MemPlace} {base : Nat} {spare : Nat → Bool} {held : Bool}
    (hs : P.underlying t = some (.struct #[f0, f1])) (hone : oneCellFields P #[f0, f1] = true) (hC : P.cellsOf t = 2)
    (hv : Value.okWide P w r b0 t v) (h : DataW.Trod enc P w base spare held t v d p) :
    ∃ (v0 v1 : Value) (y0 y1 : DataW H × List MemPlace) (n : Nat), v = .agg #[v0, v1] ∧ d = .agg [y0.1, y1.1] ∧
      DataW.trod enc P w base spare held n f0.type [v0] = some y0 ∧ DataW.trod enc P w base spare held n f1.type [v1] = some y1 := by
  obtain ⟨cs, rfl, hsz⟩ := okWide_struct hs hv
  have hsz' : cs.size = 2 := hsz.trans hC
  obtain ⟨l⟩ := cs
  match l, hsz' with
  | [c0, c1], _ =>
    obtain ⟨fuel, hf⟩ := h
    obtain ⟨xs, n, _, hxe, _, hlen, hx⟩ := DataW.trod_struct hs hf
    match xs, hlen with
    | [y0, y1], _ =>
      obtain ⟨o0, k0⟩ := Deep.hone_of hone 0 f0 rfl
      obtain ⟨o1, k1⟩ := Deep.hone_of hone 1 f1 rfl
      simp only [Prod.mk.injEq] at hxe
      exact ⟨c0, c1, y0, y1, n, rfl, by simpa using hxe.1, by simpa [Value.cells, o0, k0] using hx 0 f0 rfl, by simpa [Value.cells, o1, k1] using hx 1 f1 rfl⟩
end
theorem open_bits {H : Type} {enc : TypeId × Value → H} {w : World} {r : Reach} {b0 : Nat} {v : Value} {d : DataW H} {p : List MemPlace} (hv : Value.okWide Try.prog w r b0 34 v) (h : DataW.Trod enc Try.prog w 0 (fun _ => true) true 34 v d p)
    (hs : (d.weights Try.prog 34).all (· ≤ reachBytes) = true) :
    ∃ (zs : List Int) (len : Int), Den w NoX noEnv (.agg [.lst none (zs.map (SV.int .u8)), .int .i64 len]) v ∧ (∀ n ∈ zs, (Lit.int .u8 n).wf = true) ∧ zs.length ≤ 140737488351232 ∧ (-9223372036854775808 ≤ len ∧ len ≤ 9223372036854775807) := by
  obtain ⟨x0, x1, y0, y1, n, rfl, rfl, g0, g1⟩ := open_agg2 Try.underlying34 (by kernel_rfl) (by kernel_rfl) hv h
  obtain ⟨zs, c, e0, hl, hm, hw, hd⟩ := open_list1 Try.underlying22 Try.underlying5 (by kernel_rfl) g0
  obtain ⟨b, e2, _, w2⟩ := DataW.trod_int Try.underlying3 g1
  simp only [List.cons.injEq, and_true] at e2
  subst e2
  have hs' := hs
  simp only [DataW.weights, Try.underlying34] at hs'
  have hc := hd.reach (j := 0) hs' rfl rfl Try.underlying22
  rw [show Try.prog.bytesOf 5 = 1 from by kernel_rfl] at hc
  refine ⟨zs, b, Den.agg_iff.2 ⟨_, rfl, denl_cons e0 (denl_cons (.int _ _ _) denl_nil)⟩, hw, by omega, ?_⟩
  have := bounds_i64 w2
  exact ⟨this.1, this.2⟩
theorem weights_of {H : Type} {P : Program} {ts : List TypeId} {ds : List (DataW H)} (h : (DataW.weightsEach P ts ds).all (· ≤ reachBytes) = true) {j : Nat} {t : TypeId} {d : DataW H} (ht : ts[j]? = some t) (hd : ds[j]? = some d) : (d.weights P t).all (· ≤ reachBytes) = true :=
  List.all_eq_true.2 fun n hn => List.all_eq_true.1 h n (DataW.weights_mem_each ht hd n hn)
end Go.Proofs.Ytapcbkcnokoljaa
