/- TopForged: the law returns true at every input (the statement TopForgedSaid, no condition). The contract lies in the imported texts; this is the step from it to the row. -/
import Derived.Test.YtgfpjhddojhfpaaGreatZ04
import Derived.Test.YtgfpjhddojhfpaaGreatZ22
namespace Go.Proofs.YtgfpjhddojhfpaaGreat.topForged
open Go.ChangeShapes Go.WideShapes Go.ChangeAt Go.RowKit
open Go.ChangeMaps (open_string shut_string)

set_option maxRecDepth 20000 in
theorem lifted (os : Os) (started : os.Started) (H : Type) (enc : TypeId × Value → H) :
    ReturnsInHanded {} Tryz.checked os 3 .any (Rows.topForgedSpec.pre6 enc Tryz.prog Tryz.f3 Rows.topForgedRow.domain false) (Rows.topForgedSpec.post enc Tryz.prog Tryz.f3 false true false false) := by
  refine returnsInHanded_of_change_sized (C := Tryz.checked) prog_own started (by kernel_rfl) Tryz.func3
    (ChangeSpec.witness6 (enc := enc) (C := Tryz.checked) false ⟨#[], #[.slice none 0 0, .agg #[.int .i64 0, .bool false, .bool false, .bool false, .int .u8 0, .int .u16 0, .int .i64 0, .int .u16 0, .int .u64 0, .int .i64 0, .int .u16 0, .int .u64 0, .int .u32 0, .int .u8 0, .slice none 0 0, .slice none 0 0], .int .i64 0, .int .u8 0], []⟩ 8 (by kernel_rfl) (by kernel_rfl) (by kernel_rfl) (by kernel_rfl)) ?_
  intro W base args ds gs before hval0 hW hcnd hsz _
  have hval : ∀ (j : Nat) t v, Tryz.f3.params[j]? = some t → args[j]? = some v → Value.okWide Tryz.prog W .any base t v := hval0
  have hW' := hW
  obtain ⟨p, q, hA0, hV, rfl, hfz, hnd⟩ := hW
  have hA : DataW.TrodAll enc Tryz.prog W 0 (fun _ => true) true Tryz.f3.params.toList args.toList ds p := hA0
  rw [Tryz.params3] at hA hval
  obtain ⟨v0, vs0, d0, ds0, p0, q0, hargs, rfl, rfl, h0, r0⟩ := trodAll_cons hA
  obtain ⟨v1, vs1, d1, ds1, p1, q1, rfl, rfl, rfl, h1, r1⟩ := trodAll_cons r0
  obtain ⟨v2, vs2, d2, ds2, p2, q2, rfl, rfl, rfl, h2, r2⟩ := trodAll_cons r1
  obtain ⟨v3, vs3, d3, ds3, p3, q3, rfl, rfl, rfl, h3, r3⟩ := trodAll_cons r2
  obtain ⟨rfl, rfl, rfl⟩ := trodAll_nil r3
  obtain rfl : args = #[v0, v1, v2, v3] := by cases args; simp_all
  obtain ⟨rfl, rfl⟩ := trodVars_none hV
  have hsz2 : (DataW.weightsEach Tryz.prog [22, 32, 3, 5] [d0, d1, d2, d3]).all (· ≤ reachBytes) = true := hsz
  have k0 := h0
  have lt0 : ∀ x ∈ p0, x.block < W.heap.size := by obtain ⟨m, hm⟩ := k0; exact DataW.trod_lt m _ _ _ hm
  obtain ⟨zs0, c0, e0, hl0, hm0, hw0, hd0⟩ := open_list Tryz.underlying22 Tryz.underlying3 (by kernel_rfl) (hval 0 22 v0 rfl rfl) h0
  have hc0 : c0 * Tryz.prog.bytesOf 3 ≤ 140737488351232 := hd0.reach (j := 0) hsz2 rfl rfl Tryz.underlying22
  rw [show Tryz.prog.bytesOf 3 = 8 from by kernel_rfl] at hc0
  have k1 := h1
  have lt1 : ∀ x ∈ p1, x.block < W.heap.size := by obtain ⟨m, hm⟩ := k1; exact DataW.trod_lt m _ _ _ hm
  obtain ⟨fu1, hfu1⟩ := h1
  have hv1 := okWide_struct Tryz.underlying32 (hval 1 32 v1 rfl rfl)
  obtain ⟨xs1, wf1, e1, _⟩ := open_den (n := fu1) (m := 9) types_ok sizes_ok (show tinfo 32 = some _ from rfl) (by kernel_rfl) (fun h => by obtain ⟨cs, hc, _⟩ := hv1; exact ⟨cs, hc⟩) (fun h => by cases h) hfu1 (weights_of hsz2 (j := 1) rfl rfl)
  obtain ⟨f1, hf1, rfl⟩ := open_frame wf1
  obtain ⟨a2, rfl, rfl, rfl, w2⟩ := open_int Tryz.underlying3 (hval 2 3 v2 rfl rfl) h2
  have hb2 := bounds_i64 w2
  obtain ⟨a3, rfl, rfl, rfl, w3⟩ := open_int Tryz.underlying5 (hval 3 5 v3 rfl rfl) h3
  have hb3 := bounds_u8 w3
  clear hA0 hval0
  refine ((forged_c zs0 (fun v hv => bounds_i64 (hw0 v hv)) f1 hf1 a2 a3 hb2 hb3).rowG (fun g x h => by cases h) (denl_cons e0 (denl_cons e1 (denl_cons (.int _ _ _) (denl_cons (.int _ _ _) denl_nil))))).mono fun e W' ⟨he, bel⟩ => ?_
  subst he
  exact ⟨_, rfl, _, _, _, [], _, [], hW', trodAll_mk1 (shut_bool Tryz.underlying4 _), (trodAll_cons_mk (Below.trod prog_laidOut (by kernel_rfl) (of_decide_eq_true (by kernel_rfl)) k0 bel lt0) (trodAll_cons_mk (Below.trod prog_laidOut (by kernel_rfl) (of_decide_eq_true (by kernel_rfl)) k1 bel lt1) (trodAll_cons_mk (shut_int Tryz.underlying3 w2) (trodAll_cons_mk (shut_int Tryz.underlying5 w3) trodAll_mk0)))), rfl, bel.frame _, fun h => by cases h⟩

theorem over : Rows.topForgedRow.holds Tryz.pinned (OpenSpec.ofChange Rows.topForgedSpec) :=
  OpenClaim.holds_of_wide 3 Tryz.f3 rfl rfl rfl rfl rfl rfl rfl ⟨rfl, rfl, rfl, rfl, rfl⟩ rfl rfl rfl rfl rfl (by kernel_rfl) Tryz.func3 (by kernel_rfl)
    (of_decide_eq_true (by kernel_rfl)) (by unfold Func.isWrapper; first | (rw [if_pos (by decide +kernel)]; kernel_rfl) | (rw [if_neg (by decide +kernel)]; exact ⟨rfl, rfl⟩))
    (fun os started H enc _ => lifted os started H enc)

theorem proved : Rows.TopForgedSaid := over
end Go.Proofs.YtgfpjhddojhfpaaGreat.topForged
