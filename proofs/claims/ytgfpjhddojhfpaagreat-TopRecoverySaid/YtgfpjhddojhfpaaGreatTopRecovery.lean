/- TopRecovery: the law returns true at every input (the statement TopRecoverySaid, no condition). The contract lies in the imported texts; this is the step from it to the row. -/
import Derived.Test.YtgfpjhddojhfpaaGreatZ16
import Derived.Test.YtgfpjhddojhfpaaGreatZ44
namespace Go.Proofs.YtgfpjhddojhfpaaGreat.topRecovery
open Go.ChangeShapes Go.WideShapes Go.ChangeAt Go.RowKit
open Go.ChangeMaps (open_string shut_string)

set_option maxRecDepth 20000 in
theorem lifted (os : Os) (started : os.Started) (H : Type) (enc : TypeId × Value → H) :
    ReturnsInHanded {} Tryz.checked os 5 .any (Rows.topRecoverySpec.pre6 enc Tryz.prog Tryz.f5 Rows.topRecoveryRow.domain false) (Rows.topRecoverySpec.post enc Tryz.prog Tryz.f5 false true false false) := by
  refine returnsInHanded_of_change_sized (C := Tryz.checked) prog_own started (by kernel_rfl) Tryz.func5
    (ChangeSpec.witness6 (enc := enc) (C := Tryz.checked) false ⟨#[], #[.slice none 0 0, .int .i64 0, .slice none 0 0], []⟩ 8 (by kernel_rfl) (by kernel_rfl) (by kernel_rfl) (by kernel_rfl)) ?_
  intro W base args ds gs before hval0 hW hcnd hsz _
  have hval : ∀ (j : Nat) t v, Tryz.f5.params[j]? = some t → args[j]? = some v → Value.okWide Tryz.prog W .any base t v := hval0
  have hW' := hW
  obtain ⟨p, q, hA0, hV, rfl, hfz, hnd⟩ := hW
  have hA : DataW.TrodAll enc Tryz.prog W 0 (fun _ => true) true Tryz.f5.params.toList args.toList ds p := hA0
  rw [Tryz.params5] at hA hval
  obtain ⟨v0, vs0, d0, ds0, p0, q0, hargs, rfl, rfl, h0, r0⟩ := trodAll_cons hA
  obtain ⟨v1, vs1, d1, ds1, p1, q1, rfl, rfl, rfl, h1, r1⟩ := trodAll_cons r0
  obtain ⟨v2, vs2, d2, ds2, p2, q2, rfl, rfl, rfl, h2, r2⟩ := trodAll_cons r1
  obtain ⟨rfl, rfl, rfl⟩ := trodAll_nil r2
  obtain rfl : args = #[v0, v1, v2] := by cases args; simp_all
  obtain ⟨rfl, rfl⟩ := trodVars_none hV
  have hsz2 : (DataW.weightsEach Tryz.prog [22, 3, 30] [d0, d1, d2]).all (· ≤ reachBytes) = true := hsz
  have k0 := h0
  have lt0 : ∀ x ∈ p0, x.block < W.heap.size := by obtain ⟨m, hm⟩ := k0; exact DataW.trod_lt m _ _ _ hm
  obtain ⟨zs0, c0, e0, hl0, hm0, hw0, hd0⟩ := open_list Tryz.underlying22 Tryz.underlying3 (by kernel_rfl) (hval 0 22 v0 rfl rfl) h0
  have hc0 : c0 * Tryz.prog.bytesOf 3 ≤ 140737488351232 := hd0.reach (j := 0) hsz2 rfl rfl Tryz.underlying22
  rw [show Tryz.prog.bytesOf 3 = 8 from by kernel_rfl] at hc0
  obtain ⟨a1, rfl, rfl, rfl, w1⟩ := open_int Tryz.underlying3 (hval 1 3 v1 rfl rfl) h1
  have hb1 := bounds_i64 w1
  have k2 := h2
  have lt2 : ∀ x ∈ p2, x.block < W.heap.size := by obtain ⟨m, hm⟩ := k2; exact DataW.trod_lt m _ _ _ hm
  obtain ⟨zs2, c2, e2, hl2, hm2, hw2, hd2⟩ := open_list Tryz.underlying30 Tryz.underlying5 (by kernel_rfl) (hval 2 30 v2 rfl rfl) h2
  have hc2 : c2 * Tryz.prog.bytesOf 5 ≤ 140737488351232 := hd2.reach (j := 2) hsz2 rfl rfl Tryz.underlying30
  rw [show Tryz.prog.bytesOf 5 = 1 from by kernel_rfl] at hc2
  clear hA0 hval0
  refine ((recovery_c zs0 a1 zs2 (fun v hv => bounds_i64 (hw0 v hv)) hb1 (fun v hv => bounds_u8 (hw2 v hv)) (by omega)).rowG (fun g x h => by cases h) (denl_cons e0 (denl_cons (.int _ _ _) (denl_cons e2 denl_nil)))).mono fun e W' ⟨he, bel⟩ => ?_
  subst he
  exact ⟨_, rfl, _, _, _, [], _, [], hW', trodAll_mk1 (shut_bool Tryz.underlying4 _), (trodAll_cons_mk (Below.trod prog_laidOut (by kernel_rfl) (of_decide_eq_true (by kernel_rfl)) k0 bel lt0) (trodAll_cons_mk (shut_int Tryz.underlying3 w1) (trodAll_cons_mk (Below.trod prog_laidOut (by kernel_rfl) (of_decide_eq_true (by kernel_rfl)) k2 bel lt2) trodAll_mk0))), rfl, bel.frame _, fun h => by cases h⟩

theorem over : Rows.topRecoveryRow.holds Tryz.pinned (OpenSpec.ofChange Rows.topRecoverySpec) :=
  OpenClaim.holds_of_wide 5 Tryz.f5 rfl rfl rfl rfl rfl rfl rfl ⟨rfl, rfl, rfl, rfl, rfl⟩ rfl rfl rfl rfl rfl (by kernel_rfl) Tryz.func5 (by kernel_rfl)
    (of_decide_eq_true (by kernel_rfl)) (by unfold Func.isWrapper; first | (rw [if_pos (by decide +kernel)]; kernel_rfl) | (rw [if_neg (by decide +kernel)]; exact ⟨rfl, rfl⟩))
    (fun os started H enc _ => lifted os started H enc)

theorem proved : Rows.TopRecoverySaid := over
end Go.Proofs.YtgfpjhddojhfpaaGreat.topRecovery
