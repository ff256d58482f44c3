/- RelayThrough: the law returns true at every input (the statement RelayThroughSaid, no condition). The contract lies in the imported texts; this is the step from it to the row. -/
import Derived.Test.YtplcajgoigpneaaZ38
namespace Go.Proofs.Ytplcajgoigpneaa.relayThrough
open Go.ChangeShapes Go.WideShapes Go.ChangeAt Go.RowKit
open Go.ChangeMaps (open_string shut_string)

theorem lifted (os : Os) (started : os.Started) (H : Type) (enc : TypeId × Value → H) :
    ReturnsInHanded {} Try.checked os 5 .any (Rows.relayThroughSpec.pre6 enc Try.prog Try.f5 Rows.relayThroughRow.domain false) (Rows.relayThroughSpec.post enc Try.prog Try.f5 false true false false) := by
  refine returnsInHanded_of_change_sized (C := Try.checked) prog_own started (by kernel_rfl) Try.func5
    (ChangeSpec.witness6 (enc := enc) (C := Try.checked) false ⟨#[], #[.slice none 0 0, .int .i64 0, .slice none 0 0], []⟩ 8 (by kernel_rfl) (by kernel_rfl) (by kernel_rfl) (by kernel_rfl)) ?_
  intro W base args ds gs before hval0 hW hcnd hsz _
  have hval : ∀ (j : Nat) t v, Try.f5.params[j]? = some t → args[j]? = some v → Value.okWide Try.prog W .any base t v := hval0
  have hW' := hW
  obtain ⟨p, q, hA0, hV, rfl, hfz, hnd⟩ := hW
  have hA : DataW.TrodAll enc Try.prog W 0 (fun _ => true) true Try.f5.params.toList args.toList ds p := hA0
  rw [Try.params5] at hA hval
  obtain ⟨v0, vs0, d0, ds0, p0, q0, hargs, rfl, rfl, h0, r0⟩ := trodAll_cons hA
  obtain ⟨v1, vs1, d1, ds1, p1, q1, rfl, rfl, rfl, h1, r1⟩ := trodAll_cons r0
  obtain ⟨v2, vs2, d2, ds2, p2, q2, rfl, rfl, rfl, h2, r2⟩ := trodAll_cons r1
  obtain ⟨rfl, rfl, rfl⟩ := trodAll_nil r2
  obtain rfl : args = #[v0, v1, v2] := by cases args; simp_all
  obtain ⟨rfl, rfl⟩ := trodVars_none hV
  have hsz2 : (DataW.weightsEach Try.prog [32, 3, 55] [d0, d1, d2]).all (· ≤ reachBytes) = true := hsz
  have k0 := h0
  have lt0 : ∀ x ∈ p0, x.block < W.heap.size := by obtain ⟨m, hm⟩ := k0; exact DataW.trod_lt m _ _ _ hm
  obtain ⟨zs0, c0, e0, hl0, hm0, hw0, hd0⟩ := open_list Try.underlying32 Try.underlying3 (by kernel_rfl) (hval 0 32 v0 rfl rfl) h0
  have hc0 : c0 * Try.prog.bytesOf 3 ≤ 140737488351232 := hd0.reach (j := 0) hsz2 rfl rfl Try.underlying32
  rw [show Try.prog.bytesOf 3 = 8 from by kernel_rfl] at hc0
  obtain ⟨a1, rfl, rfl, rfl, w1⟩ := open_int Try.underlying3 (hval 1 3 v1 rfl rfl) h1
  have hb1 := bounds_i64 w1
  have k2 := h2
  have lt2 : ∀ x ∈ p2, x.block < W.heap.size := by obtain ⟨m, hm⟩ := k2; exact DataW.trod_lt m _ _ _ hm
  obtain ⟨fu2, hfu2⟩ := h2
  have hv2 := okWide_slice Try.underlying55 (hval 2 55 v2 rfl rfl)
  obtain ⟨xs2, wf2, e2, _⟩ := open_den (n := fu2) (m := 9) types_ok sizes_ok (show tinfo 55 = some _ from rfl) (by kernel_rfl) (fun h => by cases h) (fun h => by obtain ⟨a, b, c, hc⟩ := hv2; rw [hc]; intro cs h; cases h) hfu2 (weights_of hsz2 (j := 2) rfl rfl)
  obtain ⟨f2, hf2, rfl⟩ := open_u16s wf2
  clear hA0 hval0
  refine ((through_c zs0 f2 a1 (fun v hv => bounds_i64 (hw0 v hv)) hb1 hf2.1 hf2.2).rowG (fun g x h => by cases h) (denl_cons e0 (denl_cons (.int _ _ _) (denl_cons e2 denl_nil)))).mono fun e W' ⟨he, bel⟩ => ?_
  subst he
  exact ⟨_, rfl, _, _, _, [], _, [], hW', trodAll_mk1 (shut_bool Try.underlying4 _), (trodAll_cons_mk (Below.trod prog_laidOut (by kernel_rfl) (of_decide_eq_true (by kernel_rfl)) k0 bel lt0) (trodAll_cons_mk (shut_int Try.underlying3 w1) (trodAll_cons_mk (Below.trod prog_laidOut (by kernel_rfl) (of_decide_eq_true (by kernel_rfl)) k2 bel lt2) trodAll_mk0))), rfl, bel.frame _, fun h => by cases h⟩

theorem over : Rows.relayThroughRow.holds Try.pinned (OpenSpec.ofChange Rows.relayThroughSpec) :=
  OpenClaim.holds_of_wide 5 Try.f5 rfl rfl rfl rfl rfl rfl rfl ⟨rfl, rfl, rfl, rfl, rfl⟩ rfl rfl rfl rfl rfl (by kernel_rfl) Try.func5 (by kernel_rfl)
    (of_decide_eq_true (by kernel_rfl)) (by unfold Func.isWrapper; first | (rw [if_pos (by decide +kernel)]; kernel_rfl) | (rw [if_neg (by decide +kernel)]; exact ⟨rfl, rfl⟩))
    (fun os started H enc _ => lifted os started H enc)

theorem proved : Rows.RelayThroughSaid := over
end Go.Proofs.Ytplcajgoigpneaa.relayThrough
