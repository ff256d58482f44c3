/- RelayForms: the law returns true at every input (the statement RelayFormsSaid, no condition). The contract lies in the imported texts; this is the step from it to the row. -/
import Derived.Test.YtplcajgoigpneaaZ31
namespace Go.Proofs.Ytplcajgoigpneaa.relayForms
open Go.ChangeShapes Go.WideShapes Go.ChangeAt Go.RowKit
open Go.ChangeMaps (open_string shut_string)

theorem lifted (os : Os) (started : os.Started) (H : Type) (enc : TypeId × Value → H) :
    ReturnsInHanded {} Try.checked os 3 .any (Rows.relayFormsSpec.pre6 enc Try.prog Try.f3 Rows.relayFormsRow.domain false) (Rows.relayFormsSpec.post enc Try.prog Try.f3 false true false false) := by
  refine returnsInHanded_of_change_sized (C := Try.checked) prog_own started (by kernel_rfl) Try.func3
    (ChangeSpec.witness6 (enc := enc) (C := Try.checked) false ⟨#[], #[.slice none 0 0, .agg #[.int .i64 0, .int .u16 0, .int .u64 0], .agg #[.int .i64 0, .int .u16 0, .int .i64 0, .slice none 0 0], .agg #[.int .i64 0, .int .u16 0, .int .u64 0], .int .u16 0, .int .i64 0, .slice none 0 0], []⟩ 8 (by kernel_rfl) (by kernel_rfl) (by kernel_rfl) (by kernel_rfl)) ?_
  intro W base args ds gs before hval0 hW hcnd hsz _
  have hval : ∀ (j : Nat) t v, Try.f3.params[j]? = some t → args[j]? = some v → Value.okWide Try.prog W .any base t v := hval0
  have hW' := hW
  obtain ⟨p, q, hA0, hV, rfl, hfz, hnd⟩ := hW
  have hA : DataW.TrodAll enc Try.prog W 0 (fun _ => true) true Try.f3.params.toList args.toList ds p := hA0
  rw [Try.params3] at hA hval
  obtain ⟨v0, vs0, d0, ds0, p0, q0, hargs, rfl, rfl, h0, r0⟩ := trodAll_cons hA
  obtain ⟨v1, vs1, d1, ds1, p1, q1, rfl, rfl, rfl, h1, r1⟩ := trodAll_cons r0
  obtain ⟨v2, vs2, d2, ds2, p2, q2, rfl, rfl, rfl, h2, r2⟩ := trodAll_cons r1
  obtain ⟨v3, vs3, d3, ds3, p3, q3, rfl, rfl, rfl, h3, r3⟩ := trodAll_cons r2
  obtain ⟨v4, vs4, d4, ds4, p4, q4, rfl, rfl, rfl, h4, r4⟩ := trodAll_cons r3
  obtain ⟨v5, vs5, d5, ds5, p5, q5, rfl, rfl, rfl, h5, r5⟩ := trodAll_cons r4
  obtain ⟨v6, vs6, d6, ds6, p6, q6, rfl, rfl, rfl, h6, r6⟩ := trodAll_cons r5
  obtain ⟨rfl, rfl, rfl⟩ := trodAll_nil r6
  obtain rfl : args = #[v0, v1, v2, v3, v4, v5, v6] := by cases args; simp_all
  obtain ⟨rfl, rfl⟩ := trodVars_none hV
  have hsz2 : (DataW.weightsEach Try.prog [22, 28, 31, 28, 23, 3, 32] [d0, d1, d2, d3, d4, d5, d6]).all (· ≤ reachBytes) = true := hsz
  have k0 := h0
  have lt0 : ∀ x ∈ p0, x.block < W.heap.size := by obtain ⟨m, hm⟩ := k0; exact DataW.trod_lt m _ _ _ hm
  obtain ⟨fu0, hfu0⟩ := h0
  have hv0 := okWide_slice Try.underlying22 (hval 0 22 v0 rfl rfl)
  obtain ⟨xs0, wf0, e0, _⟩ := open_den (n := fu0) (m := 9) types_ok sizes_ok (show tinfo 22 = some _ from rfl) (by kernel_rfl) (fun h => by cases h) (fun h => by obtain ⟨a, b, c, hc⟩ := hv0; rw [hc]; intro cs h; cases h) hfu0 (weights_of hsz2 (j := 0) rfl rfl)
  obtain ⟨f0, hf0, rfl⟩ := open_sws wf0
  have k1 := h1
  have lt1 : ∀ x ∈ p1, x.block < W.heap.size := by obtain ⟨m, hm⟩ := k1; exact DataW.trod_lt m _ _ _ hm
  obtain ⟨fu1, hfu1⟩ := h1
  have hv1 := okWide_struct Try.underlying28 (hval 1 28 v1 rfl rfl)
  obtain ⟨xs1, wf1, e1, _⟩ := open_den (n := fu1) (m := 9) types_ok sizes_ok (show tinfo 28 = some _ from rfl) (by kernel_rfl) (fun h => by obtain ⟨cs, hc, _⟩ := hv1; exact ⟨cs, hc⟩) (fun h => by cases h) hfu1 (weights_of hsz2 (j := 1) rfl rfl)
  obtain ⟨f1, hf1, rfl⟩ := open_addr wf1
  have k2 := h2
  have lt2 : ∀ x ∈ p2, x.block < W.heap.size := by obtain ⟨m, hm⟩ := k2; exact DataW.trod_lt m _ _ _ hm
  obtain ⟨fu2, hfu2⟩ := h2
  have hv2 := okWide_struct Try.underlying31 (hval 2 31 v2 rfl rfl)
  obtain ⟨xs2, wf2, e2, _⟩ := open_den (n := fu2) (m := 9) types_ok sizes_ok (show tinfo 31 = some _ from rfl) (by kernel_rfl) (fun h => by obtain ⟨cs, hc, _⟩ := hv2; exact ⟨cs, hc⟩) (fun h => by cases h) hfu2 (weights_of hsz2 (j := 2) rfl rfl)
  obtain ⟨f2, hf2, rfl⟩ := open_frag wf2
  have k3 := h3
  have lt3 : ∀ x ∈ p3, x.block < W.heap.size := by obtain ⟨m, hm⟩ := k3; exact DataW.trod_lt m _ _ _ hm
  obtain ⟨fu3, hfu3⟩ := h3
  have hv3 := okWide_struct Try.underlying28 (hval 3 28 v3 rfl rfl)
  obtain ⟨xs3, wf3, e3, _⟩ := open_den (n := fu3) (m := 9) types_ok sizes_ok (show tinfo 28 = some _ from rfl) (by kernel_rfl) (fun h => by obtain ⟨cs, hc, _⟩ := hv3; exact ⟨cs, hc⟩) (fun h => by cases h) hfu3 (weights_of hsz2 (j := 3) rfl rfl)
  obtain ⟨f3, hf3, rfl⟩ := open_addr wf3
  obtain ⟨a4, rfl, rfl, rfl, w4⟩ := open_int Try.underlying23 (hval 4 23 v4 rfl rfl) h4
  have hb4 := bounds_u16 w4
  obtain ⟨a5, rfl, rfl, rfl, w5⟩ := open_int Try.underlying3 (hval 5 3 v5 rfl rfl) h5
  have hb5 := bounds_i64 w5
  have k6 := h6
  have lt6 : ∀ x ∈ p6, x.block < W.heap.size := by obtain ⟨m, hm⟩ := k6; exact DataW.trod_lt m _ _ _ hm
  obtain ⟨zs6, c6, e6, hl6, hm6, hw6, hd6⟩ := open_list Try.underlying32 Try.underlying3 (by kernel_rfl) (hval 6 32 v6 rfl rfl) h6
  have hc6 : c6 * Try.prog.bytesOf 3 ≤ 140737488351232 := hd6.reach (j := 6) hsz2 rfl rfl Try.underlying32
  rw [show Try.prog.bytesOf 3 = 8 from by kernel_rfl] at hc6
  clear hA0 hval0
  refine ((forms_c f0 (swL f0) rfl hf0.2 hf0.1 f1.a f1.b f1.c f2.n f2.t f2.a f2.b (u8l f2.b) rfl hf2.b hf2.n hf2.a f3.a f3.b f3.c a4 a5 zs6 (fun v hv => bounds_i64 (hw6 v hv))).rowG (fun g x h => by cases h) (denl_cons e0 (denl_cons e1 (denl_cons e2 (denl_cons e3 (denl_cons (.int _ _ _) (denl_cons (.int _ _ _) (denl_cons e6 denl_nil)))))))).mono fun e W' ⟨he, bel⟩ => ?_
  subst he
  exact ⟨_, rfl, _, _, _, [], _, [], hW', trodAll_mk1 (shut_bool Try.underlying4 _), (trodAll_cons_mk (Below.trod prog_laidOut (by kernel_rfl) (of_decide_eq_true (by kernel_rfl)) k0 bel lt0) (trodAll_cons_mk (Below.trod prog_laidOut (by kernel_rfl) (of_decide_eq_true (by kernel_rfl)) k1 bel lt1) (trodAll_cons_mk (Below.trod prog_laidOut (by kernel_rfl) (of_decide_eq_true (by kernel_rfl)) k2 bel lt2) (trodAll_cons_mk (Below.trod prog_laidOut (by kernel_rfl) (of_decide_eq_true (by kernel_rfl)) k3 bel lt3) (trodAll_cons_mk (shut_int Try.underlying23 w4) (trodAll_cons_mk (shut_int Try.underlying3 w5) (trodAll_cons_mk (Below.trod prog_laidOut (by kernel_rfl) (of_decide_eq_true (by kernel_rfl)) k6 bel lt6) trodAll_mk0))))))), rfl, bel.frame _, fun h => by cases h⟩

theorem over : Rows.relayFormsRow.holds Try.pinned (OpenSpec.ofChange Rows.relayFormsSpec) :=
  OpenClaim.holds_of_wide 3 Try.f3 rfl rfl rfl rfl rfl rfl rfl ⟨rfl, rfl, rfl, rfl, rfl⟩ rfl rfl rfl rfl rfl (by kernel_rfl) Try.func3 (by kernel_rfl)
    (of_decide_eq_true (by kernel_rfl)) (by unfold Func.isWrapper; first | (rw [if_pos (by decide +kernel)]; kernel_rfl) | (rw [if_neg (by decide +kernel)]; exact ⟨rfl, rfl⟩))
    (fun os started H enc _ => lifted os started H enc)

theorem proved : Rows.RelayFormsSaid := over
end Go.Proofs.Ytplcajgoigpneaa.relayForms
