/- RecoverySenders: the law returns true at every input (the statement RecoverySendersSaid, no condition). The contract lies in the imported texts; this is the step from it to the row. -/
import Derived.Test.YtjhicdoigllblaaMe
namespace Go.Proofs.Ytjhicdoigllblaa.recoverySenders
open Go.ChangeShapes Go.WideShapes Go.ChangeAt Go.RowKit
open Go.ChangeMaps (open_string shut_string)

theorem lifted (os : Os) (started : os.Started) (H : Type) (enc : TypeId × Value → H) :
    ReturnsInHanded {} Try.checked os 3 .any (Rows.recoverySendersSpec.pre6 enc Try.prog Try.f3 Rows.recoverySendersRow.domain false) (Rows.recoverySendersSpec.post enc Try.prog Try.f3 false true false false) := by
  refine returnsInHanded_of_change_sized (C := Try.checked) prog_own started (by kernel_rfl) Try.func3
    (ChangeSpec.witness6 (enc := enc) (C := Try.checked) false ⟨#[], #[.agg #[.int .i64 0, .int .u8 0, .slice none 0 0, .int .u32 0, .int .i64 0, .int .i64 0], .slice none 0 0, .int .u8 0, .int .u32 0, .int .i64 0, .int .i64 0, .slice none 0 0], []⟩ 8 (by kernel_rfl) (by kernel_rfl) (by kernel_rfl) (by kernel_rfl)) ?_
  intro W base args ds gs before hval0 hW hcnd hsz _
  have hval : ∀ (j : Nat) t v, Try.f3.params[j]? = some t → args[j]? = some v → Value.okWide Try.prog W .any base t v := hval0
  have hW' := hW
  obtain ⟨p, q, hA0, hV, rfl, hfz, hnd⟩ := hW
  have hA : DataW.TrodAll enc Try.prog W 0 (fun _ => true) true Try.f3.params.toList args.toList ds p := hA0
  rw [Try.params3] at hA hval
  obtain ⟨v0, vs0, d0, ds0, p0, q0, hargs, rfl, rfl, h0, r0⟩ := trodAll_cons hA
  obtain ⟨v1, vs1, d1, ds1, p1, q1, rfl, rfl, rfl, h1, r1⟩ := trodAll_cons r0
  obtain ⟨v2, vs2, d2, ds2, p2, q2, rfl, rfl, rfl, h2, r2⟩ := trodAll_cons r1
  obtain ⟨v3, vs3, d3, ds3, p3, q3, rfl, rfl, rfl, h3, r3⟩ := trodAll_cons r2
  obtain ⟨v4, vs4, d4, ds4, p4, q4, rfl, rfl, rfl, h4, r4⟩ := trodAll_cons r3
  obtain ⟨v5, vs5, d5, ds5, p5, q5, rfl, rfl, rfl, h5, r5⟩ := trodAll_cons r4
  obtain ⟨v6, vs6, d6, ds6, p6, q6, rfl, rfl, rfl, h6, r6⟩ := trodAll_cons r5
  obtain ⟨rfl, rfl, rfl⟩ := trodAll_nil r6
  obtain rfl : args = #[v0, v1, v2, v3, v4, v5, v6] := by cases args; simp_all
  obtain ⟨rfl, rfl⟩ := trodVars_none hV
  have hsz2 : (DataW.weightsEach Try.prog [25, 26, 5, 23, 3, 3, 27] [d0, d1, d2, d3, d4, d5, d6]).all (· ≤ reachBytes) = true := hsz
  have k0 := h0
  have lt0 : ∀ x ∈ p0, x.block < W.heap.size := by obtain ⟨m, hm⟩ := k0; exact DataW.trod_lt m _ _ _ hm
  obtain ⟨fu0, hfu0⟩ := h0
  have hv0 := okWide_struct Try.underlying25 (hval 0 25 v0 rfl rfl)
  obtain ⟨xs0, wf0, e0, _⟩ := open_den (n := fu0) (m := 9) types_ok sizes_ok (show tinfo 25 = some _ from rfl) (by kernel_rfl) (fun h => by obtain ⟨cs, hc, _⟩ := hv0; exact ⟨cs, hc⟩) (fun h => by cases h) hfu0 (weights_of hsz2 (j := 0) rfl rfl)
  obtain ⟨f0, hf0, rfl⟩ := open_sender wf0
  have k1 := h1
  have lt1 : ∀ x ∈ p1, x.block < W.heap.size := by obtain ⟨m, hm⟩ := k1; exact DataW.trod_lt m _ _ _ hm
  obtain ⟨zs1, c1, e1, hl1, hm1, hw1, hd1⟩ := open_list Try.underlying26 Try.underlying5 (by kernel_rfl) (hval 1 26 v1 rfl rfl) h1
  have hc1 : c1 * Try.prog.bytesOf 5 ≤ 140737488351232 := hd1.reach (j := 1) hsz2 rfl rfl Try.underlying26
  rw [show Try.prog.bytesOf 5 = 1 from by kernel_rfl] at hc1
  obtain ⟨a2, rfl, rfl, rfl, w2⟩ := open_int Try.underlying5 (hval 2 5 v2 rfl rfl) h2
  have hb2 := bounds_u8 w2
  obtain ⟨a3, rfl, rfl, rfl, w3⟩ := open_int Try.underlying23 (hval 3 23 v3 rfl rfl) h3
  have hb3 := bounds_u32 w3
  obtain ⟨a4, rfl, rfl, rfl, w4⟩ := open_int Try.underlying3 (hval 4 3 v4 rfl rfl) h4
  have hb4 := bounds_i64 w4
  obtain ⟨a5, rfl, rfl, rfl, w5⟩ := open_int Try.underlying3 (hval 5 3 v5 rfl rfl) h5
  have hb5 := bounds_i64 w5
  have k6 := h6
  have lt6 : ∀ x ∈ p6, x.block < W.heap.size := by obtain ⟨m, hm⟩ := k6; exact DataW.trod_lt m _ _ _ hm
  obtain ⟨zs6, c6, e6, hl6, hm6, hw6, hd6⟩ := open_list Try.underlying27 Try.underlying3 (by kernel_rfl) (hval 6 27 v6 rfl rfl) h6
  have hc6 : c6 * Try.prog.bytesOf 3 ≤ 140737488351232 := hd6.reach (j := 6) hsz2 rfl rfl Try.underlying27
  rw [show Try.prog.bytesOf 3 = 8 from by kernel_rfl] at hc6
  clear hA0 hval0
  refine ((senders_l f0 hf0 zs1 (fun v hv => bounds_u8 (hw1 v hv)) (by omega) a2 a3 a4 a5 zs6 hb2 hb3 hb4 hb5 (fun v hv => bounds_i64 (hw6 v hv))).rowG (fun g x h => by cases h) (denl_cons e0 (denl_cons e1 (denl_cons (.int _ _ _) (denl_cons (.int _ _ _) (denl_cons (.int _ _ _) (denl_cons (.int _ _ _) (denl_cons e6 denl_nil)))))))).mono fun e W' ⟨he, bel⟩ => ?_
  subst he
  exact ⟨_, rfl, _, _, _, [], _, [], hW', trodAll_mk1 (shut_bool Try.underlying4 _), (trodAll_cons_mk (Below.trod prog_laidOut (by kernel_rfl) (of_decide_eq_true (by kernel_rfl)) k0 bel lt0) (trodAll_cons_mk (Below.trod prog_laidOut (by kernel_rfl) (of_decide_eq_true (by kernel_rfl)) k1 bel lt1) (trodAll_cons_mk (shut_int Try.underlying5 w2) (trodAll_cons_mk (shut_int Try.underlying23 w3) (trodAll_cons_mk (shut_int Try.underlying3 w4) (trodAll_cons_mk (shut_int Try.underlying3 w5) (trodAll_cons_mk (Below.trod prog_laidOut (by kernel_rfl) (of_decide_eq_true (by kernel_rfl)) k6 bel lt6) trodAll_mk0))))))), rfl, bel.frame _, fun h => by cases h⟩

theorem over : Rows.recoverySendersRow.holds Try.pinned (OpenSpec.ofChange Rows.recoverySendersSpec) :=
  OpenClaim.holds_of_wide 3 Try.f3 rfl rfl rfl rfl rfl rfl rfl ⟨rfl, rfl, rfl, rfl, rfl⟩ rfl rfl rfl rfl rfl (by kernel_rfl) Try.func3 (by kernel_rfl)
    (of_decide_eq_true (by kernel_rfl)) (by unfold Func.isWrapper; first | (rw [if_pos (by decide +kernel)]; kernel_rfl) | (rw [if_neg (by decide +kernel)]; exact ⟨rfl, rfl⟩))
    (fun os started H enc _ => lifted os started H enc)

theorem proved : Rows.RecoverySendersSaid := over
end Go.Proofs.Ytjhicdoigllblaa.recoverySenders
