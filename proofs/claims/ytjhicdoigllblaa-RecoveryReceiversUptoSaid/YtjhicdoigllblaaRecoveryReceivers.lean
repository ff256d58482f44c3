/- RecoveryReceivers: the law returns true at every input whose bulk is at most 1048576 (the statement RecoveryReceiversUptoSaid, no condition of ours). The contract lies in the imported texts; this is the step from it to the row. -/
import Derived.Test.YtjhicdoigllblaaMj
import Derived.Deep.CondSized
namespace Go.Proofs.Ytjhicdoigllblaa.recoveryReceivers
open Go.ChangeShapes Go.WideShapes Go.ChangeAt Go.RowKit
open Go.ChangeMaps (open_string shut_string)

theorem lifted (os : Os) (started : os.Started) (H : Type) (enc : TypeId × Value → H) (F : Stop.Interp) :
    ReturnsInHanded {} Try.checked os 6 .any ((Rows.OpenSpec.upto Rows.recoveryReceiversSpec).pre6 enc Try.prog Try.f6 Rows.recoveryReceiversUptoRow.domain false) (((Rows.OpenSpec.upto Rows.recoveryReceiversSpec).at F).post enc Try.prog Try.f6 false true false false) := by
  refine returnsInHanded_of_cond_sized (C := Try.checked) (s := Rows.OpenSpec.upto Rows.recoveryReceiversSpec) (k := Rows.uptoSmall) rfl prog_own started (by kernel_rfl) Try.func6
    (OpenSpec.witness (enc := enc) (C := Try.checked) (s := Rows.OpenSpec.upto Rows.recoveryReceiversSpec) (k := Rows.uptoSmall) rfl false ⟨#[], #[.agg #[.int .u8 0, .int .i64 0, .slice none 0 0, .int .u32 0, .bool false], .agg #[.int .u8 0, .int .i64 0, .int .i64 0, .bool false, .slice none 0 0], .slice none 0 0], []⟩ 8 (by kernel_rfl) (by kernel_rfl) (by kernel_rfl)
      (x := ([.agg [.lit (.int .u8 0), .lit (.int .i64 0), .nil, .lit (.int .u32 0), .lit (.bool false)], .agg [.lit (.int .u8 0), .lit (.int .i64 0), .lit (.int .i64 0), .lit (.bool false), .nil], .nil], [], [])) (by kernel_rfl) rfl (by kernel_rfl)) ?_
  intro W base args ds gs before hval0 hW hcnd hk hsz _
  have hval : ∀ (j : Nat) t v, Try.f6.params[j]? = some t → args[j]? = some v → Value.okWide Try.prog W .any base t v := hval0
  have hW' := hW
  obtain ⟨p, q, hA0, hV, rfl, hfz, hnd⟩ := hW
  have hA : DataW.TrodAll enc Try.prog W 0 (fun _ => true) true Try.f6.params.toList args.toList ds p := hA0
  rw [Try.params6] at hA hval
  obtain ⟨v0, vs0, d0, ds0, p0, q0, hargs, rfl, rfl, h0, r0⟩ := trodAll_cons hA
  obtain ⟨v1, vs1, d1, ds1, p1, q1, rfl, rfl, rfl, h1, r1⟩ := trodAll_cons r0
  obtain ⟨v2, vs2, d2, ds2, p2, q2, rfl, rfl, rfl, h2, r2⟩ := trodAll_cons r1
  obtain ⟨rfl, rfl, rfl⟩ := trodAll_nil r2
  obtain rfl : args = #[v0, v1, v2] := by cases args; simp_all
  obtain ⟨rfl, rfl⟩ := trodVars_none hV
  have hsz2 : (DataW.weightsEach Try.prog [55, 51, 27] [d0, d1, d2]).all (· ≤ reachBytes) = true := hsz
  have k0 := h0
  have lt0 : ∀ x ∈ p0, x.block < W.heap.size := by obtain ⟨m, hm⟩ := k0; exact DataW.trod_lt m _ _ _ hm
  obtain ⟨fu0, hfu0⟩ := h0
  have hv0 := okWide_struct Try.underlying55 (hval 0 55 v0 rfl rfl)
  obtain ⟨xs0, wf0, e0, _⟩ := open_den (n := fu0) (m := 9) types_ok sizes_ok (show tinfo 55 = some _ from rfl) (by kernel_rfl) (fun h => by obtain ⟨cs, hc, _⟩ := hv0; exact ⟨cs, hc⟩) (fun h => by cases h) hfu0 (weights_of hsz2 (j := 0) rfl rfl)
  obtain ⟨f0, hf0, rfl⟩ := open_receiver wf0
  have k1 := h1
  have lt1 : ∀ x ∈ p1, x.block < W.heap.size := by obtain ⟨m, hm⟩ := k1; exact DataW.trod_lt m _ _ _ hm
  obtain ⟨fu1, hfu1⟩ := h1
  have hv1 := okWide_struct Try.underlying51 (hval 1 51 v1 rfl rfl)
  obtain ⟨xs1, wf1, e1, _⟩ := open_den (n := fu1) (m := 9) types_ok sizes_ok (show tinfo 51 = some _ from rfl) (by kernel_rfl) (fun h => by obtain ⟨cs, hc, _⟩ := hv1; exact ⟨cs, hc⟩) (fun h => by cases h) hfu1 (weights_of hsz2 (j := 1) rfl rfl)
  obtain ⟨f1, hf1, rfl⟩ := open_piece wf1
  have k2 := h2
  have lt2 : ∀ x ∈ p2, x.block < W.heap.size := by obtain ⟨m, hm⟩ := k2; exact DataW.trod_lt m _ _ _ hm
  obtain ⟨zs2, c2, e2, hl2, hm2, hw2, hd2⟩ := open_list Try.underlying27 Try.underlying3 (by kernel_rfl) (hval 2 27 v2 rfl rfl) h2
  have hc2 : c2 * Try.prog.bytesOf 3 ≤ 140737488351232 := hd2.reach (j := 2) hsz2 rfl rfl Try.underlying27
  rw [show Try.prog.bytesOf 3 = 8 from by kernel_rfl] at hc2
  clear hA0 hval0
  refine ((receivers_l f0 hf0 (by have h1 : _ ≤ Rows.uptoBulk d0 := bulk_receiver e0 hfu0; have h2 : Rows.uptoBulkAll _ ≤ 1048576 := of_decide_eq_true hk; simp only [List.cons_append, List.nil_append, Rows.uptoBulkAll] at h2; omega) f1 hf1 zs2 (fun v hv => bounds_i64 (hw2 v hv))).rowG (fun g x h => by cases h) (denl_cons e0 (denl_cons e1 (denl_cons e2 denl_nil)))).mono fun e W' ⟨he, bel⟩ => ?_
  subst he
  exact ⟨_, rfl, _, _, _, [], _, [], hW', trodAll_mk1 (shut_bool Try.underlying4 _), (trodAll_cons_mk (Below.trod prog_laidOut (by kernel_rfl) (of_decide_eq_true (by kernel_rfl)) k0 bel lt0) (trodAll_cons_mk (Below.trod prog_laidOut (by kernel_rfl) (of_decide_eq_true (by kernel_rfl)) k1 bel lt1) (trodAll_cons_mk (Below.trod prog_laidOut (by kernel_rfl) (of_decide_eq_true (by kernel_rfl)) k2 bel lt2) trodAll_mk0))), rfl, bel.frame _, fun h => by cases h⟩

theorem over : Rows.recoveryReceiversUptoRow.holds Try.pinned (Rows.OpenSpec.upto Rows.recoveryReceiversSpec) :=
  OpenClaim.holds_of_cond 6 Try.f6 rfl rfl rfl rfl rfl rfl rfl ⟨rfl, rfl, rfl, rfl, rfl⟩ rfl rfl rfl rfl rfl (by kernel_rfl) Try.func6 (by kernel_rfl)
    (of_decide_eq_true (by kernel_rfl)) (by unfold Func.isWrapper; first | (rw [if_pos (by decide +kernel)]; kernel_rfl) | (rw [if_neg (by decide +kernel)]; exact ⟨rfl, rfl⟩))
    (fun os started H enc _ F => lifted os started H enc F)

theorem proved : Rows.RecoveryReceiversUptoSaid := over
end Go.Proofs.Ytjhicdoigllblaa.recoveryReceivers
