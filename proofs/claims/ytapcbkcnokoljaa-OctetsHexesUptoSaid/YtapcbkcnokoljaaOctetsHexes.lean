/- OctetsHexes: the law returns true at every input whose bulk is at most 1048576 (the statement OctetsHexesUptoSaid, no condition of ours). The contract lies in the imported texts; this is the step from it to the row. -/
import Derived.Deep.CondSized
import Derived.Test.YtapcbkcnokoljaaHg
import Derived.Test.YtapcbkcnokoljaaOpn
namespace Go.Proofs.Ytapcbkcnokoljaa.octetsHexes
open Go.ChangeShapes Go.WideShapes Go.ChangeAt Go.RowKit
open Go.ChangeMaps (open_string shut_string)

theorem lifted (os : Os) (started : os.Started) (H : Type) (enc : TypeId × Value → H) (F : Stop.Interp) :
    ReturnsInHanded {} Try.checked os 5 .any ((Rows.OpenSpec.upto Rows.octetsHexesSpec).pre6 enc Try.prog Try.f5 Rows.octetsHexesUptoRow.domain false) (((Rows.OpenSpec.upto Rows.octetsHexesSpec).at F).post enc Try.prog Try.f5 false true false false) := by
  refine returnsInHanded_of_cond_sized (C := Try.checked) (s := Rows.OpenSpec.upto Rows.octetsHexesSpec) (k := Rows.uptoSmall) rfl prog_own started (by kernel_rfl) Try.func5
    (OpenSpec.witness (enc := enc) (C := Try.checked) (s := Rows.OpenSpec.upto Rows.octetsHexesSpec) (k := Rows.uptoSmall) rfl false ⟨#[], #[.slice none 0 0, .string .empty, .int .i64 0, .int .u8 0], []⟩ 8 (by kernel_rfl) (by kernel_rfl) (by kernel_rfl)
      (x := ([.nil, .lit (.string []), .lit (.int .i64 0), .lit (.int .u8 0)], [], [])) (by kernel_rfl) rfl (by kernel_rfl)) ?_
  intro W base args ds gs before hval0 hW hcnd hk hsz _
  have hval : ∀ (j : Nat) t v, Try.f5.params[j]? = some t → args[j]? = some v → Value.okWide Try.prog W .any base t v := hval0
  have hW' := hW
  obtain ⟨p, q, hA0, hV, rfl, hfz, hnd⟩ := hW
  have hA : DataW.TrodAll enc Try.prog W 0 (fun _ => true) true Try.f5.params.toList args.toList ds p := hA0
  rw [Try.params5] at hA hval
  obtain ⟨v0, vs0, d0, ds0, p0, q0, hargs, rfl, rfl, h0, r0⟩ := trodAll_cons hA
  obtain ⟨v1, vs1, d1, ds1, p1, q1, rfl, rfl, rfl, h1, r1⟩ := trodAll_cons r0
  obtain ⟨v2, vs2, d2, ds2, p2, q2, rfl, rfl, rfl, h2, r2⟩ := trodAll_cons r1
  obtain ⟨v3, vs3, d3, ds3, p3, q3, rfl, rfl, rfl, h3, r3⟩ := trodAll_cons r2
  obtain ⟨rfl, rfl, rfl⟩ := trodAll_nil r3
  obtain rfl : args = #[v0, v1, v2, v3] := by cases args; simp_all
  obtain ⟨rfl, rfl⟩ := trodVars_none hV
  have hsz2 : (DataW.weightsEach Try.prog [22, 9, 3, 5] [d0, d1, d2, d3]).all (· ≤ reachBytes) = true := hsz
  have k0 := h0
  have lt0 : ∀ x ∈ p0, x.block < W.heap.size := by obtain ⟨m, hm⟩ := k0; exact DataW.trod_lt m _ _ _ hm
  obtain ⟨zs0, c0, e0, hl0, hm0, hw0, hd0⟩ := open_list Try.underlying22 Try.underlying5 (by kernel_rfl) (hval 0 22 v0 rfl rfl) h0
  have hc0 : c0 * Try.prog.bytesOf 5 ≤ 140737488351232 := hd0.reach (j := 0) hsz2 rfl rfl Try.underlying22
  rw [show Try.prog.bytesOf 5 = 1 from by kernel_rfl] at hc0
  obtain ⟨s1, rfl, rfl, rfl, hs1⟩ := open_string Try.underlying9 (hval 1 9 v1 rfl rfl) h1
  have hc1 : s1.size ≤ 140737488351232 := by have := sized_string (j := 1) hsz2 rfl rfl; simpa [reachBytes] using this
  obtain ⟨a2, rfl, rfl, rfl, w2⟩ := open_int Try.underlying3 (hval 2 3 v2 rfl rfl) h2
  have hb2 := bounds_i64 w2
  obtain ⟨a3, rfl, rfl, rfl, w3⟩ := open_int Try.underlying5 (hval 3 5 v3 rfl rfl) h3
  have hb3 := bounds_u8 w3
  clear hA0 hval0
  refine ((hexes_l zs0 (fun v hv => bounds_u8 (hw0 v hv)) s1 (by have h1 := hd0.bulk; have h2 : Rows.uptoBulkAll _ ≤ 1048576 := of_decide_eq_true hk; simp only [List.cons_append, List.nil_append, Rows.uptoBulkAll, Rows.uptoBulk, str_len] at h2; omega) (by have h2 : Rows.uptoBulkAll _ ≤ 1048576 := of_decide_eq_true hk; simp only [List.cons_append, List.nil_append, Rows.uptoBulkAll, Rows.uptoBulk, str_len] at h2; omega) a2 a3 hb2 hb3).rowG (fun g x h => by cases h) (denl_cons e0 (denl_cons (.str _ _) (denl_cons (.int _ _ _) (denl_cons (.int _ _ _) denl_nil))))).mono fun e W' ⟨he, bel⟩ => ?_
  subst he
  exact ⟨_, rfl, _, _, _, [], _, [], hW', trodAll_mk1 (shut_bool Try.underlying4 _), (trodAll_cons_mk (Below.trod prog_laidOut (by kernel_rfl) (of_decide_eq_true (by kernel_rfl)) k0 bel lt0) (trodAll_cons_mk (shut_string Try.underlying9 hs1) (trodAll_cons_mk (shut_int Try.underlying3 w2) (trodAll_cons_mk (shut_int Try.underlying5 w3) trodAll_mk0)))), rfl, bel.frame _, fun h => by cases h⟩

theorem over : Rows.octetsHexesUptoRow.holds Try.pinned (Rows.OpenSpec.upto Rows.octetsHexesSpec) :=
  OpenClaim.holds_of_cond 5 Try.f5 rfl rfl rfl rfl rfl rfl rfl ⟨rfl, rfl, rfl, rfl, rfl⟩ rfl rfl rfl rfl rfl (by kernel_rfl) Try.func5 (by kernel_rfl)
    (of_decide_eq_true (by kernel_rfl)) (by unfold Func.isWrapper; first | (rw [if_pos (by decide +kernel)]; kernel_rfl) | (rw [if_neg (by decide +kernel)]; exact ⟨rfl, rfl⟩))
    (fun os started H enc _ F => lifted os started H enc F)

theorem proved : Rows.OctetsHexesUptoSaid := over
end Go.Proofs.Ytapcbkcnokoljaa.octetsHexes
