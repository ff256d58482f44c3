/- MediumForms: the law returns true at every input (the statement MediumFormsSaid, no condition). The contract lies in the imported texts; this is the step from it to the row. -/
import Derived.Test.YtbnphjniadiclaaDoorCards
import Derived.Test.YtbnphjniadiclaaDoorTie
import Derived.SevenTiedAt
import Derived.Stop.Joined
import Derived.LaidMore
import Derived.Test.YtbnphjniadiclaaDoorNE
import Derived.Test.YtbnphjniadiclaaDoorMZ
import Derived.Test.YtbnphjniadiclaaDoorOpg
namespace Go.Proofs.YtbnphjniadiclaaDoor.mediumForms
open Go.ChangeShapes Go.WideShapes Go.ChangeAt Go.RowKit
open Go.ChangeMaps (open_string shut_string)

theorem lifted (os : Os) (started : os.Started) (H : Type) (enc : TypeId × Value → H) :
    ReturnsInHanded {} Tryd.checked os 8 .any (fun w args => (Rows.mediumFormsSpec.pre enc Tryd.prog Tryd.f8 [] false w args ∧ laidMetH Tryd.prog laidV w) ∧ sizedMet enc Tryd.prog Tryd.f8 (OpenSpec.ofChange Rows.mediumFormsSpec) false w args) (Rows.mediumFormsSpec.post enc Tryd.prog Tryd.f8 false true false false) := by
  refine returnsInHanded_of_change_and (C := Tryd.checked) (X := fun w _ => laidMetH Tryd.prog laidV w) (fun _ _ _ hh h => h.of_heap hh) prog_own started (by kernel_rfl) Tryd.func8
    (ChangeSpec.witness_shaped (enc := enc) (C := Tryd.checked) (os := os) (X := fun w _ => laidMetH Tryd.prog laidV w) false (World.doorLaid Tryd.prog 17 os) #[.slice none 0 0, .slice none 0 0, .slice none 0 0, .int .i64 0, .slice none 0 0] 8 rfl (World.shaped_of_RefB (by kernel_rfl) (by kernel_rfl)) (by kernel_rfl) (by kernel_rfl) (by kernel_rfl) (door_met os _)) ?_
  intro W base args ds gs before hval0 hW hcnd hsz hL _
  have hval : ∀ (j : Nat) t v, Tryd.f8.params[j]? = some t → args[j]? = some v → Value.okWide Tryd.prog W .any base t v := hval0
  have hW' := hW
  obtain ⟨p, q, hA0, hV, rfl, hfz, hnd⟩ := hW
  have hA : DataW.TrodAll enc Tryd.prog W 0 (fun _ => true) true Tryd.f8.params.toList args.toList ds p := hA0
  rw [Tryd.params8] at hA hval
  obtain ⟨v0, vs0, d0, ds0, p0, q0, hargs, rfl, rfl, h0, r0⟩ := trodAll_cons hA
  obtain ⟨v1, vs1, d1, ds1, p1, q1, rfl, rfl, rfl, h1, r1⟩ := trodAll_cons r0
  obtain ⟨v2, vs2, d2, ds2, p2, q2, rfl, rfl, rfl, h2, r2⟩ := trodAll_cons r1
  obtain ⟨v3, vs3, d3, ds3, p3, q3, rfl, rfl, rfl, h3, r3⟩ := trodAll_cons r2
  obtain ⟨v4, vs4, d4, ds4, p4, q4, rfl, rfl, rfl, h4, r4⟩ := trodAll_cons r3
  obtain ⟨rfl, rfl, rfl⟩ := trodAll_nil r4
  obtain rfl : args = #[v0, v1, v2, v3, v4] := by cases args; simp_all
  obtain ⟨rfl, rfl⟩ := trodVars_none hV
  have hsz2 : (DataW.weightsEach Tryd.prog [24, 35, 23, 3, 22] [d0, d1, d2, d3, d4]).all (· ≤ reachBytes) = true := hsz
  have k0 := h0
  have lt0 : ∀ x ∈ p0, x.block < W.heap.size := by obtain ⟨m, hm⟩ := k0; exact DataW.trod_lt m _ _ _ hm
  obtain ⟨fu0, hfu0⟩ := h0
  have hv0 := okWide_slice Tryd.underlying24 (hval 0 24 v0 rfl rfl)
  obtain ⟨xs0, wf0, e0, _⟩ := open_den (n := fu0) (m := 9) types_ok sizes_ok (show tinfo 24 = some _ from rfl) (by kernel_rfl) (fun h => by cases h) (fun h => by obtain ⟨a, b, c, hc⟩ := hv0; rw [hc]; intro cs h; cases h) hfu0 (weights_of hsz2 (j := 0) rfl rfl)
  obtain ⟨f0, hf0, rfl⟩ := open_mat wf0
  have k1 := h1
  have lt1 : ∀ x ∈ p1, x.block < W.heap.size := by obtain ⟨m, hm⟩ := k1; exact DataW.trod_lt m _ _ _ hm
  obtain ⟨fu1, hfu1⟩ := h1
  have hv1 := okWide_slice Tryd.underlying35 (hval 1 35 v1 rfl rfl)
  obtain ⟨xs1, wf1, e1, _⟩ := open_den (n := fu1) (m := 9) types_ok sizes_ok (show tinfo 35 = some _ from rfl) (by kernel_rfl) (fun h => by cases h) (fun h => by obtain ⟨a, b, c, hc⟩ := hv1; rw [hc]; intro cs h; cases h) hfu1 (weights_of hsz2 (j := 1) rfl rfl)
  obtain ⟨f1, hf1, rfl⟩ := open_txs wf1
  have k2 := h2
  have lt2 : ∀ x ∈ p2, x.block < W.heap.size := by obtain ⟨m, hm⟩ := k2; exact DataW.trod_lt m _ _ _ hm
  obtain ⟨zs2, c2, e2, hl2, hm2, hw2, hd2⟩ := open_list Tryd.underlying23 Tryd.underlying5 (by kernel_rfl) (hval 2 23 v2 rfl rfl) h2
  have hc2 : c2 * Tryd.prog.bytesOf 5 ≤ 140737488351232 := hd2.reach (j := 2) hsz2 rfl rfl Tryd.underlying23
  rw [show Tryd.prog.bytesOf 5 = 1 from by kernel_rfl] at hc2
  obtain ⟨a3, rfl, rfl, rfl, w3⟩ := open_int Tryd.underlying3 (hval 3 3 v3 rfl rfl) h3
  have hb3 := bounds_i64 w3
  have k4 := h4
  have lt4 : ∀ x ∈ p4, x.block < W.heap.size := by obtain ⟨m, hm⟩ := k4; exact DataW.trod_lt m _ _ _ hm
  obtain ⟨zs4, c4, e4, hl4, hm4, hw4, hd4⟩ := open_list Tryd.underlying22 Tryd.underlying3 (by kernel_rfl) (hval 4 22 v4 rfl rfl) h4
  have hc4 : c4 * Tryd.prog.bytesOf 3 ≤ 140737488351232 := hd4.reach (j := 4) hsz2 rfl rfl Tryd.underlying22
  rw [show Tryd.prog.bytesOf 3 = 8 from by kernel_rfl] at hc4
  clear hA0 hval0
  refine ((forms_c f0 _ rfl hf0.2 hf0.1 f1 _ rfl hf1.2 hf1.1 zs2 _ rfl (fun v hv => bounds_u8 (hw2 v hv)) (by omega) a3 hb3 zs4 (fun v hv => bounds_i64 (hw4 v hv))).rowG (globs_of hL) (denl_cons e0 (denl_cons e1 (denl_cons e2 (denl_cons (.int _ _ _) (denl_cons e4 denl_nil)))))).mono fun e W' ⟨he, bel⟩ => ?_
  subst he
  exact ⟨_, rfl, _, _, _, [], _, [], hW', trodAll_mk1 (shut_bool Tryd.underlying4 _), (trodAll_cons_mk (Below.trod prog_laidOut (by kernel_rfl) (of_decide_eq_true (by kernel_rfl)) k0 bel lt0) (trodAll_cons_mk (Below.trod prog_laidOut (by kernel_rfl) (of_decide_eq_true (by kernel_rfl)) k1 bel lt1) (trodAll_cons_mk (Below.trod prog_laidOut (by kernel_rfl) (of_decide_eq_true (by kernel_rfl)) k2 bel lt2) (trodAll_cons_mk (shut_int Tryd.underlying3 w3) (trodAll_cons_mk (Below.trod prog_laidOut (by kernel_rfl) (of_decide_eq_true (by kernel_rfl)) k4 bel lt4) trodAll_mk0))))), rfl, bel.frame _, fun h => by cases h⟩

theorem over : Rows.mediumFormsRow.holds Tryd.pinned (OpenSpec.ofChange Rows.mediumFormsSpec) :=
  OpenClaim.holds_of_wide 8 Tryd.f8 rfl rfl rfl rfl rfl rfl rfl ⟨rfl, rfl, rfl, rfl, rfl⟩ rfl rfl rfl rfl rfl (by kernel_rfl) Tryd.func8 (by kernel_rfl)
    (of_decide_eq_true (by kernel_rfl)) (by unfold Func.isWrapper; first | (rw [if_pos (by decide +kernel)]; kernel_rfl) | (rw [if_neg (by decide +kernel)]; exact ⟨rfl, rfl⟩))
    (fun os started H enc _ => lifted os started H enc)

theorem proved : Rows.MediumFormsCardSaid :=
  Claim7.holds_tied_plain_at .later [] [.widerDeep] true (true, "b7c8472c2dc660f5c3ae36b271109a3a96913222a0f0de1ad00ab75b39faa109") false over (fun _ h => by cases h) (by kernel_rfl) (fun _ h => by cases h) mediumForms_row_tie rfl ⟨rfl, rfl⟩ (by kernel_rfl) rfl
    (fun g fn hf hfn => by
      obtain rfl : g = 8 := Option.some.inj ((show Tryd.prog.funcNamed "multihop/multihoplaw11.MediumForms" = some 8 by kernel_rfl).symm.trans hf) |>.symm
      obtain rfl : fn = Tryd.f8 := (Option.some.inj (Tryd.func8.symm.trans hfn)).symm
      exact ⟨by kernel_rfl, fun j t ht => by
        rw [Tryd.params8] at ht
        have hm : t ∈ [24, 35, 23, 3, 22] := by
          have hm2 := Array.mem_of_getElem? ht
          simp only [Array.mem_def, List.mem_cons, List.not_mem_nil, or_false] at hm2 ⊢
          first | exact hm2 | omega | (simp at hm2 ⊢; omega) | (simp at hm2 ⊢; exact hm2)
        have hall : ([24, 35, 23, 3, 22].all fun u => !Tryd.prog.wantsStandIn u) = true := by kernel_rfl
        exact (show Tryd.prog.wantsStandIn t = false by simpa using List.all_eq_true.1 hall t hm)⟩)
    (by kernel_rfl)
end Go.Proofs.YtbnphjniadiclaaDoor.mediumForms
