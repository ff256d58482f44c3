/- MediumFresh: the law returns true at every input (the statement MediumFreshSaid, no condition). The contract lies in the imported texts; this is the step from it to the row. -/
import Derived.Test.YtligbjbkecmecaaDoorCards
import Derived.Test.YtligbjbkecmecaaDoorTie
import Derived.SevenTiedAt
import Derived.Stop.Joined
import Derived.LaidMore
import Derived.Test.YtligbjbkecmecaaDoorFrC
import Derived.Test.YtligbjbkecmecaaDoorFrZ
import Derived.Test.YtligbjbkecmecaaDoorOpg
namespace Go.Proofs.YtligbjbkecmecaaDoor.mediumFresh
open Go.ChangeShapes Go.WideShapes Go.ChangeAt Go.RowKit
open Go.ChangeMaps (open_string shut_string)

theorem lifted (os : Os) (started : os.Started) (H : Type) (enc : TypeId × Value → H) :
    ReturnsInHanded {} Tryd.checked os 3 .any (fun w args => (Rows.mediumFreshSpec.pre enc Tryd.prog Tryd.f3 [] false w args ∧ laidMetH Tryd.prog laidV w) ∧ sizedMet enc Tryd.prog Tryd.f3 (OpenSpec.ofChange Rows.mediumFreshSpec) false w args) (Rows.mediumFreshSpec.post enc Tryd.prog Tryd.f3 false true false false) := by
  refine returnsInHanded_of_change_and (C := Tryd.checked) (X := fun w _ => laidMetH Tryd.prog laidV w) (fun _ _ _ hh h => h.of_heap hh) prog_own started (by kernel_rfl) Tryd.func3
    (ChangeSpec.witness_shaped (enc := enc) (C := Tryd.checked) (os := os) (X := fun w _ => laidMetH Tryd.prog laidV w) false (World.doorLaid Tryd.prog 17 os) #[.slice none 0 0] 8 rfl (World.shaped_of_RefB (by kernel_rfl) (by kernel_rfl)) (by kernel_rfl) (by kernel_rfl) (by kernel_rfl) (door_met os _)) ?_
  intro W base args ds gs before hval0 hW hcnd hsz hL _
  have hval : ∀ (j : Nat) t v, Tryd.f3.params[j]? = some t → args[j]? = some v → Value.okWide Tryd.prog W .any base t v := hval0
  have hW' := hW
  obtain ⟨p, q, hA0, hV, rfl, hfz, hnd⟩ := hW
  have hA : DataW.TrodAll enc Tryd.prog W 0 (fun _ => true) true Tryd.f3.params.toList args.toList ds p := hA0
  rw [Tryd.params3] at hA hval
  obtain ⟨v0, vs0, d0, ds0, p0, q0, hargs, rfl, rfl, h0, r0⟩ := trodAll_cons hA
  obtain ⟨rfl, rfl, rfl⟩ := trodAll_nil r0
  obtain rfl : args = #[v0] := by cases args; simp_all
  obtain ⟨rfl, rfl⟩ := trodVars_none hV
  have hsz2 : (DataW.weightsEach Tryd.prog [22] [d0]).all (· ≤ reachBytes) = true := hsz
  have k0 := h0
  have lt0 : ∀ x ∈ p0, x.block < W.heap.size := by obtain ⟨m, hm⟩ := k0; exact DataW.trod_lt m _ _ _ hm
  obtain ⟨fu0, hfu0⟩ := h0
  have hv0 := okWide_slice Tryd.underlying22 (hval 0 22 v0 rfl rfl)
  obtain ⟨xs0, wf0, e0, _⟩ := open_den (n := fu0) (m := 9) types_ok sizes_ok (show tinfo 22 = some _ from rfl) (by kernel_rfl) (fun h => by cases h) (fun h => by obtain ⟨a, b, c, hc⟩ := hv0; rw [hc]; intro cs h; cases h) hfu0 (weights_of hsz2 (j := 0) rfl rfl)
  obtain ⟨f0, hf0, rfl⟩ := open_bytes wf0
  clear hA0 hval0
  refine ((fresh_c f0 _ rfl hf0).rowG (globs_of hL) (denl_cons e0 denl_nil)).mono fun e W' ⟨he, bel⟩ => ?_
  subst he
  exact ⟨_, rfl, _, _, _, [], _, [], hW', trodAll_mk1 (shut_bool Tryd.underlying4 _), (trodAll_cons_mk (Below.trod prog_laidOut (by kernel_rfl) (of_decide_eq_true (by kernel_rfl)) k0 bel lt0) trodAll_mk0), rfl, bel.frame _, fun h => by cases h⟩

theorem over : Rows.mediumFreshRow.holds Tryd.pinned (OpenSpec.ofChange Rows.mediumFreshSpec) :=
  OpenClaim.holds_of_wide 3 Tryd.f3 rfl rfl rfl rfl rfl rfl rfl ⟨rfl, rfl, rfl, rfl, rfl⟩ rfl rfl rfl rfl rfl (by kernel_rfl) Tryd.func3 (by kernel_rfl)
    (of_decide_eq_true (by kernel_rfl)) (by unfold Func.isWrapper; first | (rw [if_pos (by decide +kernel)]; kernel_rfl) | (rw [if_neg (by decide +kernel)]; exact ⟨rfl, rfl⟩))
    (fun os started H enc _ => lifted os started H enc)

theorem proved : Rows.MediumFreshCardSaid :=
  Claim7.holds_tied_plain_at .later [] [.widerDeep] true (true, "e42b0ac8a1c8f2b3f1cc8c0819e55ef32e54baca6dad3c1922df386e9ca36e87") false over (fun _ h => by cases h) (by kernel_rfl) (fun _ h => by cases h) mediumFresh_row_tie rfl ⟨rfl, rfl⟩ (by kernel_rfl) rfl
    (fun g fn hf hfn => by
      obtain rfl : g = 3 := Option.some.inj ((show Tryd.prog.funcNamed "multihop/multihoplaw11.MediumFresh" = some 3 by kernel_rfl).symm.trans hf) |>.symm
      obtain rfl : fn = Tryd.f3 := (Option.some.inj (Tryd.func3.symm.trans hfn)).symm
      exact ⟨by kernel_rfl, fun j t ht => by
        rw [Tryd.params3] at ht
        have hm : t ∈ [22] := by
          have hm2 := Array.mem_of_getElem? ht
          simp only [Array.mem_def, List.mem_cons, List.not_mem_nil, or_false] at hm2 ⊢
          first | exact hm2 | omega | (simp at hm2 ⊢; omega) | (simp at hm2 ⊢; exact hm2)
        have hall : ([22].all fun u => !Tryd.prog.wantsStandIn u) = true := by kernel_rfl
        exact (show Tryd.prog.wantsStandIn t = false by simpa using List.all_eq_true.1 hall t hm)⟩)
    (by kernel_rfl)
end Go.Proofs.YtligbjbkecmecaaDoor.mediumFresh
