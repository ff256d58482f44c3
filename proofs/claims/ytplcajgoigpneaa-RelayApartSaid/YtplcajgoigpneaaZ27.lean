/- Texts put together: Lf. -/
import Derived.Test.YtplcajgoigpneaaZ26
namespace Go.Proofs.Ytplcajgoigpneaa
set_option linter.unusedVariables false
set_option linter.unusedSimpArgs false
open Go.RowKit
variable {P : Program} {T : Nat → Option TI} {G : Nat → CT → Prop}
noncomputable def frzS (F : List Nat) (s : St) : St := ⟨s.slots, appU (frzU (getM s.mem) F) s.mem⟩
theorem frzS_sub (F : List Nat) (s : St) : Sub T s (frzS F s) := ⟨fun N w0 X z a w ρ hr => by
  have fz := freeze_ids (T := T) (sees_all s.mem) hr.m F
  exact ⟨ρ, ⟨fz.m, hr.defers.turn fz.t, hr.size, fun t => fz.t.den (fun _ h => by cases h) (hr.slot t), anch_turn hr.m fz.m hr.anch (.inr rfl), hr.fix, hr.len, hr.nod⟩⟩⟩
theorem loopQF (F : List Nat) {c : Code} {s : St} {K : Ks} {A : Type} (I : A → Prop) (μ : A → Nat) (u : A → List (Nat × SV)) (v : A → List (Nat × Blk)) (i0 : A) (h0 : I i0)
    (hs : WeakSt (fitS (u i0) (v i0) (frzS F s)) (loopSt c (fitS (u i0) (v i0) (frzS F s)) (u i0) (v i0)))
    (hr : ∀ i, I i → swp T G c (loopSt c (fitS (u i0) (v i0) (frzS F s)) (u i) (v i)) ⟨fun s' => ∃ j, I j ∧ μ j < μ i ∧ WeakSt (fitS (u j) (v j) (frzS F s')) (loopSt c (fitS (u i0) (v i0) (frzS F s)) (u j) (v j)), K.r, K.e⟩) : LoopQ T (fun s K => swp T G c s K) s K := by
  exact ⟨⟨A, I, μ, fun i => loopSt c (fitS (u i0) (v i0) (frzS F s)) (u i) (v i), fun i s s' => WeakSt (fitS (u i) (v i) (frzS F s)) s', fun i s s' h => ((frzS_sub F s).trans (fitS_sub (u i) (v i) _)).trans (weak_sub h), ⟨i0, h0, hs⟩, hr⟩⟩
end Go.Proofs.Ytplcajgoigpneaa
