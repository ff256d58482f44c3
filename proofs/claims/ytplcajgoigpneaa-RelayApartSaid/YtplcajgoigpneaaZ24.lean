/- Texts put together: Ob. -/
import Derived.Test.YtplcajgoigpneaaZ23
namespace Go.Proofs.Ytplcajgoigpneaa
set_option linter.unusedVariables false
set_option linter.unusedSimpArgs false
theorem orbit {A : Type} (I C : A → Prop) (μ : A → Nat) (R : A → A → Prop) (h : ∀ a, I a → C a → ∃ a', I a' ∧ μ a' < μ a ∧ R a a') (a0 : A) (h0 : I a0) :
    ∃ (fin : A) (S : A → Prop), S a0 ∧ (∀ a, S a → I a) ∧ (∀ a, S a → C a → ∃ a', S a' ∧ μ a' < μ a ∧ R a a') ∧ (∀ a, S a → ¬ C a → a = fin) ∧ I fin ∧ ¬ C fin := by
  have key : ∀ n a, μ a = n → I a → ∃ (fin : A) (S : A → Prop), S a ∧ (∀ a, S a → I a) ∧ (∀ a, S a → C a → ∃ a', S a' ∧ μ a' < μ a ∧ R a a') ∧ (∀ a, S a → ¬ C a → a = fin) ∧ I fin ∧ ¬ C fin := by
    intro n
    induction n using Nat.strongRecOn with
    | _ n ih =>
      intro a hn hI
      by_cases hC : C a
      · obtain ⟨a', h1, h2, h3⟩ := h a hI hC
        obtain ⟨fin, S, s0, s1, s2, s3, s4, s5⟩ := ih (μ a') (hn ▸ h2) a' rfl h1
        refine ⟨fin, fun x => x = a ∨ S x, .inl rfl, fun x hx => ?_, fun x hx hc => ?_, fun x hx hc => ?_, s4, s5⟩
        · rcases hx with rfl | hx
          · exact hI
          · exact s1 x hx
        · rcases hx with rfl | hx
          · exact ⟨a', .inr s0, h2, h3⟩
          · obtain ⟨y, y1, y2, y3⟩ := s2 x hx hc
            exact ⟨y, .inr y1, y2, y3⟩
        · rcases hx with rfl | hx
          · exact absurd hC hc
          · exact s3 x hx hc
      · exact ⟨a, fun x => x = a, rfl, fun x hx => hx ▸ hI, fun x hx hc => absurd (hx ▸ hc) hC, fun x hx _ => hx, hI, hC⟩
  exact key _ a0 rfl h0
end Go.Proofs.Ytplcajgoigpneaa
