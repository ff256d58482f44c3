/- A contract's result, weakened: nil is an empty list. -/
import Derived.Test.YtligbjbkecmecaaDoorTac
namespace Go.Proofs.YtligbjbkecmecaaDoor
set_option linter.unusedVariables false
set_option linter.unusedSimpArgs false
open Go.RowKit
def Wk (x y : SV) : Prop := ∀ (w : World) (X : Nat → Prop) (ρ : Env) (v : Value), Den w X ρ x v → Den w X ρ y v
def WkL : List SV → List SV → Prop
  | [], [] => True
  | x :: xs, y :: ys => Wk x y ∧ WkL xs ys
  | _, _ => False
theorem Wk.rfl' (x : SV) : Wk x x := fun _ _ _ _ h => h
theorem Wk.nil (sh : Option Nat) : Wk .nil (.lst sh []) := fun _ _ ρ _ h => by
  cases h
  exact .lst0 ρ sh none 0
theorem WkL.len : ∀ {xs ys : List SV}, WkL xs ys → xs.length = ys.length
  | [], [], _ => rfl
  | _ :: _, _ :: _, h => by rw [List.length_cons, List.length_cons, WkL.len h.2]
  | [], _ :: _, h => h.elim
  | _ :: _, [], h => h.elim
theorem WkL.at : ∀ {xs ys : List SV}, WkL xs ys → ∀ (i : Nat) (y : SV), ys[i]? = some y → ∃ x, xs[i]? = some x ∧ Wk x y
  | [], [], _ => fun i y h => by cases h
  | x :: xs, y :: ys, h => fun i z hz => by
    cases i with
    | zero => injection hz with hz; subst hz; exact ⟨x, rfl, h.1⟩
    | succ i => exact WkL.at h.2 i z hz
  | [], _ :: _, h => h.elim
  | _ :: _, [], h => h.elim
theorem WkL.den {xs ys : List SV} (h : WkL xs ys) {w : World} {X : Nat → Prop} {ρ : Env} {us : List Value} (hd : DenL w X ρ xs us) : DenL w X ρ ys us :=
  ⟨h.len.symm.trans hd.1, fun i y u hy hu => by
    obtain ⟨x, hx, hw⟩ := h.at i y hy
    exact hw _ _ _ _ (hd.2 i x u hx hu)⟩
theorem Wk.agg {xs ys : List SV} (h : WkL xs ys) : Wk (.agg xs) (.agg ys) := fun _ _ _ _ hd => by
  obtain ⟨cs, hv, hc⟩ := Den.agg_iff.1 hd
  exact Den.agg_iff.2 ⟨cs, hv, h.den hc⟩
theorem Wk.tup {xs ys : List SV} (h : WkL xs ys) : Wk (.tup xs) (.tup ys) := fun _ _ _ _ hd => by
  obtain ⟨cs, hv, hc⟩ := Den.tup_iff.1 hd
  exact Den.tup_iff.2 ⟨cs, hv, h.den hc⟩
theorem Good.res {f : Nat} {a : List SV} {r r' : SV} (h : Good f (pu a r)) (hw : Wk r r') : Good f (pu a r') :=
  ⟨⟨h.h.fn, (fun hq => nomatch hq), (fun _ _ _ _ _ hc => nomatch (congrArg CT.new hc)), (fun _ _ _ _ hc => nomatch (congrArg CT.lent hc)), fun _ _ _ N w X ρ vs hm hd => (h.h.h rfl rfl rfl N w X ρ vs hm hd).mono fun e w' ⟨v, ρ', h1, h2, h3, h4⟩ => ⟨v, ρ', h1, h2, h3, hw _ _ _ _ h4⟩⟩⟩
theorem Good.arg {f : Nat} {a a' : List SV} {r : SV} (h : Good f (pu a r)) (hw : WkL a' a) : Good f (pu a' r) :=
  ⟨⟨h.h.fn, (fun hq => nomatch hq), (fun _ _ _ _ _ hc => nomatch (congrArg CT.new hc)), (fun _ _ _ _ hc => nomatch (congrArg CT.lent hc)), fun _ _ _ N w X ρ vs hm hd => h.h.h rfl rfl rfl N w X ρ vs hm (hw.den hd)⟩⟩
end Go.Proofs.YtligbjbkecmecaaDoor
