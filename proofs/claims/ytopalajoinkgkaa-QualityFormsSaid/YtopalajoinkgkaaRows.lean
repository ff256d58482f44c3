/-
  No cell of these rows narrows 'for every input' (looked for: loops, veiled, ifaces, maps, wideKeys, modest, calm, conditions, laid).
  DERIVED. THE GIVEN ROWS OF THIS SEAT. 6 by the template 'for every input the law returns true; each argument reads behind the call as it read before'; 0 by the template 'total and deterministic' (their statements: YtopalajoinkgkaaTotals.lean).
  GIVEN WITH THE SEED: the statements are not yours to turn. If you find one false, say at which input.
  Laid BY PROGRAM, IN A SANDBOX (cutbox-rows.mjs): the forced cells as the released guide's own fill.sh prints them over the translation 5e106def15e28dd1… (all of the seat's roots in one cut). By AI agents, Wed Nov 11 2026. No macro, syntax, notation, axiom, sorry.
-/
import Derived.Test.YtopalajoinkgkaaChecked
import GoSem.Claim
import GoSem.ClaimJoined
import GoSem.ClaimMapViews
import Derived.JoinedTies
import Derived.KernelRfl
namespace Go.Proofs.Ytopalajoinkgkaa
/- THE CELL 'sum', in the pinned program and in every row, IS THE sha256 OF THE DUMP (.gsa) THAT YtopalajoinkgkaaProg.lean LOADS. Nothing in Lean hashes anything: it is a label: what it is worth is what the hold of that sum in a sandbox is worth. -/
noncomputable def Try.pinned : Pinned := { name := "ytopalajoinkgkaa", sum := "5e106def15e28dd1f1f372e2371fef7500fb6d4204de8ee4a0bbaf96625aaeef", checked := Try.checked }
namespace Rows
def none {H : Type} : Left H := { results := [], args := [] }

/-- 'multihoplaw10.QualityExpected': WHATEVER THE INPUT: true; the input reads as it did. -/
def qualityExpectedSpec : ChangeSpec := { name := "qualityExpected", fn := fun _ => fun
  | [d] => { results := [.lit (.bool true)], args := [d] }
  | _ => none }
def qualityExpectedRow : OpenClaim := { program := "ytopalajoinkgkaa", sum := "5e106def15e28dd1f1f372e2371fef7500fb6d4204de8ee4a0bbaf96625aaeef", func := "multihop/multihoplaw10.QualityExpected", spec := "qualityExpected", apart := false }
def QualityExpectedSaid : Prop := qualityExpectedRow.holds Try.pinned (OpenSpec.ofChange qualityExpectedSpec)

/-- ITS FALSE NEIGHBOUR: 'it returns false'. Refute it at one input. -/
def qualityExpectedWrong : ChangeSpec := { name := "qualityExpected", fn := fun _ => fun
  | [d] => { results := [.lit (.bool false)], args := [d] }
  | _ => none }
def QualityExpectedWrongFalsely : Prop := qualityExpectedRow.holds Try.pinned (OpenSpec.ofChange qualityExpectedWrong)

/-- 'multihoplaw10.QualityForgets': WHATEVER THE INPUT: true; the input reads as it did. -/
def qualityForgetsSpec : ChangeSpec := { name := "qualityForgets", fn := fun _ => fun
  | [d1, d2] => { results := [.lit (.bool true)], args := [d1, d2] }
  | _ => none }
def qualityForgetsRow : OpenClaim := { program := "ytopalajoinkgkaa", sum := "5e106def15e28dd1f1f372e2371fef7500fb6d4204de8ee4a0bbaf96625aaeef", func := "multihop/multihoplaw10.QualityForgets", spec := "qualityForgets", apart := false }
def QualityForgetsSaid : Prop := qualityForgetsRow.holds Try.pinned (OpenSpec.ofChange qualityForgetsSpec)

/-- ITS FALSE NEIGHBOUR: 'it returns false'. Refute it at one input. -/
def qualityForgetsWrong : ChangeSpec := { name := "qualityForgets", fn := fun _ => fun
  | [d1, d2] => { results := [.lit (.bool false)], args := [d1, d2] }
  | _ => none }
def QualityForgetsWrongFalsely : Prop := qualityForgetsRow.holds Try.pinned (OpenSpec.ofChange qualityForgetsWrong)

/-- 'multihoplaw10.QualityBounds': WHATEVER THE INPUT: true; the input reads as it did. -/
def qualityBoundsSpec : ChangeSpec := { name := "qualityBounds", fn := fun _ => fun
  | [d1, d2] => { results := [.lit (.bool true)], args := [d1, d2] }
  | _ => none }
def qualityBoundsRow : OpenClaim := { program := "ytopalajoinkgkaa", sum := "5e106def15e28dd1f1f372e2371fef7500fb6d4204de8ee4a0bbaf96625aaeef", func := "multihop/multihoplaw10.QualityBounds", spec := "qualityBounds", apart := false }
def QualityBoundsSaid : Prop := qualityBoundsRow.holds Try.pinned (OpenSpec.ofChange qualityBoundsSpec)

/-- ITS FALSE NEIGHBOUR: 'it returns false'. Refute it at one input. -/
def qualityBoundsWrong : ChangeSpec := { name := "qualityBounds", fn := fun _ => fun
  | [d1, d2] => { results := [.lit (.bool false)], args := [d1, d2] }
  | _ => none }
def QualityBoundsWrongFalsely : Prop := qualityBoundsRow.holds Try.pinned (OpenSpec.ofChange qualityBoundsWrong)

/-- 'multihoplaw10.QualityForms': WHATEVER THE INPUT: true; the input reads as it did. -/
def qualityFormsSpec : ChangeSpec := { name := "qualityForms", fn := fun _ => fun
  | [d1, d2, d3, d4, d5] => { results := [.lit (.bool true)], args := [d1, d2, d3, d4, d5] }
  | _ => none }
def qualityFormsRow : OpenClaim := { program := "ytopalajoinkgkaa", sum := "5e106def15e28dd1f1f372e2371fef7500fb6d4204de8ee4a0bbaf96625aaeef", func := "multihop/multihoplaw10.QualityForms", spec := "qualityForms", apart := false }
def QualityFormsSaid : Prop := qualityFormsRow.holds Try.pinned (OpenSpec.ofChange qualityFormsSpec)

/-- ITS FALSE NEIGHBOUR: 'it returns false'. Refute it at one input. -/
def qualityFormsWrong : ChangeSpec := { name := "qualityForms", fn := fun _ => fun
  | [d1, d2, d3, d4, d5] => { results := [.lit (.bool false)], args := [d1, d2, d3, d4, d5] }
  | _ => none }
def QualityFormsWrongFalsely : Prop := qualityFormsRow.holds Try.pinned (OpenSpec.ofChange qualityFormsWrong)

/-- 'multihoplaw10.QualityPlays': WHATEVER THE INPUT: true; the input reads as it did. -/
def qualityPlaysSpec : ChangeSpec := { name := "qualityPlays", fn := fun _ => fun
  | [d1, d2] => { results := [.lit (.bool true)], args := [d1, d2] }
  | _ => none }
def qualityPlaysRow : OpenClaim := { program := "ytopalajoinkgkaa", sum := "5e106def15e28dd1f1f372e2371fef7500fb6d4204de8ee4a0bbaf96625aaeef", func := "multihop/multihoplaw10.QualityPlays", spec := "qualityPlays", apart := false }
def QualityPlaysSaid : Prop := qualityPlaysRow.holds Try.pinned (OpenSpec.ofChange qualityPlaysSpec)

/-- ITS FALSE NEIGHBOUR: 'it returns false'. Refute it at one input. -/
def qualityPlaysWrong : ChangeSpec := { name := "qualityPlays", fn := fun _ => fun
  | [d1, d2] => { results := [.lit (.bool false)], args := [d1, d2] }
  | _ => none }
def QualityPlaysWrongFalsely : Prop := qualityPlaysRow.holds Try.pinned (OpenSpec.ofChange qualityPlaysWrong)

/-- 'multihoplaw10.QualityPerfect': WHATEVER THE INPUT: true; the input reads as it did. -/
def qualityPerfectSpec : ChangeSpec := { name := "qualityPerfect", fn := fun _ => fun
  | [d1, d2] => { results := [.lit (.bool true)], args := [d1, d2] }
  | _ => none }
def qualityPerfectRow : OpenClaim := { program := "ytopalajoinkgkaa", sum := "5e106def15e28dd1f1f372e2371fef7500fb6d4204de8ee4a0bbaf96625aaeef", func := "multihop/multihoplaw10.QualityPerfect", spec := "qualityPerfect", apart := false }
def QualityPerfectSaid : Prop := qualityPerfectRow.holds Try.pinned (OpenSpec.ofChange qualityPerfectSpec)

/-- ITS FALSE NEIGHBOUR: 'it returns false'. Refute it at one input. -/
def qualityPerfectWrong : ChangeSpec := { name := "qualityPerfect", fn := fun _ => fun
  | [d1, d2] => { results := [.lit (.bool false)], args := [d1, d2] }
  | _ => none }
def QualityPerfectWrongFalsely : Prop := qualityPerfectRow.holds Try.pinned (OpenSpec.ofChange qualityPerfectWrong)

/- THE SECOND FORM. 'bulk': how many values and letters a reading holds, each counted each time it is reached (what is shared counts as often as it is met; a slice's spare places count too). A statement '..UptoSaid' is the law's where the arguments, and the package variables that the reading takes, are together of bulk at most 1048576: NARROWER than '..Said'. Prove '..Said' where nothing that the law and all that it calls make is longer than what came in: it says more and counts as full. Else prove '..UptoSaid'. A law counts once. -/
mutual
def uptoBulk {H : Type} : DataW H → Nat
  | .lit (.string bytes) => bytes.length + 1
  | .lit _ => 1
  | .nil => 1
  | .ptr d => uptoBulk d + 1
  | .slice elems spare => uptoBulkAll elems + uptoBulkAll spare + 1
  | .agg parts => uptoBulkAll parts + 1
  | .iface _ d => uptoBulk d + 1
  | .map entries => uptoBulkEntries entries + 1
  | .held _ => 1
def uptoBulkAll {H : Type} : List (DataW H) → Nat
  | [] => 0
  | d :: r => uptoBulk d + uptoBulkAll r
def uptoBulkEntries {H : Type} : List (Lit × DataW H) → Nat
  | [] => 0
  | x :: r => uptoBulkEntry x + uptoBulkEntries r
def uptoBulkEntry {H : Type} : Lit × DataW H → Nat
  | (.string bytes, d) => bytes.length + uptoBulk d + 1
  | (_, d) => uptoBulk d + 1
 end
def uptoSmall : (H : Type) → List (DataW H) → Bool := fun _ ds => decide (uptoBulkAll ds ≤ 1048576)
def OpenSpec.upto (s : _root_.Go.ChangeSpec) : _root_.Go.OpenSpec := { _root_.Go.OpenSpec.ofChange s with cond := some uptoSmall }

/-- 'multihoplaw10.QualityExpected', WHERE WHAT IT READS IS OF BULK AT MOST 1048576: true; the input reads as it did. -/
def qualityExpectedUptoRow : OpenClaim := { program := "ytopalajoinkgkaa", sum := "5e106def15e28dd1f1f372e2371fef7500fb6d4204de8ee4a0bbaf96625aaeef", func := "multihop/multihoplaw10.QualityExpected", spec := "qualityExpected", apart := false, narrowed := true }
def QualityExpectedUptoSaid : Prop := qualityExpectedUptoRow.holds Try.pinned (OpenSpec.upto qualityExpectedSpec)

/-- 'multihoplaw10.QualityForgets', WHERE WHAT IT READS IS OF BULK AT MOST 1048576: true; the input reads as it did. -/
def qualityForgetsUptoRow : OpenClaim := { program := "ytopalajoinkgkaa", sum := "5e106def15e28dd1f1f372e2371fef7500fb6d4204de8ee4a0bbaf96625aaeef", func := "multihop/multihoplaw10.QualityForgets", spec := "qualityForgets", apart := false, narrowed := true }
def QualityForgetsUptoSaid : Prop := qualityForgetsUptoRow.holds Try.pinned (OpenSpec.upto qualityForgetsSpec)

/-- 'multihoplaw10.QualityBounds', WHERE WHAT IT READS IS OF BULK AT MOST 1048576: true; the input reads as it did. -/
def qualityBoundsUptoRow : OpenClaim := { program := "ytopalajoinkgkaa", sum := "5e106def15e28dd1f1f372e2371fef7500fb6d4204de8ee4a0bbaf96625aaeef", func := "multihop/multihoplaw10.QualityBounds", spec := "qualityBounds", apart := false, narrowed := true }
def QualityBoundsUptoSaid : Prop := qualityBoundsUptoRow.holds Try.pinned (OpenSpec.upto qualityBoundsSpec)

/-- 'multihoplaw10.QualityForms', WHERE WHAT IT READS IS OF BULK AT MOST 1048576: true; the input reads as it did. -/
def qualityFormsUptoRow : OpenClaim := { program := "ytopalajoinkgkaa", sum := "5e106def15e28dd1f1f372e2371fef7500fb6d4204de8ee4a0bbaf96625aaeef", func := "multihop/multihoplaw10.QualityForms", spec := "qualityForms", apart := false, narrowed := true }
def QualityFormsUptoSaid : Prop := qualityFormsUptoRow.holds Try.pinned (OpenSpec.upto qualityFormsSpec)

/-- 'multihoplaw10.QualityPlays', WHERE WHAT IT READS IS OF BULK AT MOST 1048576: true; the input reads as it did. -/
def qualityPlaysUptoRow : OpenClaim := { program := "ytopalajoinkgkaa", sum := "5e106def15e28dd1f1f372e2371fef7500fb6d4204de8ee4a0bbaf96625aaeef", func := "multihop/multihoplaw10.QualityPlays", spec := "qualityPlays", apart := false, narrowed := true }
def QualityPlaysUptoSaid : Prop := qualityPlaysUptoRow.holds Try.pinned (OpenSpec.upto qualityPlaysSpec)

/-- 'multihoplaw10.QualityPerfect', WHERE WHAT IT READS IS OF BULK AT MOST 1048576: true; the input reads as it did. -/
def qualityPerfectUptoRow : OpenClaim := { program := "ytopalajoinkgkaa", sum := "5e106def15e28dd1f1f372e2371fef7500fb6d4204de8ee4a0bbaf96625aaeef", func := "multihop/multihoplaw10.QualityPerfect", spec := "qualityPerfect", apart := false, narrowed := true }
def QualityPerfectUptoSaid : Prop := qualityPerfectUptoRow.holds Try.pinned (OpenSpec.upto qualityPerfectSpec)

end Rows
end Go.Proofs.Ytopalajoinkgkaa
