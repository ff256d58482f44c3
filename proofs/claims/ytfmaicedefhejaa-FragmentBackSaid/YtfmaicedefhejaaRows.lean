/-
  No cell of these rows narrows 'for every input' (looked for: loops, veiled, ifaces, maps, wideKeys, modest, calm, conditions, laid).
  DERIVED. THE GIVEN ROWS OF THIS SEAT. 7 by the template 'for every input the law returns true; each argument reads behind the call as it read before'; 0 by the template 'total and deterministic' (their statements: YtfmaicedefhejaaTotals.lean).
  GIVEN WITH THE SEED: the statements are not yours to turn. If you find one false, say at which input.
  Laid BY PROGRAM, IN A SANDBOX (cutbox-rows.mjs): the forced cells as the released guide's own fill.sh prints them over the translation bbf02ae4d4009070… (all of the seat's roots in one cut). By AI agents, Wed Nov 11 2026. No macro, syntax, notation, axiom, sorry.
-/
import Derived.Test.YtfmaicedefhejaaChecked
import GoSem.Claim
import GoSem.ClaimJoined
import GoSem.ClaimMapViews
import Derived.JoinedTies
import Derived.KernelRfl
namespace Go.Proofs.Ytfmaicedefhejaa
/- THE CELL 'sum', in the pinned program and in every row, IS THE sha256 OF THE DUMP (.gsa) THAT YtfmaicedefhejaaProg.lean LOADS. Nothing in Lean hashes anything: it is a label: what it is worth is what the hold of that sum in a sandbox is worth. -/
noncomputable def Try.pinned : Pinned := { name := "ytfmaicedefhejaa", sum := "bbf02ae4d400907068dfac6199ae85b61e4fbf2f4ffeae27eb6e2d2645c0d5b1", checked := Try.checked }
namespace Rows
def none {H : Type} : Left H := { results := [], args := [] }

/-- 'multihoplaw16.FragmentSplits': WHATEVER THE INPUT: true; the input reads as it did. -/
def fragmentSplitsSpec : ChangeSpec := { name := "fragmentSplits", fn := fun _ => fun
  | [d1, d2, d3, d4, d5] => { results := [.lit (.bool true)], args := [d1, d2, d3, d4, d5] }
  | _ => none }
def fragmentSplitsRow : OpenClaim := { program := "ytfmaicedefhejaa", sum := "bbf02ae4d400907068dfac6199ae85b61e4fbf2f4ffeae27eb6e2d2645c0d5b1", func := "multihop/multihoplaw16.FragmentSplits", spec := "fragmentSplits", apart := false }
def FragmentSplitsSaid : Prop := fragmentSplitsRow.holds Try.pinned (OpenSpec.ofChange fragmentSplitsSpec)

/-- ITS FALSE NEIGHBOUR: 'it returns false'. Refute it at one input. -/
def fragmentSplitsWrong : ChangeSpec := { name := "fragmentSplits", fn := fun _ => fun
  | [d1, d2, d3, d4, d5] => { results := [.lit (.bool false)], args := [d1, d2, d3, d4, d5] }
  | _ => none }
def FragmentSplitsWrongFalsely : Prop := fragmentSplitsRow.holds Try.pinned (OpenSpec.ofChange fragmentSplitsWrong)

/-- 'multihoplaw16.FragmentJoins': WHATEVER THE INPUT: true; the input reads as it did. -/
def fragmentJoinsSpec : ChangeSpec := { name := "fragmentJoins", fn := fun _ => fun
  | [d1, d2] => { results := [.lit (.bool true)], args := [d1, d2] }
  | _ => none }
def fragmentJoinsRow : OpenClaim := { program := "ytfmaicedefhejaa", sum := "bbf02ae4d400907068dfac6199ae85b61e4fbf2f4ffeae27eb6e2d2645c0d5b1", func := "multihop/multihoplaw16.FragmentJoins", spec := "fragmentJoins", apart := false }
def FragmentJoinsSaid : Prop := fragmentJoinsRow.holds Try.pinned (OpenSpec.ofChange fragmentJoinsSpec)

/-- ITS FALSE NEIGHBOUR: 'it returns false'. Refute it at one input. -/
def fragmentJoinsWrong : ChangeSpec := { name := "fragmentJoins", fn := fun _ => fun
  | [d1, d2] => { results := [.lit (.bool false)], args := [d1, d2] }
  | _ => none }
def FragmentJoinsWrongFalsely : Prop := fragmentJoinsRow.holds Try.pinned (OpenSpec.ofChange fragmentJoinsWrong)

/-- 'multihoplaw16.FragmentFull': WHATEVER THE INPUT: true; the input reads as it did. -/
def fragmentFullSpec : ChangeSpec := { name := "fragmentFull", fn := fun _ => fun
  | [d1, d2, d3] => { results := [.lit (.bool true)], args := [d1, d2, d3] }
  | _ => none }
def fragmentFullRow : OpenClaim := { program := "ytfmaicedefhejaa", sum := "bbf02ae4d400907068dfac6199ae85b61e4fbf2f4ffeae27eb6e2d2645c0d5b1", func := "multihop/multihoplaw16.FragmentFull", spec := "fragmentFull", apart := false }
def FragmentFullSaid : Prop := fragmentFullRow.holds Try.pinned (OpenSpec.ofChange fragmentFullSpec)

/-- ITS FALSE NEIGHBOUR: 'it returns false'. Refute it at one input. -/
def fragmentFullWrong : ChangeSpec := { name := "fragmentFull", fn := fun _ => fun
  | [d1, d2, d3] => { results := [.lit (.bool false)], args := [d1, d2, d3] }
  | _ => none }
def FragmentFullWrongFalsely : Prop := fragmentFullRow.holds Try.pinned (OpenSpec.ofChange fragmentFullWrong)

/-- 'multihoplaw16.FragmentForms': WHATEVER THE INPUT: true; the input reads as it did. -/
def fragmentFormsSpec : ChangeSpec := { name := "fragmentForms", fn := fun _ => fun
  | [d1, d2, d3] => { results := [.lit (.bool true)], args := [d1, d2, d3] }
  | _ => none }
def fragmentFormsRow : OpenClaim := { program := "ytfmaicedefhejaa", sum := "bbf02ae4d400907068dfac6199ae85b61e4fbf2f4ffeae27eb6e2d2645c0d5b1", func := "multihop/multihoplaw16.FragmentForms", spec := "fragmentForms", apart := false }
def FragmentFormsSaid : Prop := fragmentFormsRow.holds Try.pinned (OpenSpec.ofChange fragmentFormsSpec)

/-- ITS FALSE NEIGHBOUR: 'it returns false'. Refute it at one input. -/
def fragmentFormsWrong : ChangeSpec := { name := "fragmentForms", fn := fun _ => fun
  | [d1, d2, d3] => { results := [.lit (.bool false)], args := [d1, d2, d3] }
  | _ => none }
def FragmentFormsWrongFalsely : Prop := fragmentFormsRow.holds Try.pinned (OpenSpec.ofChange fragmentFormsWrong)

/-- 'multihoplaw16.FragmentReads': WHATEVER THE INPUT: true; the input reads as it did. -/
def fragmentReadsSpec : ChangeSpec := { name := "fragmentReads", fn := fun _ => fun
  | [d1, d2, d3, d4, d5] => { results := [.lit (.bool true)], args := [d1, d2, d3, d4, d5] }
  | _ => none }
def fragmentReadsRow : OpenClaim := { program := "ytfmaicedefhejaa", sum := "bbf02ae4d400907068dfac6199ae85b61e4fbf2f4ffeae27eb6e2d2645c0d5b1", func := "multihop/multihoplaw16.FragmentReads", spec := "fragmentReads", apart := false }
def FragmentReadsSaid : Prop := fragmentReadsRow.holds Try.pinned (OpenSpec.ofChange fragmentReadsSpec)

/-- ITS FALSE NEIGHBOUR: 'it returns false'. Refute it at one input. -/
def fragmentReadsWrong : ChangeSpec := { name := "fragmentReads", fn := fun _ => fun
  | [d1, d2, d3, d4, d5] => { results := [.lit (.bool false)], args := [d1, d2, d3, d4, d5] }
  | _ => none }
def FragmentReadsWrongFalsely : Prop := fragmentReadsRow.holds Try.pinned (OpenSpec.ofChange fragmentReadsWrong)

/-- 'multihoplaw16.FragmentBack': WHATEVER THE INPUT: true; the input reads as it did. -/
def fragmentBackSpec : ChangeSpec := { name := "fragmentBack", fn := fun _ => fun
  | [d1, d2, d3, d4, d5] => { results := [.lit (.bool true)], args := [d1, d2, d3, d4, d5] }
  | _ => none }
def fragmentBackRow : OpenClaim := { program := "ytfmaicedefhejaa", sum := "bbf02ae4d400907068dfac6199ae85b61e4fbf2f4ffeae27eb6e2d2645c0d5b1", func := "multihop/multihoplaw16.FragmentBack", spec := "fragmentBack", apart := false }
def FragmentBackSaid : Prop := fragmentBackRow.holds Try.pinned (OpenSpec.ofChange fragmentBackSpec)

/-- ITS FALSE NEIGHBOUR: 'it returns false'. Refute it at one input. -/
def fragmentBackWrong : ChangeSpec := { name := "fragmentBack", fn := fun _ => fun
  | [d1, d2, d3, d4, d5] => { results := [.lit (.bool false)], args := [d1, d2, d3, d4, d5] }
  | _ => none }
def FragmentBackWrongFalsely : Prop := fragmentBackRow.holds Try.pinned (OpenSpec.ofChange fragmentBackWrong)

/-- 'multihoplaw16.FragmentCanonical': WHATEVER THE INPUT: true; the input reads as it did. -/
def fragmentCanonicalSpec : ChangeSpec := { name := "fragmentCanonical", fn := fun _ => fun
  | [d1, d2, d3] => { results := [.lit (.bool true)], args := [d1, d2, d3] }
  | _ => none }
def fragmentCanonicalRow : OpenClaim := { program := "ytfmaicedefhejaa", sum := "bbf02ae4d400907068dfac6199ae85b61e4fbf2f4ffeae27eb6e2d2645c0d5b1", func := "multihop/multihoplaw16.FragmentCanonical", spec := "fragmentCanonical", apart := false }
def FragmentCanonicalSaid : Prop := fragmentCanonicalRow.holds Try.pinned (OpenSpec.ofChange fragmentCanonicalSpec)

/-- ITS FALSE NEIGHBOUR: 'it returns false'. Refute it at one input. -/
def fragmentCanonicalWrong : ChangeSpec := { name := "fragmentCanonical", fn := fun _ => fun
  | [d1, d2, d3] => { results := [.lit (.bool false)], args := [d1, d2, d3] }
  | _ => none }
def FragmentCanonicalWrongFalsely : Prop := fragmentCanonicalRow.holds Try.pinned (OpenSpec.ofChange fragmentCanonicalWrong)

/- THE SECOND FORM. 'bulk': how many values and letters a reading holds, each counted each time it is reached (what is shared counts as often as it is met; a slice's spare places count too). A statement '..UptoSaid' is the law's where the arguments, and the package variables that the reading takes, are together of bulk at most 1048576: NARROWER than '..Said'. Prove '..Said' where nothing that the law and all that it calls make is longer than what came in: it says more and counts as full. Else prove '..UptoSaid'. A law counts once. -/
mutual
def uptoBulk {H : Type} : DataW H → Nat
  | .lit (.string bytes) => bytes.length + 1
  | .lit _ => 1
  | .nil => 1
  | .ptr d => uptoBulk d + 1
  | .slice elems spare => uptoBulkAll elems + uptoBulkAll spare + 1
  | .agg parts => uptoBulkAll parts + 1
  | .iface _ d => uptoBulk d + 1
  | .map entries => uptoBulkEntries entries + 1
  | .held _ => 1
def uptoBulkAll {H : Type} : List (DataW H) → Nat
  | [] => 0
  | d :: r => uptoBulk d + uptoBulkAll r
def uptoBulkEntries {H : Type} : List (Lit × DataW H) → Nat
  | [] => 0
  | x :: r => uptoBulkEntry x + uptoBulkEntries r
def uptoBulkEntry {H : Type} : Lit × DataW H → Nat
  | (.string bytes, d) => bytes.length + uptoBulk d + 1
  | (_, d) => uptoBulk d + 1
 end
def uptoSmall : (H : Type) → List (DataW H) → Bool := fun _ ds => decide (uptoBulkAll ds ≤ 1048576)
def OpenSpec.upto (s : _root_.Go.ChangeSpec) : _root_.Go.OpenSpec := { _root_.Go.OpenSpec.ofChange s with cond := some uptoSmall }

/-- 'multihoplaw16.FragmentSplits', WHERE WHAT IT READS IS OF BULK AT MOST 1048576: true; the input reads as it did. -/
def fragmentSplitsUptoRow : OpenClaim := { program := "ytfmaicedefhejaa", sum := "bbf02ae4d400907068dfac6199ae85b61e4fbf2f4ffeae27eb6e2d2645c0d5b1", func := "multihop/multihoplaw16.FragmentSplits", spec := "fragmentSplits", apart := false, narrowed := true }
def FragmentSplitsUptoSaid : Prop := fragmentSplitsUptoRow.holds Try.pinned (OpenSpec.upto fragmentSplitsSpec)

/-- 'multihoplaw16.FragmentJoins', WHERE WHAT IT READS IS OF BULK AT MOST 1048576: true; the input reads as it did. -/
def fragmentJoinsUptoRow : OpenClaim := { program := "ytfmaicedefhejaa", sum := "bbf02ae4d400907068dfac6199ae85b61e4fbf2f4ffeae27eb6e2d2645c0d5b1", func := "multihop/multihoplaw16.FragmentJoins", spec := "fragmentJoins", apart := false, narrowed := true }
def FragmentJoinsUptoSaid : Prop := fragmentJoinsUptoRow.holds Try.pinned (OpenSpec.upto fragmentJoinsSpec)

/-- 'multihoplaw16.FragmentFull', WHERE WHAT IT READS IS OF BULK AT MOST 1048576: true; the input reads as it did. -/
def fragmentFullUptoRow : OpenClaim := { program := "ytfmaicedefhejaa", sum := "bbf02ae4d400907068dfac6199ae85b61e4fbf2f4ffeae27eb6e2d2645c0d5b1", func := "multihop/multihoplaw16.FragmentFull", spec := "fragmentFull", apart := false, narrowed := true }
def FragmentFullUptoSaid : Prop := fragmentFullUptoRow.holds Try.pinned (OpenSpec.upto fragmentFullSpec)

/-- 'multihoplaw16.FragmentForms', WHERE WHAT IT READS IS OF BULK AT MOST 1048576: true; the input reads as it did. -/
def fragmentFormsUptoRow : OpenClaim := { program := "ytfmaicedefhejaa", sum := "bbf02ae4d400907068dfac6199ae85b61e4fbf2f4ffeae27eb6e2d2645c0d5b1", func := "multihop/multihoplaw16.FragmentForms", spec := "fragmentForms", apart := false, narrowed := true }
def FragmentFormsUptoSaid : Prop := fragmentFormsUptoRow.holds Try.pinned (OpenSpec.upto fragmentFormsSpec)

/-- 'multihoplaw16.FragmentReads', WHERE WHAT IT READS IS OF BULK AT MOST 1048576: true; the input reads as it did. -/
def fragmentReadsUptoRow : OpenClaim := { program := "ytfmaicedefhejaa", sum := "bbf02ae4d400907068dfac6199ae85b61e4fbf2f4ffeae27eb6e2d2645c0d5b1", func := "multihop/multihoplaw16.FragmentReads", spec := "fragmentReads", apart := false, narrowed := true }
def FragmentReadsUptoSaid : Prop := fragmentReadsUptoRow.holds Try.pinned (OpenSpec.upto fragmentReadsSpec)

/-- 'multihoplaw16.FragmentBack', WHERE WHAT IT READS IS OF BULK AT MOST 1048576: true; the input reads as it did. -/
def fragmentBackUptoRow : OpenClaim := { program := "ytfmaicedefhejaa", sum := "bbf02ae4d400907068dfac6199ae85b61e4fbf2f4ffeae27eb6e2d2645c0d5b1", func := "multihop/multihoplaw16.FragmentBack", spec := "fragmentBack", apart := false, narrowed := true }
def FragmentBackUptoSaid : Prop := fragmentBackUptoRow.holds Try.pinned (OpenSpec.upto fragmentBackSpec)

/-- 'multihoplaw16.FragmentCanonical', WHERE WHAT IT READS IS OF BULK AT MOST 1048576: true; the input reads as it did. -/
def fragmentCanonicalUptoRow : OpenClaim := { program := "ytfmaicedefhejaa", sum := "bbf02ae4d400907068dfac6199ae85b61e4fbf2f4ffeae27eb6e2d2645c0d5b1", func := "multihop/multihoplaw16.FragmentCanonical", spec := "fragmentCanonical", apart := false, narrowed := true }
def FragmentCanonicalUptoSaid : Prop := fragmentCanonicalUptoRow.holds Try.pinned (OpenSpec.upto fragmentCanonicalSpec)

end Rows
end Go.Proofs.Ytfmaicedefhejaa
