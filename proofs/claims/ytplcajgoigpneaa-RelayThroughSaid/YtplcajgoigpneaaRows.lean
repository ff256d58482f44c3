/-
  No cell of these rows narrows 'for every input' (looked for: loops, veiled, ifaces, maps, wideKeys, modest, calm, conditions, laid).
  DERIVED. THE GIVEN ROWS OF THIS SEAT. 5 by the template 'for every input the law returns true; each argument reads behind the call as it read before'; 0 by the template 'total and deterministic' (their statements: YtplcajgoigpneaaTotals.lean).
  GIVEN WITH THE SEED: the statements are not yours to turn. If you find one false, say at which input.
  Laid BY PROGRAM, IN A SANDBOX (cutbox-rows.mjs): the forced cells as the released guide's own fill.sh prints them over the translation 88fb49e1a3d97ccf… (all of the seat's roots in one cut). By AI agents, Wed Nov 11 2026. No macro, syntax, notation, axiom, sorry.
-/
import Derived.Test.YtplcajgoigpneaaChecked
import GoSem.Claim
import GoSem.ClaimJoined
import GoSem.ClaimMapViews
import Derived.JoinedTies
import Derived.KernelRfl
namespace Go.Proofs.Ytplcajgoigpneaa
/- THE CELL 'sum', in the pinned program and in every row, IS THE sha256 OF THE DUMP (.gsa) THAT YtplcajgoigpneaaProg.lean LOADS. Nothing in Lean hashes anything: it is a label: what it is worth is what the hold of that sum in a sandbox is worth. -/
noncomputable def Try.pinned : Pinned := { name := "ytplcajgoigpneaa", sum := "88fb49e1a3d97ccfeaf5b25860b932a4ef0aa632cea95683450a1a1a40d4930b", checked := Try.checked }
namespace Rows
def none {H : Type} : Left H := { results := [], args := [] }

/-- 'multihoplaw18.RelayForms': WHATEVER THE INPUT: true; the input reads as it did. -/
def relayFormsSpec : ChangeSpec := { name := "relayForms", fn := fun _ => fun
  | [d1, d2, d3, d4, d5, d6, d7] => { results := [.lit (.bool true)], args := [d1, d2, d3, d4, d5, d6, d7] }
  | _ => none }
def relayFormsRow : OpenClaim := { program := "ytplcajgoigpneaa", sum := "88fb49e1a3d97ccfeaf5b25860b932a4ef0aa632cea95683450a1a1a40d4930b", func := "multihop/multihoplaw18.RelayForms", spec := "relayForms", unfollowed := true, recurses := true, plainKeys := false, apart := false }
def RelayFormsSaid : Prop := relayFormsRow.holds Try.pinned (OpenSpec.ofChange relayFormsSpec)

/-- ITS FALSE NEIGHBOUR: 'it returns false'. Refute it at one input. -/
def relayFormsWrong : ChangeSpec := { name := "relayForms", fn := fun _ => fun
  | [d1, d2, d3, d4, d5, d6, d7] => { results := [.lit (.bool false)], args := [d1, d2, d3, d4, d5, d6, d7] }
  | _ => none }
def RelayFormsWrongFalsely : Prop := relayFormsRow.holds Try.pinned (OpenSpec.ofChange relayFormsWrong)

/-- 'multihoplaw18.RelayPlays': WHATEVER THE INPUT: true; the input reads as it did. -/
def relayPlaysSpec : ChangeSpec := { name := "relayPlays", fn := fun _ => fun
  | [d] => { results := [.lit (.bool true)], args := [d] }
  | _ => none }
def relayPlaysRow : OpenClaim := { program := "ytplcajgoigpneaa", sum := "88fb49e1a3d97ccfeaf5b25860b932a4ef0aa632cea95683450a1a1a40d4930b", func := "multihop/multihoplaw18.RelayPlays", spec := "relayPlays", unfollowed := true, recurses := true, plainKeys := false, apart := false }
def RelayPlaysSaid : Prop := relayPlaysRow.holds Try.pinned (OpenSpec.ofChange relayPlaysSpec)

/-- ITS FALSE NEIGHBOUR: 'it returns false'. Refute it at one input. -/
def relayPlaysWrong : ChangeSpec := { name := "relayPlays", fn := fun _ => fun
  | [d] => { results := [.lit (.bool false)], args := [d] }
  | _ => none }
def RelayPlaysWrongFalsely : Prop := relayPlaysRow.holds Try.pinned (OpenSpec.ofChange relayPlaysWrong)

/-- 'multihoplaw18.RelayThrough': WHATEVER THE INPUT: true; the input reads as it did. -/
def relayThroughSpec : ChangeSpec := { name := "relayThrough", fn := fun _ => fun
  | [d1, d2, d3] => { results := [.lit (.bool true)], args := [d1, d2, d3] }
  | _ => none }
def relayThroughRow : OpenClaim := { program := "ytplcajgoigpneaa", sum := "88fb49e1a3d97ccfeaf5b25860b932a4ef0aa632cea95683450a1a1a40d4930b", func := "multihop/multihoplaw18.RelayThrough", spec := "relayThrough", unfollowed := true, recurses := true, plainKeys := false, apart := false }
def RelayThroughSaid : Prop := relayThroughRow.holds Try.pinned (OpenSpec.ofChange relayThroughSpec)

/-- ITS FALSE NEIGHBOUR: 'it returns false'. Refute it at one input. -/
def relayThroughWrong : ChangeSpec := { name := "relayThrough", fn := fun _ => fun
  | [d1, d2, d3] => { results := [.lit (.bool false)], args := [d1, d2, d3] }
  | _ => none }
def RelayThroughWrongFalsely : Prop := relayThroughRow.holds Try.pinned (OpenSpec.ofChange relayThroughWrong)

/-- 'multihoplaw18.RelayMissing': WHATEVER THE INPUT: true; the input reads as it did. -/
def relayMissingSpec : ChangeSpec := { name := "relayMissing", fn := fun _ => fun
  | [d1, d2, d3] => { results := [.lit (.bool true)], args := [d1, d2, d3] }
  | _ => none }
def relayMissingRow : OpenClaim := { program := "ytplcajgoigpneaa", sum := "88fb49e1a3d97ccfeaf5b25860b932a4ef0aa632cea95683450a1a1a40d4930b", func := "multihop/multihoplaw18.RelayMissing", spec := "relayMissing", unfollowed := true, recurses := true, plainKeys := false, apart := false }
def RelayMissingSaid : Prop := relayMissingRow.holds Try.pinned (OpenSpec.ofChange relayMissingSpec)

/-- ITS FALSE NEIGHBOUR: 'it returns false'. Refute it at one input. -/
def relayMissingWrong : ChangeSpec := { name := "relayMissing", fn := fun _ => fun
  | [d1, d2, d3] => { results := [.lit (.bool false)], args := [d1, d2, d3] }
  | _ => none }
def RelayMissingWrongFalsely : Prop := relayMissingRow.holds Try.pinned (OpenSpec.ofChange relayMissingWrong)

/-- 'multihoplaw18.RelayApart': WHATEVER THE INPUT: true; the input reads as it did. -/
def relayApartSpec : ChangeSpec := { name := "relayApart", fn := fun _ => fun
  | [d] => { results := [.lit (.bool true)], args := [d] }
  | _ => none }
def relayApartRow : OpenClaim := { program := "ytplcajgoigpneaa", sum := "88fb49e1a3d97ccfeaf5b25860b932a4ef0aa632cea95683450a1a1a40d4930b", func := "multihop/multihoplaw18.RelayApart", spec := "relayApart", unfollowed := true, recurses := true, plainKeys := false, apart := false }
def RelayApartSaid : Prop := relayApartRow.holds Try.pinned (OpenSpec.ofChange relayApartSpec)

/-- ITS FALSE NEIGHBOUR: 'it returns false'. Refute it at one input. -/
def relayApartWrong : ChangeSpec := { name := "relayApart", fn := fun _ => fun
  | [d] => { results := [.lit (.bool false)], args := [d] }
  | _ => none }
def RelayApartWrongFalsely : Prop := relayApartRow.holds Try.pinned (OpenSpec.ofChange relayApartWrong)

/- THE SECOND FORM. 'bulk': how many values and letters a reading holds, each counted each time it is reached (what is shared counts as often as it is met; a slice's spare places count too). A statement '..UptoSaid' is the law's where the arguments, and the package variables that the reading takes, are together of bulk at most 1048576: NARROWER than '..Said'. Prove '..Said' where nothing that the law and all that it calls make is longer than what came in: it says more and counts as full. Else prove '..UptoSaid'. A law counts once. -/
mutual
def uptoBulk {H : Type} : DataW H → Nat
  | .lit (.string bytes) => bytes.length + 1
  | .lit _ => 1
  | .nil => 1
  | .ptr d => uptoBulk d + 1
  | .slice elems spare => uptoBulkAll elems + uptoBulkAll spare + 1
  | .agg parts => uptoBulkAll parts + 1
  | .iface _ d => uptoBulk d + 1
  | .map entries => uptoBulkEntries entries + 1
  | .held _ => 1
def uptoBulkAll {H : Type} : List (DataW H) → Nat
  | [] => 0
  | d :: r => uptoBulk d + uptoBulkAll r
def uptoBulkEntries {H : Type} : List (Lit × DataW H) → Nat
  | [] => 0
  | x :: r => uptoBulkEntry x + uptoBulkEntries r
def uptoBulkEntry {H : Type} : Lit × DataW H → Nat
  | (.string bytes, d) => bytes.length + uptoBulk d + 1
  | (_, d) => uptoBulk d + 1
 end
def uptoSmall : (H : Type) → List (DataW H) → Bool := fun _ ds => decide (uptoBulkAll ds ≤ 1048576)
def OpenSpec.upto (s : _root_.Go.ChangeSpec) : _root_.Go.OpenSpec := { _root_.Go.OpenSpec.ofChange s with cond := some uptoSmall }

/-- 'multihoplaw18.RelayForms', WHERE WHAT IT READS IS OF BULK AT MOST 1048576: true; the input reads as it did. -/
def relayFormsUptoRow : OpenClaim := { program := "ytplcajgoigpneaa", sum := "88fb49e1a3d97ccfeaf5b25860b932a4ef0aa632cea95683450a1a1a40d4930b", func := "multihop/multihoplaw18.RelayForms", spec := "relayForms", unfollowed := true, recurses := true, plainKeys := false, apart := false, narrowed := true }
def RelayFormsUptoSaid : Prop := relayFormsUptoRow.holds Try.pinned (OpenSpec.upto relayFormsSpec)

/-- 'multihoplaw18.RelayPlays', WHERE WHAT IT READS IS OF BULK AT MOST 1048576: true; the input reads as it did. -/
def relayPlaysUptoRow : OpenClaim := { program := "ytplcajgoigpneaa", sum := "88fb49e1a3d97ccfeaf5b25860b932a4ef0aa632cea95683450a1a1a40d4930b", func := "multihop/multihoplaw18.RelayPlays", spec := "relayPlays", unfollowed := true, recurses := true, plainKeys := false, apart := false, narrowed := true }
def RelayPlaysUptoSaid : Prop := relayPlaysUptoRow.holds Try.pinned (OpenSpec.upto relayPlaysSpec)

/-- 'multihoplaw18.RelayThrough', WHERE WHAT IT READS IS OF BULK AT MOST 1048576: true; the input reads as it did. -/
def relayThroughUptoRow : OpenClaim := { program := "ytplcajgoigpneaa", sum := "88fb49e1a3d97ccfeaf5b25860b932a4ef0aa632cea95683450a1a1a40d4930b", func := "multihop/multihoplaw18.RelayThrough", spec := "relayThrough", unfollowed := true, recurses := true, plainKeys := false, apart := false, narrowed := true }
def RelayThroughUptoSaid : Prop := relayThroughUptoRow.holds Try.pinned (OpenSpec.upto relayThroughSpec)

/-- 'multihoplaw18.RelayMissing', WHERE WHAT IT READS IS OF BULK AT MOST 1048576: true; the input reads as it did. -/
def relayMissingUptoRow : OpenClaim := { program := "ytplcajgoigpneaa", sum := "88fb49e1a3d97ccfeaf5b25860b932a4ef0aa632cea95683450a1a1a40d4930b", func := "multihop/multihoplaw18.RelayMissing", spec := "relayMissing", unfollowed := true, recurses := true, plainKeys := false, apart := false, narrowed := true }
def RelayMissingUptoSaid : Prop := relayMissingUptoRow.holds Try.pinned (OpenSpec.upto relayMissingSpec)

/-- 'multihoplaw18.RelayApart', WHERE WHAT IT READS IS OF BULK AT MOST 1048576: true; the input reads as it did. -/
def relayApartUptoRow : OpenClaim := { program := "ytplcajgoigpneaa", sum := "88fb49e1a3d97ccfeaf5b25860b932a4ef0aa632cea95683450a1a1a40d4930b", func := "multihop/multihoplaw18.RelayApart", spec := "relayApart", unfollowed := true, recurses := true, plainKeys := false, apart := false, narrowed := true }
def RelayApartUptoSaid : Prop := relayApartUptoRow.holds Try.pinned (OpenSpec.upto relayApartSpec)

end Rows
end Go.Proofs.Ytplcajgoigpneaa
