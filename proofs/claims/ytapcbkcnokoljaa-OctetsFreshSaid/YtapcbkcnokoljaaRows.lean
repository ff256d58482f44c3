/-
  No cell of these rows narrows 'for every input' (looked for: loops, veiled, ifaces, maps, wideKeys, modest, calm, conditions, laid).
  DERIVED. THE GIVEN ROWS OF THIS SEAT. 7 by the template 'for every input the law returns true; each argument reads behind the call as it read before'; 0 by the template 'total and deterministic' (their statements: YtapcbkcnokoljaaTotals.lean).
  GIVEN WITH THE SEED: the statements are not yours to turn. If you find one false, say at which input.
  Laid BY PROGRAM, IN A SANDBOX (cutbox-rows.mjs): the forced cells as the released guide's own fill.sh prints them over the translation 624bbfdadbcd5d09… (all of the seat's roots in one cut). By AI agents, Wed Nov 11 2026. No macro, syntax, notation, axiom, sorry.
-/
import Derived.Test.YtapcbkcnokoljaaChecked
import GoSem.Claim
import GoSem.ClaimJoined
import GoSem.ClaimMapViews
import Derived.JoinedTies
import Derived.KernelRfl
namespace Go.Proofs.Ytapcbkcnokoljaa
/- THE CELL 'sum', in the pinned program and in every row, IS THE sha256 OF THE DUMP (.gsa) THAT YtapcbkcnokoljaaProg.lean LOADS. Nothing in Lean hashes anything: it is a label: what it is worth is what the hold of that sum in a sandbox is worth. -/
noncomputable def Try.pinned : Pinned := { name := "ytapcbkcnokoljaa", sum := "624bbfdadbcd5d09e192e03aed01c5c0175a37522259dc13866a0c17fb4fddab", checked := Try.checked }
namespace Rows
def none {H : Type} : Left H := { results := [], args := [] }

/-- 'multihoplaw01.OctetsReads': WHATEVER THE INPUT: true; the input reads as it did. -/
def octetsReadsSpec : ChangeSpec := { name := "octetsReads", fn := fun _ => fun
  | [d1, d2, d3] => { results := [.lit (.bool true)], args := [d1, d2, d3] }
  | _ => none }
def octetsReadsRow : OpenClaim := { program := "ytapcbkcnokoljaa", sum := "624bbfdadbcd5d09e192e03aed01c5c0175a37522259dc13866a0c17fb4fddab", func := "multihop/multihoplaw01.OctetsReads", spec := "octetsReads", apart := false }
def OctetsReadsSaid : Prop := octetsReadsRow.holds Try.pinned (OpenSpec.ofChange octetsReadsSpec)

/-- ITS FALSE NEIGHBOUR: 'it returns false'. Refute it at one input. -/
def octetsReadsWrong : ChangeSpec := { name := "octetsReads", fn := fun _ => fun
  | [d1, d2, d3] => { results := [.lit (.bool false)], args := [d1, d2, d3] }
  | _ => none }
def OctetsReadsWrongFalsely : Prop := octetsReadsRow.holds Try.pinned (OpenSpec.ofChange octetsReadsWrong)

/-- 'multihoplaw01.OctetsSplits': WHATEVER THE INPUT: true; the input reads as it did. -/
def octetsSplitsSpec : ChangeSpec := { name := "octetsSplits", fn := fun _ => fun
  | [d1, d2, d3, d4] => { results := [.lit (.bool true)], args := [d1, d2, d3, d4] }
  | _ => none }
def octetsSplitsRow : OpenClaim := { program := "ytapcbkcnokoljaa", sum := "624bbfdadbcd5d09e192e03aed01c5c0175a37522259dc13866a0c17fb4fddab", func := "multihop/multihoplaw01.OctetsSplits", spec := "octetsSplits", apart := false }
def OctetsSplitsSaid : Prop := octetsSplitsRow.holds Try.pinned (OpenSpec.ofChange octetsSplitsSpec)

/-- ITS FALSE NEIGHBOUR: 'it returns false'. Refute it at one input. -/
def octetsSplitsWrong : ChangeSpec := { name := "octetsSplits", fn := fun _ => fun
  | [d1, d2, d3, d4] => { results := [.lit (.bool false)], args := [d1, d2, d3, d4] }
  | _ => none }
def OctetsSplitsWrongFalsely : Prop := octetsSplitsRow.holds Try.pinned (OpenSpec.ofChange octetsSplitsWrong)

/-- 'multihoplaw01.OctetsHexes': WHATEVER THE INPUT: true; the input reads as it did. -/
def octetsHexesSpec : ChangeSpec := { name := "octetsHexes", fn := fun _ => fun
  | [d1, d2, d3, d4] => { results := [.lit (.bool true)], args := [d1, d2, d3, d4] }
  | _ => none }
def octetsHexesRow : OpenClaim := { program := "ytapcbkcnokoljaa", sum := "624bbfdadbcd5d09e192e03aed01c5c0175a37522259dc13866a0c17fb4fddab", func := "multihop/multihoplaw01.OctetsHexes", spec := "octetsHexes", apart := false }
def OctetsHexesSaid : Prop := octetsHexesRow.holds Try.pinned (OpenSpec.ofChange octetsHexesSpec)

/-- ITS FALSE NEIGHBOUR: 'it returns false'. Refute it at one input. -/
def octetsHexesWrong : ChangeSpec := { name := "octetsHexes", fn := fun _ => fun
  | [d1, d2, d3, d4] => { results := [.lit (.bool false)], args := [d1, d2, d3, d4] }
  | _ => none }
def OctetsHexesWrongFalsely : Prop := octetsHexesRow.holds Try.pinned (OpenSpec.ofChange octetsHexesWrong)

/-- 'multihoplaw01.OctetsHexBack': WHATEVER THE INPUT: true; the input reads as it did. -/
def octetsHexBackSpec : ChangeSpec := { name := "octetsHexBack", fn := fun _ => fun
  | [d1, d2] => { results := [.lit (.bool true)], args := [d1, d2] }
  | _ => none }
def octetsHexBackRow : OpenClaim := { program := "ytapcbkcnokoljaa", sum := "624bbfdadbcd5d09e192e03aed01c5c0175a37522259dc13866a0c17fb4fddab", func := "multihop/multihoplaw01.OctetsHexBack", spec := "octetsHexBack", apart := false }
def OctetsHexBackSaid : Prop := octetsHexBackRow.holds Try.pinned (OpenSpec.ofChange octetsHexBackSpec)

/-- ITS FALSE NEIGHBOUR: 'it returns false'. Refute it at one input. -/
def octetsHexBackWrong : ChangeSpec := { name := "octetsHexBack", fn := fun _ => fun
  | [d1, d2] => { results := [.lit (.bool false)], args := [d1, d2] }
  | _ => none }
def OctetsHexBackWrongFalsely : Prop := octetsHexBackRow.holds Try.pinned (OpenSpec.ofChange octetsHexBackWrong)

/-- 'multihoplaw01.OctetsFresh': WHATEVER THE INPUT: true; the input reads as it did. -/
def octetsFreshSpec : ChangeSpec := { name := "octetsFresh", fn := fun _ => fun
  | [d1, d2, d3] => { results := [.lit (.bool true)], args := [d1, d2, d3] }
  | _ => none }
def octetsFreshRow : OpenClaim := { program := "ytapcbkcnokoljaa", sum := "624bbfdadbcd5d09e192e03aed01c5c0175a37522259dc13866a0c17fb4fddab", func := "multihop/multihoplaw01.OctetsFresh", spec := "octetsFresh", apart := false }
def OctetsFreshSaid : Prop := octetsFreshRow.holds Try.pinned (OpenSpec.ofChange octetsFreshSpec)

/-- ITS FALSE NEIGHBOUR: 'it returns false'. Refute it at one input. -/
def octetsFreshWrong : ChangeSpec := { name := "octetsFresh", fn := fun _ => fun
  | [d1, d2, d3] => { results := [.lit (.bool false)], args := [d1, d2, d3] }
  | _ => none }
def OctetsFreshWrongFalsely : Prop := octetsFreshRow.holds Try.pinned (OpenSpec.ofChange octetsFreshWrong)

/-- 'multihoplaw01.OctetsBits': WHATEVER THE INPUT: true; the input reads as it did. -/
def octetsBitsSpec : ChangeSpec := { name := "octetsBits", fn := fun _ => fun
  | [d1, d2, d3, d4, d5] => { results := [.lit (.bool true)], args := [d1, d2, d3, d4, d5] }
  | _ => none }
def octetsBitsRow : OpenClaim := { program := "ytapcbkcnokoljaa", sum := "624bbfdadbcd5d09e192e03aed01c5c0175a37522259dc13866a0c17fb4fddab", func := "multihop/multihoplaw01.OctetsBits", spec := "octetsBits", apart := false }
def OctetsBitsSaid : Prop := octetsBitsRow.holds Try.pinned (OpenSpec.ofChange octetsBitsSpec)

/-- ITS FALSE NEIGHBOUR: 'it returns false'. Refute it at one input. -/
def octetsBitsWrong : ChangeSpec := { name := "octetsBits", fn := fun _ => fun
  | [d1, d2, d3, d4, d5] => { results := [.lit (.bool false)], args := [d1, d2, d3, d4, d5] }
  | _ => none }
def OctetsBitsWrongFalsely : Prop := octetsBitsRow.holds Try.pinned (OpenSpec.ofChange octetsBitsWrong)

/-- 'multihoplaw01.OctetsBitsRead': WHATEVER THE INPUT: true; the input reads as it did. -/
def octetsBitsReadSpec : ChangeSpec := { name := "octetsBitsRead", fn := fun _ => fun
  | [d1, d2, d3, d4] => { results := [.lit (.bool true)], args := [d1, d2, d3, d4] }
  | _ => none }
def octetsBitsReadRow : OpenClaim := { program := "ytapcbkcnokoljaa", sum := "624bbfdadbcd5d09e192e03aed01c5c0175a37522259dc13866a0c17fb4fddab", func := "multihop/multihoplaw01.OctetsBitsRead", spec := "octetsBitsRead", apart := false }
def OctetsBitsReadSaid : Prop := octetsBitsReadRow.holds Try.pinned (OpenSpec.ofChange octetsBitsReadSpec)

/-- ITS FALSE NEIGHBOUR: 'it returns false'. Refute it at one input. -/
def octetsBitsReadWrong : ChangeSpec := { name := "octetsBitsRead", fn := fun _ => fun
  | [d1, d2, d3, d4] => { results := [.lit (.bool false)], args := [d1, d2, d3, d4] }
  | _ => none }
def OctetsBitsReadWrongFalsely : Prop := octetsBitsReadRow.holds Try.pinned (OpenSpec.ofChange octetsBitsReadWrong)

/- THE SECOND FORM. 'bulk': how many values and letters a reading holds, each counted each time it is reached (what is shared counts as often as it is met; a slice's spare places count too). A statement '..UptoSaid' is the law's where the arguments, and the package variables that the reading takes, are together of bulk at most 1048576: NARROWER than '..Said'. Prove '..Said' where nothing that the law and all that it calls make is longer than what came in: it says more and counts as full. Else prove '..UptoSaid'. A law counts once. -/
mutual
def uptoBulk {H : Type} : DataW H → Nat
  | .lit (.string bytes) => bytes.length + 1
  | .lit _ => 1
  | .nil => 1
  | .ptr d => uptoBulk d + 1
  | .slice elems spare => uptoBulkAll elems + uptoBulkAll spare + 1
  | .agg parts => uptoBulkAll parts + 1
  | .iface _ d => uptoBulk d + 1
  | .map entries => uptoBulkEntries entries + 1
  | .held _ => 1
def uptoBulkAll {H : Type} : List (DataW H) → Nat
  | [] => 0
  | d :: r => uptoBulk d + uptoBulkAll r
def uptoBulkEntries {H : Type} : List (Lit × DataW H) → Nat
  | [] => 0
  | x :: r => uptoBulkEntry x + uptoBulkEntries r
def uptoBulkEntry {H : Type} : Lit × DataW H → Nat
  | (.string bytes, d) => bytes.length + uptoBulk d + 1
  | (_, d) => uptoBulk d + 1
 end
def uptoSmall : (H : Type) → List (DataW H) → Bool := fun _ ds => decide (uptoBulkAll ds ≤ 1048576)
def OpenSpec.upto (s : _root_.Go.ChangeSpec) : _root_.Go.OpenSpec := { _root_.Go.OpenSpec.ofChange s with cond := some uptoSmall }

/-- 'multihoplaw01.OctetsReads', WHERE WHAT IT READS IS OF BULK AT MOST 1048576: true; the input reads as it did. -/
def octetsReadsUptoRow : OpenClaim := { program := "ytapcbkcnokoljaa", sum := "624bbfdadbcd5d09e192e03aed01c5c0175a37522259dc13866a0c17fb4fddab", func := "multihop/multihoplaw01.OctetsReads", spec := "octetsReads", apart := false, narrowed := true }
def OctetsReadsUptoSaid : Prop := octetsReadsUptoRow.holds Try.pinned (OpenSpec.upto octetsReadsSpec)

/-- 'multihoplaw01.OctetsSplits', WHERE WHAT IT READS IS OF BULK AT MOST 1048576: true; the input reads as it did. -/
def octetsSplitsUptoRow : OpenClaim := { program := "ytapcbkcnokoljaa", sum := "624bbfdadbcd5d09e192e03aed01c5c0175a37522259dc13866a0c17fb4fddab", func := "multihop/multihoplaw01.OctetsSplits", spec := "octetsSplits", apart := false, narrowed := true }
def OctetsSplitsUptoSaid : Prop := octetsSplitsUptoRow.holds Try.pinned (OpenSpec.upto octetsSplitsSpec)

/-- 'multihoplaw01.OctetsHexes', WHERE WHAT IT READS IS OF BULK AT MOST 1048576: true; the input reads as it did. -/
def octetsHexesUptoRow : OpenClaim := { program := "ytapcbkcnokoljaa", sum := "624bbfdadbcd5d09e192e03aed01c5c0175a37522259dc13866a0c17fb4fddab", func := "multihop/multihoplaw01.OctetsHexes", spec := "octetsHexes", apart := false, narrowed := true }
def OctetsHexesUptoSaid : Prop := octetsHexesUptoRow.holds Try.pinned (OpenSpec.upto octetsHexesSpec)

/-- 'multihoplaw01.OctetsHexBack', WHERE WHAT IT READS IS OF BULK AT MOST 1048576: true; the input reads as it did. -/
def octetsHexBackUptoRow : OpenClaim := { program := "ytapcbkcnokoljaa", sum := "624bbfdadbcd5d09e192e03aed01c5c0175a37522259dc13866a0c17fb4fddab", func := "multihop/multihoplaw01.OctetsHexBack", spec := "octetsHexBack", apart := false, narrowed := true }
def OctetsHexBackUptoSaid : Prop := octetsHexBackUptoRow.holds Try.pinned (OpenSpec.upto octetsHexBackSpec)

/-- 'multihoplaw01.OctetsFresh', WHERE WHAT IT READS IS OF BULK AT MOST 1048576: true; the input reads as it did. -/
def octetsFreshUptoRow : OpenClaim := { program := "ytapcbkcnokoljaa", sum := "624bbfdadbcd5d09e192e03aed01c5c0175a37522259dc13866a0c17fb4fddab", func := "multihop/multihoplaw01.OctetsFresh", spec := "octetsFresh", apart := false, narrowed := true }
def OctetsFreshUptoSaid : Prop := octetsFreshUptoRow.holds Try.pinned (OpenSpec.upto octetsFreshSpec)

/-- 'multihoplaw01.OctetsBits', WHERE WHAT IT READS IS OF BULK AT MOST 1048576: true; the input reads as it did. -/
def octetsBitsUptoRow : OpenClaim := { program := "ytapcbkcnokoljaa", sum := "624bbfdadbcd5d09e192e03aed01c5c0175a37522259dc13866a0c17fb4fddab", func := "multihop/multihoplaw01.OctetsBits", spec := "octetsBits", apart := false, narrowed := true }
def OctetsBitsUptoSaid : Prop := octetsBitsUptoRow.holds Try.pinned (OpenSpec.upto octetsBitsSpec)

/-- 'multihoplaw01.OctetsBitsRead', WHERE WHAT IT READS IS OF BULK AT MOST 1048576: true; the input reads as it did. -/
def octetsBitsReadUptoRow : OpenClaim := { program := "ytapcbkcnokoljaa", sum := "624bbfdadbcd5d09e192e03aed01c5c0175a37522259dc13866a0c17fb4fddab", func := "multihop/multihoplaw01.OctetsBitsRead", spec := "octetsBitsRead", apart := false, narrowed := true }
def OctetsBitsReadUptoSaid : Prop := octetsBitsReadUptoRow.holds Try.pinned (OpenSpec.upto octetsBitsReadSpec)

end Rows
end Go.Proofs.Ytapcbkcnokoljaa
