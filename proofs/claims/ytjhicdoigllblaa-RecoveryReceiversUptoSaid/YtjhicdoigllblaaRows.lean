/-
  No cell of these rows narrows 'for every input' (looked for: loops, veiled, ifaces, maps, wideKeys, modest, calm, conditions, laid).
  DERIVED. THE GIVEN ROWS OF THIS SEAT. 7 by the template 'for every input the law returns true; each argument reads behind the call as it read before'; 0 by the template 'total and deterministic' (their statements: YtjhicdoigllblaaTotals.lean).
  GIVEN WITH THE SEED: the statements are not yours to turn. If you find one false, say at which input.
  Laid BY PROGRAM, IN A SANDBOX (cutbox-rows.mjs): the forced cells as the released guide's own fill.sh prints them over the translation ef627b39311aaa8c… (all of the seat's roots in one cut). By AI agents, Wed Nov 11 2026. No macro, syntax, notation, axiom, sorry.
-/
import Derived.Test.YtjhicdoigllblaaChecked
import GoSem.Claim
import GoSem.ClaimJoined
import GoSem.ClaimMapViews
import Derived.JoinedTies
import Derived.KernelRfl
namespace Go.Proofs.Ytjhicdoigllblaa
/- THE CELL 'sum', in the pinned program and in every row, IS THE sha256 OF THE DUMP (.gsa) THAT YtjhicdoigllblaaProg.lean LOADS. Nothing in Lean hashes anything: it is a label: what it is worth is what the hold of that sum in a sandbox is worth. -/
noncomputable def Try.pinned : Pinned := { name := "ytjhicdoigllblaa", sum := "ef627b39311aaa8c21029d45bc6e181e26ed4853c7c679245e384047ac84444a", checked := Try.checked }
namespace Rows
def none {H : Type} : Left H := { results := [], args := [] }

/-- 'multihoplaw19.RecoverySenders': WHATEVER THE INPUT: true; the input reads as it did. -/
def recoverySendersSpec : ChangeSpec := { name := "recoverySenders", fn := fun _ => fun
  | [d1, d2, d3, d4, d5, d6, d7] => { results := [.lit (.bool true)], args := [d1, d2, d3, d4, d5, d6, d7] }
  | _ => none }
def recoverySendersRow : OpenClaim := { program := "ytjhicdoigllblaa", sum := "ef627b39311aaa8c21029d45bc6e181e26ed4853c7c679245e384047ac84444a", func := "multihop/multihoplaw19.RecoverySenders", spec := "recoverySenders", unfollowed := true, recurses := true, apart := false }
def RecoverySendersSaid : Prop := recoverySendersRow.holds Try.pinned (OpenSpec.ofChange recoverySendersSpec)

/-- ITS FALSE NEIGHBOUR: 'it returns false'. Refute it at one input. -/
def recoverySendersWrong : ChangeSpec := { name := "recoverySenders", fn := fun _ => fun
  | [d1, d2, d3, d4, d5, d6, d7] => { results := [.lit (.bool false)], args := [d1, d2, d3, d4, d5, d6, d7] }
  | _ => none }
def RecoverySendersWrongFalsely : Prop := recoverySendersRow.holds Try.pinned (OpenSpec.ofChange recoverySendersWrong)

/-- 'multihoplaw19.RecoveryFails': WHATEVER THE INPUT: true; the input reads as it did. -/
def recoveryFailsSpec : ChangeSpec := { name := "recoveryFails", fn := fun _ => fun
  | [d1, d2] => { results := [.lit (.bool true)], args := [d1, d2] }
  | _ => none }
def recoveryFailsRow : OpenClaim := { program := "ytjhicdoigllblaa", sum := "ef627b39311aaa8c21029d45bc6e181e26ed4853c7c679245e384047ac84444a", func := "multihop/multihoplaw19.RecoveryFails", spec := "recoveryFails", unfollowed := true, recurses := true, apart := false }
def RecoveryFailsSaid : Prop := recoveryFailsRow.holds Try.pinned (OpenSpec.ofChange recoveryFailsSpec)

/-- ITS FALSE NEIGHBOUR: 'it returns false'. Refute it at one input. -/
def recoveryFailsWrong : ChangeSpec := { name := "recoveryFails", fn := fun _ => fun
  | [d1, d2] => { results := [.lit (.bool false)], args := [d1, d2] }
  | _ => none }
def RecoveryFailsWrongFalsely : Prop := recoveryFailsRow.holds Try.pinned (OpenSpec.ofChange recoveryFailsWrong)

/-- 'multihoplaw19.RecoveryWindow': WHATEVER THE INPUT: true; the input reads as it did. -/
def recoveryWindowSpec : ChangeSpec := { name := "recoveryWindow", fn := fun _ => fun
  | [d1, d2] => { results := [.lit (.bool true)], args := [d1, d2] }
  | _ => none }
def recoveryWindowRow : OpenClaim := { program := "ytjhicdoigllblaa", sum := "ef627b39311aaa8c21029d45bc6e181e26ed4853c7c679245e384047ac84444a", func := "multihop/multihoplaw19.RecoveryWindow", spec := "recoveryWindow", unfollowed := true, recurses := true, apart := false }
def RecoveryWindowSaid : Prop := recoveryWindowRow.holds Try.pinned (OpenSpec.ofChange recoveryWindowSpec)

/-- ITS FALSE NEIGHBOUR: 'it returns false'. Refute it at one input. -/
def recoveryWindowWrong : ChangeSpec := { name := "recoveryWindow", fn := fun _ => fun
  | [d1, d2] => { results := [.lit (.bool false)], args := [d1, d2] }
  | _ => none }
def RecoveryWindowWrongFalsely : Prop := recoveryWindowRow.holds Try.pinned (OpenSpec.ofChange recoveryWindowWrong)

/-- 'multihoplaw19.RecoveryReceivers': WHATEVER THE INPUT: true; the input reads as it did. -/
def recoveryReceiversSpec : ChangeSpec := { name := "recoveryReceivers", fn := fun _ => fun
  | [d1, d2, d3] => { results := [.lit (.bool true)], args := [d1, d2, d3] }
  | _ => none }
def recoveryReceiversRow : OpenClaim := { program := "ytjhicdoigllblaa", sum := "ef627b39311aaa8c21029d45bc6e181e26ed4853c7c679245e384047ac84444a", func := "multihop/multihoplaw19.RecoveryReceivers", spec := "recoveryReceivers", unfollowed := true, recurses := true, apart := false }
def RecoveryReceiversSaid : Prop := recoveryReceiversRow.holds Try.pinned (OpenSpec.ofChange recoveryReceiversSpec)

/-- ITS FALSE NEIGHBOUR: 'it returns false'. Refute it at one input. -/
def recoveryReceiversWrong : ChangeSpec := { name := "recoveryReceivers", fn := fun _ => fun
  | [d1, d2, d3] => { results := [.lit (.bool false)], args := [d1, d2, d3] }
  | _ => none }
def RecoveryReceiversWrongFalsely : Prop := recoveryReceiversRow.holds Try.pinned (OpenSpec.ofChange recoveryReceiversWrong)

/-- 'multihoplaw19.RecoveryDelivers': WHATEVER THE INPUT: true; the input reads as it did. -/
def recoveryDeliversSpec : ChangeSpec := { name := "recoveryDelivers", fn := fun _ => fun
  | [d1, d2, d3, d4] => { results := [.lit (.bool true)], args := [d1, d2, d3, d4] }
  | _ => none }
def recoveryDeliversRow : OpenClaim := { program := "ytjhicdoigllblaa", sum := "ef627b39311aaa8c21029d45bc6e181e26ed4853c7c679245e384047ac84444a", func := "multihop/multihoplaw19.RecoveryDelivers", spec := "recoveryDelivers", unfollowed := true, recurses := true, apart := false }
def RecoveryDeliversSaid : Prop := recoveryDeliversRow.holds Try.pinned (OpenSpec.ofChange recoveryDeliversSpec)

/-- ITS FALSE NEIGHBOUR: 'it returns false'. Refute it at one input. -/
def recoveryDeliversWrong : ChangeSpec := { name := "recoveryDelivers", fn := fun _ => fun
  | [d1, d2, d3, d4] => { results := [.lit (.bool false)], args := [d1, d2, d3, d4] }
  | _ => none }
def RecoveryDeliversWrongFalsely : Prop := recoveryDeliversRow.holds Try.pinned (OpenSpec.ofChange recoveryDeliversWrong)

/-- 'multihoplaw19.RecoveryEnds': WHATEVER THE INPUT: true; the input reads as it did. -/
def recoveryEndsSpec : ChangeSpec := { name := "recoveryEnds", fn := fun _ => fun
  | [d1, d2, d3] => { results := [.lit (.bool true)], args := [d1, d2, d3] }
  | _ => none }
def recoveryEndsRow : OpenClaim := { program := "ytjhicdoigllblaa", sum := "ef627b39311aaa8c21029d45bc6e181e26ed4853c7c679245e384047ac84444a", func := "multihop/multihoplaw19.RecoveryEnds", spec := "recoveryEnds", unfollowed := true, recurses := true, apart := false }
def RecoveryEndsSaid : Prop := recoveryEndsRow.holds Try.pinned (OpenSpec.ofChange recoveryEndsSpec)

/-- ITS FALSE NEIGHBOUR: 'it returns false'. Refute it at one input. -/
def recoveryEndsWrong : ChangeSpec := { name := "recoveryEnds", fn := fun _ => fun
  | [d1, d2, d3] => { results := [.lit (.bool false)], args := [d1, d2, d3] }
  | _ => none }
def RecoveryEndsWrongFalsely : Prop := recoveryEndsRow.holds Try.pinned (OpenSpec.ofChange recoveryEndsWrong)

/-- 'multihoplaw19.RecoveryPieces': WHATEVER THE INPUT: true; the input reads as it did. -/
def recoveryPiecesSpec : ChangeSpec := { name := "recoveryPieces", fn := fun _ => fun
  | [d1, d2, d3, d4, d5, d6, d7, d8] => { results := [.lit (.bool true)], args := [d1, d2, d3, d4, d5, d6, d7, d8] }
  | _ => none }
def recoveryPiecesRow : OpenClaim := { program := "ytjhicdoigllblaa", sum := "ef627b39311aaa8c21029d45bc6e181e26ed4853c7c679245e384047ac84444a", func := "multihop/multihoplaw19.RecoveryPieces", spec := "recoveryPieces", unfollowed := true, recurses := true, apart := false }
def RecoveryPiecesSaid : Prop := recoveryPiecesRow.holds Try.pinned (OpenSpec.ofChange recoveryPiecesSpec)

/-- ITS FALSE NEIGHBOUR: 'it returns false'. Refute it at one input. -/
def recoveryPiecesWrong : ChangeSpec := { name := "recoveryPieces", fn := fun _ => fun
  | [d1, d2, d3, d4, d5, d6, d7, d8] => { results := [.lit (.bool false)], args := [d1, d2, d3, d4, d5, d6, d7, d8] }
  | _ => none }
def RecoveryPiecesWrongFalsely : Prop := recoveryPiecesRow.holds Try.pinned (OpenSpec.ofChange recoveryPiecesWrong)

/- THE SECOND FORM. 'bulk': how many values and letters a reading holds, each counted each time it is reached (what is shared counts as often as it is met; a slice's spare places count too). A statement '..UptoSaid' is the law's where the arguments, and the package variables that the reading takes, are together of bulk at most 1048576: NARROWER than '..Said'. Prove '..Said' where nothing that the law and all that it calls make is longer than what came in: it says more and counts as full. Else prove '..UptoSaid'. A law counts once. -/
mutual
def uptoBulk {H : Type} : DataW H → Nat
  | .lit (.string bytes) => bytes.length + 1
  | .lit _ => 1
  | .nil => 1
  | .ptr d => uptoBulk d + 1
  | .slice elems spare => uptoBulkAll elems + uptoBulkAll spare + 1
  | .agg parts => uptoBulkAll parts + 1
  | .iface _ d => uptoBulk d + 1
  | .map entries => uptoBulkEntries entries + 1
  | .held _ => 1
def uptoBulkAll {H : Type} : List (DataW H) → Nat
  | [] => 0
  | d :: r => uptoBulk d + uptoBulkAll r
def uptoBulkEntries {H : Type} : List (Lit × DataW H) → Nat
  | [] => 0
  | x :: r => uptoBulkEntry x + uptoBulkEntries r
def uptoBulkEntry {H : Type} : Lit × DataW H → Nat
  | (.string bytes, d) => bytes.length + uptoBulk d + 1
  | (_, d) => uptoBulk d + 1
 end
def uptoSmall : (H : Type) → List (DataW H) → Bool := fun _ ds => decide (uptoBulkAll ds ≤ 1048576)
def OpenSpec.upto (s : _root_.Go.ChangeSpec) : _root_.Go.OpenSpec := { _root_.Go.OpenSpec.ofChange s with cond := some uptoSmall }

/-- 'multihoplaw19.RecoverySenders', WHERE WHAT IT READS IS OF BULK AT MOST 1048576: true; the input reads as it did. -/
def recoverySendersUptoRow : OpenClaim := { program := "ytjhicdoigllblaa", sum := "ef627b39311aaa8c21029d45bc6e181e26ed4853c7c679245e384047ac84444a", func := "multihop/multihoplaw19.RecoverySenders", spec := "recoverySenders", unfollowed := true, recurses := true, apart := false, narrowed := true }
def RecoverySendersUptoSaid : Prop := recoverySendersUptoRow.holds Try.pinned (OpenSpec.upto recoverySendersSpec)

/-- 'multihoplaw19.RecoveryFails', WHERE WHAT IT READS IS OF BULK AT MOST 1048576: true; the input reads as it did. -/
def recoveryFailsUptoRow : OpenClaim := { program := "ytjhicdoigllblaa", sum := "ef627b39311aaa8c21029d45bc6e181e26ed4853c7c679245e384047ac84444a", func := "multihop/multihoplaw19.RecoveryFails", spec := "recoveryFails", unfollowed := true, recurses := true, apart := false, narrowed := true }
def RecoveryFailsUptoSaid : Prop := recoveryFailsUptoRow.holds Try.pinned (OpenSpec.upto recoveryFailsSpec)

/-- 'multihoplaw19.RecoveryWindow', WHERE WHAT IT READS IS OF BULK AT MOST 1048576: true; the input reads as it did. -/
def recoveryWindowUptoRow : OpenClaim := { program := "ytjhicdoigllblaa", sum := "ef627b39311aaa8c21029d45bc6e181e26ed4853c7c679245e384047ac84444a", func := "multihop/multihoplaw19.RecoveryWindow", spec := "recoveryWindow", unfollowed := true, recurses := true, apart := false, narrowed := true }
def RecoveryWindowUptoSaid : Prop := recoveryWindowUptoRow.holds Try.pinned (OpenSpec.upto recoveryWindowSpec)

/-- 'multihoplaw19.RecoveryReceivers', WHERE WHAT IT READS IS OF BULK AT MOST 1048576: true; the input reads as it did. -/
def recoveryReceiversUptoRow : OpenClaim := { program := "ytjhicdoigllblaa", sum := "ef627b39311aaa8c21029d45bc6e181e26ed4853c7c679245e384047ac84444a", func := "multihop/multihoplaw19.RecoveryReceivers", spec := "recoveryReceivers", unfollowed := true, recurses := true, apart := false, narrowed := true }
def RecoveryReceiversUptoSaid : Prop := recoveryReceiversUptoRow.holds Try.pinned (OpenSpec.upto recoveryReceiversSpec)

/-- 'multihoplaw19.RecoveryDelivers', WHERE WHAT IT READS IS OF BULK AT MOST 1048576: true; the input reads as it did. -/
def recoveryDeliversUptoRow : OpenClaim := { program := "ytjhicdoigllblaa", sum := "ef627b39311aaa8c21029d45bc6e181e26ed4853c7c679245e384047ac84444a", func := "multihop/multihoplaw19.RecoveryDelivers", spec := "recoveryDelivers", unfollowed := true, recurses := true, apart := false, narrowed := true }
def RecoveryDeliversUptoSaid : Prop := recoveryDeliversUptoRow.holds Try.pinned (OpenSpec.upto recoveryDeliversSpec)

/-- 'multihoplaw19.RecoveryEnds', WHERE WHAT IT READS IS OF BULK AT MOST 1048576: true; the input reads as it did. -/
def recoveryEndsUptoRow : OpenClaim := { program := "ytjhicdoigllblaa", sum := "ef627b39311aaa8c21029d45bc6e181e26ed4853c7c679245e384047ac84444a", func := "multihop/multihoplaw19.RecoveryEnds", spec := "recoveryEnds", unfollowed := true, recurses := true, apart := false, narrowed := true }
def RecoveryEndsUptoSaid : Prop := recoveryEndsUptoRow.holds Try.pinned (OpenSpec.upto recoveryEndsSpec)

/-- 'multihoplaw19.RecoveryPieces', WHERE WHAT IT READS IS OF BULK AT MOST 1048576: true; the input reads as it did. -/
def recoveryPiecesUptoRow : OpenClaim := { program := "ytjhicdoigllblaa", sum := "ef627b39311aaa8c21029d45bc6e181e26ed4853c7c679245e384047ac84444a", func := "multihop/multihoplaw19.RecoveryPieces", spec := "recoveryPieces", unfollowed := true, recurses := true, apart := false, narrowed := true }
def RecoveryPiecesUptoSaid : Prop := recoveryPiecesUptoRow.holds Try.pinned (OpenSpec.upto recoveryPiecesSpec)

end Rows
end Go.Proofs.Ytjhicdoigllblaa
