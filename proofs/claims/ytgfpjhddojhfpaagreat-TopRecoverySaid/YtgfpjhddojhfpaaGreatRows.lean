/-
  No cell of these rows narrows 'for every input' (looked for: loops, veiled, ifaces, maps, wideKeys, modest, calm, conditions, laid).
  DERIVED. THE GIVEN ROWS OF THIS SEAT. 4 by the template 'for every input the law returns true; each argument reads behind the call as it read before'; 0 by the template 'total and deterministic' (their statements: YtgfpjhddojhfpaaGreatTotals.lean).
  GIVEN WITH THE SEED: the statements are not yours to turn. If you find one false, say at which input.
  Laid BY PROGRAM, IN A SANDBOX (cutbox-rows.mjs): the forced cells as the released guide's own fill.sh prints them over the translation 6646bf0248832365… (all of the seat's roots in one cut). By AI agents, Wed Nov 11 2026. No macro, syntax, notation, axiom, sorry.
-/
import Derived.Test.YtgfpjhddojhfpaaGreatChecked
import GoSem.Claim
import GoSem.ClaimJoined
import GoSem.ClaimMapViews
import Derived.JoinedTies
import Derived.KernelRfl
namespace Go.Proofs.YtgfpjhddojhfpaaGreat
/- THE CELL 'sum', in the pinned program and in every row, IS THE sha256 OF THE DUMP (.gsa) THAT YtgfpjhddojhfpaaGreatProg.lean LOADS. Nothing in Lean hashes anything: it is a label: what it is worth is what the hold of that sum in a sandbox is worth. -/
noncomputable def Tryz.pinned : Pinned := { name := "ytgfpjhddojhfpaagreat", sum := "6646bf02488323656484737262b64da5684ac062bdcd0d5fea6c193110c3390f", checked := Tryz.checked }
namespace Rows
def none {H : Type} : Left H := { results := [], args := [] }

/-- 'multihoptop.TopForged': WHATEVER THE INPUT: true; the input reads as it did. -/
def topForgedSpec : ChangeSpec := { name := "topForged", fn := fun _ => fun
  | [d1, d2, d3, d4] => { results := [.lit (.bool true)], args := [d1, d2, d3, d4] }
  | _ => none }
def topForgedRow : OpenClaim := { program := "ytgfpjhddojhfpaagreat", sum := "6646bf02488323656484737262b64da5684ac062bdcd0d5fea6c193110c3390f", func := "multihop/multihoptop.TopForged", spec := "topForged", unfollowed := true, recurses := true, apart := false }
def TopForgedSaid : Prop := topForgedRow.holds Tryz.pinned (OpenSpec.ofChange topForgedSpec)

/-- ITS FALSE NEIGHBOUR: 'it returns false'. Refute it at one input. -/
def topForgedWrong : ChangeSpec := { name := "topForged", fn := fun _ => fun
  | [d1, d2, d3, d4] => { results := [.lit (.bool false)], args := [d1, d2, d3, d4] }
  | _ => none }
def TopForgedWrongFalsely : Prop := topForgedRow.holds Tryz.pinned (OpenSpec.ofChange topForgedWrong)

/-- 'multihoptop.TopHellos': WHATEVER THE INPUT: true; the input reads as it did. -/
def topHellosSpec : ChangeSpec := { name := "topHellos", fn := fun _ => fun
  | [d1, d2] => { results := [.lit (.bool true)], args := [d1, d2] }
  | _ => none }
def topHellosRow : OpenClaim := { program := "ytgfpjhddojhfpaagreat", sum := "6646bf02488323656484737262b64da5684ac062bdcd0d5fea6c193110c3390f", func := "multihop/multihoptop.TopHellos", spec := "topHellos", unfollowed := true, recurses := true, apart := false }
def TopHellosSaid : Prop := topHellosRow.holds Tryz.pinned (OpenSpec.ofChange topHellosSpec)

/-- ITS FALSE NEIGHBOUR: 'it returns false'. Refute it at one input. -/
def topHellosWrong : ChangeSpec := { name := "topHellos", fn := fun _ => fun
  | [d1, d2] => { results := [.lit (.bool false)], args := [d1, d2] }
  | _ => none }
def TopHellosWrongFalsely : Prop := topHellosRow.holds Tryz.pinned (OpenSpec.ofChange topHellosWrong)

/-- 'multihoptop.TopRecovery': WHATEVER THE INPUT: true; the input reads as it did. -/
def topRecoverySpec : ChangeSpec := { name := "topRecovery", fn := fun _ => fun
  | [d1, d2, d3] => { results := [.lit (.bool true)], args := [d1, d2, d3] }
  | _ => none }
def topRecoveryRow : OpenClaim := { program := "ytgfpjhddojhfpaagreat", sum := "6646bf02488323656484737262b64da5684ac062bdcd0d5fea6c193110c3390f", func := "multihop/multihoptop.TopRecovery", spec := "topRecovery", unfollowed := true, recurses := true, apart := false }
def TopRecoverySaid : Prop := topRecoveryRow.holds Tryz.pinned (OpenSpec.ofChange topRecoverySpec)

/-- ITS FALSE NEIGHBOUR: 'it returns false'. Refute it at one input. -/
def topRecoveryWrong : ChangeSpec := { name := "topRecovery", fn := fun _ => fun
  | [d1, d2, d3] => { results := [.lit (.bool false)], args := [d1, d2, d3] }
  | _ => none }
def TopRecoveryWrongFalsely : Prop := topRecoveryRow.holds Tryz.pinned (OpenSpec.ofChange topRecoveryWrong)

/-- 'multihoptop.TopLink': WHATEVER THE INPUT: true; the input reads as it did. -/
def topLinkSpec : ChangeSpec := { name := "topLink", fn := fun _ => fun
  | [d1, d2, d3, d4, d5] => { results := [.lit (.bool true)], args := [d1, d2, d3, d4, d5] }
  | _ => none }
def topLinkRow : OpenClaim := { program := "ytgfpjhddojhfpaagreat", sum := "6646bf02488323656484737262b64da5684ac062bdcd0d5fea6c193110c3390f", func := "multihop/multihoptop.TopLink", spec := "topLink", unfollowed := true, recurses := true, apart := false }
def TopLinkSaid : Prop := topLinkRow.holds Tryz.pinned (OpenSpec.ofChange topLinkSpec)

/-- ITS FALSE NEIGHBOUR: 'it returns false'. Refute it at one input. -/
def topLinkWrong : ChangeSpec := { name := "topLink", fn := fun _ => fun
  | [d1, d2, d3, d4, d5] => { results := [.lit (.bool false)], args := [d1, d2, d3, d4, d5] }
  | _ => none }
def TopLinkWrongFalsely : Prop := topLinkRow.holds Tryz.pinned (OpenSpec.ofChange topLinkWrong)

/- THE SECOND FORM. 'bulk': how many values and letters a reading holds, each counted each time it is reached (what is shared counts as often as it is met; a slice's spare places count too). A statement '..UptoSaid' is the law's where the arguments, and the package variables that the reading takes, are together of bulk at most 1048576: NARROWER than '..Said'. Prove '..Said' where nothing that the law and all that it calls make is longer than what came in: it says more and counts as full. Else prove '..UptoSaid'. A law counts once. -/
mutual
def uptoBulk {H : Type} : DataW H → Nat
  | .lit (.string bytes) => bytes.length + 1
  | .lit _ => 1
  | .nil => 1
  | .ptr d => uptoBulk d + 1
  | .slice elems spare => uptoBulkAll elems + uptoBulkAll spare + 1
  | .agg parts => uptoBulkAll parts + 1
  | .iface _ d => uptoBulk d + 1
  | .map entries => uptoBulkEntries entries + 1
  | .held _ => 1
def uptoBulkAll {H : Type} : List (DataW H) → Nat
  | [] => 0
  | d :: r => uptoBulk d + uptoBulkAll r
def uptoBulkEntries {H : Type} : List (Lit × DataW H) → Nat
  | [] => 0
  | x :: r => uptoBulkEntry x + uptoBulkEntries r
def uptoBulkEntry {H : Type} : Lit × DataW H → Nat
  | (.string bytes, d) => bytes.length + uptoBulk d + 1
  | (_, d) => uptoBulk d + 1
 end
def uptoSmall : (H : Type) → List (DataW H) → Bool := fun _ ds => decide (uptoBulkAll ds ≤ 1048576)
def OpenSpec.upto (s : _root_.Go.ChangeSpec) : _root_.Go.OpenSpec := { _root_.Go.OpenSpec.ofChange s with cond := some uptoSmall }

/-- 'multihoptop.TopForged', WHERE WHAT IT READS IS OF BULK AT MOST 1048576: true; the input reads as it did. -/
def topForgedUptoRow : OpenClaim := { program := "ytgfpjhddojhfpaagreat", sum := "6646bf02488323656484737262b64da5684ac062bdcd0d5fea6c193110c3390f", func := "multihop/multihoptop.TopForged", spec := "topForged", unfollowed := true, recurses := true, apart := false, narrowed := true }
def TopForgedUptoSaid : Prop := topForgedUptoRow.holds Tryz.pinned (OpenSpec.upto topForgedSpec)

/-- 'multihoptop.TopHellos', WHERE WHAT IT READS IS OF BULK AT MOST 1048576: true; the input reads as it did. -/
def topHellosUptoRow : OpenClaim := { program := "ytgfpjhddojhfpaagreat", sum := "6646bf02488323656484737262b64da5684ac062bdcd0d5fea6c193110c3390f", func := "multihop/multihoptop.TopHellos", spec := "topHellos", unfollowed := true, recurses := true, apart := false, narrowed := true }
def TopHellosUptoSaid : Prop := topHellosUptoRow.holds Tryz.pinned (OpenSpec.upto topHellosSpec)

/-- 'multihoptop.TopRecovery', WHERE WHAT IT READS IS OF BULK AT MOST 1048576: true; the input reads as it did. -/
def topRecoveryUptoRow : OpenClaim := { program := "ytgfpjhddojhfpaagreat", sum := "6646bf02488323656484737262b64da5684ac062bdcd0d5fea6c193110c3390f", func := "multihop/multihoptop.TopRecovery", spec := "topRecovery", unfollowed := true, recurses := true, apart := false, narrowed := true }
def TopRecoveryUptoSaid : Prop := topRecoveryUptoRow.holds Tryz.pinned (OpenSpec.upto topRecoverySpec)

/-- 'multihoptop.TopLink', WHERE WHAT IT READS IS OF BULK AT MOST 1048576: true; the input reads as it did. -/
def topLinkUptoRow : OpenClaim := { program := "ytgfpjhddojhfpaagreat", sum := "6646bf02488323656484737262b64da5684ac062bdcd0d5fea6c193110c3390f", func := "multihop/multihoptop.TopLink", spec := "topLink", unfollowed := true, recurses := true, apart := false, narrowed := true }
def TopLinkUptoSaid : Prop := topLinkUptoRow.holds Tryz.pinned (OpenSpec.upto topLinkSpec)

end Rows
end Go.Proofs.YtgfpjhddojhfpaaGreat
