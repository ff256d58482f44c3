/-
  NARROWER THAN 'FOR EVERY INPUT', by the rows' own cells (each row's printed sentence says how): MediumSingle: laid · MediumDraws: laid · MediumFresh: laid · MediumCollides: laid · MediumParts: laid · MediumForms: laid.
  DERIVED. THE GIVEN ROWS OF THIS SEAT. 6 by the template 'for every input the law returns true; each argument reads behind the call as it read before'; 0 by the template 'total and deterministic' (their statements: YtbnphjniadiclaaDoorTotals.lean).
  GIVEN WITH THE SEED: the statements are not yours to turn. If you find one false, say at which input.
  Laid BY PROGRAM, IN A SANDBOX (cutbox-rows.mjs): the forced cells as the released guide's own fill.sh prints them over the translation 071bc342ca76d929… (all of the seat's roots in one cut). By AI agents, Wed Nov 11 2026. No macro, syntax, notation, axiom, sorry.
-/
import Derived.Test.YtbnphjniadiclaaDoorChecked
import GoSem.Claim
import GoSem.ClaimJoined
import GoSem.ClaimMapViews
import Derived.JoinedTies
import Derived.KernelRfl
namespace Go.Proofs.YtbnphjniadiclaaDoor
/- THE CELL 'sum', in the pinned program and in every row, IS THE sha256 OF THE DUMP (.gsa) THAT YtbnphjniadiclaaDoorProg.lean LOADS. Nothing in Lean hashes anything: it is a label: what it is worth is what the hold of that sum in a sandbox is worth. -/
noncomputable def Tryd.pinned : Pinned := { name := "ytbnphjniadiclaadoor", sum := "071bc342ca76d929ba49e52b50abe91f46844d60f16e6a2cb6e7c968c9064a80", checked := Tryd.checked }
namespace Rows
def none {H : Type} : Left H := { results := [], args := [] }

/- WHAT THE LISTED PACKAGE-LEVEL VARIABLES READ AS WHEN THE CALL BEGINS. Each datum BY PROGRAM (the guide's laid-datum.mjs) off the statement by which the dump's own 'gosem.cut.vars' lays the variable. In a bare row this is a premise. The card (YtbnphjniadiclaaDoorCards.lean) ties it to the program's text. -/
def laid_multihop_multihoplaw11_line {H : Type} : DataW H := .slice [.slice [.lit (.int .i64 0), .lit (.int .i64 256), .lit (.int .i64 0)] [], .slice [.lit (.int .i64 256), .lit (.int .i64 0), .lit (.int .i64 256)] [], .slice [.lit (.int .i64 0), .lit (.int .i64 256), .lit (.int .i64 0)] []] []

/-- 'multihoplaw11.MediumSingle': WHATEVER THE INPUT: true; the input reads as it did. -/
def mediumSingleSpec : ChangeSpec := { name := "mediumSingle", fn := fun _ => fun
  | [d1, d2, d3, d4] => { results := [.lit (.bool true)], args := [d1, d2, d3, d4] }
  | _ => none }
def mediumSingleRow : OpenClaim := { program := "ytbnphjniadiclaadoor", sum := "071bc342ca76d929ba49e52b50abe91f46844d60f16e6a2cb6e7c968c9064a80", func := "multihop/multihoplaw11.MediumSingle", spec := "mediumSingle", named := ["multihop/multihoplaw11.line"], apart := false, laid := [("multihop/multihoplaw11.line", laid_multihop_multihoplaw11_line)] }
def MediumSingleSaid : Prop := mediumSingleRow.holds Tryd.pinned (OpenSpec.ofChange mediumSingleSpec)

/-- ITS FALSE NEIGHBOUR: 'it returns false'. Refute it at one input. -/
def mediumSingleWrong : ChangeSpec := { name := "mediumSingle", fn := fun _ => fun
  | [d1, d2, d3, d4] => { results := [.lit (.bool false)], args := [d1, d2, d3, d4] }
  | _ => none }
def MediumSingleWrongFalsely : Prop := mediumSingleRow.holds Tryd.pinned (OpenSpec.ofChange mediumSingleWrong)

/-- 'multihoplaw11.MediumDraws': WHATEVER THE INPUT: true; the input reads as it did. -/
def mediumDrawsSpec : ChangeSpec := { name := "mediumDraws", fn := fun _ => fun
  | [d1, d2] => { results := [.lit (.bool true)], args := [d1, d2] }
  | _ => none }
def mediumDrawsRow : OpenClaim := { program := "ytbnphjniadiclaadoor", sum := "071bc342ca76d929ba49e52b50abe91f46844d60f16e6a2cb6e7c968c9064a80", func := "multihop/multihoplaw11.MediumDraws", spec := "mediumDraws", named := ["multihop/multihoplaw11.line"], apart := false, laid := [("multihop/multihoplaw11.line", laid_multihop_multihoplaw11_line)] }
def MediumDrawsSaid : Prop := mediumDrawsRow.holds Tryd.pinned (OpenSpec.ofChange mediumDrawsSpec)

/-- ITS FALSE NEIGHBOUR: 'it returns false'. Refute it at one input. -/
def mediumDrawsWrong : ChangeSpec := { name := "mediumDraws", fn := fun _ => fun
  | [d1, d2] => { results := [.lit (.bool false)], args := [d1, d2] }
  | _ => none }
def MediumDrawsWrongFalsely : Prop := mediumDrawsRow.holds Tryd.pinned (OpenSpec.ofChange mediumDrawsWrong)

/-- 'multihoplaw11.MediumFresh': WHATEVER THE INPUT: true; the input reads as it did. -/
def mediumFreshSpec : ChangeSpec := { name := "mediumFresh", fn := fun _ => fun
  | [d] => { results := [.lit (.bool true)], args := [d] }
  | _ => none }
def mediumFreshRow : OpenClaim := { program := "ytbnphjniadiclaadoor", sum := "071bc342ca76d929ba49e52b50abe91f46844d60f16e6a2cb6e7c968c9064a80", func := "multihop/multihoplaw11.MediumFresh", spec := "mediumFresh", named := ["multihop/multihoplaw11.line"], apart := false, laid := [("multihop/multihoplaw11.line", laid_multihop_multihoplaw11_line)] }
def MediumFreshSaid : Prop := mediumFreshRow.holds Tryd.pinned (OpenSpec.ofChange mediumFreshSpec)

/-- ITS FALSE NEIGHBOUR: 'it returns false'. Refute it at one input. -/
def mediumFreshWrong : ChangeSpec := { name := "mediumFresh", fn := fun _ => fun
  | [d] => { results := [.lit (.bool false)], args := [d] }
  | _ => none }
def MediumFreshWrongFalsely : Prop := mediumFreshRow.holds Tryd.pinned (OpenSpec.ofChange mediumFreshWrong)

/-- 'multihoplaw11.MediumCollides': WHATEVER THE INPUT: true; the input reads as it did. -/
def mediumCollidesSpec : ChangeSpec := { name := "mediumCollides", fn := fun _ => fun
  | [d1, d2] => { results := [.lit (.bool true)], args := [d1, d2] }
  | _ => none }
def mediumCollidesRow : OpenClaim := { program := "ytbnphjniadiclaadoor", sum := "071bc342ca76d929ba49e52b50abe91f46844d60f16e6a2cb6e7c968c9064a80", func := "multihop/multihoplaw11.MediumCollides", spec := "mediumCollides", named := ["multihop/multihoplaw11.line"], apart := false, laid := [("multihop/multihoplaw11.line", laid_multihop_multihoplaw11_line)] }
def MediumCollidesSaid : Prop := mediumCollidesRow.holds Tryd.pinned (OpenSpec.ofChange mediumCollidesSpec)

/-- ITS FALSE NEIGHBOUR: 'it returns false'. Refute it at one input. -/
def mediumCollidesWrong : ChangeSpec := { name := "mediumCollides", fn := fun _ => fun
  | [d1, d2] => { results := [.lit (.bool false)], args := [d1, d2] }
  | _ => none }
def MediumCollidesWrongFalsely : Prop := mediumCollidesRow.holds Tryd.pinned (OpenSpec.ofChange mediumCollidesWrong)

/-- 'multihoplaw11.MediumParts': WHATEVER THE INPUT: true; the input reads as it did. -/
def mediumPartsSpec : ChangeSpec := { name := "mediumParts", fn := fun _ => fun
  | [d1, d2, d3] => { results := [.lit (.bool true)], args := [d1, d2, d3] }
  | _ => none }
def mediumPartsRow : OpenClaim := { program := "ytbnphjniadiclaadoor", sum := "071bc342ca76d929ba49e52b50abe91f46844d60f16e6a2cb6e7c968c9064a80", func := "multihop/multihoplaw11.MediumParts", spec := "mediumParts", named := ["multihop/multihoplaw11.line"], apart := false, laid := [("multihop/multihoplaw11.line", laid_multihop_multihoplaw11_line)] }
def MediumPartsSaid : Prop := mediumPartsRow.holds Tryd.pinned (OpenSpec.ofChange mediumPartsSpec)

/-- ITS FALSE NEIGHBOUR: 'it returns false'. Refute it at one input. -/
def mediumPartsWrong : ChangeSpec := { name := "mediumParts", fn := fun _ => fun
  | [d1, d2, d3] => { results := [.lit (.bool false)], args := [d1, d2, d3] }
  | _ => none }
def MediumPartsWrongFalsely : Prop := mediumPartsRow.holds Tryd.pinned (OpenSpec.ofChange mediumPartsWrong)

/-- 'multihoplaw11.MediumForms': WHATEVER THE INPUT: true; the input reads as it did. -/
def mediumFormsSpec : ChangeSpec := { name := "mediumForms", fn := fun _ => fun
  | [d1, d2, d3, d4, d5] => { results := [.lit (.bool true)], args := [d1, d2, d3, d4, d5] }
  | _ => none }
def mediumFormsRow : OpenClaim := { program := "ytbnphjniadiclaadoor", sum := "071bc342ca76d929ba49e52b50abe91f46844d60f16e6a2cb6e7c968c9064a80", func := "multihop/multihoplaw11.MediumForms", spec := "mediumForms", named := ["multihop/multihoplaw11.line"], apart := false, laid := [("multihop/multihoplaw11.line", laid_multihop_multihoplaw11_line)] }
def MediumFormsSaid : Prop := mediumFormsRow.holds Tryd.pinned (OpenSpec.ofChange mediumFormsSpec)

/-- ITS FALSE NEIGHBOUR: 'it returns false'. Refute it at one input. -/
def mediumFormsWrong : ChangeSpec := { name := "mediumForms", fn := fun _ => fun
  | [d1, d2, d3, d4, d5] => { results := [.lit (.bool false)], args := [d1, d2, d3, d4, d5] }
  | _ => none }
def MediumFormsWrongFalsely : Prop := mediumFormsRow.holds Tryd.pinned (OpenSpec.ofChange mediumFormsWrong)

/- THE SECOND FORM. 'bulk': how many values and letters a reading holds, each counted each time it is reached (what is shared counts as often as it is met; a slice's spare places count too). A statement '..UptoSaid' is the law's where the arguments, and the package variables that the reading takes, are together of bulk at most 1048576: NARROWER than '..Said'. Prove '..Said' where nothing that the law and all that it calls make is longer than what came in: it says more and counts as full. Else prove '..UptoSaid'. A law counts once. -/
mutual
def uptoBulk {H : Type} : DataW H → Nat
  | .lit (.string bytes) => bytes.length + 1
  | .lit _ => 1
  | .nil => 1
  | .ptr d => uptoBulk d + 1
  | .slice elems spare => uptoBulkAll elems + uptoBulkAll spare + 1
  | .agg parts => uptoBulkAll parts + 1
  | .iface _ d => uptoBulk d + 1
  | .map entries => uptoBulkEntries entries + 1
  | .held _ => 1
def uptoBulkAll {H : Type} : List (DataW H) → Nat
  | [] => 0
  | d :: r => uptoBulk d + uptoBulkAll r
def uptoBulkEntries {H : Type} : List (Lit × DataW H) → Nat
  | [] => 0
  | x :: r => uptoBulkEntry x + uptoBulkEntries r
def uptoBulkEntry {H : Type} : Lit × DataW H → Nat
  | (.string bytes, d) => bytes.length + uptoBulk d + 1
  | (_, d) => uptoBulk d + 1
 end
def uptoSmall : (H : Type) → List (DataW H) → Bool := fun _ ds => decide (uptoBulkAll ds ≤ 1048576)
def OpenSpec.upto (s : _root_.Go.ChangeSpec) : _root_.Go.OpenSpec := { _root_.Go.OpenSpec.ofChange s with cond := some uptoSmall }

/-- 'multihoplaw11.MediumSingle', WHERE WHAT IT READS IS OF BULK AT MOST 1048576: true; the input reads as it did. -/
def mediumSingleUptoRow : OpenClaim := { program := "ytbnphjniadiclaadoor", sum := "071bc342ca76d929ba49e52b50abe91f46844d60f16e6a2cb6e7c968c9064a80", func := "multihop/multihoplaw11.MediumSingle", spec := "mediumSingle", named := ["multihop/multihoplaw11.line"], apart := false, laid := [("multihop/multihoplaw11.line", laid_multihop_multihoplaw11_line)], narrowed := true }
def MediumSingleUptoSaid : Prop := mediumSingleUptoRow.holds Tryd.pinned (OpenSpec.upto mediumSingleSpec)

/-- 'multihoplaw11.MediumDraws', WHERE WHAT IT READS IS OF BULK AT MOST 1048576: true; the input reads as it did. -/
def mediumDrawsUptoRow : OpenClaim := { program := "ytbnphjniadiclaadoor", sum := "071bc342ca76d929ba49e52b50abe91f46844d60f16e6a2cb6e7c968c9064a80", func := "multihop/multihoplaw11.MediumDraws", spec := "mediumDraws", named := ["multihop/multihoplaw11.line"], apart := false, laid := [("multihop/multihoplaw11.line", laid_multihop_multihoplaw11_line)], narrowed := true }
def MediumDrawsUptoSaid : Prop := mediumDrawsUptoRow.holds Tryd.pinned (OpenSpec.upto mediumDrawsSpec)

/-- 'multihoplaw11.MediumFresh', WHERE WHAT IT READS IS OF BULK AT MOST 1048576: true; the input reads as it did. -/
def mediumFreshUptoRow : OpenClaim := { program := "ytbnphjniadiclaadoor", sum := "071bc342ca76d929ba49e52b50abe91f46844d60f16e6a2cb6e7c968c9064a80", func := "multihop/multihoplaw11.MediumFresh", spec := "mediumFresh", named := ["multihop/multihoplaw11.line"], apart := false, laid := [("multihop/multihoplaw11.line", laid_multihop_multihoplaw11_line)], narrowed := true }
def MediumFreshUptoSaid : Prop := mediumFreshUptoRow.holds Tryd.pinned (OpenSpec.upto mediumFreshSpec)

/-- 'multihoplaw11.MediumCollides', WHERE WHAT IT READS IS OF BULK AT MOST 1048576: true; the input reads as it did. -/
def mediumCollidesUptoRow : OpenClaim := { program := "ytbnphjniadiclaadoor", sum := "071bc342ca76d929ba49e52b50abe91f46844d60f16e6a2cb6e7c968c9064a80", func := "multihop/multihoplaw11.MediumCollides", spec := "mediumCollides", named := ["multihop/multihoplaw11.line"], apart := false, laid := [("multihop/multihoplaw11.line", laid_multihop_multihoplaw11_line)], narrowed := true }
def MediumCollidesUptoSaid : Prop := mediumCollidesUptoRow.holds Tryd.pinned (OpenSpec.upto mediumCollidesSpec)

/-- 'multihoplaw11.MediumParts', WHERE WHAT IT READS IS OF BULK AT MOST 1048576: true; the input reads as it did. -/
def mediumPartsUptoRow : OpenClaim := { program := "ytbnphjniadiclaadoor", sum := "071bc342ca76d929ba49e52b50abe91f46844d60f16e6a2cb6e7c968c9064a80", func := "multihop/multihoplaw11.MediumParts", spec := "mediumParts", named := ["multihop/multihoplaw11.line"], apart := false, laid := [("multihop/multihoplaw11.line", laid_multihop_multihoplaw11_line)], narrowed := true }
def MediumPartsUptoSaid : Prop := mediumPartsUptoRow.holds Tryd.pinned (OpenSpec.upto mediumPartsSpec)

/-- 'multihoplaw11.MediumForms', WHERE WHAT IT READS IS OF BULK AT MOST 1048576: true; the input reads as it did. -/
def mediumFormsUptoRow : OpenClaim := { program := "ytbnphjniadiclaadoor", sum := "071bc342ca76d929ba49e52b50abe91f46844d60f16e6a2cb6e7c968c9064a80", func := "multihop/multihoplaw11.MediumForms", spec := "mediumForms", named := ["multihop/multihoplaw11.line"], apart := false, laid := [("multihop/multihoplaw11.line", laid_multihop_multihoplaw11_line)], narrowed := true }
def MediumFormsUptoSaid : Prop := mediumFormsUptoRow.holds Tryd.pinned (OpenSpec.upto mediumFormsSpec)

end Rows
end Go.Proofs.YtbnphjniadiclaaDoor
