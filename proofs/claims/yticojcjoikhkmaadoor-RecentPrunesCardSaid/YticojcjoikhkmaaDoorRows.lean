/-
  NARROWER THAN 'FOR EVERY INPUT', by the rows' own cells (each row's printed sentence says how): RecentPlays: laid · RecentOnce: laid · RecentBounded: laid · RecentForms: laid · RecentPrunes: laid.
  DERIVED. THE GIVEN ROWS OF THIS SEAT. 5 by the template 'for every input the law returns true; each argument reads behind the call as it read before'; 0 by the template 'total and deterministic' (their statements: YticojcjoikhkmaaDoorTotals.lean).
  GIVEN WITH THE SEED: the statements are not yours to turn. If you find one false, say at which input.
  Laid BY PROGRAM, IN A SANDBOX (cutbox-rows.mjs): the forced cells as the released guide's own fill.sh prints them over the translation 50135601e920fdea… (all of the seat's roots in one cut). By AI agents, Wed Nov 11 2026. No macro, syntax, notation, axiom, sorry.
-/
import Derived.Test.YticojcjoikhkmaaDoorChecked
import GoSem.Claim
import GoSem.ClaimJoined
import GoSem.ClaimMapViews
import Derived.JoinedTies
import Derived.KernelRfl
namespace Go.Proofs.YticojcjoikhkmaaDoor
/- THE CELL 'sum', in the pinned program and in every row, IS THE sha256 OF THE DUMP (.gsa) THAT YticojcjoikhkmaaDoorProg.lean LOADS. Nothing in Lean hashes anything: it is a label: what it is worth is what the hold of that sum in a sandbox is worth. -/
noncomputable def Tryd.pinned : Pinned := { name := "yticojcjoikhkmaadoor", sum := "50135601e920fdea2959c99da3e7910dede1ee2f813244422bd4d5c2eb3b731e", checked := Tryd.checked }
namespace Rows
def none {H : Type} : Left H := { results := [], args := [] }

/- WHAT THE LISTED PACKAGE-LEVEL VARIABLES READ AS WHEN THE CALL BEGINS. Each datum BY PROGRAM (the guide's laid-datum.mjs) off the statement by which the dump's own 'gosem.cut.vars' lays the variable. In a bare row this is a premise. The card (YticojcjoikhkmaaDoorCards.lean) ties it to the program's text. -/
def laid_multihop_multihoplaw07_one {H : Type} : DataW H := .agg [.lit (.int .i64 2), .lit (.int .u16 1), .lit (.int .u64 0)]

/-- 'multihoplaw07.RecentPlays': WHATEVER THE INPUT: true; the input reads as it did. -/
def recentPlaysSpec : ChangeSpec := { name := "recentPlays", fn := fun _ => fun
  | [d] => { results := [.lit (.bool true)], args := [d] }
  | _ => none }
def recentPlaysRow : OpenClaim := { program := "yticojcjoikhkmaadoor", sum := "50135601e920fdea2959c99da3e7910dede1ee2f813244422bd4d5c2eb3b731e", func := "multihop/multihoplaw07.RecentPlays", spec := "recentPlays", unfollowed := true, recurses := true, named := ["multihop/multihoplaw07.one"], apart := false, laid := [("multihop/multihoplaw07.one", laid_multihop_multihoplaw07_one)] }
def RecentPlaysSaid : Prop := recentPlaysRow.holds Tryd.pinned (OpenSpec.ofChange recentPlaysSpec)

/-- ITS FALSE NEIGHBOUR: 'it returns false'. Refute it at one input. -/
def recentPlaysWrong : ChangeSpec := { name := "recentPlays", fn := fun _ => fun
  | [d] => { results := [.lit (.bool false)], args := [d] }
  | _ => none }
def RecentPlaysWrongFalsely : Prop := recentPlaysRow.holds Tryd.pinned (OpenSpec.ofChange recentPlaysWrong)

/-- 'multihoplaw07.RecentOnce': WHATEVER THE INPUT: true; the input reads as it did. -/
def recentOnceSpec : ChangeSpec := { name := "recentOnce", fn := fun _ => fun
  | [d1, d2, d3] => { results := [.lit (.bool true)], args := [d1, d2, d3] }
  | _ => none }
def recentOnceRow : OpenClaim := { program := "yticojcjoikhkmaadoor", sum := "50135601e920fdea2959c99da3e7910dede1ee2f813244422bd4d5c2eb3b731e", func := "multihop/multihoplaw07.RecentOnce", spec := "recentOnce", unfollowed := true, recurses := true, named := ["multihop/multihoplaw07.one"], apart := false, laid := [("multihop/multihoplaw07.one", laid_multihop_multihoplaw07_one)] }
def RecentOnceSaid : Prop := recentOnceRow.holds Tryd.pinned (OpenSpec.ofChange recentOnceSpec)

/-- ITS FALSE NEIGHBOUR: 'it returns false'. Refute it at one input. -/
def recentOnceWrong : ChangeSpec := { name := "recentOnce", fn := fun _ => fun
  | [d1, d2, d3] => { results := [.lit (.bool false)], args := [d1, d2, d3] }
  | _ => none }
def RecentOnceWrongFalsely : Prop := recentOnceRow.holds Tryd.pinned (OpenSpec.ofChange recentOnceWrong)

/-- 'multihoplaw07.RecentBounded': WHATEVER THE INPUT: true; the input reads as it did. -/
def recentBoundedSpec : ChangeSpec := { name := "recentBounded", fn := fun _ => fun
  | [d1, d2] => { results := [.lit (.bool true)], args := [d1, d2] }
  | _ => none }
def recentBoundedRow : OpenClaim := { program := "yticojcjoikhkmaadoor", sum := "50135601e920fdea2959c99da3e7910dede1ee2f813244422bd4d5c2eb3b731e", func := "multihop/multihoplaw07.RecentBounded", spec := "recentBounded", unfollowed := true, recurses := true, named := ["multihop/multihoplaw07.one"], apart := false, laid := [("multihop/multihoplaw07.one", laid_multihop_multihoplaw07_one)] }
def RecentBoundedSaid : Prop := recentBoundedRow.holds Tryd.pinned (OpenSpec.ofChange recentBoundedSpec)

/-- ITS FALSE NEIGHBOUR: 'it returns false'. Refute it at one input. -/
def recentBoundedWrong : ChangeSpec := { name := "recentBounded", fn := fun _ => fun
  | [d1, d2] => { results := [.lit (.bool false)], args := [d1, d2] }
  | _ => none }
def RecentBoundedWrongFalsely : Prop := recentBoundedRow.holds Tryd.pinned (OpenSpec.ofChange recentBoundedWrong)

/-- 'multihoplaw07.RecentForms': WHATEVER THE INPUT: true; the input reads as it did. -/
def recentFormsSpec : ChangeSpec := { name := "recentForms", fn := fun _ => fun
  | [d1, d2, d3, d4, d5] => { results := [.lit (.bool true)], args := [d1, d2, d3, d4, d5] }
  | _ => none }
def recentFormsRow : OpenClaim := { program := "yticojcjoikhkmaadoor", sum := "50135601e920fdea2959c99da3e7910dede1ee2f813244422bd4d5c2eb3b731e", func := "multihop/multihoplaw07.RecentForms", spec := "recentForms", unfollowed := true, recurses := true, named := ["multihop/multihoplaw07.one"], apart := false, laid := [("multihop/multihoplaw07.one", laid_multihop_multihoplaw07_one)] }
def RecentFormsSaid : Prop := recentFormsRow.holds Tryd.pinned (OpenSpec.ofChange recentFormsSpec)

/-- ITS FALSE NEIGHBOUR: 'it returns false'. Refute it at one input. -/
def recentFormsWrong : ChangeSpec := { name := "recentForms", fn := fun _ => fun
  | [d1, d2, d3, d4, d5] => { results := [.lit (.bool false)], args := [d1, d2, d3, d4, d5] }
  | _ => none }
def RecentFormsWrongFalsely : Prop := recentFormsRow.holds Tryd.pinned (OpenSpec.ofChange recentFormsWrong)

/-- 'multihoplaw07.RecentPrunes': WHATEVER THE INPUT: true; the input reads as it did. -/
def recentPrunesSpec : ChangeSpec := { name := "recentPrunes", fn := fun _ => fun
  | [d1, d2] => { results := [.lit (.bool true)], args := [d1, d2] }
  | _ => none }
def recentPrunesRow : OpenClaim := { program := "yticojcjoikhkmaadoor", sum := "50135601e920fdea2959c99da3e7910dede1ee2f813244422bd4d5c2eb3b731e", func := "multihop/multihoplaw07.RecentPrunes", spec := "recentPrunes", unfollowed := true, recurses := true, named := ["multihop/multihoplaw07.one"], apart := false, laid := [("multihop/multihoplaw07.one", laid_multihop_multihoplaw07_one)] }
def RecentPrunesSaid : Prop := recentPrunesRow.holds Tryd.pinned (OpenSpec.ofChange recentPrunesSpec)

/-- ITS FALSE NEIGHBOUR: 'it returns false'. Refute it at one input. -/
def recentPrunesWrong : ChangeSpec := { name := "recentPrunes", fn := fun _ => fun
  | [d1, d2] => { results := [.lit (.bool false)], args := [d1, d2] }
  | _ => none }
def RecentPrunesWrongFalsely : Prop := recentPrunesRow.holds Tryd.pinned (OpenSpec.ofChange recentPrunesWrong)

/- THE SECOND FORM. 'bulk': how many values and letters a reading holds, each counted each time it is reached (what is shared counts as often as it is met; a slice's spare places count too). A statement '..UptoSaid' is the law's where the arguments, and the package variables that the reading takes, are together of bulk at most 1048576: NARROWER than '..Said'. Prove '..Said' where nothing that the law and all that it calls make is longer than what came in: it says more and counts as full. Else prove '..UptoSaid'. A law counts once. -/
mutual
def uptoBulk {H : Type} : DataW H → Nat
  | .lit (.string bytes) => bytes.length + 1
  | .lit _ => 1
  | .nil => 1
  | .ptr d => uptoBulk d + 1
  | .slice elems spare => uptoBulkAll elems + uptoBulkAll spare + 1
  | .agg parts => uptoBulkAll parts + 1
  | .iface _ d => uptoBulk d + 1
  | .map entries => uptoBulkEntries entries + 1
  | .held _ => 1
def uptoBulkAll {H : Type} : List (DataW H) → Nat
  | [] => 0
  | d :: r => uptoBulk d + uptoBulkAll r
def uptoBulkEntries {H : Type} : List (Lit × DataW H) → Nat
  | [] => 0
  | x :: r => uptoBulkEntry x + uptoBulkEntries r
def uptoBulkEntry {H : Type} : Lit × DataW H → Nat
  | (.string bytes, d) => bytes.length + uptoBulk d + 1
  | (_, d) => uptoBulk d + 1
 end
def uptoSmall : (H : Type) → List (DataW H) → Bool := fun _ ds => decide (uptoBulkAll ds ≤ 1048576)
def OpenSpec.upto (s : _root_.Go.ChangeSpec) : _root_.Go.OpenSpec := { _root_.Go.OpenSpec.ofChange s with cond := some uptoSmall }

/-- 'multihoplaw07.RecentPlays', WHERE WHAT IT READS IS OF BULK AT MOST 1048576: true; the input reads as it did. -/
def recentPlaysUptoRow : OpenClaim := { program := "yticojcjoikhkmaadoor", sum := "50135601e920fdea2959c99da3e7910dede1ee2f813244422bd4d5c2eb3b731e", func := "multihop/multihoplaw07.RecentPlays", spec := "recentPlays", unfollowed := true, recurses := true, named := ["multihop/multihoplaw07.one"], apart := false, laid := [("multihop/multihoplaw07.one", laid_multihop_multihoplaw07_one)], narrowed := true }
def RecentPlaysUptoSaid : Prop := recentPlaysUptoRow.holds Tryd.pinned (OpenSpec.upto recentPlaysSpec)

/-- 'multihoplaw07.RecentOnce', WHERE WHAT IT READS IS OF BULK AT MOST 1048576: true; the input reads as it did. -/
def recentOnceUptoRow : OpenClaim := { program := "yticojcjoikhkmaadoor", sum := "50135601e920fdea2959c99da3e7910dede1ee2f813244422bd4d5c2eb3b731e", func := "multihop/multihoplaw07.RecentOnce", spec := "recentOnce", unfollowed := true, recurses := true, named := ["multihop/multihoplaw07.one"], apart := false, laid := [("multihop/multihoplaw07.one", laid_multihop_multihoplaw07_one)], narrowed := true }
def RecentOnceUptoSaid : Prop := recentOnceUptoRow.holds Tryd.pinned (OpenSpec.upto recentOnceSpec)

/-- 'multihoplaw07.RecentBounded', WHERE WHAT IT READS IS OF BULK AT MOST 1048576: true; the input reads as it did. -/
def recentBoundedUptoRow : OpenClaim := { program := "yticojcjoikhkmaadoor", sum := "50135601e920fdea2959c99da3e7910dede1ee2f813244422bd4d5c2eb3b731e", func := "multihop/multihoplaw07.RecentBounded", spec := "recentBounded", unfollowed := true, recurses := true, named := ["multihop/multihoplaw07.one"], apart := false, laid := [("multihop/multihoplaw07.one", laid_multihop_multihoplaw07_one)], narrowed := true }
def RecentBoundedUptoSaid : Prop := recentBoundedUptoRow.holds Tryd.pinned (OpenSpec.upto recentBoundedSpec)

/-- 'multihoplaw07.RecentForms', WHERE WHAT IT READS IS OF BULK AT MOST 1048576: true; the input reads as it did. -/
def recentFormsUptoRow : OpenClaim := { program := "yticojcjoikhkmaadoor", sum := "50135601e920fdea2959c99da3e7910dede1ee2f813244422bd4d5c2eb3b731e", func := "multihop/multihoplaw07.RecentForms", spec := "recentForms", unfollowed := true, recurses := true, named := ["multihop/multihoplaw07.one"], apart := false, laid := [("multihop/multihoplaw07.one", laid_multihop_multihoplaw07_one)], narrowed := true }
def RecentFormsUptoSaid : Prop := recentFormsUptoRow.holds Tryd.pinned (OpenSpec.upto recentFormsSpec)

/-- 'multihoplaw07.RecentPrunes', WHERE WHAT IT READS IS OF BULK AT MOST 1048576: true; the input reads as it did. -/
def recentPrunesUptoRow : OpenClaim := { program := "yticojcjoikhkmaadoor", sum := "50135601e920fdea2959c99da3e7910dede1ee2f813244422bd4d5c2eb3b731e", func := "multihop/multihoplaw07.RecentPrunes", spec := "recentPrunes", unfollowed := true, recurses := true, named := ["multihop/multihoplaw07.one"], apart := false, laid := [("multihop/multihoplaw07.one", laid_multihop_multihoplaw07_one)], narrowed := true }
def RecentPrunesUptoSaid : Prop := recentPrunesUptoRow.holds Tryd.pinned (OpenSpec.upto recentPrunesSpec)

end Rows
end Go.Proofs.YticojcjoikhkmaaDoor
