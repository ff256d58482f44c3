/-
  DERIVED. GIVEN WITH THE SEED: THE CARDS: each row of YticojcjoikhkmaaDoorRows.lean that lists a variable, with what it lists TIED to the program's text (the seventh form; the later family's looks); each row that meets fmt, with fmt's text TOLD by the authors' own Lean function (tested against real Go, not proved from fmt's source: count such statements apart). THE CARD IS WHAT COUNTS. Prove the row's statement (the work); the ties are given (YticojcjoikhkmaaDoorTie.lean); close each card by the builder's one call (the guide's Derived/Test/ToyasCard.lean, 'card_holds'). Laid BY PROGRAM, IN A SANDBOX (cutbox-door.mjs). By AI agents, Wed Nov 11 2026. No macro, syntax, notation, axiom, sorry.
-/
import Derived.Test.YticojcjoikhkmaaDoorRows
import GoSem.ClaimSeven
namespace Go.Proofs.YticojcjoikhkmaaDoor
namespace Rows

/-- THE TIED CARD OF 'multihoplaw07.RecentPlays'. -/
def recentPlaysCard : Claim7 := { stood := { row := recentPlaysRow, standIns := [], harness := (true, "4110f4321029d1ba4618585915d65d1d59020506fce3e7df6aaa36534665a0d0"), looks := false }, kinds := [], alts := [], laidByText := true, laidKinds := [.data], laidTests := true, laidLooks := .later }
def RecentPlaysCardSaid : Prop := Claim7.holds Tryd.pinned (.plain (OpenSpec.ofChange recentPlaysSpec)) recentPlaysCard

/-- THE TIED CARD OF 'multihoplaw07.RecentOnce'. -/
def recentOnceCard : Claim7 := { stood := { row := recentOnceRow, standIns := [], harness := (true, "4110f4321029d1ba4618585915d65d1d59020506fce3e7df6aaa36534665a0d0"), looks := false }, kinds := [], alts := [], laidByText := true, laidKinds := [.data], laidTests := true, laidLooks := .later }
def RecentOnceCardSaid : Prop := Claim7.holds Tryd.pinned (.plain (OpenSpec.ofChange recentOnceSpec)) recentOnceCard

/-- THE TIED CARD OF 'multihoplaw07.RecentBounded'. -/
def recentBoundedCard : Claim7 := { stood := { row := recentBoundedRow, standIns := [], harness := (true, "4110f4321029d1ba4618585915d65d1d59020506fce3e7df6aaa36534665a0d0"), looks := false }, kinds := [], alts := [], laidByText := true, laidKinds := [.data], laidTests := true, laidLooks := .later }
def RecentBoundedCardSaid : Prop := Claim7.holds Tryd.pinned (.plain (OpenSpec.ofChange recentBoundedSpec)) recentBoundedCard

/-- THE TIED CARD OF 'multihoplaw07.RecentForms'. -/
def recentFormsCard : Claim7 := { stood := { row := recentFormsRow, standIns := [], harness := (true, "4110f4321029d1ba4618585915d65d1d59020506fce3e7df6aaa36534665a0d0"), looks := false }, kinds := [], alts := [], laidByText := true, laidKinds := [.data], laidTests := true, laidLooks := .later }
def RecentFormsCardSaid : Prop := Claim7.holds Tryd.pinned (.plain (OpenSpec.ofChange recentFormsSpec)) recentFormsCard

/-- THE TIED CARD OF 'multihoplaw07.RecentPrunes'. -/
def recentPrunesCard : Claim7 := { stood := { row := recentPrunesRow, standIns := [], harness := (true, "4110f4321029d1ba4618585915d65d1d59020506fce3e7df6aaa36534665a0d0"), looks := false }, kinds := [], alts := [], laidByText := true, laidKinds := [.data], laidTests := true, laidLooks := .later }
def RecentPrunesCardSaid : Prop := Claim7.holds Tryd.pinned (.plain (OpenSpec.ofChange recentPrunesSpec)) recentPrunesCard

/-- THE SECOND FORM's CARD OF 'multihoplaw07.RecentPlays'. -/
def recentPlaysUptoCard : Claim7 := { stood := { row := recentPlaysUptoRow, standIns := [], harness := (true, "4110f4321029d1ba4618585915d65d1d59020506fce3e7df6aaa36534665a0d0"), looks := false }, kinds := [], alts := [], laidByText := true, laidKinds := [.data], laidTests := true, laidLooks := .later }
def RecentPlaysUptoCardSaid : Prop := Claim7.holds Tryd.pinned (.plain (OpenSpec.upto recentPlaysSpec)) recentPlaysUptoCard

/-- THE SECOND FORM's CARD OF 'multihoplaw07.RecentOnce'. -/
def recentOnceUptoCard : Claim7 := { stood := { row := recentOnceUptoRow, standIns := [], harness := (true, "4110f4321029d1ba4618585915d65d1d59020506fce3e7df6aaa36534665a0d0"), looks := false }, kinds := [], alts := [], laidByText := true, laidKinds := [.data], laidTests := true, laidLooks := .later }
def RecentOnceUptoCardSaid : Prop := Claim7.holds Tryd.pinned (.plain (OpenSpec.upto recentOnceSpec)) recentOnceUptoCard

/-- THE SECOND FORM's CARD OF 'multihoplaw07.RecentBounded'. -/
def recentBoundedUptoCard : Claim7 := { stood := { row := recentBoundedUptoRow, standIns := [], harness := (true, "4110f4321029d1ba4618585915d65d1d59020506fce3e7df6aaa36534665a0d0"), looks := false }, kinds := [], alts := [], laidByText := true, laidKinds := [.data], laidTests := true, laidLooks := .later }
def RecentBoundedUptoCardSaid : Prop := Claim7.holds Tryd.pinned (.plain (OpenSpec.upto recentBoundedSpec)) recentBoundedUptoCard

/-- THE SECOND FORM's CARD OF 'multihoplaw07.RecentForms'. -/
def recentFormsUptoCard : Claim7 := { stood := { row := recentFormsUptoRow, standIns := [], harness := (true, "4110f4321029d1ba4618585915d65d1d59020506fce3e7df6aaa36534665a0d0"), looks := false }, kinds := [], alts := [], laidByText := true, laidKinds := [.data], laidTests := true, laidLooks := .later }
def RecentFormsUptoCardSaid : Prop := Claim7.holds Tryd.pinned (.plain (OpenSpec.upto recentFormsSpec)) recentFormsUptoCard

/-- THE SECOND FORM's CARD OF 'multihoplaw07.RecentPrunes'. -/
def recentPrunesUptoCard : Claim7 := { stood := { row := recentPrunesUptoRow, standIns := [], harness := (true, "4110f4321029d1ba4618585915d65d1d59020506fce3e7df6aaa36534665a0d0"), looks := false }, kinds := [], alts := [], laidByText := true, laidKinds := [.data], laidTests := true, laidLooks := .later }
def RecentPrunesUptoCardSaid : Prop := Claim7.holds Tryd.pinned (.plain (OpenSpec.upto recentPrunesSpec)) recentPrunesUptoCard
end Rows
end Go.Proofs.YticojcjoikhkmaaDoor
