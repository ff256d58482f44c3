/-
  DERIVED. GIVEN WITH THE SEED: THE CARDS: each row of YtligbjbkecmecaaDoorRows.lean that lists a variable, with what it lists TIED to the program's text (the seventh form; the later family's looks); each row that meets fmt, with fmt's text TOLD by the authors' own Lean function (tested against real Go, not proved from fmt's source: count such statements apart). THE CARD IS WHAT COUNTS. Prove the row's statement (the work); the ties are given (YtligbjbkecmecaaDoorTie.lean); close each card by the builder's one call (the guide's Derived/Test/ToyasCard.lean, 'card_holds'). Laid BY PROGRAM, IN A SANDBOX (cutbox-door.mjs). By AI agents, Wed Nov 11 2026. No macro, syntax, notation, axiom, sorry.
-/
import Derived.Test.YtligbjbkecmecaaDoorRows
import GoSem.ClaimSeven
namespace Go.Proofs.YtligbjbkecmecaaDoor
namespace Rows

/-- THE TIED CARD OF 'multihoplaw11.MediumFresh'. -/
def mediumFreshCard : Claim7 := { stood := { row := mediumFreshRow, standIns := [], harness := (true, "e42b0ac8a1c8f2b3f1cc8c0819e55ef32e54baca6dad3c1922df386e9ca36e87"), looks := false }, kinds := [], alts := [], laidByText := true, laidKinds := [.widerDeep], laidTests := true, laidLooks := .later }
def MediumFreshCardSaid : Prop := Claim7.holds Tryd.pinned (.plain (OpenSpec.ofChange mediumFreshSpec)) mediumFreshCard

/-- THE SECOND FORM's CARD OF 'multihoplaw11.MediumFresh'. -/
def mediumFreshUptoCard : Claim7 := { stood := { row := mediumFreshUptoRow, standIns := [], harness := (true, "e42b0ac8a1c8f2b3f1cc8c0819e55ef32e54baca6dad3c1922df386e9ca36e87"), looks := false }, kinds := [], alts := [], laidByText := true, laidKinds := [.widerDeep], laidTests := true, laidLooks := .later }
def MediumFreshUptoCardSaid : Prop := Claim7.holds Tryd.pinned (.plain (OpenSpec.upto mediumFreshSpec)) mediumFreshUptoCard
end Rows
end Go.Proofs.YtligbjbkecmecaaDoor
