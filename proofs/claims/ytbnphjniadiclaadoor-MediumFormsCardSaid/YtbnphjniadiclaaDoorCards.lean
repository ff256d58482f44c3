/-
  DERIVED. GIVEN WITH THE SEED: THE CARDS: each row of YtbnphjniadiclaaDoorRows.lean that lists a variable, with what it lists TIED to the program's text (the seventh form; the later family's looks); each row that meets fmt, with fmt's text TOLD by the authors' own Lean function (tested against real Go, not proved from fmt's source: count such statements apart). THE CARD IS WHAT COUNTS. Prove the row's statement (the work); the ties are given (YtbnphjniadiclaaDoorTie.lean); close each card by the builder's one call (the guide's Derived/Test/ToyasCard.lean, 'card_holds'). Laid BY PROGRAM, IN A SANDBOX (cutbox-door.mjs). By AI agents, Wed Nov 11 2026. No macro, syntax, notation, axiom, sorry.
-/
import Derived.Test.YtbnphjniadiclaaDoorRows
import GoSem.ClaimSeven
namespace Go.Proofs.YtbnphjniadiclaaDoor
namespace Rows

/-- THE TIED CARD OF 'multihoplaw11.MediumSingle'. -/
def mediumSingleCard : Claim7 := { stood := { row := mediumSingleRow, standIns := [], harness := (true, "b7c8472c2dc660f5c3ae36b271109a3a96913222a0f0de1ad00ab75b39faa109"), looks := false }, kinds := [], alts := [], laidByText := true, laidKinds := [.widerDeep], laidTests := true, laidLooks := .later }
def MediumSingleCardSaid : Prop := Claim7.holds Tryd.pinned (.plain (OpenSpec.ofChange mediumSingleSpec)) mediumSingleCard

/-- THE TIED CARD OF 'multihoplaw11.MediumDraws'. -/
def mediumDrawsCard : Claim7 := { stood := { row := mediumDrawsRow, standIns := [], harness := (true, "b7c8472c2dc660f5c3ae36b271109a3a96913222a0f0de1ad00ab75b39faa109"), looks := false }, kinds := [], alts := [], laidByText := true, laidKinds := [.widerDeep], laidTests := true, laidLooks := .later }
def MediumDrawsCardSaid : Prop := Claim7.holds Tryd.pinned (.plain (OpenSpec.ofChange mediumDrawsSpec)) mediumDrawsCard

/-- THE TIED CARD OF 'multihoplaw11.MediumFresh'. -/
def mediumFreshCard : Claim7 := { stood := { row := mediumFreshRow, standIns := [], harness := (true, "b7c8472c2dc660f5c3ae36b271109a3a96913222a0f0de1ad00ab75b39faa109"), looks := false }, kinds := [], alts := [], laidByText := true, laidKinds := [.widerDeep], laidTests := true, laidLooks := .later }
def MediumFreshCardSaid : Prop := Claim7.holds Tryd.pinned (.plain (OpenSpec.ofChange mediumFreshSpec)) mediumFreshCard

/-- THE TIED CARD OF 'multihoplaw11.MediumCollides'. -/
def mediumCollidesCard : Claim7 := { stood := { row := mediumCollidesRow, standIns := [], harness := (true, "b7c8472c2dc660f5c3ae36b271109a3a96913222a0f0de1ad00ab75b39faa109"), looks := false }, kinds := [], alts := [], laidByText := true, laidKinds := [.widerDeep], laidTests := true, laidLooks := .later }
def MediumCollidesCardSaid : Prop := Claim7.holds Tryd.pinned (.plain (OpenSpec.ofChange mediumCollidesSpec)) mediumCollidesCard

/-- THE TIED CARD OF 'multihoplaw11.MediumParts'. -/
def mediumPartsCard : Claim7 := { stood := { row := mediumPartsRow, standIns := [], harness := (true, "b7c8472c2dc660f5c3ae36b271109a3a96913222a0f0de1ad00ab75b39faa109"), looks := false }, kinds := [], alts := [], laidByText := true, laidKinds := [.widerDeep], laidTests := true, laidLooks := .later }
def MediumPartsCardSaid : Prop := Claim7.holds Tryd.pinned (.plain (OpenSpec.ofChange mediumPartsSpec)) mediumPartsCard

/-- THE TIED CARD OF 'multihoplaw11.MediumForms'. -/
def mediumFormsCard : Claim7 := { stood := { row := mediumFormsRow, standIns := [], harness := (true, "b7c8472c2dc660f5c3ae36b271109a3a96913222a0f0de1ad00ab75b39faa109"), looks := false }, kinds := [], alts := [], laidByText := true, laidKinds := [.widerDeep], laidTests := true, laidLooks := .later }
def MediumFormsCardSaid : Prop := Claim7.holds Tryd.pinned (.plain (OpenSpec.ofChange mediumFormsSpec)) mediumFormsCard

/-- THE SECOND FORM's CARD OF 'multihoplaw11.MediumSingle'. -/
def mediumSingleUptoCard : Claim7 := { stood := { row := mediumSingleUptoRow, standIns := [], harness := (true, "b7c8472c2dc660f5c3ae36b271109a3a96913222a0f0de1ad00ab75b39faa109"), looks := false }, kinds := [], alts := [], laidByText := true, laidKinds := [.widerDeep], laidTests := true, laidLooks := .later }
def MediumSingleUptoCardSaid : Prop := Claim7.holds Tryd.pinned (.plain (OpenSpec.upto mediumSingleSpec)) mediumSingleUptoCard

/-- THE SECOND FORM's CARD OF 'multihoplaw11.MediumDraws'. -/
def mediumDrawsUptoCard : Claim7 := { stood := { row := mediumDrawsUptoRow, standIns := [], harness := (true, "b7c8472c2dc660f5c3ae36b271109a3a96913222a0f0de1ad00ab75b39faa109"), looks := false }, kinds := [], alts := [], laidByText := true, laidKinds := [.widerDeep], laidTests := true, laidLooks := .later }
def MediumDrawsUptoCardSaid : Prop := Claim7.holds Tryd.pinned (.plain (OpenSpec.upto mediumDrawsSpec)) mediumDrawsUptoCard

/-- THE SECOND FORM's CARD OF 'multihoplaw11.MediumFresh'. -/
def mediumFreshUptoCard : Claim7 := { stood := { row := mediumFreshUptoRow, standIns := [], harness := (true, "b7c8472c2dc660f5c3ae36b271109a3a96913222a0f0de1ad00ab75b39faa109"), looks := false }, kinds := [], alts := [], laidByText := true, laidKinds := [.widerDeep], laidTests := true, laidLooks := .later }
def MediumFreshUptoCardSaid : Prop := Claim7.holds Tryd.pinned (.plain (OpenSpec.upto mediumFreshSpec)) mediumFreshUptoCard

/-- THE SECOND FORM's CARD OF 'multihoplaw11.MediumCollides'. -/
def mediumCollidesUptoCard : Claim7 := { stood := { row := mediumCollidesUptoRow, standIns := [], harness := (true, "b7c8472c2dc660f5c3ae36b271109a3a96913222a0f0de1ad00ab75b39faa109"), looks := false }, kinds := [], alts := [], laidByText := true, laidKinds := [.widerDeep], laidTests := true, laidLooks := .later }
def MediumCollidesUptoCardSaid : Prop := Claim7.holds Tryd.pinned (.plain (OpenSpec.upto mediumCollidesSpec)) mediumCollidesUptoCard

/-- THE SECOND FORM's CARD OF 'multihoplaw11.MediumParts'. -/
def mediumPartsUptoCard : Claim7 := { stood := { row := mediumPartsUptoRow, standIns := [], harness := (true, "b7c8472c2dc660f5c3ae36b271109a3a96913222a0f0de1ad00ab75b39faa109"), looks := false }, kinds := [], alts := [], laidByText := true, laidKinds := [.widerDeep], laidTests := true, laidLooks := .later }
def MediumPartsUptoCardSaid : Prop := Claim7.holds Tryd.pinned (.plain (OpenSpec.upto mediumPartsSpec)) mediumPartsUptoCard

/-- THE SECOND FORM's CARD OF 'multihoplaw11.MediumForms'. -/
def mediumFormsUptoCard : Claim7 := { stood := { row := mediumFormsUptoRow, standIns := [], harness := (true, "b7c8472c2dc660f5c3ae36b271109a3a96913222a0f0de1ad00ab75b39faa109"), looks := false }, kinds := [], alts := [], laidByText := true, laidKinds := [.widerDeep], laidTests := true, laidLooks := .later }
def MediumFormsUptoCardSaid : Prop := Claim7.holds Tryd.pinned (.plain (OpenSpec.upto mediumFormsSpec)) mediumFormsUptoCard
end Rows
end Go.Proofs.YtbnphjniadiclaaDoor
