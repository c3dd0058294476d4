/-
  DERIVED. GIVEN WITH THE SEED: THE CARDS: each row of YtdmjinlgdkgoiaaGreatDoorRows.lean that lists a variable, with what it lists TIED to the program's text (the seventh form; the later family's looks); each row that meets fmt, with fmt's text TOLD by the authors' own Lean function (tested against real Go, not proved from fmt's source: count such statements apart). THE CARD IS WHAT COUNTS. Prove the row's statement (the work); the ties are given (YtdmjinlgdkgoiaaGreatDoorTie.lean); close each card by the builder's one call (the guide's Derived/Test/ToyasCard.lean, 'card_holds'). Laid BY PROGRAM, IN A SANDBOX (cutbox-door.mjs). By AI agents, Wed Nov 11 2026. No macro, syntax, notation, axiom, sorry.
-/
import Derived.Test.YtdmjinlgdkgoiaaGreatDoorRows
import GoSem.ClaimSeven
namespace Go.Proofs.YtdmjinlgdkgoiaaGreatDoor
namespace Rows

/-- THE TIED CARD OF 'outcrylaw05.FixEncodes'. -/
def fixEncodesCard : Claim7 := { stood := { row := fixEncodesRow, standIns := [], harness := (true, "bdbd21760403a03c2f8fe4da8782411d7634ff79fc9d3b2da9c38d7a04ff1778"), looks := true }, kinds := [], alts := [], laidByText := true, laidKinds := [.data, .data, .data, .data, .sentinel, .sentinel, .sentinel, .pinned], laidTests := true, laidLooks := .later }
def FixEncodesCardSaid : Prop := Claim7.holds Tryz.pinned (.plain (OpenSpec.ofChange fixEncodesSpec)) fixEncodesCard

/-- THE TIED CARD OF 'outcrylaw05.FixTakes'. -/
def fixTakesCard : Claim7 := { stood := { row := fixTakesRow, standIns := [], harness := (true, "bdbd21760403a03c2f8fe4da8782411d7634ff79fc9d3b2da9c38d7a04ff1778"), looks := true }, kinds := [], alts := [], laidByText := true, laidKinds := [.data, .data, .data, .data, .sentinel, .sentinel, .sentinel, .pinned], laidTests := true, laidLooks := .later }
def FixTakesCardSaid : Prop := Claim7.holds Tryz.pinned (.plain (OpenSpec.ofChange fixTakesSpec)) fixTakesCard

/-- THE TIED CARD OF 'outcrylaw05.FixOrder'. -/
def fixOrderCard : Claim7 := { stood := { row := fixOrderRow, standIns := [], harness := (true, "bdbd21760403a03c2f8fe4da8782411d7634ff79fc9d3b2da9c38d7a04ff1778"), looks := true }, kinds := [], alts := [], laidByText := true, laidKinds := [.data, .data, .data, .data, .sentinel, .sentinel, .sentinel, .pinned], laidTests := true, laidLooks := .later }
def FixOrderCardSaid : Prop := Claim7.holds Tryz.pinned (.plain (OpenSpec.ofChange fixOrderSpec)) fixOrderCard

/-- THE TIED CARD OF 'outcrylaw05.FixDecodes'. -/
def fixDecodesCard : Claim7 := { stood := { row := fixDecodesRow, standIns := [], harness := (true, "bdbd21760403a03c2f8fe4da8782411d7634ff79fc9d3b2da9c38d7a04ff1778"), looks := true }, kinds := [], alts := [], laidByText := true, laidKinds := [.data, .data, .data, .data, .handle, .sentinel, .sentinel, .sentinel, .pinned], laidTests := true, laidLooks := .later }
def FixDecodesCardSaid : Prop := Claim7.holds Tryz.pinned (.plain (OpenSpec.ofChange fixDecodesSpec)) fixDecodesCard

/-- THE TIED CARD OF 'outcrylaw05.FixFields'. -/
def fixFieldsCard : Claim7 := { stood := { row := fixFieldsRow, standIns := [], harness := (true, "bdbd21760403a03c2f8fe4da8782411d7634ff79fc9d3b2da9c38d7a04ff1778"), looks := true }, kinds := [], alts := [], laidByText := true, laidKinds := [.data, .data, .data, .data, .handle, .sentinel, .sentinel, .sentinel, .pinned], laidTests := true, laidLooks := .later }
def FixFieldsCardSaid : Prop := Claim7.holds Tryz.pinned (.plain (OpenSpec.ofChange fixFieldsSpec)) fixFieldsCard

/-- THE TIED CARD OF 'outcrylaw05.FixBack'. -/
def fixBackCard : Claim7 := { stood := { row := fixBackRow, standIns := [], harness := (true, "bdbd21760403a03c2f8fe4da8782411d7634ff79fc9d3b2da9c38d7a04ff1778"), looks := true }, kinds := [], alts := [], laidByText := true, laidKinds := [.data, .data, .data, .data, .handle, .sentinel, .sentinel, .sentinel, .pinned], laidTests := true, laidLooks := .later }
def FixBackCardSaid : Prop := Claim7.holds Tryz.pinned (.plain (OpenSpec.ofChange fixBackSpec)) fixBackCard

/-- THE TIED CARD OF 'outcrytop.TopCodecs'. -/
def topCodecsCard : Claim7 := { stood := { row := topCodecsRow, standIns := [], harness := (true, "bdbd21760403a03c2f8fe4da8782411d7634ff79fc9d3b2da9c38d7a04ff1778"), looks := true }, kinds := [], alts := [], laidByText := true, laidKinds := [.data, .data, .data, .data, .sentinel, .sentinel, .sentinel, .pinned], laidTests := true, laidLooks := .later }
def TopCodecsCardSaid : Prop := Claim7.holds Tryz.pinned (.plain (OpenSpec.ofChange topCodecsSpec)) topCodecsCard

/-- THE TIED CARD OF 'outcrylaw05.FixSpoilt'. -/
def fixSpoiltCard : Claim7 := { stood := { row := fixSpoiltRow, standIns := [], harness := (true, "bdbd21760403a03c2f8fe4da8782411d7634ff79fc9d3b2da9c38d7a04ff1778"), looks := true }, kinds := [], alts := [], laidByText := true, laidKinds := [.data, .data, .data, .data, .handle, .sentinel, .sentinel, .sentinel, .pinned], laidTests := true, laidLooks := .later }
def FixSpoiltCardSaid : Prop := Claim7.holds Tryz.pinned (.plain (OpenSpec.ofChange fixSpoiltSpec)) fixSpoiltCard

/-- THE TIED CARD OF 'outcrylaw05.FixMisses'. -/
def fixMissesCard : Claim7 := { stood := { row := fixMissesRow, standIns := [], harness := (true, "bdbd21760403a03c2f8fe4da8782411d7634ff79fc9d3b2da9c38d7a04ff1778"), looks := true }, kinds := [], alts := [], laidByText := true, laidKinds := [.data, .data, .data, .data, .handle, .sentinel, .sentinel, .sentinel, .pinned], laidTests := true, laidLooks := .later }
def FixMissesCardSaid : Prop := Claim7.holds Tryz.pinned (.plain (OpenSpec.ofChange fixMissesSpec)) fixMissesCard

/-- THE TIED CARD OF 'outcrytop.TopChunks'. -/
def topChunksCard : Claim7 := { stood := { row := topChunksRow, standIns := [], harness := (true, "bdbd21760403a03c2f8fe4da8782411d7634ff79fc9d3b2da9c38d7a04ff1778"), looks := true }, kinds := [], alts := [], laidByText := true, laidKinds := [.data, .data, .data, .data, .sentinel, .sentinel, .sentinel, .pinned], laidTests := true, laidLooks := .later }
def TopChunksCardSaid : Prop := Claim7.holds Tryz.pinned (.plain (OpenSpec.ofChange topChunksSpec)) topChunksCard

/-- THE TIED CARD OF 'outcrylaw05.FixKnown'. -/
def fixKnownCard : Claim7 := { stood := { row := fixKnownRow, standIns := [], harness := (true, "bdbd21760403a03c2f8fe4da8782411d7634ff79fc9d3b2da9c38d7a04ff1778"), looks := true }, kinds := [], alts := [], laidByText := true, laidKinds := [.data, .data, .data, .data, .handle, .sentinel, .sentinel, .sentinel, .pinned], laidTests := true, laidLooks := .later }
def FixKnownCardSaid : Prop := Claim7.holds Tryz.pinned (.plain (OpenSpec.ofChange fixKnownSpec)) fixKnownCard

/-- THE SECOND FORM's CARD OF 'outcrylaw05.FixEncodes'. -/
def fixEncodesUptoCard : Claim7 := { stood := { row := fixEncodesUptoRow, standIns := [], harness := (true, "bdbd21760403a03c2f8fe4da8782411d7634ff79fc9d3b2da9c38d7a04ff1778"), looks := true }, kinds := [], alts := [], laidByText := true, laidKinds := [.data, .data, .data, .data, .sentinel, .sentinel, .sentinel, .pinned], laidTests := true, laidLooks := .later }
def FixEncodesUptoCardSaid : Prop := Claim7.holds Tryz.pinned (.plain (OpenSpec.upto fixEncodesSpec)) fixEncodesUptoCard

/-- THE SECOND FORM's CARD OF 'outcrylaw05.FixTakes'. -/
def fixTakesUptoCard : Claim7 := { stood := { row := fixTakesUptoRow, standIns := [], harness := (true, "bdbd21760403a03c2f8fe4da8782411d7634ff79fc9d3b2da9c38d7a04ff1778"), looks := true }, kinds := [], alts := [], laidByText := true, laidKinds := [.data, .data, .data, .data, .sentinel, .sentinel, .sentinel, .pinned], laidTests := true, laidLooks := .later }
def FixTakesUptoCardSaid : Prop := Claim7.holds Tryz.pinned (.plain (OpenSpec.upto fixTakesSpec)) fixTakesUptoCard

/-- THE SECOND FORM's CARD OF 'outcrylaw05.FixOrder'. -/
def fixOrderUptoCard : Claim7 := { stood := { row := fixOrderUptoRow, standIns := [], harness := (true, "bdbd21760403a03c2f8fe4da8782411d7634ff79fc9d3b2da9c38d7a04ff1778"), looks := true }, kinds := [], alts := [], laidByText := true, laidKinds := [.data, .data, .data, .data, .sentinel, .sentinel, .sentinel, .pinned], laidTests := true, laidLooks := .later }
def FixOrderUptoCardSaid : Prop := Claim7.holds Tryz.pinned (.plain (OpenSpec.upto fixOrderSpec)) fixOrderUptoCard

/-- THE SECOND FORM's CARD OF 'outcrylaw05.FixDecodes'. -/
def fixDecodesUptoCard : Claim7 := { stood := { row := fixDecodesUptoRow, standIns := [], harness := (true, "bdbd21760403a03c2f8fe4da8782411d7634ff79fc9d3b2da9c38d7a04ff1778"), looks := true }, kinds := [], alts := [], laidByText := true, laidKinds := [.data, .data, .data, .data, .handle, .sentinel, .sentinel, .sentinel, .pinned], laidTests := true, laidLooks := .later }
def FixDecodesUptoCardSaid : Prop := Claim7.holds Tryz.pinned (.plain (OpenSpec.upto fixDecodesSpec)) fixDecodesUptoCard

/-- THE SECOND FORM's CARD OF 'outcrylaw05.FixFields'. -/
def fixFieldsUptoCard : Claim7 := { stood := { row := fixFieldsUptoRow, standIns := [], harness := (true, "bdbd21760403a03c2f8fe4da8782411d7634ff79fc9d3b2da9c38d7a04ff1778"), looks := true }, kinds := [], alts := [], laidByText := true, laidKinds := [.data, .data, .data, .data, .handle, .sentinel, .sentinel, .sentinel, .pinned], laidTests := true, laidLooks := .later }
def FixFieldsUptoCardSaid : Prop := Claim7.holds Tryz.pinned (.plain (OpenSpec.upto fixFieldsSpec)) fixFieldsUptoCard

/-- THE SECOND FORM's CARD OF 'outcrylaw05.FixBack'. -/
def fixBackUptoCard : Claim7 := { stood := { row := fixBackUptoRow, standIns := [], harness := (true, "bdbd21760403a03c2f8fe4da8782411d7634ff79fc9d3b2da9c38d7a04ff1778"), looks := true }, kinds := [], alts := [], laidByText := true, laidKinds := [.data, .data, .data, .data, .handle, .sentinel, .sentinel, .sentinel, .pinned], laidTests := true, laidLooks := .later }
def FixBackUptoCardSaid : Prop := Claim7.holds Tryz.pinned (.plain (OpenSpec.upto fixBackSpec)) fixBackUptoCard

/-- THE SECOND FORM's CARD OF 'outcrytop.TopCodecs'. -/
def topCodecsUptoCard : Claim7 := { stood := { row := topCodecsUptoRow, standIns := [], harness := (true, "bdbd21760403a03c2f8fe4da8782411d7634ff79fc9d3b2da9c38d7a04ff1778"), looks := true }, kinds := [], alts := [], laidByText := true, laidKinds := [.data, .data, .data, .data, .sentinel, .sentinel, .sentinel, .pinned], laidTests := true, laidLooks := .later }
def TopCodecsUptoCardSaid : Prop := Claim7.holds Tryz.pinned (.plain (OpenSpec.upto topCodecsSpec)) topCodecsUptoCard

/-- THE SECOND FORM's CARD OF 'outcrylaw05.FixSpoilt'. -/
def fixSpoiltUptoCard : Claim7 := { stood := { row := fixSpoiltUptoRow, standIns := [], harness := (true, "bdbd21760403a03c2f8fe4da8782411d7634ff79fc9d3b2da9c38d7a04ff1778"), looks := true }, kinds := [], alts := [], laidByText := true, laidKinds := [.data, .data, .data, .data, .handle, .sentinel, .sentinel, .sentinel, .pinned], laidTests := true, laidLooks := .later }
def FixSpoiltUptoCardSaid : Prop := Claim7.holds Tryz.pinned (.plain (OpenSpec.upto fixSpoiltSpec)) fixSpoiltUptoCard

/-- THE SECOND FORM's CARD OF 'outcrylaw05.FixMisses'. -/
def fixMissesUptoCard : Claim7 := { stood := { row := fixMissesUptoRow, standIns := [], harness := (true, "bdbd21760403a03c2f8fe4da8782411d7634ff79fc9d3b2da9c38d7a04ff1778"), looks := true }, kinds := [], alts := [], laidByText := true, laidKinds := [.data, .data, .data, .data, .handle, .sentinel, .sentinel, .sentinel, .pinned], laidTests := true, laidLooks := .later }
def FixMissesUptoCardSaid : Prop := Claim7.holds Tryz.pinned (.plain (OpenSpec.upto fixMissesSpec)) fixMissesUptoCard

/-- THE SECOND FORM's CARD OF 'outcrytop.TopChunks'. -/
def topChunksUptoCard : Claim7 := { stood := { row := topChunksUptoRow, standIns := [], harness := (true, "bdbd21760403a03c2f8fe4da8782411d7634ff79fc9d3b2da9c38d7a04ff1778"), looks := true }, kinds := [], alts := [], laidByText := true, laidKinds := [.data, .data, .data, .data, .sentinel, .sentinel, .sentinel, .pinned], laidTests := true, laidLooks := .later }
def TopChunksUptoCardSaid : Prop := Claim7.holds Tryz.pinned (.plain (OpenSpec.upto topChunksSpec)) topChunksUptoCard

/-- THE SECOND FORM's CARD OF 'outcrylaw05.FixKnown'. -/
def fixKnownUptoCard : Claim7 := { stood := { row := fixKnownUptoRow, standIns := [], harness := (true, "bdbd21760403a03c2f8fe4da8782411d7634ff79fc9d3b2da9c38d7a04ff1778"), looks := true }, kinds := [], alts := [], laidByText := true, laidKinds := [.data, .data, .data, .data, .handle, .sentinel, .sentinel, .sentinel, .pinned], laidTests := true, laidLooks := .later }
def FixKnownUptoCardSaid : Prop := Claim7.holds Tryz.pinned (.plain (OpenSpec.upto fixKnownSpec)) fixKnownUptoCard
end Rows
end Go.Proofs.YtdmjinlgdkgoiaaGreatDoor
