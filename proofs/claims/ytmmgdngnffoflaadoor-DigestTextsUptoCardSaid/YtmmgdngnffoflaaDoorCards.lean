/-
  DERIVED. GIVEN WITH THE SEED: THE CARDS: each row of YtmmgdngnffoflaaDoorRows.lean that lists a variable, with what it lists TIED to the program's text (the seventh form; the later family's looks); each row that meets fmt, with fmt's text TOLD by the authors' own Lean function (tested against real Go, not proved from fmt's source: count such statements apart). THE CARD IS WHAT COUNTS. Prove the row's statement (the work); the ties are given (YtmmgdngnffoflaaDoorTie.lean); close each card by the builder's one call (the guide's Derived/Test/ToyasCard.lean, 'card_holds'). Laid BY PROGRAM, IN A SANDBOX (cutbox-door.mjs). By AI agents, Wed Nov 11 2026. No macro, syntax, notation, axiom, sorry.
-/
import Derived.Test.YtmmgdngnffoflaaDoorRows
import GoSem.ClaimSeven
namespace Go.Proofs.YtmmgdngnffoflaaDoor
namespace Rows

/-- THE TIED CARD OF 'blotterlaw10.DigestTexts'. -/
def digestTextsCard : Claim7 := { stood := { row := digestTextsRow, standIns := [], harness := (true, "ba94cd5e49590f6b1e3da9c9abd1c7117378b7c989663d77f598056a62edbe7c"), looks := true }, kinds := [], alts := [], laidByText := true, laidKinds := [.data, .pinned], laidTests := true, laidLooks := .later }
def DigestTextsCardSaid : Prop := Claim7.holds Tryd.pinned (.plain (OpenSpec.ofChange digestTextsSpec)) digestTextsCard

/-- THE TIED CARD OF 'blotterlaw10.DigestBack'. -/
def digestBackCard : Claim7 := { stood := { row := digestBackRow, standIns := [], harness := (true, "ba94cd5e49590f6b1e3da9c9abd1c7117378b7c989663d77f598056a62edbe7c"), looks := true }, kinds := [], alts := [], laidByText := true, laidKinds := [.data, .pinned], laidTests := true, laidLooks := .later }
def DigestBackCardSaid : Prop := Claim7.holds Tryd.pinned (.plain (OpenSpec.ofChange digestBackSpec)) digestBackCard

/-- THE TIED CARD OF 'blotterlaw10.DigestForms'. -/
def digestFormsCard : Claim7 := { stood := { row := digestFormsRow, standIns := [], harness := (true, "ba94cd5e49590f6b1e3da9c9abd1c7117378b7c989663d77f598056a62edbe7c"), looks := true }, kinds := [], alts := [], laidByText := true, laidKinds := [.data, .pinned], laidTests := true, laidLooks := .later }
def DigestFormsCardSaid : Prop := Claim7.holds Tryd.pinned (.plain (OpenSpec.ofChange digestFormsSpec)) digestFormsCard

/-- THE TIED CARD OF 'blottertop.TopWire'. -/
def topWireCard : Claim7 := { stood := { row := topWireRow, standIns := [], harness := (true, "ba94cd5e49590f6b1e3da9c9abd1c7117378b7c989663d77f598056a62edbe7c"), looks := true }, kinds := [], alts := [], laidByText := true, laidKinds := [.data, .pinned], laidTests := true, laidLooks := .later }
def TopWireCardSaid : Prop := Claim7.holds Tryd.pinned (.plain (OpenSpec.ofChange topWireSpec)) topWireCard

/-- THE TIED CARD OF 'blotterlaw10.DigestWorks'. -/
def digestWorksCard : Claim7 := { stood := { row := digestWorksRow, standIns := [], harness := (true, "ba94cd5e49590f6b1e3da9c9abd1c7117378b7c989663d77f598056a62edbe7c"), looks := true }, kinds := [], alts := [], laidByText := true, laidKinds := [.data, .pinned], laidTests := true, laidLooks := .later }
def DigestWorksCardSaid : Prop := Claim7.holds Tryd.pinned (.plain (OpenSpec.ofChange digestWorksSpec)) digestWorksCard

/-- THE TIED CARD OF 'blotterlaw21.WsxMasks'. -/
def wsxMasksCard : Claim7 := { stood := { row := wsxMasksRow, standIns := [], harness := (true, "ba94cd5e49590f6b1e3da9c9abd1c7117378b7c989663d77f598056a62edbe7c"), looks := true }, kinds := [], alts := [], laidByText := true, laidKinds := [.data, .pinned], laidTests := true, laidLooks := .later }
def WsxMasksCardSaid : Prop := Claim7.holds Tryd.pinned (.plain (OpenSpec.ofChange wsxMasksSpec)) wsxMasksCard

/-- THE TIED CARD OF 'blotterlaw21.WsxEnds'. -/
def wsxEndsCard : Claim7 := { stood := { row := wsxEndsRow, standIns := [], harness := (true, "ba94cd5e49590f6b1e3da9c9abd1c7117378b7c989663d77f598056a62edbe7c"), looks := true }, kinds := [], alts := [], laidByText := true, laidKinds := [.data, .pinned], laidTests := true, laidLooks := .later }
def WsxEndsCardSaid : Prop := Claim7.holds Tryd.pinned (.plain (OpenSpec.ofChange wsxEndsSpec)) wsxEndsCard

/-- THE TIED CARD OF 'blotterlaw21.WsxPieces'. -/
def wsxPiecesCard : Claim7 := { stood := { row := wsxPiecesRow, standIns := [], harness := (true, "ba94cd5e49590f6b1e3da9c9abd1c7117378b7c989663d77f598056a62edbe7c"), looks := true }, kinds := [], alts := [], laidByText := true, laidKinds := [.data, .pinned], laidTests := true, laidLooks := .later }
def WsxPiecesCardSaid : Prop := Claim7.holds Tryd.pinned (.plain (OpenSpec.ofChange wsxPiecesSpec)) wsxPiecesCard

/-- THE TIED CARD OF 'blotterlaw21.WsxBack'. -/
def wsxBackCard : Claim7 := { stood := { row := wsxBackRow, standIns := [], harness := (true, "ba94cd5e49590f6b1e3da9c9abd1c7117378b7c989663d77f598056a62edbe7c"), looks := true }, kinds := [], alts := [], laidByText := true, laidKinds := [.data, .pinned], laidTests := true, laidLooks := .later }
def WsxBackCardSaid : Prop := Claim7.holds Tryd.pinned (.plain (OpenSpec.ofChange wsxBackSpec)) wsxBackCard

/-- THE TIED CARD OF 'blotterlaw21.WsxShakes'. -/
def wsxShakesCard : Claim7 := { stood := { row := wsxShakesRow, standIns := [], harness := (true, "ba94cd5e49590f6b1e3da9c9abd1c7117378b7c989663d77f598056a62edbe7c"), looks := true }, kinds := [], alts := [], laidByText := true, laidKinds := [.data, .pinned], laidTests := true, laidLooks := .later }
def WsxShakesCardSaid : Prop := Claim7.holds Tryd.pinned (.plain (OpenSpec.ofChange wsxShakesSpec)) wsxShakesCard

/-- THE SECOND FORM's CARD OF 'blotterlaw10.DigestTexts'. -/
def digestTextsUptoCard : Claim7 := { stood := { row := digestTextsUptoRow, standIns := [], harness := (true, "ba94cd5e49590f6b1e3da9c9abd1c7117378b7c989663d77f598056a62edbe7c"), looks := true }, kinds := [], alts := [], laidByText := true, laidKinds := [.data, .pinned], laidTests := true, laidLooks := .later }
def DigestTextsUptoCardSaid : Prop := Claim7.holds Tryd.pinned (.plain (OpenSpec.upto digestTextsSpec)) digestTextsUptoCard

/-- THE SECOND FORM's CARD OF 'blotterlaw10.DigestBack'. -/
def digestBackUptoCard : Claim7 := { stood := { row := digestBackUptoRow, standIns := [], harness := (true, "ba94cd5e49590f6b1e3da9c9abd1c7117378b7c989663d77f598056a62edbe7c"), looks := true }, kinds := [], alts := [], laidByText := true, laidKinds := [.data, .pinned], laidTests := true, laidLooks := .later }
def DigestBackUptoCardSaid : Prop := Claim7.holds Tryd.pinned (.plain (OpenSpec.upto digestBackSpec)) digestBackUptoCard

/-- THE SECOND FORM's CARD OF 'blotterlaw10.DigestForms'. -/
def digestFormsUptoCard : Claim7 := { stood := { row := digestFormsUptoRow, standIns := [], harness := (true, "ba94cd5e49590f6b1e3da9c9abd1c7117378b7c989663d77f598056a62edbe7c"), looks := true }, kinds := [], alts := [], laidByText := true, laidKinds := [.data, .pinned], laidTests := true, laidLooks := .later }
def DigestFormsUptoCardSaid : Prop := Claim7.holds Tryd.pinned (.plain (OpenSpec.upto digestFormsSpec)) digestFormsUptoCard

/-- THE SECOND FORM's CARD OF 'blottertop.TopWire'. -/
def topWireUptoCard : Claim7 := { stood := { row := topWireUptoRow, standIns := [], harness := (true, "ba94cd5e49590f6b1e3da9c9abd1c7117378b7c989663d77f598056a62edbe7c"), looks := true }, kinds := [], alts := [], laidByText := true, laidKinds := [.data, .pinned], laidTests := true, laidLooks := .later }
def TopWireUptoCardSaid : Prop := Claim7.holds Tryd.pinned (.plain (OpenSpec.upto topWireSpec)) topWireUptoCard

/-- THE SECOND FORM's CARD OF 'blotterlaw10.DigestWorks'. -/
def digestWorksUptoCard : Claim7 := { stood := { row := digestWorksUptoRow, standIns := [], harness := (true, "ba94cd5e49590f6b1e3da9c9abd1c7117378b7c989663d77f598056a62edbe7c"), looks := true }, kinds := [], alts := [], laidByText := true, laidKinds := [.data, .pinned], laidTests := true, laidLooks := .later }
def DigestWorksUptoCardSaid : Prop := Claim7.holds Tryd.pinned (.plain (OpenSpec.upto digestWorksSpec)) digestWorksUptoCard

/-- THE SECOND FORM's CARD OF 'blotterlaw21.WsxMasks'. -/
def wsxMasksUptoCard : Claim7 := { stood := { row := wsxMasksUptoRow, standIns := [], harness := (true, "ba94cd5e49590f6b1e3da9c9abd1c7117378b7c989663d77f598056a62edbe7c"), looks := true }, kinds := [], alts := [], laidByText := true, laidKinds := [.data, .pinned], laidTests := true, laidLooks := .later }
def WsxMasksUptoCardSaid : Prop := Claim7.holds Tryd.pinned (.plain (OpenSpec.upto wsxMasksSpec)) wsxMasksUptoCard

/-- THE SECOND FORM's CARD OF 'blotterlaw21.WsxEnds'. -/
def wsxEndsUptoCard : Claim7 := { stood := { row := wsxEndsUptoRow, standIns := [], harness := (true, "ba94cd5e49590f6b1e3da9c9abd1c7117378b7c989663d77f598056a62edbe7c"), looks := true }, kinds := [], alts := [], laidByText := true, laidKinds := [.data, .pinned], laidTests := true, laidLooks := .later }
def WsxEndsUptoCardSaid : Prop := Claim7.holds Tryd.pinned (.plain (OpenSpec.upto wsxEndsSpec)) wsxEndsUptoCard

/-- THE SECOND FORM's CARD OF 'blotterlaw21.WsxPieces'. -/
def wsxPiecesUptoCard : Claim7 := { stood := { row := wsxPiecesUptoRow, standIns := [], harness := (true, "ba94cd5e49590f6b1e3da9c9abd1c7117378b7c989663d77f598056a62edbe7c"), looks := true }, kinds := [], alts := [], laidByText := true, laidKinds := [.data, .pinned], laidTests := true, laidLooks := .later }
def WsxPiecesUptoCardSaid : Prop := Claim7.holds Tryd.pinned (.plain (OpenSpec.upto wsxPiecesSpec)) wsxPiecesUptoCard

/-- THE SECOND FORM's CARD OF 'blotterlaw21.WsxBack'. -/
def wsxBackUptoCard : Claim7 := { stood := { row := wsxBackUptoRow, standIns := [], harness := (true, "ba94cd5e49590f6b1e3da9c9abd1c7117378b7c989663d77f598056a62edbe7c"), looks := true }, kinds := [], alts := [], laidByText := true, laidKinds := [.data, .pinned], laidTests := true, laidLooks := .later }
def WsxBackUptoCardSaid : Prop := Claim7.holds Tryd.pinned (.plain (OpenSpec.upto wsxBackSpec)) wsxBackUptoCard

/-- THE SECOND FORM's CARD OF 'blotterlaw21.WsxShakes'. -/
def wsxShakesUptoCard : Claim7 := { stood := { row := wsxShakesUptoRow, standIns := [], harness := (true, "ba94cd5e49590f6b1e3da9c9abd1c7117378b7c989663d77f598056a62edbe7c"), looks := true }, kinds := [], alts := [], laidByText := true, laidKinds := [.data, .pinned], laidTests := true, laidLooks := .later }
def WsxShakesUptoCardSaid : Prop := Claim7.holds Tryd.pinned (.plain (OpenSpec.upto wsxShakesSpec)) wsxShakesUptoCard
end Rows
end Go.Proofs.YtmmgdngnffoflaaDoor
