/-
  DERIVED. GIVEN WITH THE SEED: THE CARDS: each row of YthpngienphnaoaaDoorRows.lean that lists a variable, with what it lists TIED to the program's text (the seventh form; the later family's looks); each row that meets fmt, with fmt's text TOLD by the authors' own Lean function (tested against real Go, not proved from fmt's source: count such statements apart). THE CARD IS WHAT COUNTS. Prove the row's statement (the work); the ties are given (YthpngienphnaoaaDoorTie.lean); close each card by the builder's one call (the guide's Derived/Test/ToyasCard.lean, 'card_holds'). Laid BY PROGRAM, IN A SANDBOX (cutbox-door.mjs). By AI agents, Wed Nov 11 2026. No macro, syntax, notation, axiom, sorry.
-/
import Derived.Test.YthpngienphnaoaaDoorRows
import GoSem.ClaimSeven
namespace Go.Proofs.YthpngienphnaoaaDoor
namespace Rows

/-- THE TIED CARD OF 'blotterlaw01.RunesSplices'. -/
def runesSplicesCard : Claim7 := { stood := { row := runesSplicesRow, standIns := [], harness := (true, "be60e4ea6e091a127c8b4b9cfca9cd957df5aee393d6a447e7d6ccb274658919"), looks := false }, kinds := [], alts := [], laidByText := true, laidKinds := [.data, .pinned], laidTests := true, laidLooks := .later }
def RunesSplicesCardSaid : Prop := Claim7.holds Tryd.pinned (.plain (OpenSpec.ofChange runesSplicesSpec)) runesSplicesCard

/-- THE TIED CARD OF 'blotterlaw01.RunesAlike'. -/
def runesAlikeCard : Claim7 := { stood := { row := runesAlikeRow, standIns := [], harness := (true, "be60e4ea6e091a127c8b4b9cfca9cd957df5aee393d6a447e7d6ccb274658919"), looks := false }, kinds := [], alts := [], laidByText := true, laidKinds := [.data, .pinned], laidTests := true, laidLooks := .later }
def RunesAlikeCardSaid : Prop := Claim7.holds Tryd.pinned (.plain (OpenSpec.ofChange runesAlikeSpec)) runesAlikeCard

/-- THE TIED CARD OF 'blotterlaw01.RunesLines'. -/
def runesLinesCard : Claim7 := { stood := { row := runesLinesRow, standIns := [], harness := (true, "be60e4ea6e091a127c8b4b9cfca9cd957df5aee393d6a447e7d6ccb274658919"), looks := false }, kinds := [], alts := [], laidByText := true, laidKinds := [.data, .pinned], laidTests := true, laidLooks := .later }
def RunesLinesCardSaid : Prop := Claim7.holds Tryd.pinned (.plain (OpenSpec.ofChange runesLinesSpec)) runesLinesCard

/-- THE TIED CARD OF 'blotterlaw01.RunesSame'. -/
def runesSameCard : Claim7 := { stood := { row := runesSameRow, standIns := [], harness := (true, "be60e4ea6e091a127c8b4b9cfca9cd957df5aee393d6a447e7d6ccb274658919"), looks := false }, kinds := [], alts := [], laidByText := true, laidKinds := [.data, .pinned], laidTests := true, laidLooks := .later }
def RunesSameCardSaid : Prop := Claim7.holds Tryd.pinned (.plain (OpenSpec.ofChange runesSameSpec)) runesSameCard

/-- THE TIED CARD OF 'blotterlaw01.RunesJoined'. -/
def runesJoinedCard : Claim7 := { stood := { row := runesJoinedRow, standIns := [], harness := (true, "be60e4ea6e091a127c8b4b9cfca9cd957df5aee393d6a447e7d6ccb274658919"), looks := false }, kinds := [], alts := [], laidByText := true, laidKinds := [.data, .pinned], laidTests := true, laidLooks := .later }
def RunesJoinedCardSaid : Prop := Claim7.holds Tryd.pinned (.plain (OpenSpec.ofChange runesJoinedSpec)) runesJoinedCard

/-- THE TIED CARD OF 'blotterlaw01.RunesBack'. -/
def runesBackCard : Claim7 := { stood := { row := runesBackRow, standIns := [], harness := (true, "be60e4ea6e091a127c8b4b9cfca9cd957df5aee393d6a447e7d6ccb274658919"), looks := false }, kinds := [], alts := [], laidByText := true, laidKinds := [.data, .pinned], laidTests := true, laidLooks := .later }
def RunesBackCardSaid : Prop := Claim7.holds Tryd.pinned (.plain (OpenSpec.ofChange runesBackSpec)) runesBackCard

/-- THE TIED CARD OF 'blotterlaw11.TupleWorks'. -/
def tupleWorksCard : Claim7 := { stood := { row := tupleWorksRow, standIns := [], harness := (true, "be60e4ea6e091a127c8b4b9cfca9cd957df5aee393d6a447e7d6ccb274658919"), looks := false }, kinds := [], alts := [], laidByText := true, laidKinds := [.data, .pinned], laidTests := true, laidLooks := .later }
def TupleWorksCardSaid : Prop := Claim7.holds Tryd.pinned (.plain (OpenSpec.ofChange tupleWorksSpec)) tupleWorksCard

/-- THE TIED CARD OF 'blotterlaw11.TupleOrder'. -/
def tupleOrderCard : Claim7 := { stood := { row := tupleOrderRow, standIns := [], harness := (true, "be60e4ea6e091a127c8b4b9cfca9cd957df5aee393d6a447e7d6ccb274658919"), looks := false }, kinds := [], alts := [], laidByText := true, laidKinds := [.data, .pinned], laidTests := true, laidLooks := .later }
def TupleOrderCardSaid : Prop := Claim7.holds Tryd.pinned (.plain (OpenSpec.ofChange tupleOrderSpec)) tupleOrderCard

/-- THE TIED CARD OF 'blotterlaw11.TupleBack'. -/
def tupleBackCard : Claim7 := { stood := { row := tupleBackRow, standIns := [], harness := (true, "be60e4ea6e091a127c8b4b9cfca9cd957df5aee393d6a447e7d6ccb274658919"), looks := false }, kinds := [], alts := [], laidByText := true, laidKinds := [.data, .pinned], laidTests := true, laidLooks := .later }
def TupleBackCardSaid : Prop := Claim7.holds Tryd.pinned (.plain (OpenSpec.ofChange tupleBackSpec)) tupleBackCard

/-- THE TIED CARD OF 'blotterlaw11.TupleMore'. -/
def tupleMoreCard : Claim7 := { stood := { row := tupleMoreRow, standIns := [], harness := (true, "be60e4ea6e091a127c8b4b9cfca9cd957df5aee393d6a447e7d6ccb274658919"), looks := false }, kinds := [], alts := [], laidByText := true, laidKinds := [.data, .pinned], laidTests := true, laidLooks := .later }
def TupleMoreCardSaid : Prop := Claim7.holds Tryd.pinned (.plain (OpenSpec.ofChange tupleMoreSpec)) tupleMoreCard

/-- THE TIED CARD OF 'blotterlaw01.RunesCuts'. -/
def runesCutsCard : Claim7 := { stood := { row := runesCutsRow, standIns := [], harness := (true, "be60e4ea6e091a127c8b4b9cfca9cd957df5aee393d6a447e7d6ccb274658919"), looks := false }, kinds := [], alts := [], laidByText := true, laidKinds := [.data, .pinned], laidTests := true, laidLooks := .later }
def RunesCutsCardSaid : Prop := Claim7.holds Tryd.pinned (.plain (OpenSpec.ofChange runesCutsSpec)) runesCutsCard

/-- THE TIED CARD OF 'blotterlaw01.RunesPlaces'. -/
def runesPlacesCard : Claim7 := { stood := { row := runesPlacesRow, standIns := [], harness := (true, "be60e4ea6e091a127c8b4b9cfca9cd957df5aee393d6a447e7d6ccb274658919"), looks := false }, kinds := [], alts := [], laidByText := true, laidKinds := [.data, .pinned], laidTests := true, laidLooks := .later }
def RunesPlacesCardSaid : Prop := Claim7.holds Tryd.pinned (.plain (OpenSpec.ofChange runesPlacesSpec)) runesPlacesCard

/-- THE SECOND FORM's CARD OF 'blotterlaw01.RunesSplices'. -/
def runesSplicesUptoCard : Claim7 := { stood := { row := runesSplicesUptoRow, standIns := [], harness := (true, "be60e4ea6e091a127c8b4b9cfca9cd957df5aee393d6a447e7d6ccb274658919"), looks := false }, kinds := [], alts := [], laidByText := true, laidKinds := [.data, .pinned], laidTests := true, laidLooks := .later }
def RunesSplicesUptoCardSaid : Prop := Claim7.holds Tryd.pinned (.plain (OpenSpec.upto runesSplicesSpec)) runesSplicesUptoCard

/-- THE SECOND FORM's CARD OF 'blotterlaw01.RunesAlike'. -/
def runesAlikeUptoCard : Claim7 := { stood := { row := runesAlikeUptoRow, standIns := [], harness := (true, "be60e4ea6e091a127c8b4b9cfca9cd957df5aee393d6a447e7d6ccb274658919"), looks := false }, kinds := [], alts := [], laidByText := true, laidKinds := [.data, .pinned], laidTests := true, laidLooks := .later }
def RunesAlikeUptoCardSaid : Prop := Claim7.holds Tryd.pinned (.plain (OpenSpec.upto runesAlikeSpec)) runesAlikeUptoCard

/-- THE SECOND FORM's CARD OF 'blotterlaw01.RunesLines'. -/
def runesLinesUptoCard : Claim7 := { stood := { row := runesLinesUptoRow, standIns := [], harness := (true, "be60e4ea6e091a127c8b4b9cfca9cd957df5aee393d6a447e7d6ccb274658919"), looks := false }, kinds := [], alts := [], laidByText := true, laidKinds := [.data, .pinned], laidTests := true, laidLooks := .later }
def RunesLinesUptoCardSaid : Prop := Claim7.holds Tryd.pinned (.plain (OpenSpec.upto runesLinesSpec)) runesLinesUptoCard

/-- THE SECOND FORM's CARD OF 'blotterlaw01.RunesSame'. -/
def runesSameUptoCard : Claim7 := { stood := { row := runesSameUptoRow, standIns := [], harness := (true, "be60e4ea6e091a127c8b4b9cfca9cd957df5aee393d6a447e7d6ccb274658919"), looks := false }, kinds := [], alts := [], laidByText := true, laidKinds := [.data, .pinned], laidTests := true, laidLooks := .later }
def RunesSameUptoCardSaid : Prop := Claim7.holds Tryd.pinned (.plain (OpenSpec.upto runesSameSpec)) runesSameUptoCard

/-- THE SECOND FORM's CARD OF 'blotterlaw01.RunesJoined'. -/
def runesJoinedUptoCard : Claim7 := { stood := { row := runesJoinedUptoRow, standIns := [], harness := (true, "be60e4ea6e091a127c8b4b9cfca9cd957df5aee393d6a447e7d6ccb274658919"), looks := false }, kinds := [], alts := [], laidByText := true, laidKinds := [.data, .pinned], laidTests := true, laidLooks := .later }
def RunesJoinedUptoCardSaid : Prop := Claim7.holds Tryd.pinned (.plain (OpenSpec.upto runesJoinedSpec)) runesJoinedUptoCard

/-- THE SECOND FORM's CARD OF 'blotterlaw01.RunesBack'. -/
def runesBackUptoCard : Claim7 := { stood := { row := runesBackUptoRow, standIns := [], harness := (true, "be60e4ea6e091a127c8b4b9cfca9cd957df5aee393d6a447e7d6ccb274658919"), looks := false }, kinds := [], alts := [], laidByText := true, laidKinds := [.data, .pinned], laidTests := true, laidLooks := .later }
def RunesBackUptoCardSaid : Prop := Claim7.holds Tryd.pinned (.plain (OpenSpec.upto runesBackSpec)) runesBackUptoCard

/-- THE SECOND FORM's CARD OF 'blotterlaw11.TupleWorks'. -/
def tupleWorksUptoCard : Claim7 := { stood := { row := tupleWorksUptoRow, standIns := [], harness := (true, "be60e4ea6e091a127c8b4b9cfca9cd957df5aee393d6a447e7d6ccb274658919"), looks := false }, kinds := [], alts := [], laidByText := true, laidKinds := [.data, .pinned], laidTests := true, laidLooks := .later }
def TupleWorksUptoCardSaid : Prop := Claim7.holds Tryd.pinned (.plain (OpenSpec.upto tupleWorksSpec)) tupleWorksUptoCard

/-- THE SECOND FORM's CARD OF 'blotterlaw11.TupleOrder'. -/
def tupleOrderUptoCard : Claim7 := { stood := { row := tupleOrderUptoRow, standIns := [], harness := (true, "be60e4ea6e091a127c8b4b9cfca9cd957df5aee393d6a447e7d6ccb274658919"), looks := false }, kinds := [], alts := [], laidByText := true, laidKinds := [.data, .pinned], laidTests := true, laidLooks := .later }
def TupleOrderUptoCardSaid : Prop := Claim7.holds Tryd.pinned (.plain (OpenSpec.upto tupleOrderSpec)) tupleOrderUptoCard

/-- THE SECOND FORM's CARD OF 'blotterlaw11.TupleBack'. -/
def tupleBackUptoCard : Claim7 := { stood := { row := tupleBackUptoRow, standIns := [], harness := (true, "be60e4ea6e091a127c8b4b9cfca9cd957df5aee393d6a447e7d6ccb274658919"), looks := false }, kinds := [], alts := [], laidByText := true, laidKinds := [.data, .pinned], laidTests := true, laidLooks := .later }
def TupleBackUptoCardSaid : Prop := Claim7.holds Tryd.pinned (.plain (OpenSpec.upto tupleBackSpec)) tupleBackUptoCard

/-- THE SECOND FORM's CARD OF 'blotterlaw11.TupleMore'. -/
def tupleMoreUptoCard : Claim7 := { stood := { row := tupleMoreUptoRow, standIns := [], harness := (true, "be60e4ea6e091a127c8b4b9cfca9cd957df5aee393d6a447e7d6ccb274658919"), looks := false }, kinds := [], alts := [], laidByText := true, laidKinds := [.data, .pinned], laidTests := true, laidLooks := .later }
def TupleMoreUptoCardSaid : Prop := Claim7.holds Tryd.pinned (.plain (OpenSpec.upto tupleMoreSpec)) tupleMoreUptoCard

/-- THE SECOND FORM's CARD OF 'blotterlaw01.RunesCuts'. -/
def runesCutsUptoCard : Claim7 := { stood := { row := runesCutsUptoRow, standIns := [], harness := (true, "be60e4ea6e091a127c8b4b9cfca9cd957df5aee393d6a447e7d6ccb274658919"), looks := false }, kinds := [], alts := [], laidByText := true, laidKinds := [.data, .pinned], laidTests := true, laidLooks := .later }
def RunesCutsUptoCardSaid : Prop := Claim7.holds Tryd.pinned (.plain (OpenSpec.upto runesCutsSpec)) runesCutsUptoCard

/-- THE SECOND FORM's CARD OF 'blotterlaw01.RunesPlaces'. -/
def runesPlacesUptoCard : Claim7 := { stood := { row := runesPlacesUptoRow, standIns := [], harness := (true, "be60e4ea6e091a127c8b4b9cfca9cd957df5aee393d6a447e7d6ccb274658919"), looks := false }, kinds := [], alts := [], laidByText := true, laidKinds := [.data, .pinned], laidTests := true, laidLooks := .later }
def RunesPlacesUptoCardSaid : Prop := Claim7.holds Tryd.pinned (.plain (OpenSpec.upto runesPlacesSpec)) runesPlacesUptoCard
end Rows
end Go.Proofs.YthpngienphnaoaaDoor
