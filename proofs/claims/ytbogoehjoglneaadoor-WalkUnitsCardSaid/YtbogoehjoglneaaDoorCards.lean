/-
  DERIVED. GIVEN WITH THE SEED: THE CARDS: each row of YtbogoehjoglneaaDoorRows.lean that lists a variable, with what it lists TIED to the program's text (the seventh form; the later family's looks); each row that meets fmt, with fmt's text TOLD by the authors' own Lean function (tested against real Go, not proved from fmt's source: count such statements apart). THE CARD IS WHAT COUNTS. Prove the row's statement (the work); the ties are given (YtbogoehjoglneaaDoorTie.lean); close each card by the builder's one call (the guide's Derived/Test/ToyasCard.lean, 'card_holds'). Laid BY PROGRAM, IN A SANDBOX (cutbox-door.mjs). By AI agents, Wed Nov 11 2026. No macro, syntax, notation, axiom, sorry.
-/
import Derived.Test.YtbogoehjoglneaaDoorRows
import GoSem.ClaimSeven
namespace Go.Proofs.YtbogoehjoglneaaDoor
namespace Rows

/-- THE TIED CARD OF 'galleylaw11.WalkCursor'. -/
def walkCursorCard : Claim7 := { stood := { row := walkCursorRow, standIns := [], harness := (true, "b280b00e3b92ecd9e6a3e609b5cc27c29f6d1694213eee478c4bc32f6f2ed1db"), looks := true }, kinds := [], alts := [], laidByText := true, laidKinds := [.data, .data, .data, .data], laidTests := true, laidLooks := .later }
def WalkCursorCardSaid : Prop := Claim7.holds Tryd.pinned (.plain (OpenSpec.ofChange walkCursorSpec)) walkCursorCard

/-- THE TIED CARD OF 'galleylaw11.WalkThere'. -/
def walkThereCard : Claim7 := { stood := { row := walkThereRow, standIns := [], harness := (true, "b280b00e3b92ecd9e6a3e609b5cc27c29f6d1694213eee478c4bc32f6f2ed1db"), looks := true }, kinds := [], alts := [], laidByText := true, laidKinds := [.data, .data, .data, .data], laidTests := true, laidLooks := .later }
def WalkThereCardSaid : Prop := Claim7.holds Tryd.pinned (.plain (OpenSpec.ofChange walkThereSpec)) walkThereCard

/-- THE TIED CARD OF 'galleylaw11.WalkSteps'. -/
def walkStepsCard : Claim7 := { stood := { row := walkStepsRow, standIns := [], harness := (true, "b280b00e3b92ecd9e6a3e609b5cc27c29f6d1694213eee478c4bc32f6f2ed1db"), looks := true }, kinds := [], alts := [], laidByText := true, laidKinds := [.data, .data, .data, .data], laidTests := true, laidLooks := .later }
def WalkStepsCardSaid : Prop := Claim7.holds Tryd.pinned (.plain (OpenSpec.ofChange walkStepsSpec)) walkStepsCard

/-- THE TIED CARD OF 'galleylaw11.WalkLong'. -/
def walkLongCard : Claim7 := { stood := { row := walkLongRow, standIns := [], harness := (true, "b280b00e3b92ecd9e6a3e609b5cc27c29f6d1694213eee478c4bc32f6f2ed1db"), looks := true }, kinds := [], alts := [], laidByText := true, laidKinds := [.data, .data, .data, .data], laidTests := true, laidLooks := .later }
def WalkLongCardSaid : Prop := Claim7.holds Tryd.pinned (.plain (OpenSpec.ofChange walkLongSpec)) walkLongCard

/-- THE TIED CARD OF 'galleylaw10.SeekSteps'. -/
def seekStepsCard : Claim7 := { stood := { row := seekStepsRow, standIns := [], harness := (true, "b280b00e3b92ecd9e6a3e609b5cc27c29f6d1694213eee478c4bc32f6f2ed1db"), looks := true }, kinds := [], alts := [], laidByText := true, laidKinds := [.data, .data, .data, .data], laidTests := true, laidLooks := .later }
def SeekStepsCardSaid : Prop := Claim7.holds Tryd.pinned (.plain (OpenSpec.ofChange seekStepsSpec)) seekStepsCard

/-- THE TIED CARD OF 'galleylaw11.WalkUnits'. -/
def walkUnitsCard : Claim7 := { stood := { row := walkUnitsRow, standIns := [], harness := (true, "b280b00e3b92ecd9e6a3e609b5cc27c29f6d1694213eee478c4bc32f6f2ed1db"), looks := true }, kinds := [], alts := [], laidByText := true, laidKinds := [.data, .data, .data, .data], laidTests := true, laidLooks := .later }
def WalkUnitsCardSaid : Prop := Claim7.holds Tryd.pinned (.plain (OpenSpec.ofChange walkUnitsSpec)) walkUnitsCard

/-- THE TIED CARD OF 'galleylaw10.SeekNil'. -/
def seekNilCard : Claim7 := { stood := { row := seekNilRow, standIns := [], harness := (true, "b280b00e3b92ecd9e6a3e609b5cc27c29f6d1694213eee478c4bc32f6f2ed1db"), looks := true }, kinds := [], alts := [], laidByText := true, laidKinds := [.data, .data, .data, .data], laidTests := true, laidLooks := .later }
def SeekNilCardSaid : Prop := Claim7.holds Tryd.pinned (.plain (OpenSpec.ofChange seekNilSpec)) seekNilCard

/-- THE TIED CARD OF 'galleylaw11.WalkLines'. -/
def walkLinesCard : Claim7 := { stood := { row := walkLinesRow, standIns := [], harness := (true, "b280b00e3b92ecd9e6a3e609b5cc27c29f6d1694213eee478c4bc32f6f2ed1db"), looks := true }, kinds := [], alts := [], laidByText := true, laidKinds := [.data, .data, .data, .data], laidTests := true, laidLooks := .later }
def WalkLinesCardSaid : Prop := Claim7.holds Tryd.pinned (.plain (OpenSpec.ofChange walkLinesSpec)) walkLinesCard

/-- THE TIED CARD OF 'galleylaw11.WalkLongLines'. -/
def walkLongLinesCard : Claim7 := { stood := { row := walkLongLinesRow, standIns := [], harness := (true, "b280b00e3b92ecd9e6a3e609b5cc27c29f6d1694213eee478c4bc32f6f2ed1db"), looks := true }, kinds := [], alts := [], laidByText := true, laidKinds := [.data, .data, .data, .data], laidTests := true, laidLooks := .later }
def WalkLongLinesCardSaid : Prop := Claim7.holds Tryd.pinned (.plain (OpenSpec.ofChange walkLongLinesSpec)) walkLongLinesCard

/-- THE TIED CARD OF 'galleylaw11.WalkNil'. -/
def walkNilCard : Claim7 := { stood := { row := walkNilRow, standIns := [], harness := (true, "b280b00e3b92ecd9e6a3e609b5cc27c29f6d1694213eee478c4bc32f6f2ed1db"), looks := true }, kinds := [], alts := [], laidByText := true, laidKinds := [.data, .data, .data, .data], laidTests := true, laidLooks := .later }
def WalkNilCardSaid : Prop := Claim7.holds Tryd.pinned (.plain (OpenSpec.ofChange walkNilSpec)) walkNilCard

/-- THE TIED CARD OF 'galleylaw10.SeekBytes'. -/
def seekBytesCard : Claim7 := { stood := { row := seekBytesRow, standIns := [], harness := (true, "b280b00e3b92ecd9e6a3e609b5cc27c29f6d1694213eee478c4bc32f6f2ed1db"), looks := true }, kinds := [], alts := [], laidByText := true, laidKinds := [.data, .data, .data, .data], laidTests := true, laidLooks := .later }
def SeekBytesCardSaid : Prop := Claim7.holds Tryd.pinned (.plain (OpenSpec.ofChange seekBytesSpec)) seekBytesCard

/-- THE SECOND FORM's CARD OF 'galleylaw11.WalkCursor'. -/
def walkCursorUptoCard : Claim7 := { stood := { row := walkCursorUptoRow, standIns := [], harness := (true, "b280b00e3b92ecd9e6a3e609b5cc27c29f6d1694213eee478c4bc32f6f2ed1db"), looks := true }, kinds := [], alts := [], laidByText := true, laidKinds := [.data, .data, .data, .data], laidTests := true, laidLooks := .later }
def WalkCursorUptoCardSaid : Prop := Claim7.holds Tryd.pinned (.plain (OpenSpec.upto walkCursorSpec)) walkCursorUptoCard

/-- THE SECOND FORM's CARD OF 'galleylaw11.WalkThere'. -/
def walkThereUptoCard : Claim7 := { stood := { row := walkThereUptoRow, standIns := [], harness := (true, "b280b00e3b92ecd9e6a3e609b5cc27c29f6d1694213eee478c4bc32f6f2ed1db"), looks := true }, kinds := [], alts := [], laidByText := true, laidKinds := [.data, .data, .data, .data], laidTests := true, laidLooks := .later }
def WalkThereUptoCardSaid : Prop := Claim7.holds Tryd.pinned (.plain (OpenSpec.upto walkThereSpec)) walkThereUptoCard

/-- THE SECOND FORM's CARD OF 'galleylaw11.WalkSteps'. -/
def walkStepsUptoCard : Claim7 := { stood := { row := walkStepsUptoRow, standIns := [], harness := (true, "b280b00e3b92ecd9e6a3e609b5cc27c29f6d1694213eee478c4bc32f6f2ed1db"), looks := true }, kinds := [], alts := [], laidByText := true, laidKinds := [.data, .data, .data, .data], laidTests := true, laidLooks := .later }
def WalkStepsUptoCardSaid : Prop := Claim7.holds Tryd.pinned (.plain (OpenSpec.upto walkStepsSpec)) walkStepsUptoCard

/-- THE SECOND FORM's CARD OF 'galleylaw11.WalkLong'. -/
def walkLongUptoCard : Claim7 := { stood := { row := walkLongUptoRow, standIns := [], harness := (true, "b280b00e3b92ecd9e6a3e609b5cc27c29f6d1694213eee478c4bc32f6f2ed1db"), looks := true }, kinds := [], alts := [], laidByText := true, laidKinds := [.data, .data, .data, .data], laidTests := true, laidLooks := .later }
def WalkLongUptoCardSaid : Prop := Claim7.holds Tryd.pinned (.plain (OpenSpec.upto walkLongSpec)) walkLongUptoCard

/-- THE SECOND FORM's CARD OF 'galleylaw10.SeekSteps'. -/
def seekStepsUptoCard : Claim7 := { stood := { row := seekStepsUptoRow, standIns := [], harness := (true, "b280b00e3b92ecd9e6a3e609b5cc27c29f6d1694213eee478c4bc32f6f2ed1db"), looks := true }, kinds := [], alts := [], laidByText := true, laidKinds := [.data, .data, .data, .data], laidTests := true, laidLooks := .later }
def SeekStepsUptoCardSaid : Prop := Claim7.holds Tryd.pinned (.plain (OpenSpec.upto seekStepsSpec)) seekStepsUptoCard

/-- THE SECOND FORM's CARD OF 'galleylaw11.WalkUnits'. -/
def walkUnitsUptoCard : Claim7 := { stood := { row := walkUnitsUptoRow, standIns := [], harness := (true, "b280b00e3b92ecd9e6a3e609b5cc27c29f6d1694213eee478c4bc32f6f2ed1db"), looks := true }, kinds := [], alts := [], laidByText := true, laidKinds := [.data, .data, .data, .data], laidTests := true, laidLooks := .later }
def WalkUnitsUptoCardSaid : Prop := Claim7.holds Tryd.pinned (.plain (OpenSpec.upto walkUnitsSpec)) walkUnitsUptoCard

/-- THE SECOND FORM's CARD OF 'galleylaw10.SeekNil'. -/
def seekNilUptoCard : Claim7 := { stood := { row := seekNilUptoRow, standIns := [], harness := (true, "b280b00e3b92ecd9e6a3e609b5cc27c29f6d1694213eee478c4bc32f6f2ed1db"), looks := true }, kinds := [], alts := [], laidByText := true, laidKinds := [.data, .data, .data, .data], laidTests := true, laidLooks := .later }
def SeekNilUptoCardSaid : Prop := Claim7.holds Tryd.pinned (.plain (OpenSpec.upto seekNilSpec)) seekNilUptoCard

/-- THE SECOND FORM's CARD OF 'galleylaw11.WalkLines'. -/
def walkLinesUptoCard : Claim7 := { stood := { row := walkLinesUptoRow, standIns := [], harness := (true, "b280b00e3b92ecd9e6a3e609b5cc27c29f6d1694213eee478c4bc32f6f2ed1db"), looks := true }, kinds := [], alts := [], laidByText := true, laidKinds := [.data, .data, .data, .data], laidTests := true, laidLooks := .later }
def WalkLinesUptoCardSaid : Prop := Claim7.holds Tryd.pinned (.plain (OpenSpec.upto walkLinesSpec)) walkLinesUptoCard

/-- THE SECOND FORM's CARD OF 'galleylaw11.WalkLongLines'. -/
def walkLongLinesUptoCard : Claim7 := { stood := { row := walkLongLinesUptoRow, standIns := [], harness := (true, "b280b00e3b92ecd9e6a3e609b5cc27c29f6d1694213eee478c4bc32f6f2ed1db"), looks := true }, kinds := [], alts := [], laidByText := true, laidKinds := [.data, .data, .data, .data], laidTests := true, laidLooks := .later }
def WalkLongLinesUptoCardSaid : Prop := Claim7.holds Tryd.pinned (.plain (OpenSpec.upto walkLongLinesSpec)) walkLongLinesUptoCard

/-- THE SECOND FORM's CARD OF 'galleylaw11.WalkNil'. -/
def walkNilUptoCard : Claim7 := { stood := { row := walkNilUptoRow, standIns := [], harness := (true, "b280b00e3b92ecd9e6a3e609b5cc27c29f6d1694213eee478c4bc32f6f2ed1db"), looks := true }, kinds := [], alts := [], laidByText := true, laidKinds := [.data, .data, .data, .data], laidTests := true, laidLooks := .later }
def WalkNilUptoCardSaid : Prop := Claim7.holds Tryd.pinned (.plain (OpenSpec.upto walkNilSpec)) walkNilUptoCard

/-- THE SECOND FORM's CARD OF 'galleylaw10.SeekBytes'. -/
def seekBytesUptoCard : Claim7 := { stood := { row := seekBytesUptoRow, standIns := [], harness := (true, "b280b00e3b92ecd9e6a3e609b5cc27c29f6d1694213eee478c4bc32f6f2ed1db"), looks := true }, kinds := [], alts := [], laidByText := true, laidKinds := [.data, .data, .data, .data], laidTests := true, laidLooks := .later }
def SeekBytesUptoCardSaid : Prop := Claim7.holds Tryd.pinned (.plain (OpenSpec.upto seekBytesSpec)) seekBytesUptoCard
end Rows
end Go.Proofs.YtbogoehjoglneaaDoor
