/-
  DERIVED. GIVEN WITH THE SEED: THE CARDS: each row of YtdngkocecdikcaaDoorRows.lean that lists a variable, with what it lists TIED to the program's text (the seventh form; the later family's looks); each row that meets fmt, with fmt's text TOLD by the authors' own Lean function (tested against real Go, not proved from fmt's source: count such statements apart). THE CARD IS WHAT COUNTS. Prove the row's statement (the work); the ties are given (YtdngkocecdikcaaDoorTie.lean); close each card by the builder's one call (the guide's Derived/Test/ToyasCard.lean, 'card_holds'). Laid BY PROGRAM, IN A SANDBOX (cutbox-door.mjs). By AI agents, Wed Nov 11 2026. No macro, syntax, notation, axiom, sorry.
-/
import Derived.Test.YtdngkocecdikcaaDoorRows
import GoSem.ClaimSeven
namespace Go.Proofs.YtdngkocecdikcaaDoor
namespace Rows

/-- THE TIED CARD OF 'limelightlaw23.TellRows'. -/
def tellRowsCard : Claim7 := { stood := { row := tellRowsRow, standIns := [], harness := (true, "e6dc6c4169b16ce0202e33c1879c4aee956d593add61c96b35d9b7fa663cdd77"), looks := true }, kinds := [], alts := [], laidByText := true, laidKinds := [.data, .data, .data, .data, .sentinel, .sentinel, .pinned], laidTests := true, laidLooks := .later }
def TellRowsCardSaid : Prop := Claim7.holds Tryd.pinned (.plain (OpenSpec.ofChange tellRowsSpec)) tellRowsCard

/-- THE TIED CARD OF 'limelightlaw23.TellTraces'. -/
def tellTracesCard : Claim7 := { stood := { row := tellTracesRow, standIns := [], harness := (true, "e6dc6c4169b16ce0202e33c1879c4aee956d593add61c96b35d9b7fa663cdd77"), looks := true }, kinds := [], alts := [], laidByText := true, laidKinds := [.data, .data, .data, .data, .sentinel, .sentinel, .pinned], laidTests := true, laidLooks := .later }
def TellTracesCardSaid : Prop := Claim7.holds Tryd.pinned (.plain (OpenSpec.ofChange tellTracesSpec)) tellTracesCard

/-- THE TIED CARD OF 'limelightlaw23.TellBack'. -/
def tellBackCard : Claim7 := { stood := { row := tellBackRow, standIns := [], harness := (true, "e6dc6c4169b16ce0202e33c1879c4aee956d593add61c96b35d9b7fa663cdd77"), looks := true }, kinds := [], alts := [], laidByText := true, laidKinds := [.data, .data, .data, .data, .sentinel, .sentinel, .pinned], laidTests := true, laidLooks := .later }
def TellBackCardSaid : Prop := Claim7.holds Tryd.pinned (.plain (OpenSpec.ofChange tellBackSpec)) tellBackCard

/-- THE TIED CARD OF 'limelightlaw23.TellJoined'. -/
def tellJoinedCard : Claim7 := { stood := { row := tellJoinedRow, standIns := [], harness := (true, "e6dc6c4169b16ce0202e33c1879c4aee956d593add61c96b35d9b7fa663cdd77"), looks := true }, kinds := [], alts := [], laidByText := true, laidKinds := [.data, .data, .data, .data, .sentinel, .sentinel, .pinned], laidTests := true, laidLooks := .later }
def TellJoinedCardSaid : Prop := Claim7.holds Tryd.pinned (.plain (OpenSpec.ofChange tellJoinedSpec)) tellJoinedCard

/-- THE TIED CARD OF 'limelightlaw23.TellLines'. -/
def tellLinesCard : Claim7 := { stood := { row := tellLinesRow, standIns := [], harness := (true, "e6dc6c4169b16ce0202e33c1879c4aee956d593add61c96b35d9b7fa663cdd77"), looks := true }, kinds := [], alts := [], laidByText := true, laidKinds := [.data, .data, .data, .data, .sentinel, .sentinel, .pinned], laidTests := true, laidLooks := .later }
def TellLinesCardSaid : Prop := Claim7.holds Tryd.pinned (.plain (OpenSpec.ofChange tellLinesSpec)) tellLinesCard

/-- THE TIED CARD OF 'limelightlaw23.TellApart'. -/
def tellApartCard : Claim7 := { stood := { row := tellApartRow, standIns := [], harness := (true, "e6dc6c4169b16ce0202e33c1879c4aee956d593add61c96b35d9b7fa663cdd77"), looks := true }, kinds := [], alts := [], laidByText := true, laidKinds := [.data, .data, .data, .data, .sentinel, .sentinel, .pinned], laidTests := true, laidLooks := .later }
def TellApartCardSaid : Prop := Claim7.holds Tryd.pinned (.plain (OpenSpec.ofChange tellApartSpec)) tellApartCard

/-- THE SECOND FORM's CARD OF 'limelightlaw23.TellRows'. -/
def tellRowsUptoCard : Claim7 := { stood := { row := tellRowsUptoRow, standIns := [], harness := (true, "e6dc6c4169b16ce0202e33c1879c4aee956d593add61c96b35d9b7fa663cdd77"), looks := true }, kinds := [], alts := [], laidByText := true, laidKinds := [.data, .data, .data, .data, .sentinel, .sentinel, .pinned], laidTests := true, laidLooks := .later }
def TellRowsUptoCardSaid : Prop := Claim7.holds Tryd.pinned (.plain (OpenSpec.upto tellRowsSpec)) tellRowsUptoCard

/-- THE SECOND FORM's CARD OF 'limelightlaw23.TellTraces'. -/
def tellTracesUptoCard : Claim7 := { stood := { row := tellTracesUptoRow, standIns := [], harness := (true, "e6dc6c4169b16ce0202e33c1879c4aee956d593add61c96b35d9b7fa663cdd77"), looks := true }, kinds := [], alts := [], laidByText := true, laidKinds := [.data, .data, .data, .data, .sentinel, .sentinel, .pinned], laidTests := true, laidLooks := .later }
def TellTracesUptoCardSaid : Prop := Claim7.holds Tryd.pinned (.plain (OpenSpec.upto tellTracesSpec)) tellTracesUptoCard

/-- THE SECOND FORM's CARD OF 'limelightlaw23.TellBack'. -/
def tellBackUptoCard : Claim7 := { stood := { row := tellBackUptoRow, standIns := [], harness := (true, "e6dc6c4169b16ce0202e33c1879c4aee956d593add61c96b35d9b7fa663cdd77"), looks := true }, kinds := [], alts := [], laidByText := true, laidKinds := [.data, .data, .data, .data, .sentinel, .sentinel, .pinned], laidTests := true, laidLooks := .later }
def TellBackUptoCardSaid : Prop := Claim7.holds Tryd.pinned (.plain (OpenSpec.upto tellBackSpec)) tellBackUptoCard

/-- THE SECOND FORM's CARD OF 'limelightlaw23.TellJoined'. -/
def tellJoinedUptoCard : Claim7 := { stood := { row := tellJoinedUptoRow, standIns := [], harness := (true, "e6dc6c4169b16ce0202e33c1879c4aee956d593add61c96b35d9b7fa663cdd77"), looks := true }, kinds := [], alts := [], laidByText := true, laidKinds := [.data, .data, .data, .data, .sentinel, .sentinel, .pinned], laidTests := true, laidLooks := .later }
def TellJoinedUptoCardSaid : Prop := Claim7.holds Tryd.pinned (.plain (OpenSpec.upto tellJoinedSpec)) tellJoinedUptoCard

/-- THE SECOND FORM's CARD OF 'limelightlaw23.TellLines'. -/
def tellLinesUptoCard : Claim7 := { stood := { row := tellLinesUptoRow, standIns := [], harness := (true, "e6dc6c4169b16ce0202e33c1879c4aee956d593add61c96b35d9b7fa663cdd77"), looks := true }, kinds := [], alts := [], laidByText := true, laidKinds := [.data, .data, .data, .data, .sentinel, .sentinel, .pinned], laidTests := true, laidLooks := .later }
def TellLinesUptoCardSaid : Prop := Claim7.holds Tryd.pinned (.plain (OpenSpec.upto tellLinesSpec)) tellLinesUptoCard

/-- THE SECOND FORM's CARD OF 'limelightlaw23.TellApart'. -/
def tellApartUptoCard : Claim7 := { stood := { row := tellApartUptoRow, standIns := [], harness := (true, "e6dc6c4169b16ce0202e33c1879c4aee956d593add61c96b35d9b7fa663cdd77"), looks := true }, kinds := [], alts := [], laidByText := true, laidKinds := [.data, .data, .data, .data, .sentinel, .sentinel, .pinned], laidTests := true, laidLooks := .later }
def TellApartUptoCardSaid : Prop := Claim7.holds Tryd.pinned (.plain (OpenSpec.upto tellApartSpec)) tellApartUptoCard
end Rows
end Go.Proofs.YtdngkocecdikcaaDoor
