/-
  DERIVED. GIVEN WITH THE SEED: THE CARDS: each row of YthldlciagajfoaaGreatDoorRows.lean that lists a variable, with what it lists TIED to the program's text (the seventh form; the later family's looks); each row that meets fmt, with fmt's text TOLD by the authors' own Lean function (tested against real Go, not proved from fmt's source: count such statements apart). THE CARD IS WHAT COUNTS. Prove the row's statement (the work); the ties are given (YthldlciagajfoaaGreatDoorTie.lean); close each card by the builder's one call (the guide's Derived/Test/ToyasCard.lean, 'card_holds'). Laid BY PROGRAM, IN A SANDBOX (cutbox-door.mjs). By AI agents, Wed Nov 11 2026. No macro, syntax, notation, axiom, sorry.
-/
import Derived.Test.YthldlciagajfoaaGreatDoorRows
import GoSem.ClaimSeven
namespace Go.Proofs.YthldlciagajfoaaGreatDoor
namespace Rows

/-- THE TIED CARD OF 'limelightlaw24.ScriptLines'. -/
def scriptLinesCard : Claim7 := { stood := { row := scriptLinesRow, standIns := [], harness := (true, "cb0322ea15dea593dfcb9bb346889888971dda4e04ddfdef5fc5e6f596b60d7e"), looks := true }, kinds := [], alts := [], laidByText := true, laidKinds := [.pinned, .data, .sentinel, .sentinel, .data, .data, .data, .data, .listed], laidTests := true, laidLooks := .later }
def ScriptLinesCardSaid : Prop := Claim7.holds Tryz.pinned (.plain (OpenSpec.ofChange scriptLinesSpec)) scriptLinesCard

/-- THE TIED CARD OF 'limelightlaw24.ScriptReads'. -/
def scriptReadsCard : Claim7 := { stood := { row := scriptReadsRow, standIns := [], harness := (true, "cb0322ea15dea593dfcb9bb346889888971dda4e04ddfdef5fc5e6f596b60d7e"), looks := true }, kinds := [], alts := [], laidByText := true, laidKinds := [.pinned, .data, .sentinel, .sentinel, .data, .data, .data, .data, .listed], laidTests := true, laidLooks := .later }
def ScriptReadsCardSaid : Prop := Claim7.holds Tryz.pinned (.plain (OpenSpec.ofChange scriptReadsSpec)) scriptReadsCard

/-- THE TIED CARD OF 'limelightlaw24.ScriptBack'. -/
def scriptBackCard : Claim7 := { stood := { row := scriptBackRow, standIns := [], harness := (true, "cb0322ea15dea593dfcb9bb346889888971dda4e04ddfdef5fc5e6f596b60d7e"), looks := true }, kinds := [], alts := [], laidByText := true, laidKinds := [.pinned, .data, .sentinel, .sentinel, .data, .data, .data, .data, .listed], laidTests := true, laidLooks := .later }
def ScriptBackCardSaid : Prop := Claim7.holds Tryz.pinned (.plain (OpenSpec.ofChange scriptBackSpec)) scriptBackCard

/-- THE TIED CARD OF 'limelightlaw24.ScriptJoined'. -/
def scriptJoinedCard : Claim7 := { stood := { row := scriptJoinedRow, standIns := [], harness := (true, "cb0322ea15dea593dfcb9bb346889888971dda4e04ddfdef5fc5e6f596b60d7e"), looks := true }, kinds := [], alts := [], laidByText := true, laidKinds := [.pinned, .data, .sentinel, .sentinel, .data, .data, .data, .data, .listed], laidTests := true, laidLooks := .later }
def ScriptJoinedCardSaid : Prop := Claim7.holds Tryz.pinned (.plain (OpenSpec.ofChange scriptJoinedSpec)) scriptJoinedCard

/-- THE TIED CARD OF 'limelightlaw24.ScriptWritten'. -/
def scriptWrittenCard : Claim7 := { stood := { row := scriptWrittenRow, standIns := [], harness := (true, "cb0322ea15dea593dfcb9bb346889888971dda4e04ddfdef5fc5e6f596b60d7e"), looks := true }, kinds := [], alts := [], laidByText := true, laidKinds := [.pinned, .data, .sentinel, .sentinel, .data, .data, .data, .data, .listed], laidTests := true, laidLooks := .later }
def ScriptWrittenCardSaid : Prop := Claim7.holds Tryz.pinned (.plain (OpenSpec.ofChange scriptWrittenSpec)) scriptWrittenCard

/-- THE SECOND FORM's CARD OF 'limelightlaw24.ScriptLines'. -/
def scriptLinesUptoCard : Claim7 := { stood := { row := scriptLinesUptoRow, standIns := [], harness := (true, "cb0322ea15dea593dfcb9bb346889888971dda4e04ddfdef5fc5e6f596b60d7e"), looks := true }, kinds := [], alts := [], laidByText := true, laidKinds := [.pinned, .data, .sentinel, .sentinel, .data, .data, .data, .data, .listed], laidTests := true, laidLooks := .later }
def ScriptLinesUptoCardSaid : Prop := Claim7.holds Tryz.pinned (.plain (OpenSpec.upto scriptLinesSpec)) scriptLinesUptoCard

/-- THE SECOND FORM's CARD OF 'limelightlaw24.ScriptReads'. -/
def scriptReadsUptoCard : Claim7 := { stood := { row := scriptReadsUptoRow, standIns := [], harness := (true, "cb0322ea15dea593dfcb9bb346889888971dda4e04ddfdef5fc5e6f596b60d7e"), looks := true }, kinds := [], alts := [], laidByText := true, laidKinds := [.pinned, .data, .sentinel, .sentinel, .data, .data, .data, .data, .listed], laidTests := true, laidLooks := .later }
def ScriptReadsUptoCardSaid : Prop := Claim7.holds Tryz.pinned (.plain (OpenSpec.upto scriptReadsSpec)) scriptReadsUptoCard

/-- THE SECOND FORM's CARD OF 'limelightlaw24.ScriptBack'. -/
def scriptBackUptoCard : Claim7 := { stood := { row := scriptBackUptoRow, standIns := [], harness := (true, "cb0322ea15dea593dfcb9bb346889888971dda4e04ddfdef5fc5e6f596b60d7e"), looks := true }, kinds := [], alts := [], laidByText := true, laidKinds := [.pinned, .data, .sentinel, .sentinel, .data, .data, .data, .data, .listed], laidTests := true, laidLooks := .later }
def ScriptBackUptoCardSaid : Prop := Claim7.holds Tryz.pinned (.plain (OpenSpec.upto scriptBackSpec)) scriptBackUptoCard

/-- THE SECOND FORM's CARD OF 'limelightlaw24.ScriptJoined'. -/
def scriptJoinedUptoCard : Claim7 := { stood := { row := scriptJoinedUptoRow, standIns := [], harness := (true, "cb0322ea15dea593dfcb9bb346889888971dda4e04ddfdef5fc5e6f596b60d7e"), looks := true }, kinds := [], alts := [], laidByText := true, laidKinds := [.pinned, .data, .sentinel, .sentinel, .data, .data, .data, .data, .listed], laidTests := true, laidLooks := .later }
def ScriptJoinedUptoCardSaid : Prop := Claim7.holds Tryz.pinned (.plain (OpenSpec.upto scriptJoinedSpec)) scriptJoinedUptoCard

/-- THE SECOND FORM's CARD OF 'limelightlaw24.ScriptWritten'. -/
def scriptWrittenUptoCard : Claim7 := { stood := { row := scriptWrittenUptoRow, standIns := [], harness := (true, "cb0322ea15dea593dfcb9bb346889888971dda4e04ddfdef5fc5e6f596b60d7e"), looks := true }, kinds := [], alts := [], laidByText := true, laidKinds := [.pinned, .data, .sentinel, .sentinel, .data, .data, .data, .data, .listed], laidTests := true, laidLooks := .later }
def ScriptWrittenUptoCardSaid : Prop := Claim7.holds Tryz.pinned (.plain (OpenSpec.upto scriptWrittenSpec)) scriptWrittenUptoCard
end Rows
end Go.Proofs.YthldlciagajfoaaGreatDoor
