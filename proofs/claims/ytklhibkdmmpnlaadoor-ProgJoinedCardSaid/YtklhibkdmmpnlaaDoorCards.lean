/-
  DERIVED. GIVEN WITH THE SEED: THE CARDS: each row of YtklhibkdmmpnlaaDoorRows.lean that lists a variable, with what it lists TIED to the program's text (the seventh form; the later family's looks); each row that meets fmt, with fmt's text TOLD by the authors' own Lean function (tested against real Go, not proved from fmt's source: count such statements apart). THE CARD IS WHAT COUNTS. Prove the row's statement (the work); the ties are given (YtklhibkdmmpnlaaDoorTie.lean); close each card by the builder's one call (the guide's Derived/Test/ToyasCard.lean, 'card_holds'). Laid BY PROGRAM, IN A SANDBOX (cutbox-door.mjs). By AI agents, Wed Nov 11 2026. No macro, syntax, notation, axiom, sorry.
-/
import Derived.Test.YtklhibkdmmpnlaaDoorRows
import GoSem.ClaimSeven
namespace Go.Proofs.YtklhibkdmmpnlaaDoor
namespace Rows

/-- THE TIED CARD OF 'limelightlaw20.ProgTells'. -/
def progTellsCard : Claim7 := { stood := { row := progTellsRow, standIns := [], harness := (true, "bc59d23bb53ef3014222327e9e2266e844e3bc7c0ea23b92360a57b0b91f7149"), looks := true }, kinds := [], alts := [], laidByText := true, laidKinds := [.data, .data, .data, .data, .sentinel, .sentinel, .pinned], laidTests := true, laidLooks := .later }
def ProgTellsCardSaid : Prop := Claim7.holds Tryd.pinned (.plain (OpenSpec.ofChange progTellsSpec)) progTellsCard

/-- THE TIED CARD OF 'limelightlaw20.ProgNames'. -/
def progNamesCard : Claim7 := { stood := { row := progNamesRow, standIns := [], harness := (true, "bc59d23bb53ef3014222327e9e2266e844e3bc7c0ea23b92360a57b0b91f7149"), looks := true }, kinds := [], alts := [], laidByText := true, laidKinds := [.data, .data, .data, .data, .sentinel, .sentinel, .pinned], laidTests := true, laidLooks := .later }
def ProgNamesCardSaid : Prop := Claim7.holds Tryd.pinned (.plain (OpenSpec.ofChange progNamesSpec)) progNamesCard

/-- THE TIED CARD OF 'limelightlaw20.ProgBack'. -/
def progBackCard : Claim7 := { stood := { row := progBackRow, standIns := [], harness := (true, "bc59d23bb53ef3014222327e9e2266e844e3bc7c0ea23b92360a57b0b91f7149"), looks := true }, kinds := [], alts := [], laidByText := true, laidKinds := [.data, .data, .data, .data, .sentinel, .sentinel, .pinned], laidTests := true, laidLooks := .later }
def ProgBackCardSaid : Prop := Claim7.holds Tryd.pinned (.plain (OpenSpec.ofChange progBackSpec)) progBackCard

/-- THE TIED CARD OF 'limelightlaw20.ProgJoined'. -/
def progJoinedCard : Claim7 := { stood := { row := progJoinedRow, standIns := [], harness := (true, "bc59d23bb53ef3014222327e9e2266e844e3bc7c0ea23b92360a57b0b91f7149"), looks := true }, kinds := [], alts := [], laidByText := true, laidKinds := [.data, .data, .data, .data, .sentinel, .sentinel, .pinned], laidTests := true, laidLooks := .later }
def ProgJoinedCardSaid : Prop := Claim7.holds Tryd.pinned (.plain (OpenSpec.ofChange progJoinedSpec)) progJoinedCard

/-- THE TIED CARD OF 'limelightlaw20.ProgEach'. -/
def progEachCard : Claim7 := { stood := { row := progEachRow, standIns := [], harness := (true, "bc59d23bb53ef3014222327e9e2266e844e3bc7c0ea23b92360a57b0b91f7149"), looks := true }, kinds := [], alts := [], laidByText := true, laidKinds := [.data, .data, .data, .data, .sentinel, .sentinel, .pinned], laidTests := true, laidLooks := .later }
def ProgEachCardSaid : Prop := Claim7.holds Tryd.pinned (.plain (OpenSpec.ofChange progEachSpec)) progEachCard

/-- THE SECOND FORM's CARD OF 'limelightlaw20.ProgTells'. -/
def progTellsUptoCard : Claim7 := { stood := { row := progTellsUptoRow, standIns := [], harness := (true, "bc59d23bb53ef3014222327e9e2266e844e3bc7c0ea23b92360a57b0b91f7149"), looks := true }, kinds := [], alts := [], laidByText := true, laidKinds := [.data, .data, .data, .data, .sentinel, .sentinel, .pinned], laidTests := true, laidLooks := .later }
def ProgTellsUptoCardSaid : Prop := Claim7.holds Tryd.pinned (.plain (OpenSpec.upto progTellsSpec)) progTellsUptoCard

/-- THE SECOND FORM's CARD OF 'limelightlaw20.ProgNames'. -/
def progNamesUptoCard : Claim7 := { stood := { row := progNamesUptoRow, standIns := [], harness := (true, "bc59d23bb53ef3014222327e9e2266e844e3bc7c0ea23b92360a57b0b91f7149"), looks := true }, kinds := [], alts := [], laidByText := true, laidKinds := [.data, .data, .data, .data, .sentinel, .sentinel, .pinned], laidTests := true, laidLooks := .later }
def ProgNamesUptoCardSaid : Prop := Claim7.holds Tryd.pinned (.plain (OpenSpec.upto progNamesSpec)) progNamesUptoCard

/-- THE SECOND FORM's CARD OF 'limelightlaw20.ProgBack'. -/
def progBackUptoCard : Claim7 := { stood := { row := progBackUptoRow, standIns := [], harness := (true, "bc59d23bb53ef3014222327e9e2266e844e3bc7c0ea23b92360a57b0b91f7149"), looks := true }, kinds := [], alts := [], laidByText := true, laidKinds := [.data, .data, .data, .data, .sentinel, .sentinel, .pinned], laidTests := true, laidLooks := .later }
def ProgBackUptoCardSaid : Prop := Claim7.holds Tryd.pinned (.plain (OpenSpec.upto progBackSpec)) progBackUptoCard

/-- THE SECOND FORM's CARD OF 'limelightlaw20.ProgJoined'. -/
def progJoinedUptoCard : Claim7 := { stood := { row := progJoinedUptoRow, standIns := [], harness := (true, "bc59d23bb53ef3014222327e9e2266e844e3bc7c0ea23b92360a57b0b91f7149"), looks := true }, kinds := [], alts := [], laidByText := true, laidKinds := [.data, .data, .data, .data, .sentinel, .sentinel, .pinned], laidTests := true, laidLooks := .later }
def ProgJoinedUptoCardSaid : Prop := Claim7.holds Tryd.pinned (.plain (OpenSpec.upto progJoinedSpec)) progJoinedUptoCard

/-- THE SECOND FORM's CARD OF 'limelightlaw20.ProgEach'. -/
def progEachUptoCard : Claim7 := { stood := { row := progEachUptoRow, standIns := [], harness := (true, "bc59d23bb53ef3014222327e9e2266e844e3bc7c0ea23b92360a57b0b91f7149"), looks := true }, kinds := [], alts := [], laidByText := true, laidKinds := [.data, .data, .data, .data, .sentinel, .sentinel, .pinned], laidTests := true, laidLooks := .later }
def ProgEachUptoCardSaid : Prop := Claim7.holds Tryd.pinned (.plain (OpenSpec.upto progEachSpec)) progEachUptoCard
end Rows
end Go.Proofs.YtklhibkdmmpnlaaDoor
