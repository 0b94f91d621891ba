/-
  DERIVED. GIVEN WITH THE SEED: THE CARDS: each row of YtjanagmofpdmnaaDoorRows.lean that lists a variable, with what it lists TIED to the program's text (the seventh form; the later family's looks); each row that meets fmt, with fmt's text TOLD by the authors' own Lean function (tested against real Go, not proved from fmt's source: count such statements apart). THE CARD IS WHAT COUNTS. Prove the row's statement (the work); the ties are given (YtjanagmofpdmnaaDoorTie.lean); close each card by the builder's one call (the guide's Derived/Test/ToyasCard.lean, 'card_holds'). Laid BY PROGRAM, IN A SANDBOX (cutbox-door.mjs). By AI agents, Wed Nov 11 2026. No macro, syntax, notation, axiom, sorry.
-/
import Derived.Test.YtjanagmofpdmnaaDoorRows
import GoSem.ClaimSeven
namespace Go.Proofs.YtjanagmofpdmnaaDoor
namespace Rows

/-- THE TIED CARD OF 'limelightlaw02.AttrTells'. -/
def attrTellsCard : Claim7 := { stood := { row := attrTellsRow, standIns := [], harness := (true, "8730f072247c441018c546e039d3752b51705f06f616c8c1dd864103b705870c"), looks := false }, kinds := [], alts := [], laidByText := true, laidKinds := [.data, .pinned], laidTests := true, laidLooks := .later }
def AttrTellsCardSaid : Prop := Claim7.holds Tryd.pinned (.plain (OpenSpec.ofChange attrTellsSpec)) attrTellsCard

/-- THE TIED CARD OF 'limelightlaw02.AttrIndex'. -/
def attrIndexCard : Claim7 := { stood := { row := attrIndexRow, standIns := [], harness := (true, "8730f072247c441018c546e039d3752b51705f06f616c8c1dd864103b705870c"), looks := false }, kinds := [], alts := [], laidByText := true, laidKinds := [.data, .pinned], laidTests := true, laidLooks := .later }
def AttrIndexCardSaid : Prop := Claim7.holds Tryd.pinned (.plain (OpenSpec.ofChange attrIndexSpec)) attrIndexCard

/-- THE TIED CARD OF 'limelightlaw02.AttrBack'. -/
def attrBackCard : Claim7 := { stood := { row := attrBackRow, standIns := [], harness := (true, "8730f072247c441018c546e039d3752b51705f06f616c8c1dd864103b705870c"), looks := false }, kinds := [], alts := [], laidByText := true, laidKinds := [.data, .pinned], laidTests := true, laidLooks := .later }
def AttrBackCardSaid : Prop := Claim7.holds Tryd.pinned (.plain (OpenSpec.ofChange attrBackSpec)) attrBackCard

/-- THE TIED CARD OF 'limelightlaw02.AttrDigits'. -/
def attrDigitsCard : Claim7 := { stood := { row := attrDigitsRow, standIns := [], harness := (true, "8730f072247c441018c546e039d3752b51705f06f616c8c1dd864103b705870c"), looks := false }, kinds := [], alts := [], laidByText := true, laidKinds := [.data, .pinned], laidTests := true, laidLooks := .later }
def AttrDigitsCardSaid : Prop := Claim7.holds Tryd.pinned (.plain (OpenSpec.ofChange attrDigitsSpec)) attrDigitsCard

/-- THE TIED CARD OF 'limelightlaw02.AttrOrder'. -/
def attrOrderCard : Claim7 := { stood := { row := attrOrderRow, standIns := [], harness := (true, "8730f072247c441018c546e039d3752b51705f06f616c8c1dd864103b705870c"), looks := false }, kinds := [], alts := [], laidByText := true, laidKinds := [.data, .pinned], laidTests := true, laidLooks := .later }
def AttrOrderCardSaid : Prop := Claim7.holds Tryd.pinned (.plain (OpenSpec.ofChange attrOrderSpec)) attrOrderCard

/-- THE TIED CARD OF 'limelightlaw02.AttrSign'. -/
def attrSignCard : Claim7 := { stood := { row := attrSignRow, standIns := [], harness := (true, "8730f072247c441018c546e039d3752b51705f06f616c8c1dd864103b705870c"), looks := false }, kinds := [], alts := [], laidByText := true, laidKinds := [.data, .pinned], laidTests := true, laidLooks := .later }
def AttrSignCardSaid : Prop := Claim7.holds Tryd.pinned (.plain (OpenSpec.ofChange attrSignSpec)) attrSignCard

/-- THE SECOND FORM's CARD OF 'limelightlaw02.AttrTells'. -/
def attrTellsUptoCard : Claim7 := { stood := { row := attrTellsUptoRow, standIns := [], harness := (true, "8730f072247c441018c546e039d3752b51705f06f616c8c1dd864103b705870c"), looks := false }, kinds := [], alts := [], laidByText := true, laidKinds := [.data, .pinned], laidTests := true, laidLooks := .later }
def AttrTellsUptoCardSaid : Prop := Claim7.holds Tryd.pinned (.plain (OpenSpec.upto attrTellsSpec)) attrTellsUptoCard

/-- THE SECOND FORM's CARD OF 'limelightlaw02.AttrIndex'. -/
def attrIndexUptoCard : Claim7 := { stood := { row := attrIndexUptoRow, standIns := [], harness := (true, "8730f072247c441018c546e039d3752b51705f06f616c8c1dd864103b705870c"), looks := false }, kinds := [], alts := [], laidByText := true, laidKinds := [.data, .pinned], laidTests := true, laidLooks := .later }
def AttrIndexUptoCardSaid : Prop := Claim7.holds Tryd.pinned (.plain (OpenSpec.upto attrIndexSpec)) attrIndexUptoCard

/-- THE SECOND FORM's CARD OF 'limelightlaw02.AttrBack'. -/
def attrBackUptoCard : Claim7 := { stood := { row := attrBackUptoRow, standIns := [], harness := (true, "8730f072247c441018c546e039d3752b51705f06f616c8c1dd864103b705870c"), looks := false }, kinds := [], alts := [], laidByText := true, laidKinds := [.data, .pinned], laidTests := true, laidLooks := .later }
def AttrBackUptoCardSaid : Prop := Claim7.holds Tryd.pinned (.plain (OpenSpec.upto attrBackSpec)) attrBackUptoCard

/-- THE SECOND FORM's CARD OF 'limelightlaw02.AttrDigits'. -/
def attrDigitsUptoCard : Claim7 := { stood := { row := attrDigitsUptoRow, standIns := [], harness := (true, "8730f072247c441018c546e039d3752b51705f06f616c8c1dd864103b705870c"), looks := false }, kinds := [], alts := [], laidByText := true, laidKinds := [.data, .pinned], laidTests := true, laidLooks := .later }
def AttrDigitsUptoCardSaid : Prop := Claim7.holds Tryd.pinned (.plain (OpenSpec.upto attrDigitsSpec)) attrDigitsUptoCard

/-- THE SECOND FORM's CARD OF 'limelightlaw02.AttrOrder'. -/
def attrOrderUptoCard : Claim7 := { stood := { row := attrOrderUptoRow, standIns := [], harness := (true, "8730f072247c441018c546e039d3752b51705f06f616c8c1dd864103b705870c"), looks := false }, kinds := [], alts := [], laidByText := true, laidKinds := [.data, .pinned], laidTests := true, laidLooks := .later }
def AttrOrderUptoCardSaid : Prop := Claim7.holds Tryd.pinned (.plain (OpenSpec.upto attrOrderSpec)) attrOrderUptoCard

/-- THE SECOND FORM's CARD OF 'limelightlaw02.AttrSign'. -/
def attrSignUptoCard : Claim7 := { stood := { row := attrSignUptoRow, standIns := [], harness := (true, "8730f072247c441018c546e039d3752b51705f06f616c8c1dd864103b705870c"), looks := false }, kinds := [], alts := [], laidByText := true, laidKinds := [.data, .pinned], laidTests := true, laidLooks := .later }
def AttrSignUptoCardSaid : Prop := Claim7.holds Tryd.pinned (.plain (OpenSpec.upto attrSignSpec)) attrSignUptoCard
end Rows
end Go.Proofs.YtjanagmofpdmnaaDoor
