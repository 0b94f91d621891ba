/-
  NARROWER THAN 'FOR EVERY INPUT', by the rows' own cells (each row's printed sentence says how): AttrTells: laid · AttrIndex: laid · AttrBack: laid · AttrDigits: laid · AttrOrder: laid · AttrSign: laid.
  DERIVED. THE GIVEN ROWS OF THIS SEAT. 6 by the template 'for every input the law returns true; each argument reads behind the call as it read before'; 0 by the template 'total and deterministic' (their statements: YtjanagmofpdmnaaDoorTotals.lean).
  GIVEN WITH THE SEED: the statements are not yours to turn. If you find one false, say at which input.
  Laid BY PROGRAM, IN A SANDBOX (cutbox-rows.mjs): the forced cells as the released guide's own fill.sh prints them over the translation 6672f40c4d236f13… (all of the seat's roots in one cut). By AI agents, Wed Nov 11 2026. No macro, syntax, notation, axiom, sorry.
-/
import Derived.Test.YtjanagmofpdmnaaDoorChecked
import GoSem.PinnedTables
import GoSem.Claim
import GoSem.ClaimJoined
import GoSem.ClaimMapViews
import Derived.JoinedTies
import Derived.KernelRfl
namespace Go.Proofs.YtjanagmofpdmnaaDoor
/- THE CELL 'sum', in the pinned program and in every row, IS THE sha256 OF THE DUMP (.gsa) THAT YtjanagmofpdmnaaDoorProg.lean LOADS. Nothing in Lean hashes anything: it is a label: what it is worth is what the hold of that sum in a sandbox is worth. -/
noncomputable def Tryd.pinned : Pinned := { name := "ytjanagmofpdmnaadoor", sum := "6672f40c4d236f13b987eabe66e414a77bfdab8fa2d3a6d88e0328272af0956c", checked := Tryd.checked }
namespace Rows
def none {H : Type} : Left H := { results := [], args := [] }

/- WHAT THE LISTED PACKAGE-LEVEL VARIABLES READ AS WHEN THE CALL BEGINS. Each datum BY PROGRAM (the guide's laid-datum.mjs) off the statement by which the dump's own 'gosem.cut.vars' lays the variable. In a bare row this is a premise. The card (YtjanagmofpdmnaaDoorCards.lean) ties it to the program's text. -/
def laid_unicode_utf8_acceptRanges {H : Type} : DataW H := .agg [.agg [.lit (.int .u8 128), .lit (.int .u8 191)], .agg [.lit (.int .u8 160), .lit (.int .u8 191)], .agg [.lit (.int .u8 128), .lit (.int .u8 159)], .agg [.lit (.int .u8 144), .lit (.int .u8 191)], .agg [.lit (.int .u8 128), .lit (.int .u8 143)], .agg [.lit (.int .u8 0), .lit (.int .u8 0)], .agg [.lit (.int .u8 0), .lit (.int .u8 0)], .agg [.lit (.int .u8 0), .lit (.int .u8 0)], .agg [.lit (.int .u8 0), .lit (.int .u8 0)], .agg [.lit (.int .u8 0), .lit (.int .u8 0)], .agg [.lit (.int .u8 0), .lit (.int .u8 0)], .agg [.lit (.int .u8 0), .lit (.int .u8 0)], .agg [.lit (.int .u8 0), .lit (.int .u8 0)], .agg [.lit (.int .u8 0), .lit (.int .u8 0)], .agg [.lit (.int .u8 0), .lit (.int .u8 0)], .agg [.lit (.int .u8 0), .lit (.int .u8 0)]]
/-- One of Go's own tables, pinned by name: the form's constant. -/
def laid_unicode_utf8_first : DataW Unit := Go.Pinned.utf8First

/-- 'limelightlaw02.AttrTells': WHATEVER THE INPUT: true; the input reads as it did. -/
def attrTellsSpec : ChangeSpec := { name := "attrTells", fn := fun _ => fun
  | [d1, d2, d3] => { results := [.lit (.bool true)], args := [d1, d2, d3] }
  | _ => none }
def attrTellsRow : OpenClaim := { program := "ytjanagmofpdmnaadoor", sum := "6672f40c4d236f13b987eabe66e414a77bfdab8fa2d3a6d88e0328272af0956c", func := "limelight/limelightlaw02.AttrTells", spec := "attrTells", inPlace := ["internal/bytealg.IndexByteString", "internal/bytealg.IndexString"], unfollowed := true, recurses := true, named := ["unicode/utf8.first", "unicode/utf8.acceptRanges", "internal/bytealg.MaxLen"], apart := false, laid := [("unicode/utf8.acceptRanges", laid_unicode_utf8_acceptRanges), ("unicode/utf8.first", laid_unicode_utf8_first)] }
def AttrTellsSaid : Prop := attrTellsRow.holds Tryd.pinned (OpenSpec.ofChange attrTellsSpec)

/-- ITS FALSE NEIGHBOUR: 'it returns false'. Refute it at one input. -/
def attrTellsWrong : ChangeSpec := { name := "attrTells", fn := fun _ => fun
  | [d1, d2, d3] => { results := [.lit (.bool false)], args := [d1, d2, d3] }
  | _ => none }
def AttrTellsWrongFalsely : Prop := attrTellsRow.holds Tryd.pinned (OpenSpec.ofChange attrTellsWrong)

/-- 'limelightlaw02.AttrIndex': WHATEVER THE INPUT: true; the input reads as it did. -/
def attrIndexSpec : ChangeSpec := { name := "attrIndex", fn := fun _ => fun
  | [d] => { results := [.lit (.bool true)], args := [d] }
  | _ => none }
def attrIndexRow : OpenClaim := { program := "ytjanagmofpdmnaadoor", sum := "6672f40c4d236f13b987eabe66e414a77bfdab8fa2d3a6d88e0328272af0956c", func := "limelight/limelightlaw02.AttrIndex", spec := "attrIndex", inPlace := ["internal/bytealg.IndexByteString", "internal/bytealg.IndexString"], unfollowed := true, recurses := true, named := ["unicode/utf8.first", "unicode/utf8.acceptRanges", "internal/bytealg.MaxLen"], apart := false, laid := [("unicode/utf8.acceptRanges", laid_unicode_utf8_acceptRanges), ("unicode/utf8.first", laid_unicode_utf8_first)] }
def AttrIndexSaid : Prop := attrIndexRow.holds Tryd.pinned (OpenSpec.ofChange attrIndexSpec)

/-- ITS FALSE NEIGHBOUR: 'it returns false'. Refute it at one input. -/
def attrIndexWrong : ChangeSpec := { name := "attrIndex", fn := fun _ => fun
  | [d] => { results := [.lit (.bool false)], args := [d] }
  | _ => none }
def AttrIndexWrongFalsely : Prop := attrIndexRow.holds Tryd.pinned (OpenSpec.ofChange attrIndexWrong)

/-- 'limelightlaw02.AttrBack': WHATEVER THE INPUT: true; the input reads as it did. -/
def attrBackSpec : ChangeSpec := { name := "attrBack", fn := fun _ => fun
  | [d1, d2, d3] => { results := [.lit (.bool true)], args := [d1, d2, d3] }
  | _ => none }
def attrBackRow : OpenClaim := { program := "ytjanagmofpdmnaadoor", sum := "6672f40c4d236f13b987eabe66e414a77bfdab8fa2d3a6d88e0328272af0956c", func := "limelight/limelightlaw02.AttrBack", spec := "attrBack", inPlace := ["internal/bytealg.IndexByteString", "internal/bytealg.IndexString"], unfollowed := true, recurses := true, named := ["unicode/utf8.first", "unicode/utf8.acceptRanges", "internal/bytealg.MaxLen"], apart := false, laid := [("unicode/utf8.acceptRanges", laid_unicode_utf8_acceptRanges), ("unicode/utf8.first", laid_unicode_utf8_first)] }
def AttrBackSaid : Prop := attrBackRow.holds Tryd.pinned (OpenSpec.ofChange attrBackSpec)

/-- ITS FALSE NEIGHBOUR: 'it returns false'. Refute it at one input. -/
def attrBackWrong : ChangeSpec := { name := "attrBack", fn := fun _ => fun
  | [d1, d2, d3] => { results := [.lit (.bool false)], args := [d1, d2, d3] }
  | _ => none }
def AttrBackWrongFalsely : Prop := attrBackRow.holds Tryd.pinned (OpenSpec.ofChange attrBackWrong)

/-- 'limelightlaw02.AttrDigits': WHATEVER THE INPUT: true; the input reads as it did. -/
def attrDigitsSpec : ChangeSpec := { name := "attrDigits", fn := fun _ => fun
  | [d1, d2, d3] => { results := [.lit (.bool true)], args := [d1, d2, d3] }
  | _ => none }
def attrDigitsRow : OpenClaim := { program := "ytjanagmofpdmnaadoor", sum := "6672f40c4d236f13b987eabe66e414a77bfdab8fa2d3a6d88e0328272af0956c", func := "limelight/limelightlaw02.AttrDigits", spec := "attrDigits", inPlace := ["internal/bytealg.IndexByteString", "internal/bytealg.IndexString"], unfollowed := true, recurses := true, named := ["unicode/utf8.first", "unicode/utf8.acceptRanges", "internal/bytealg.MaxLen"], apart := false, laid := [("unicode/utf8.acceptRanges", laid_unicode_utf8_acceptRanges), ("unicode/utf8.first", laid_unicode_utf8_first)] }
def AttrDigitsSaid : Prop := attrDigitsRow.holds Tryd.pinned (OpenSpec.ofChange attrDigitsSpec)

/-- ITS FALSE NEIGHBOUR: 'it returns false'. Refute it at one input. -/
def attrDigitsWrong : ChangeSpec := { name := "attrDigits", fn := fun _ => fun
  | [d1, d2, d3] => { results := [.lit (.bool false)], args := [d1, d2, d3] }
  | _ => none }
def AttrDigitsWrongFalsely : Prop := attrDigitsRow.holds Tryd.pinned (OpenSpec.ofChange attrDigitsWrong)

/-- 'limelightlaw02.AttrOrder': WHATEVER THE INPUT: true; the input reads as it did. -/
def attrOrderSpec : ChangeSpec := { name := "attrOrder", fn := fun _ => fun
  | [d] => { results := [.lit (.bool true)], args := [d] }
  | _ => none }
def attrOrderRow : OpenClaim := { program := "ytjanagmofpdmnaadoor", sum := "6672f40c4d236f13b987eabe66e414a77bfdab8fa2d3a6d88e0328272af0956c", func := "limelight/limelightlaw02.AttrOrder", spec := "attrOrder", inPlace := ["internal/bytealg.IndexByteString", "internal/bytealg.IndexString"], unfollowed := true, recurses := true, named := ["unicode/utf8.first", "unicode/utf8.acceptRanges", "internal/bytealg.MaxLen"], apart := false, laid := [("unicode/utf8.acceptRanges", laid_unicode_utf8_acceptRanges), ("unicode/utf8.first", laid_unicode_utf8_first)] }
def AttrOrderSaid : Prop := attrOrderRow.holds Tryd.pinned (OpenSpec.ofChange attrOrderSpec)

/-- ITS FALSE NEIGHBOUR: 'it returns false'. Refute it at one input. -/
def attrOrderWrong : ChangeSpec := { name := "attrOrder", fn := fun _ => fun
  | [d] => { results := [.lit (.bool false)], args := [d] }
  | _ => none }
def AttrOrderWrongFalsely : Prop := attrOrderRow.holds Tryd.pinned (OpenSpec.ofChange attrOrderWrong)

/-- 'limelightlaw02.AttrSign': WHATEVER THE INPUT: true; the input reads as it did. -/
def attrSignSpec : ChangeSpec := { name := "attrSign", fn := fun _ => fun
  | [d] => { results := [.lit (.bool true)], args := [d] }
  | _ => none }
def attrSignRow : OpenClaim := { program := "ytjanagmofpdmnaadoor", sum := "6672f40c4d236f13b987eabe66e414a77bfdab8fa2d3a6d88e0328272af0956c", func := "limelight/limelightlaw02.AttrSign", spec := "attrSign", inPlace := ["internal/bytealg.IndexByteString", "internal/bytealg.IndexString"], unfollowed := true, recurses := true, named := ["unicode/utf8.first", "unicode/utf8.acceptRanges", "internal/bytealg.MaxLen"], apart := false, laid := [("unicode/utf8.acceptRanges", laid_unicode_utf8_acceptRanges), ("unicode/utf8.first", laid_unicode_utf8_first)] }
def AttrSignSaid : Prop := attrSignRow.holds Tryd.pinned (OpenSpec.ofChange attrSignSpec)

/-- ITS FALSE NEIGHBOUR: 'it returns false'. Refute it at one input. -/
def attrSignWrong : ChangeSpec := { name := "attrSign", fn := fun _ => fun
  | [d] => { results := [.lit (.bool false)], args := [d] }
  | _ => none }
def AttrSignWrongFalsely : Prop := attrSignRow.holds Tryd.pinned (OpenSpec.ofChange attrSignWrong)

/- THE SECOND FORM. 'bulk': how many values and letters a reading holds, each counted each time it is reached (what is shared counts as often as it is met; a slice's spare places count too). A statement '..UptoSaid' is the law's where the arguments, and the package variables that the reading takes, are together of bulk at most 1048576: NARROWER than '..Said'. Prove '..Said' where nothing that the law and all that it calls make is longer than what came in: it says more and counts as full. Else prove '..UptoSaid'. A law counts once. -/
mutual
def uptoBulk {H : Type} : DataW H → Nat
  | .lit (.string bytes) => bytes.length + 1
  | .lit _ => 1
  | .nil => 1
  | .ptr d => uptoBulk d + 1
  | .slice elems spare => uptoBulkAll elems + uptoBulkAll spare + 1
  | .agg parts => uptoBulkAll parts + 1
  | .iface _ d => uptoBulk d + 1
  | .map entries => uptoBulkEntries entries + 1
  | .held _ => 1
def uptoBulkAll {H : Type} : List (DataW H) → Nat
  | [] => 0
  | d :: r => uptoBulk d + uptoBulkAll r
def uptoBulkEntries {H : Type} : List (Lit × DataW H) → Nat
  | [] => 0
  | x :: r => uptoBulkEntry x + uptoBulkEntries r
def uptoBulkEntry {H : Type} : Lit × DataW H → Nat
  | (.string bytes, d) => bytes.length + uptoBulk d + 1
  | (_, d) => uptoBulk d + 1
 end
def uptoSmall : (H : Type) → List (DataW H) → Bool := fun _ ds => decide (uptoBulkAll ds ≤ 1048576)
def OpenSpec.upto (s : _root_.Go.ChangeSpec) : _root_.Go.OpenSpec := { _root_.Go.OpenSpec.ofChange s with cond := some uptoSmall }

/-- 'limelightlaw02.AttrTells', WHERE WHAT IT READS IS OF BULK AT MOST 1048576: true; the input reads as it did. -/
def attrTellsUptoRow : OpenClaim := { program := "ytjanagmofpdmnaadoor", sum := "6672f40c4d236f13b987eabe66e414a77bfdab8fa2d3a6d88e0328272af0956c", func := "limelight/limelightlaw02.AttrTells", spec := "attrTells", inPlace := ["internal/bytealg.IndexByteString", "internal/bytealg.IndexString"], unfollowed := true, recurses := true, named := ["unicode/utf8.first", "unicode/utf8.acceptRanges", "internal/bytealg.MaxLen"], apart := false, laid := [("unicode/utf8.acceptRanges", laid_unicode_utf8_acceptRanges), ("unicode/utf8.first", laid_unicode_utf8_first)], narrowed := true }
def AttrTellsUptoSaid : Prop := attrTellsUptoRow.holds Tryd.pinned (OpenSpec.upto attrTellsSpec)

/-- 'limelightlaw02.AttrIndex', WHERE WHAT IT READS IS OF BULK AT MOST 1048576: true; the input reads as it did. -/
def attrIndexUptoRow : OpenClaim := { program := "ytjanagmofpdmnaadoor", sum := "6672f40c4d236f13b987eabe66e414a77bfdab8fa2d3a6d88e0328272af0956c", func := "limelight/limelightlaw02.AttrIndex", spec := "attrIndex", inPlace := ["internal/bytealg.IndexByteString", "internal/bytealg.IndexString"], unfollowed := true, recurses := true, named := ["unicode/utf8.first", "unicode/utf8.acceptRanges", "internal/bytealg.MaxLen"], apart := false, laid := [("unicode/utf8.acceptRanges", laid_unicode_utf8_acceptRanges), ("unicode/utf8.first", laid_unicode_utf8_first)], narrowed := true }
def AttrIndexUptoSaid : Prop := attrIndexUptoRow.holds Tryd.pinned (OpenSpec.upto attrIndexSpec)

/-- 'limelightlaw02.AttrBack', WHERE WHAT IT READS IS OF BULK AT MOST 1048576: true; the input reads as it did. -/
def attrBackUptoRow : OpenClaim := { program := "ytjanagmofpdmnaadoor", sum := "6672f40c4d236f13b987eabe66e414a77bfdab8fa2d3a6d88e0328272af0956c", func := "limelight/limelightlaw02.AttrBack", spec := "attrBack", inPlace := ["internal/bytealg.IndexByteString", "internal/bytealg.IndexString"], unfollowed := true, recurses := true, named := ["unicode/utf8.first", "unicode/utf8.acceptRanges", "internal/bytealg.MaxLen"], apart := false, laid := [("unicode/utf8.acceptRanges", laid_unicode_utf8_acceptRanges), ("unicode/utf8.first", laid_unicode_utf8_first)], narrowed := true }
def AttrBackUptoSaid : Prop := attrBackUptoRow.holds Tryd.pinned (OpenSpec.upto attrBackSpec)

/-- 'limelightlaw02.AttrDigits', WHERE WHAT IT READS IS OF BULK AT MOST 1048576: true; the input reads as it did. -/
def attrDigitsUptoRow : OpenClaim := { program := "ytjanagmofpdmnaadoor", sum := "6672f40c4d236f13b987eabe66e414a77bfdab8fa2d3a6d88e0328272af0956c", func := "limelight/limelightlaw02.AttrDigits", spec := "attrDigits", inPlace := ["internal/bytealg.IndexByteString", "internal/bytealg.IndexString"], unfollowed := true, recurses := true, named := ["unicode/utf8.first", "unicode/utf8.acceptRanges", "internal/bytealg.MaxLen"], apart := false, laid := [("unicode/utf8.acceptRanges", laid_unicode_utf8_acceptRanges), ("unicode/utf8.first", laid_unicode_utf8_first)], narrowed := true }
def AttrDigitsUptoSaid : Prop := attrDigitsUptoRow.holds Tryd.pinned (OpenSpec.upto attrDigitsSpec)

/-- 'limelightlaw02.AttrOrder', WHERE WHAT IT READS IS OF BULK AT MOST 1048576: true; the input reads as it did. -/
def attrOrderUptoRow : OpenClaim := { program := "ytjanagmofpdmnaadoor", sum := "6672f40c4d236f13b987eabe66e414a77bfdab8fa2d3a6d88e0328272af0956c", func := "limelight/limelightlaw02.AttrOrder", spec := "attrOrder", inPlace := ["internal/bytealg.IndexByteString", "internal/bytealg.IndexString"], unfollowed := true, recurses := true, named := ["unicode/utf8.first", "unicode/utf8.acceptRanges", "internal/bytealg.MaxLen"], apart := false, laid := [("unicode/utf8.acceptRanges", laid_unicode_utf8_acceptRanges), ("unicode/utf8.first", laid_unicode_utf8_first)], narrowed := true }
def AttrOrderUptoSaid : Prop := attrOrderUptoRow.holds Tryd.pinned (OpenSpec.upto attrOrderSpec)

/-- 'limelightlaw02.AttrSign', WHERE WHAT IT READS IS OF BULK AT MOST 1048576: true; the input reads as it did. -/
def attrSignUptoRow : OpenClaim := { program := "ytjanagmofpdmnaadoor", sum := "6672f40c4d236f13b987eabe66e414a77bfdab8fa2d3a6d88e0328272af0956c", func := "limelight/limelightlaw02.AttrSign", spec := "attrSign", inPlace := ["internal/bytealg.IndexByteString", "internal/bytealg.IndexString"], unfollowed := true, recurses := true, named := ["unicode/utf8.first", "unicode/utf8.acceptRanges", "internal/bytealg.MaxLen"], apart := false, laid := [("unicode/utf8.acceptRanges", laid_unicode_utf8_acceptRanges), ("unicode/utf8.first", laid_unicode_utf8_first)], narrowed := true }
def AttrSignUptoSaid : Prop := attrSignUptoRow.holds Tryd.pinned (OpenSpec.upto attrSignSpec)

end Rows
end Go.Proofs.YtjanagmofpdmnaaDoor
