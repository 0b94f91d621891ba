/-
  No cell of these rows narrows 'for every input' (looked for: loops, veiled, ifaces, maps, wideKeys, modest, calm, conditions, laid).
  DERIVED. THE GIVEN ROWS OF THIS SEAT. 12 by the template 'for every input the law returns true; each argument reads behind the call as it read before'; 0 by the template 'total and deterministic' (their statements: YtekooegnkifokaaGreatTotals.lean).
  GIVEN WITH THE SEED: the statements are not yours to turn. If you find one false, say at which input.
  Laid BY PROGRAM, IN A SANDBOX (cutbox-rows.mjs): the forced cells as the released guide's own fill.sh prints them over the translation f8cc21429f14187c… (all of the seat's roots in one cut). By AI agents, Wed Nov 11 2026. No macro, syntax, notation, axiom, sorry.
-/
import Derived.Test.YtekooegnkifokaaGreatChecked
import GoSem.Claim
import GoSem.ClaimJoined
import GoSem.ClaimMapViews
import Derived.JoinedTies
import Derived.KernelRfl
namespace Go.Proofs.YtekooegnkifokaaGreat
/- THE CELL 'sum', in the pinned program and in every row, IS THE sha256 OF THE DUMP (.gsa) THAT YtekooegnkifokaaGreatProg.lean LOADS. Nothing in Lean hashes anything: it is a label: what it is worth is what the hold of that sum in a sandbox is worth. -/
noncomputable def Tryz.pinned : Pinned := { name := "ytekooegnkifokaagreat", sum := "f8cc21429f14187cfb4b933a10a561117082d25cfd4b474ce5a5a667b30ca292", checked := Tryz.checked }
namespace Rows
def none {H : Type} : Left H := { results := [], args := [] }

/-- 'limelightlaw21.PageEnds': WHATEVER THE INPUT: true; the input reads as it did. -/
def pageEndsSpec : ChangeSpec := { name := "pageEnds", fn := fun _ => fun
  | [d1, d2] => { results := [.lit (.bool true)], args := [d1, d2] }
  | _ => none }
def pageEndsRow : OpenClaim := { program := "ytekooegnkifokaagreat", sum := "f8cc21429f14187cfb4b933a10a561117082d25cfd4b474ce5a5a667b30ca292", func := "limelight/limelightlaw21.PageEnds", spec := "pageEnds", inPlace := ["slices.overlaps[int]"], unfollowed := true, recurses := true, apart := false }
def PageEndsSaid : Prop := pageEndsRow.holds Tryz.pinned (OpenSpec.ofChange pageEndsSpec)

/-- ITS FALSE NEIGHBOUR: 'it returns false'. Refute it at one input. -/
def pageEndsWrong : ChangeSpec := { name := "pageEnds", fn := fun _ => fun
  | [d1, d2] => { results := [.lit (.bool false)], args := [d1, d2] }
  | _ => none }
def PageEndsWrongFalsely : Prop := pageEndsRow.holds Tryz.pinned (OpenSpec.ofChange pageEndsWrong)

/-- 'limelightlaw21.PageSilent': WHATEVER THE INPUT: true; the input reads as it did. -/
def pageSilentSpec : ChangeSpec := { name := "pageSilent", fn := fun _ => fun
  | [d1, d2] => { results := [.lit (.bool true)], args := [d1, d2] }
  | _ => none }
def pageSilentRow : OpenClaim := { program := "ytekooegnkifokaagreat", sum := "f8cc21429f14187cfb4b933a10a561117082d25cfd4b474ce5a5a667b30ca292", func := "limelight/limelightlaw21.PageSilent", spec := "pageSilent", inPlace := ["slices.overlaps[int]"], unfollowed := true, recurses := true, apart := false }
def PageSilentSaid : Prop := pageSilentRow.holds Tryz.pinned (OpenSpec.ofChange pageSilentSpec)

/-- ITS FALSE NEIGHBOUR: 'it returns false'. Refute it at one input. -/
def pageSilentWrong : ChangeSpec := { name := "pageSilent", fn := fun _ => fun
  | [d1, d2] => { results := [.lit (.bool false)], args := [d1, d2] }
  | _ => none }
def PageSilentWrongFalsely : Prop := pageSilentRow.holds Tryz.pinned (OpenSpec.ofChange pageSilentWrong)

/-- 'limelightlaw21.PageGrows': WHATEVER THE INPUT: true; the input reads as it did. -/
def pageGrowsSpec : ChangeSpec := { name := "pageGrows", fn := fun _ => fun
  | [d1, d2] => { results := [.lit (.bool true)], args := [d1, d2] }
  | _ => none }
def pageGrowsRow : OpenClaim := { program := "ytekooegnkifokaagreat", sum := "f8cc21429f14187cfb4b933a10a561117082d25cfd4b474ce5a5a667b30ca292", func := "limelight/limelightlaw21.PageGrows", spec := "pageGrows", inPlace := ["slices.overlaps[int]"], unfollowed := true, recurses := true, apart := false }
def PageGrowsSaid : Prop := pageGrowsRow.holds Tryz.pinned (OpenSpec.ofChange pageGrowsSpec)

/-- ITS FALSE NEIGHBOUR: 'it returns false'. Refute it at one input. -/
def pageGrowsWrong : ChangeSpec := { name := "pageGrows", fn := fun _ => fun
  | [d1, d2] => { results := [.lit (.bool false)], args := [d1, d2] }
  | _ => none }
def PageGrowsWrongFalsely : Prop := pageGrowsRow.holds Tryz.pinned (OpenSpec.ofChange pageGrowsWrong)

/-- 'limelightlaw21.PageListens': WHATEVER THE INPUT: true; the input reads as it did. -/
def pageListensSpec : ChangeSpec := { name := "pageListens", fn := fun _ => fun
  | [d1, d2, d3] => { results := [.lit (.bool true)], args := [d1, d2, d3] }
  | _ => none }
def pageListensRow : OpenClaim := { program := "ytekooegnkifokaagreat", sum := "f8cc21429f14187cfb4b933a10a561117082d25cfd4b474ce5a5a667b30ca292", func := "limelight/limelightlaw21.PageListens", spec := "pageListens", inPlace := ["slices.overlaps[int]"], unfollowed := true, recurses := true, apart := false }
def PageListensSaid : Prop := pageListensRow.holds Tryz.pinned (OpenSpec.ofChange pageListensSpec)

/-- ITS FALSE NEIGHBOUR: 'it returns false'. Refute it at one input. -/
def pageListensWrong : ChangeSpec := { name := "pageListens", fn := fun _ => fun
  | [d1, d2, d3] => { results := [.lit (.bool false)], args := [d1, d2, d3] }
  | _ => none }
def PageListensWrongFalsely : Prop := pageListensRow.holds Tryz.pinned (OpenSpec.ofChange pageListensWrong)

/-- 'limelightlaw21.PageRefuses': WHATEVER THE INPUT: true; the input reads as it did. -/
def pageRefusesSpec : ChangeSpec := { name := "pageRefuses", fn := fun _ => fun
  | [d1, d2] => { results := [.lit (.bool true)], args := [d1, d2] }
  | _ => none }
def pageRefusesRow : OpenClaim := { program := "ytekooegnkifokaagreat", sum := "f8cc21429f14187cfb4b933a10a561117082d25cfd4b474ce5a5a667b30ca292", func := "limelight/limelightlaw21.PageRefuses", spec := "pageRefuses", inPlace := ["slices.overlaps[int]"], unfollowed := true, recurses := true, apart := false }
def PageRefusesSaid : Prop := pageRefusesRow.holds Tryz.pinned (OpenSpec.ofChange pageRefusesSpec)

/-- ITS FALSE NEIGHBOUR: 'it returns false'. Refute it at one input. -/
def pageRefusesWrong : ChangeSpec := { name := "pageRefuses", fn := fun _ => fun
  | [d1, d2] => { results := [.lit (.bool false)], args := [d1, d2] }
  | _ => none }
def PageRefusesWrongFalsely : Prop := pageRefusesRow.holds Tryz.pinned (OpenSpec.ofChange pageRefusesWrong)

/-- 'limelightlaw21.PageNil': WHATEVER THE INPUT: true; the input reads as it did. -/
def pageNilSpec : ChangeSpec := { name := "pageNil", fn := fun _ => fun
  | [d] => { results := [.lit (.bool true)], args := [d] }
  | _ => none }
def pageNilRow : OpenClaim := { program := "ytekooegnkifokaagreat", sum := "f8cc21429f14187cfb4b933a10a561117082d25cfd4b474ce5a5a667b30ca292", func := "limelight/limelightlaw21.PageNil", spec := "pageNil", inPlace := ["slices.overlaps[int]"], unfollowed := true, recurses := true, apart := false }
def PageNilSaid : Prop := pageNilRow.holds Tryz.pinned (OpenSpec.ofChange pageNilSpec)

/-- ITS FALSE NEIGHBOUR: 'it returns false'. Refute it at one input. -/
def pageNilWrong : ChangeSpec := { name := "pageNil", fn := fun _ => fun
  | [d] => { results := [.lit (.bool false)], args := [d] }
  | _ => none }
def PageNilWrongFalsely : Prop := pageNilRow.holds Tryz.pinned (OpenSpec.ofChange pageNilWrong)

/-- 'limelightlaw22.RunActives': WHATEVER THE INPUT: true; the input reads as it did. -/
def runActivesSpec : ChangeSpec := { name := "runActives", fn := fun _ => fun
  | [d1, d2] => { results := [.lit (.bool true)], args := [d1, d2] }
  | _ => none }
def runActivesRow : OpenClaim := { program := "ytekooegnkifokaagreat", sum := "f8cc21429f14187cfb4b933a10a561117082d25cfd4b474ce5a5a667b30ca292", func := "limelight/limelightlaw22.RunActives", spec := "runActives", inPlace := ["slices.overlaps[int]"], unfollowed := true, recurses := true, apart := false }
def RunActivesSaid : Prop := runActivesRow.holds Tryz.pinned (OpenSpec.ofChange runActivesSpec)

/-- ITS FALSE NEIGHBOUR: 'it returns false'. Refute it at one input. -/
def runActivesWrong : ChangeSpec := { name := "runActives", fn := fun _ => fun
  | [d1, d2] => { results := [.lit (.bool false)], args := [d1, d2] }
  | _ => none }
def RunActivesWrongFalsely : Prop := runActivesRow.holds Tryz.pinned (OpenSpec.ofChange runActivesWrong)

/-- 'limelightlaw22.RunParts': WHATEVER THE INPUT: true; the input reads as it did. -/
def runPartsSpec : ChangeSpec := { name := "runParts", fn := fun _ => fun
  | [d1, d2, d3] => { results := [.lit (.bool true)], args := [d1, d2, d3] }
  | _ => none }
def runPartsRow : OpenClaim := { program := "ytekooegnkifokaagreat", sum := "f8cc21429f14187cfb4b933a10a561117082d25cfd4b474ce5a5a667b30ca292", func := "limelight/limelightlaw22.RunParts", spec := "runParts", inPlace := ["slices.overlaps[int]"], unfollowed := true, recurses := true, apart := false }
def RunPartsSaid : Prop := runPartsRow.holds Tryz.pinned (OpenSpec.ofChange runPartsSpec)

/-- ITS FALSE NEIGHBOUR: 'it returns false'. Refute it at one input. -/
def runPartsWrong : ChangeSpec := { name := "runParts", fn := fun _ => fun
  | [d1, d2, d3] => { results := [.lit (.bool false)], args := [d1, d2, d3] }
  | _ => none }
def RunPartsWrongFalsely : Prop := runPartsRow.holds Tryz.pinned (OpenSpec.ofChange runPartsWrong)

/-- 'limelightlaw22.RunCounts': WHATEVER THE INPUT: true; the input reads as it did. -/
def runCountsSpec : ChangeSpec := { name := "runCounts", fn := fun _ => fun
  | [d1, d2, d3] => { results := [.lit (.bool true)], args := [d1, d2, d3] }
  | _ => none }
def runCountsRow : OpenClaim := { program := "ytekooegnkifokaagreat", sum := "f8cc21429f14187cfb4b933a10a561117082d25cfd4b474ce5a5a667b30ca292", func := "limelight/limelightlaw22.RunCounts", spec := "runCounts", inPlace := ["slices.overlaps[int]"], unfollowed := true, recurses := true, apart := false }
def RunCountsSaid : Prop := runCountsRow.holds Tryz.pinned (OpenSpec.ofChange runCountsSpec)

/-- ITS FALSE NEIGHBOUR: 'it returns false'. Refute it at one input. -/
def runCountsWrong : ChangeSpec := { name := "runCounts", fn := fun _ => fun
  | [d1, d2, d3] => { results := [.lit (.bool false)], args := [d1, d2, d3] }
  | _ => none }
def RunCountsWrongFalsely : Prop := runCountsRow.holds Tryz.pinned (OpenSpec.ofChange runCountsWrong)

/-- 'limelightlaw22.RunFocus': WHATEVER THE INPUT: true; the input reads as it did. -/
def runFocusSpec : ChangeSpec := { name := "runFocus", fn := fun _ => fun
  | [d1, d2] => { results := [.lit (.bool true)], args := [d1, d2] }
  | _ => none }
def runFocusRow : OpenClaim := { program := "ytekooegnkifokaagreat", sum := "f8cc21429f14187cfb4b933a10a561117082d25cfd4b474ce5a5a667b30ca292", func := "limelight/limelightlaw22.RunFocus", spec := "runFocus", inPlace := ["slices.overlaps[int]"], unfollowed := true, recurses := true, apart := false }
def RunFocusSaid : Prop := runFocusRow.holds Tryz.pinned (OpenSpec.ofChange runFocusSpec)

/-- ITS FALSE NEIGHBOUR: 'it returns false'. Refute it at one input. -/
def runFocusWrong : ChangeSpec := { name := "runFocus", fn := fun _ => fun
  | [d1, d2] => { results := [.lit (.bool false)], args := [d1, d2] }
  | _ => none }
def RunFocusWrongFalsely : Prop := runFocusRow.holds Tryz.pinned (OpenSpec.ofChange runFocusWrong)

/-- 'limelightlaw22.RunRoots': WHATEVER THE INPUT: true; the input reads as it did. -/
def runRootsSpec : ChangeSpec := { name := "runRoots", fn := fun _ => fun
  | [d1, d2] => { results := [.lit (.bool true)], args := [d1, d2] }
  | _ => none }
def runRootsRow : OpenClaim := { program := "ytekooegnkifokaagreat", sum := "f8cc21429f14187cfb4b933a10a561117082d25cfd4b474ce5a5a667b30ca292", func := "limelight/limelightlaw22.RunRoots", spec := "runRoots", inPlace := ["slices.overlaps[int]"], unfollowed := true, recurses := true, apart := false }
def RunRootsSaid : Prop := runRootsRow.holds Tryz.pinned (OpenSpec.ofChange runRootsSpec)

/-- ITS FALSE NEIGHBOUR: 'it returns false'. Refute it at one input. -/
def runRootsWrong : ChangeSpec := { name := "runRoots", fn := fun _ => fun
  | [d1, d2] => { results := [.lit (.bool false)], args := [d1, d2] }
  | _ => none }
def RunRootsWrongFalsely : Prop := runRootsRow.holds Tryz.pinned (OpenSpec.ofChange runRootsWrong)

/-- 'limelightlaw22.RunLone': WHATEVER THE INPUT: true; the input reads as it did. -/
def runLoneSpec : ChangeSpec := { name := "runLone", fn := fun _ => fun
  | [d1, d2, d3] => { results := [.lit (.bool true)], args := [d1, d2, d3] }
  | _ => none }
def runLoneRow : OpenClaim := { program := "ytekooegnkifokaagreat", sum := "f8cc21429f14187cfb4b933a10a561117082d25cfd4b474ce5a5a667b30ca292", func := "limelight/limelightlaw22.RunLone", spec := "runLone", inPlace := ["slices.overlaps[int]"], unfollowed := true, recurses := true, apart := false }
def RunLoneSaid : Prop := runLoneRow.holds Tryz.pinned (OpenSpec.ofChange runLoneSpec)

/-- ITS FALSE NEIGHBOUR: 'it returns false'. Refute it at one input. -/
def runLoneWrong : ChangeSpec := { name := "runLone", fn := fun _ => fun
  | [d1, d2, d3] => { results := [.lit (.bool false)], args := [d1, d2, d3] }
  | _ => none }
def RunLoneWrongFalsely : Prop := runLoneRow.holds Tryz.pinned (OpenSpec.ofChange runLoneWrong)

/- THE SECOND FORM. 'bulk': how many values and letters a reading holds, each counted each time it is reached (what is shared counts as often as it is met; a slice's spare places count too). A statement '..UptoSaid' is the law's where the arguments, and the package variables that the reading takes, are together of bulk at most 1048576: NARROWER than '..Said'. Prove '..Said' where nothing that the law and all that it calls make is longer than what came in: it says more and counts as full. Else prove '..UptoSaid'. A law counts once. -/
mutual
def uptoBulk {H : Type} : DataW H → Nat
  | .lit (.string bytes) => bytes.length + 1
  | .lit _ => 1
  | .nil => 1
  | .ptr d => uptoBulk d + 1
  | .slice elems spare => uptoBulkAll elems + uptoBulkAll spare + 1
  | .agg parts => uptoBulkAll parts + 1
  | .iface _ d => uptoBulk d + 1
  | .map entries => uptoBulkEntries entries + 1
  | .held _ => 1
def uptoBulkAll {H : Type} : List (DataW H) → Nat
  | [] => 0
  | d :: r => uptoBulk d + uptoBulkAll r
def uptoBulkEntries {H : Type} : List (Lit × DataW H) → Nat
  | [] => 0
  | x :: r => uptoBulkEntry x + uptoBulkEntries r
def uptoBulkEntry {H : Type} : Lit × DataW H → Nat
  | (.string bytes, d) => bytes.length + uptoBulk d + 1
  | (_, d) => uptoBulk d + 1
 end
def uptoSmall : (H : Type) → List (DataW H) → Bool := fun _ ds => decide (uptoBulkAll ds ≤ 1048576)
def OpenSpec.upto (s : _root_.Go.ChangeSpec) : _root_.Go.OpenSpec := { _root_.Go.OpenSpec.ofChange s with cond := some uptoSmall }

/-- 'limelightlaw21.PageEnds', WHERE WHAT IT READS IS OF BULK AT MOST 1048576: true; the input reads as it did. -/
def pageEndsUptoRow : OpenClaim := { program := "ytekooegnkifokaagreat", sum := "f8cc21429f14187cfb4b933a10a561117082d25cfd4b474ce5a5a667b30ca292", func := "limelight/limelightlaw21.PageEnds", spec := "pageEnds", inPlace := ["slices.overlaps[int]"], unfollowed := true, recurses := true, apart := false, narrowed := true }
def PageEndsUptoSaid : Prop := pageEndsUptoRow.holds Tryz.pinned (OpenSpec.upto pageEndsSpec)

/-- 'limelightlaw21.PageSilent', WHERE WHAT IT READS IS OF BULK AT MOST 1048576: true; the input reads as it did. -/
def pageSilentUptoRow : OpenClaim := { program := "ytekooegnkifokaagreat", sum := "f8cc21429f14187cfb4b933a10a561117082d25cfd4b474ce5a5a667b30ca292", func := "limelight/limelightlaw21.PageSilent", spec := "pageSilent", inPlace := ["slices.overlaps[int]"], unfollowed := true, recurses := true, apart := false, narrowed := true }
def PageSilentUptoSaid : Prop := pageSilentUptoRow.holds Tryz.pinned (OpenSpec.upto pageSilentSpec)

/-- 'limelightlaw21.PageGrows', WHERE WHAT IT READS IS OF BULK AT MOST 1048576: true; the input reads as it did. -/
def pageGrowsUptoRow : OpenClaim := { program := "ytekooegnkifokaagreat", sum := "f8cc21429f14187cfb4b933a10a561117082d25cfd4b474ce5a5a667b30ca292", func := "limelight/limelightlaw21.PageGrows", spec := "pageGrows", inPlace := ["slices.overlaps[int]"], unfollowed := true, recurses := true, apart := false, narrowed := true }
def PageGrowsUptoSaid : Prop := pageGrowsUptoRow.holds Tryz.pinned (OpenSpec.upto pageGrowsSpec)

/-- 'limelightlaw21.PageListens', WHERE WHAT IT READS IS OF BULK AT MOST 1048576: true; the input reads as it did. -/
def pageListensUptoRow : OpenClaim := { program := "ytekooegnkifokaagreat", sum := "f8cc21429f14187cfb4b933a10a561117082d25cfd4b474ce5a5a667b30ca292", func := "limelight/limelightlaw21.PageListens", spec := "pageListens", inPlace := ["slices.overlaps[int]"], unfollowed := true, recurses := true, apart := false, narrowed := true }
def PageListensUptoSaid : Prop := pageListensUptoRow.holds Tryz.pinned (OpenSpec.upto pageListensSpec)

/-- 'limelightlaw21.PageRefuses', WHERE WHAT IT READS IS OF BULK AT MOST 1048576: true; the input reads as it did. -/
def pageRefusesUptoRow : OpenClaim := { program := "ytekooegnkifokaagreat", sum := "f8cc21429f14187cfb4b933a10a561117082d25cfd4b474ce5a5a667b30ca292", func := "limelight/limelightlaw21.PageRefuses", spec := "pageRefuses", inPlace := ["slices.overlaps[int]"], unfollowed := true, recurses := true, apart := false, narrowed := true }
def PageRefusesUptoSaid : Prop := pageRefusesUptoRow.holds Tryz.pinned (OpenSpec.upto pageRefusesSpec)

/-- 'limelightlaw21.PageNil', WHERE WHAT IT READS IS OF BULK AT MOST 1048576: true; the input reads as it did. -/
def pageNilUptoRow : OpenClaim := { program := "ytekooegnkifokaagreat", sum := "f8cc21429f14187cfb4b933a10a561117082d25cfd4b474ce5a5a667b30ca292", func := "limelight/limelightlaw21.PageNil", spec := "pageNil", inPlace := ["slices.overlaps[int]"], unfollowed := true, recurses := true, apart := false, narrowed := true }
def PageNilUptoSaid : Prop := pageNilUptoRow.holds Tryz.pinned (OpenSpec.upto pageNilSpec)

/-- 'limelightlaw22.RunActives', WHERE WHAT IT READS IS OF BULK AT MOST 1048576: true; the input reads as it did. -/
def runActivesUptoRow : OpenClaim := { program := "ytekooegnkifokaagreat", sum := "f8cc21429f14187cfb4b933a10a561117082d25cfd4b474ce5a5a667b30ca292", func := "limelight/limelightlaw22.RunActives", spec := "runActives", inPlace := ["slices.overlaps[int]"], unfollowed := true, recurses := true, apart := false, narrowed := true }
def RunActivesUptoSaid : Prop := runActivesUptoRow.holds Tryz.pinned (OpenSpec.upto runActivesSpec)

/-- 'limelightlaw22.RunParts', WHERE WHAT IT READS IS OF BULK AT MOST 1048576: true; the input reads as it did. -/
def runPartsUptoRow : OpenClaim := { program := "ytekooegnkifokaagreat", sum := "f8cc21429f14187cfb4b933a10a561117082d25cfd4b474ce5a5a667b30ca292", func := "limelight/limelightlaw22.RunParts", spec := "runParts", inPlace := ["slices.overlaps[int]"], unfollowed := true, recurses := true, apart := false, narrowed := true }
def RunPartsUptoSaid : Prop := runPartsUptoRow.holds Tryz.pinned (OpenSpec.upto runPartsSpec)

/-- 'limelightlaw22.RunCounts', WHERE WHAT IT READS IS OF BULK AT MOST 1048576: true; the input reads as it did. -/
def runCountsUptoRow : OpenClaim := { program := "ytekooegnkifokaagreat", sum := "f8cc21429f14187cfb4b933a10a561117082d25cfd4b474ce5a5a667b30ca292", func := "limelight/limelightlaw22.RunCounts", spec := "runCounts", inPlace := ["slices.overlaps[int]"], unfollowed := true, recurses := true, apart := false, narrowed := true }
def RunCountsUptoSaid : Prop := runCountsUptoRow.holds Tryz.pinned (OpenSpec.upto runCountsSpec)

/-- 'limelightlaw22.RunFocus', WHERE WHAT IT READS IS OF BULK AT MOST 1048576: true; the input reads as it did. -/
def runFocusUptoRow : OpenClaim := { program := "ytekooegnkifokaagreat", sum := "f8cc21429f14187cfb4b933a10a561117082d25cfd4b474ce5a5a667b30ca292", func := "limelight/limelightlaw22.RunFocus", spec := "runFocus", inPlace := ["slices.overlaps[int]"], unfollowed := true, recurses := true, apart := false, narrowed := true }
def RunFocusUptoSaid : Prop := runFocusUptoRow.holds Tryz.pinned (OpenSpec.upto runFocusSpec)

/-- 'limelightlaw22.RunRoots', WHERE WHAT IT READS IS OF BULK AT MOST 1048576: true; the input reads as it did. -/
def runRootsUptoRow : OpenClaim := { program := "ytekooegnkifokaagreat", sum := "f8cc21429f14187cfb4b933a10a561117082d25cfd4b474ce5a5a667b30ca292", func := "limelight/limelightlaw22.RunRoots", spec := "runRoots", inPlace := ["slices.overlaps[int]"], unfollowed := true, recurses := true, apart := false, narrowed := true }
def RunRootsUptoSaid : Prop := runRootsUptoRow.holds Tryz.pinned (OpenSpec.upto runRootsSpec)

/-- 'limelightlaw22.RunLone', WHERE WHAT IT READS IS OF BULK AT MOST 1048576: true; the input reads as it did. -/
def runLoneUptoRow : OpenClaim := { program := "ytekooegnkifokaagreat", sum := "f8cc21429f14187cfb4b933a10a561117082d25cfd4b474ce5a5a667b30ca292", func := "limelight/limelightlaw22.RunLone", spec := "runLone", inPlace := ["slices.overlaps[int]"], unfollowed := true, recurses := true, apart := false, narrowed := true }
def RunLoneUptoSaid : Prop := runLoneUptoRow.holds Tryz.pinned (OpenSpec.upto runLoneSpec)

end Rows
end Go.Proofs.YtekooegnkifokaaGreat
