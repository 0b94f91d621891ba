/- 'limelight .. ScriptLines' returns true for every input: the row and its tied card, out of the walked function (the engine's texts). Conditions: what the row lists of package-level variables. -/
import Derived.Test.YthldlciagajfoaaGreatDoorEng10
import Derived.Test.YthldlciagajfoaaGreatDoorEng05
import Derived.Test.YthldlciagajfoaaGreatDoorRows
import Derived.Test.YthldlciagajfoaaGreatDoorCards
set_option linter.all false
set_option linter.unusedVariables false
set_option linter.unusedSimpArgs false
set_option maxRecDepth 100000
set_option linter.all false
set_option linter.unusedVariables false
set_option linter.unusedSimpArgs false
namespace Go.Proofs.YthldlciagajfoaaGreatDoor
open Go Go.ChangeShapes Go.WideShapes Go.ChangeAt Go.RowKit
theorem scriptLines_readable : (Tryz.f3.params.toList.all fun t => Tryz.prog.readableRec t && decide (t < Tryz.prog.types.size)) = true := by kernel_rfl
theorem scriptLines_flat : (Tryz.f3.params.toList.all fun t => (Eng.flat Tryz.prog 8 t).isSome) = true := by kernel_rfl
theorem scriptLines_res : Tryz.f3.resultTypes = #[4] := by kernel_rfl
set_option maxRecDepth 100000 in
theorem scriptLines_lifted (os : Os) (started : os.Started) (H : Type) (enc : TypeId × Value → H) :
    ReturnsInHanded {} Tryz.checked os 3 .any (fun w args => (Rows.scriptLinesSpec.pre enc Tryz.prog Tryz.f3 Rows.scriptLinesRow.domain false w args ∧ laidMetH Tryz.prog Rows.scriptLinesRow.laid w) ∧ sizedMet enc Tryz.prog Tryz.f3 (OpenSpec.ofChange Rows.scriptLinesSpec) false w args)
      (Rows.scriptLinesSpec.post enc Tryz.prog Tryz.f3 false true false false) := by
  refine Eng.returnsInHanded_andS (C := Tryz.checked) (X := fun w _ => laidMetH Tryz.prog Rows.scriptLinesRow.laid w) (fun _ _ _ hh h => h.of_heap hh) z_own started (by kernel_rfl) Tryz.func3
    (ChangeSpec.witness_shaped (enc := enc) (C := Tryz.checked) (os := os) (X := fun w _ => laidMetH Tryz.prog Rows.scriptLinesRow.laid w) false (World.laidAll Tryz.prog os Rows.scriptLinesRow.laid) #[.agg #[.int .i64 0, .int .i64 0, .int .i64 0, .int .i64 0, .bool false, .slice none 0 0], .string ⟨#[]⟩] 8 (World.laidAll_os _ _ _)
      (World.shaped_of_ZipB (by kernel_rfl) (by kernel_rfl)) (by kernel_rfl) (by kernel_rfl) (by kernel_rfl) (z_laidMet os _)) ?_
  intro W base args ds gs before hval hW hw hX hS
  exact Eng.law_contract z_laidOut scriptLines_readable scriptLines_flat scriptLines_res Tryz.underlying4 rfl (fun ds hl => by
    match ds, hl with | [a, b], _ => rfl) (fun xs h => Eng.law_ScriptLines_args xs h) hval
      (Eng.glob_of (l := Rows.scriptLinesRow.laid) hX z_plainL hS (.tail _ (.tail _ (.head _))) (.tail _ (.tail _ (.tail _ (.head _)))) (.tail _ (.tail _ (.tail _ (.tail _ (.head _))))) (.tail _ (.tail _ (.tail _ (.tail _ (.tail _ (.tail _ (.tail _ (.head _)))))))) (.tail _ (.tail _ (.tail _ (.tail _ (.tail _ (.tail _ (.tail _ (.tail _ (.head _))))))))) (by kernel_rfl) (by kernel_rfl) (by kernel_rfl)) hW hw
theorem scriptLines_inPlace : (Rows.scriptLinesRow.inPlace == Tryz.prog.inPlace 3) = true := by kernel_rfl
theorem scriptLines_unfollowed : (Rows.scriptLinesRow.unfollowed == Tryz.prog.unfollowed 3) = true := by kernel_rfl
theorem scriptLines_recurses : (Rows.scriptLinesRow.recurses == Tryz.prog.recurses 3) = true := by kernel_rfl
theorem scriptLines_named : (Rows.scriptLinesRow.named == Tryz.prog.varsNamed 3) = true := by kernel_rfl
theorem scriptLines_func : Tryz.prog.funcNamed Rows.scriptLinesRow.func = some 3 := by kernel_rfl
theorem scriptLines_closed : joinedFacts Tryz.prog 3 Tryz.f3 Rows.scriptLinesSpec Rows.scriptLinesRow = true := by
  unfold joinedFacts
  simp only [Bool.and_eq_true]
  repeat' (refine And.intro ?_ ?_)
  · kernel_rfl
  · exact z_laidOut
  · exact z_maps
  · kernel_rfl
  · kernel_rfl
  · kernel_rfl
  · exact z_stops
  · kernel_rfl
  · exact z_knobs
  · exact scriptLines_inPlace
  · exact scriptLines_unfollowed
  · exact scriptLines_recurses
  · exact scriptLines_named
  · kernel_rfl
  · kernel_rfl
  · kernel_rfl
  · kernel_rfl
  · kernel_rfl
  · kernel_rfl
  · kernel_rfl
  · kernel_rfl
  · kernel_rfl
  · exact z_plain
  · kernel_rfl
  · exact z_heard
  · exact z_enter
  · exact z_lifted
  · exact z_make
  · kernel_rfl
  · kernel_rfl
  · kernel_rfl
  · kernel_rfl
theorem scriptLines_pre (H : Type) (enc : TypeId × Value → H) : OpenClaim.pre enc Tryz.prog Tryz.f3 (OpenSpec.ofChange Rows.scriptLinesSpec) Rows.scriptLinesRow = fun w args => (Rows.scriptLinesSpec.pre enc Tryz.prog Tryz.f3 Rows.scriptLinesRow.domain false w args ∧ laidMetH Tryz.prog Rows.scriptLinesRow.laid w) ∧ sizedMet enc Tryz.prog Tryz.f3 (OpenSpec.ofChange Rows.scriptLinesSpec) false w args := rfl
theorem scriptLines_holds : Rows.ScriptLinesSaid :=
  OpenClaim.holds_of_wide 3 Tryz.f3 rfl rfl rfl rfl rfl rfl rfl ⟨rfl, rfl, rfl, rfl, rfl⟩ rfl rfl rfl rfl rfl scriptLines_func Tryz.func3 scriptLines_closed
    (of_decide_eq_true (by kernel_rfl)) (by unfold Func.isWrapper; first | (rw [if_pos (by decide +kernel)]; kernel_rfl) | (rw [if_neg (by decide +kernel)]; exact ⟨rfl, rfl⟩))
    (fun os started H enc _ => by
      rw [show OpenClaim.pre enc Tryz.pinned.checked.prog Tryz.f3 (OpenSpec.ofChange Rows.scriptLinesSpec) Rows.scriptLinesRow = _ from scriptLines_pre H enc]
      exact scriptLines_lifted os started H enc)
theorem scriptLines_wf : Rows.scriptLinesRow.wfByText (OpenSpec.ofChange Rows.scriptLinesSpec) = true := by kernel_rfl
theorem scriptLines_goes : false = Rows.scriptLinesRow.goesBy Tryz.pinned.checked.prog := goesBy_none z_noGo rfl
theorem scriptLines_stand : ([24, 9].all fun u => !Tryz.prog.wantsStandIn u) = true := by kernel_rfl
theorem scriptLines_card : Rows.ScriptLinesCardSaid :=
  Claim7.holds_tied_plain_at .later [] [.pinned, .data, .sentinel, .sentinel, .data, .data, .data, .data, .listed] true (true, "cb0322ea15dea593dfcb9bb346889888971dda4e04ddfdef5fc5e6f596b60d7e") true scriptLines_holds (fun _ h => by cases h) scriptLines_wf (fun _ h => by cases h) scriptLines_row_tie rfl ⟨rfl, rfl⟩ z_main rfl
    (fun f fn hf hfn => by
      obtain rfl : f = 3 := Option.some.inj ((show Tryz.prog.funcNamed "limelight/limelightlaw24.ScriptLines" = some 3 from scriptLines_func).symm.trans hf) |>.symm
      obtain rfl : fn = Tryz.f3 := (Option.some.inj (Tryz.func3.symm.trans hfn)).symm
      exact ⟨z_looks, fun j t ht => by
        rw [Tryz.params3] at ht
        have hm : t ∈ [24, 9] := by simpa using Array.mem_of_getElem? ht
        exact (show Tryz.prog.wantsStandIn t = false by simpa using List.all_eq_true.1 scriptLines_stand t hm)⟩)
    scriptLines_goes
#print axioms scriptLines_card
end Go.Proofs.YthldlciagajfoaaGreatDoor
