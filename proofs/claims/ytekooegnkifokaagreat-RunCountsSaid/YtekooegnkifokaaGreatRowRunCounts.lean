/- 'limelight .. RunCounts' returns true for every input: the row, out of the walked function (the engine's texts). Conditions: none but the row's own. -/
import Derived.Test.YtekooegnkifokaaGreatEng08
import Derived.Test.YtekooegnkifokaaGreatEng10
import Derived.Test.YtekooegnkifokaaGreatEng05
import Derived.Test.YtekooegnkifokaaGreatRows
set_option linter.all false
set_option linter.unusedVariables false
set_option linter.unusedSimpArgs false
set_option linter.all false
set_option linter.unusedVariables false
set_option linter.unusedSimpArgs false
set_option linter.unusedVariables false
namespace Go.Proofs.YtekooegnkifokaaGreat
open Go Go.ChangeShapes Go.WideShapes Go.ChangeAt Go.RowKit
theorem runCounts_readable : (Tryz.f11.params.toList.all fun t => Tryz.prog.readableRec t && decide (t < Tryz.prog.types.size)) = true := by kernel_rfl
theorem runCounts_flat : (Tryz.f11.params.toList.all fun t => (Eng.flat Tryz.prog 8 t).isSome) = true := by kernel_rfl
theorem runCounts_res : Tryz.f11.resultTypes = #[4] := by kernel_rfl
set_option maxRecDepth 100000 in
theorem runCounts_lifted (os : Os) (started : os.Started) (H : Type) (enc : TypeId × Value → H) :
    ReturnsInHanded {} Tryz.checked os 11 .any (fun w args => (Rows.runCountsSpec.pre enc Tryz.prog Tryz.f11 [] false w args ∧ True) ∧ sizedMet enc Tryz.prog Tryz.f11 (OpenSpec.ofChange Rows.runCountsSpec) false w args)
      (Rows.runCountsSpec.post enc Tryz.prog Tryz.f11 false true false false) := by
  refine Eng.returnsInHanded_andS (C := Tryz.checked) (X := fun _ _ => True) (fun _ _ _ _ h => h) z_own started (by kernel_rfl) Tryz.func11
    (ChangeSpec.witness_shaped (enc := enc) (C := Tryz.checked) (os := os) (X := fun _ _ => True) false (World.laidAll Tryz.prog os []) #[.slice none 0 0, .int .i64 0, .agg #[.int .i64 0, .int .i64 0, .int .i64 0]] 8 (World.laidAll_os _ _ _)
      (World.shaped_of_ZipB (by kernel_rfl) (by kernel_rfl)) (by kernel_rfl) (by kernel_rfl) (by kernel_rfl) trivial) ?_
  intro W base args ds gs before hval hW hw hX hS
  exact Eng.law_contract z_laidOut runCounts_readable runCounts_flat runCounts_res Tryz.underlying4 rfl (fun ds hl => by
    match ds, hl with | [a, b, c], _ => rfl) (fun xs h => Eng.law22_RunCounts_args Eng.law22_live xs h) hval rfl hW hw
theorem runCounts_pre (H : Type) (enc : TypeId × Value → H) : OpenClaim.pre enc Tryz.prog Tryz.f11 (OpenSpec.ofChange Rows.runCountsSpec) Rows.runCountsRow = fun w args => (Rows.runCountsSpec.pre enc Tryz.prog Tryz.f11 [] false w args ∧ True) ∧ sizedMet enc Tryz.prog Tryz.f11 (OpenSpec.ofChange Rows.runCountsSpec) false w args := by
  funext w args
  have e : (Rows.runCountsSpec.pre enc Tryz.prog Tryz.f11 [] false w args ∧ True) = Rows.runCountsSpec.pre enc Tryz.prog Tryz.f11 [] false w args := and_true _
  rw [e]
  rfl
theorem runCounts_inPlace : (Rows.runCountsRow.inPlace == Tryz.prog.inPlace 11) = true := by kernel_rfl
theorem runCounts_unfollowed : (Rows.runCountsRow.unfollowed == Tryz.prog.unfollowed 11) = true := by kernel_rfl
theorem runCounts_recurses : (Rows.runCountsRow.recurses == Tryz.prog.recurses 11) = true := by kernel_rfl
theorem runCounts_named : (Rows.runCountsRow.named == Tryz.prog.varsNamed 11) = true := by kernel_rfl
theorem runCounts_func : Tryz.prog.funcNamed Rows.runCountsRow.func = some 11 := by kernel_rfl
theorem runCounts_closed : joinedFacts Tryz.prog 11 Tryz.f11 Rows.runCountsSpec Rows.runCountsRow = true := by
  unfold joinedFacts
  simp only [Bool.and_eq_true]
  repeat' (refine And.intro ?_ ?_)
  · kernel_rfl
  · exact z_laidOut
  · exact z_maps
  · kernel_rfl
  · kernel_rfl
  · kernel_rfl
  · exact z_stops
  · kernel_rfl
  · exact z_knobs
  · exact runCounts_inPlace
  · exact runCounts_unfollowed
  · exact runCounts_recurses
  · exact runCounts_named
  · kernel_rfl
  · kernel_rfl
  · kernel_rfl
  · kernel_rfl
  · kernel_rfl
  · kernel_rfl
  · kernel_rfl
  · kernel_rfl
  · kernel_rfl
  · exact z_plain
  · kernel_rfl
  · exact z_heard
  · exact z_enter
  · exact z_lifted
  · exact z_make
  · kernel_rfl
  · kernel_rfl
  · kernel_rfl
  · kernel_rfl
theorem runCounts_holds : Rows.RunCountsSaid :=
  OpenClaim.holds_of_wide 11 Tryz.f11 rfl rfl rfl rfl rfl rfl rfl ⟨rfl, rfl, rfl, rfl, rfl⟩ rfl rfl rfl rfl rfl runCounts_func Tryz.func11 runCounts_closed
    (of_decide_eq_true (by kernel_rfl)) (by unfold Func.isWrapper; first | (rw [if_pos (by decide +kernel)]; kernel_rfl) | (rw [if_neg (by decide +kernel)]; exact ⟨rfl, rfl⟩))
    (fun os started H enc _ => by
      rw [show OpenClaim.pre enc Tryz.pinned.checked.prog Tryz.f11 (OpenSpec.ofChange Rows.runCountsSpec) Rows.runCountsRow = _ from runCounts_pre H enc]
      exact runCounts_lifted os started H enc)
#print axioms runCounts_holds
end Go.Proofs.YtekooegnkifokaaGreat
