/- 'limelight .. RunRoots' returns true for every input: the row, out of the walked function (the engine's texts). Conditions: none but the row's own. -/
import Derived.Test.YtekooegnkifokaaGreatEng10
import Derived.Test.YtekooegnkifokaaGreatEng05
import Derived.Test.YtekooegnkifokaaGreatRows
set_option linter.all false
set_option linter.unusedVariables false
set_option linter.unusedSimpArgs false
set_option linter.all false
set_option linter.unusedVariables false
set_option linter.unusedSimpArgs false
set_option linter.unusedVariables false
namespace Go.Proofs.YtekooegnkifokaaGreat
open Go Go.ChangeShapes Go.WideShapes Go.ChangeAt Go.RowKit
theorem runRoots_readable : (Tryz.f13.params.toList.all fun t => Tryz.prog.readableRec t && decide (t < Tryz.prog.types.size)) = true := by kernel_rfl
theorem runRoots_flat : (Tryz.f13.params.toList.all fun t => (Eng.flat Tryz.prog 8 t).isSome) = true := by kernel_rfl
theorem runRoots_res : Tryz.f13.resultTypes = #[4] := by kernel_rfl
set_option maxRecDepth 100000 in
theorem runRoots_lifted (os : Os) (started : os.Started) (H : Type) (enc : TypeId × Value → H) :
    ReturnsInHanded {} Tryz.checked os 13 .any (fun w args => (Rows.runRootsSpec.pre enc Tryz.prog Tryz.f13 [] false w args ∧ True) ∧ sizedMet enc Tryz.prog Tryz.f13 (OpenSpec.ofChange Rows.runRootsSpec) false w args)
      (Rows.runRootsSpec.post enc Tryz.prog Tryz.f13 false true false false) := by
  refine Eng.returnsInHanded_andS (C := Tryz.checked) (X := fun _ _ => True) (fun _ _ _ _ h => h) z_own started (by kernel_rfl) Tryz.func13
    (ChangeSpec.witness_shaped (enc := enc) (C := Tryz.checked) (os := os) (X := fun _ _ => True) false (World.laidAll Tryz.prog os []) #[.slice none 0 0, .int .i64 0] 8 (World.laidAll_os _ _ _)
      (World.shaped_of_ZipB (by kernel_rfl) (by kernel_rfl)) (by kernel_rfl) (by kernel_rfl) (by kernel_rfl) trivial) ?_
  intro W base args ds gs before hval hW hw hX hS
  exact Eng.law_contract z_laidOut runRoots_readable runRoots_flat runRoots_res Tryz.underlying4 rfl (fun ds hl => by
    match ds, hl with | [a, b], _ => rfl) (fun xs h => Eng.law22_RunRoots_args Eng.law22_live xs h) hval rfl hW hw
theorem runRoots_pre (H : Type) (enc : TypeId × Value → H) : OpenClaim.pre enc Tryz.prog Tryz.f13 (OpenSpec.ofChange Rows.runRootsSpec) Rows.runRootsRow = fun w args => (Rows.runRootsSpec.pre enc Tryz.prog Tryz.f13 [] false w args ∧ True) ∧ sizedMet enc Tryz.prog Tryz.f13 (OpenSpec.ofChange Rows.runRootsSpec) false w args := by
  funext w args
  have e : (Rows.runRootsSpec.pre enc Tryz.prog Tryz.f13 [] false w args ∧ True) = Rows.runRootsSpec.pre enc Tryz.prog Tryz.f13 [] false w args := and_true _
  rw [e]
  rfl
theorem runRoots_inPlace : (Rows.runRootsRow.inPlace == Tryz.prog.inPlace 13) = true := by kernel_rfl
theorem runRoots_unfollowed : (Rows.runRootsRow.unfollowed == Tryz.prog.unfollowed 13) = true := by kernel_rfl
theorem runRoots_recurses : (Rows.runRootsRow.recurses == Tryz.prog.recurses 13) = true := by kernel_rfl
theorem runRoots_named : (Rows.runRootsRow.named == Tryz.prog.varsNamed 13) = true := by kernel_rfl
theorem runRoots_func : Tryz.prog.funcNamed Rows.runRootsRow.func = some 13 := by kernel_rfl
theorem runRoots_closed : joinedFacts Tryz.prog 13 Tryz.f13 Rows.runRootsSpec Rows.runRootsRow = true := by
  unfold joinedFacts
  simp only [Bool.and_eq_true]
  repeat' (refine And.intro ?_ ?_)
  · kernel_rfl
  · exact z_laidOut
  · exact z_maps
  · kernel_rfl
  · kernel_rfl
  · kernel_rfl
  · exact z_stops
  · kernel_rfl
  · exact z_knobs
  · exact runRoots_inPlace
  · exact runRoots_unfollowed
  · exact runRoots_recurses
  · exact runRoots_named
  · kernel_rfl
  · kernel_rfl
  · kernel_rfl
  · kernel_rfl
  · kernel_rfl
  · kernel_rfl
  · kernel_rfl
  · kernel_rfl
  · kernel_rfl
  · exact z_plain
  · kernel_rfl
  · exact z_heard
  · exact z_enter
  · exact z_lifted
  · exact z_make
  · kernel_rfl
  · kernel_rfl
  · kernel_rfl
  · kernel_rfl
theorem runRoots_holds : Rows.RunRootsSaid :=
  OpenClaim.holds_of_wide 13 Tryz.f13 rfl rfl rfl rfl rfl rfl rfl ⟨rfl, rfl, rfl, rfl, rfl⟩ rfl rfl rfl rfl rfl runRoots_func Tryz.func13 runRoots_closed
    (of_decide_eq_true (by kernel_rfl)) (by unfold Func.isWrapper; first | (rw [if_pos (by decide +kernel)]; kernel_rfl) | (rw [if_neg (by decide +kernel)]; exact ⟨rfl, rfl⟩))
    (fun os started H enc _ => by
      rw [show OpenClaim.pre enc Tryz.pinned.checked.prog Tryz.f13 (OpenSpec.ofChange Rows.runRootsSpec) Rows.runRootsRow = _ from runRoots_pre H enc]
      exact runRoots_lifted os started H enc)
#print axioms runRoots_holds
end Go.Proofs.YtekooegnkifokaaGreat
