/- 'limelight .. RunActives' returns true for every input: the row, out of the walked function (the engine's texts). Conditions: none but the row's own. -/
import Derived.Test.YtekooegnkifokaaGreatEng10
import Derived.Test.YtekooegnkifokaaGreatEng05
import Derived.Test.YtekooegnkifokaaGreatRows
set_option linter.all false
set_option linter.unusedVariables false
set_option linter.unusedSimpArgs false
set_option linter.all false
set_option linter.unusedVariables false
set_option linter.unusedSimpArgs false
set_option linter.unusedVariables false
namespace Go.Proofs.YtekooegnkifokaaGreat
open Go Go.ChangeShapes Go.WideShapes Go.ChangeAt Go.RowKit
theorem runActives_readable : (Tryz.f9.params.toList.all fun t => Tryz.prog.readableRec t && decide (t < Tryz.prog.types.size)) = true := by kernel_rfl
theorem runActives_flat : (Tryz.f9.params.toList.all fun t => (Eng.flat Tryz.prog 8 t).isSome) = true := by kernel_rfl
theorem runActives_res : Tryz.f9.resultTypes = #[4] := by kernel_rfl
set_option maxRecDepth 100000 in
theorem runActives_lifted (os : Os) (started : os.Started) (H : Type) (enc : TypeId × Value → H) :
    ReturnsInHanded {} Tryz.checked os 9 .any (fun w args => (Rows.runActivesSpec.pre enc Tryz.prog Tryz.f9 [] false w args ∧ True) ∧ sizedMet enc Tryz.prog Tryz.f9 (OpenSpec.ofChange Rows.runActivesSpec) false w args)
      (Rows.runActivesSpec.post enc Tryz.prog Tryz.f9 false true false false) := by
  refine Eng.returnsInHanded_andS (C := Tryz.checked) (X := fun _ _ => True) (fun _ _ _ _ h => h) z_own started (by kernel_rfl) Tryz.func9
    (ChangeSpec.witness_shaped (enc := enc) (C := Tryz.checked) (os := os) (X := fun _ _ => True) false (World.laidAll Tryz.prog os []) #[.slice none 0 0, .int .i64 0] 8 (World.laidAll_os _ _ _)
      (World.shaped_of_ZipB (by kernel_rfl) (by kernel_rfl)) (by kernel_rfl) (by kernel_rfl) (by kernel_rfl) trivial) ?_
  intro W base args ds gs before hval hW hw hX hS
  exact Eng.law_contract z_laidOut runActives_readable runActives_flat runActives_res Tryz.underlying4 rfl (fun ds hl => by
    match ds, hl with | [a, b], _ => rfl) (fun xs h => Eng.law22_RunActives_args Eng.law22_live xs h) hval rfl hW hw
theorem runActives_pre (H : Type) (enc : TypeId × Value → H) : OpenClaim.pre enc Tryz.prog Tryz.f9 (OpenSpec.ofChange Rows.runActivesSpec) Rows.runActivesRow = fun w args => (Rows.runActivesSpec.pre enc Tryz.prog Tryz.f9 [] false w args ∧ True) ∧ sizedMet enc Tryz.prog Tryz.f9 (OpenSpec.ofChange Rows.runActivesSpec) false w args := by
  funext w args
  have e : (Rows.runActivesSpec.pre enc Tryz.prog Tryz.f9 [] false w args ∧ True) = Rows.runActivesSpec.pre enc Tryz.prog Tryz.f9 [] false w args := and_true _
  rw [e]
  rfl
theorem runActives_inPlace : (Rows.runActivesRow.inPlace == Tryz.prog.inPlace 9) = true := by kernel_rfl
theorem runActives_unfollowed : (Rows.runActivesRow.unfollowed == Tryz.prog.unfollowed 9) = true := by kernel_rfl
theorem runActives_recurses : (Rows.runActivesRow.recurses == Tryz.prog.recurses 9) = true := by kernel_rfl
theorem runActives_named : (Rows.runActivesRow.named == Tryz.prog.varsNamed 9) = true := by kernel_rfl
theorem runActives_func : Tryz.prog.funcNamed Rows.runActivesRow.func = some 9 := by kernel_rfl
theorem runActives_closed : joinedFacts Tryz.prog 9 Tryz.f9 Rows.runActivesSpec Rows.runActivesRow = true := by
  unfold joinedFacts
  simp only [Bool.and_eq_true]
  repeat' (refine And.intro ?_ ?_)
  · kernel_rfl
  · exact z_laidOut
  · exact z_maps
  · kernel_rfl
  · kernel_rfl
  · kernel_rfl
  · exact z_stops
  · kernel_rfl
  · exact z_knobs
  · exact runActives_inPlace
  · exact runActives_unfollowed
  · exact runActives_recurses
  · exact runActives_named
  · kernel_rfl
  · kernel_rfl
  · kernel_rfl
  · kernel_rfl
  · kernel_rfl
  · kernel_rfl
  · kernel_rfl
  · kernel_rfl
  · kernel_rfl
  · exact z_plain
  · kernel_rfl
  · exact z_heard
  · exact z_enter
  · exact z_lifted
  · exact z_make
  · kernel_rfl
  · kernel_rfl
  · kernel_rfl
  · kernel_rfl
theorem runActives_holds : Rows.RunActivesSaid :=
  OpenClaim.holds_of_wide 9 Tryz.f9 rfl rfl rfl rfl rfl rfl rfl ⟨rfl, rfl, rfl, rfl, rfl⟩ rfl rfl rfl rfl rfl runActives_func Tryz.func9 runActives_closed
    (of_decide_eq_true (by kernel_rfl)) (by unfold Func.isWrapper; first | (rw [if_pos (by decide +kernel)]; kernel_rfl) | (rw [if_neg (by decide +kernel)]; exact ⟨rfl, rfl⟩))
    (fun os started H enc _ => by
      rw [show OpenClaim.pre enc Tryz.pinned.checked.prog Tryz.f9 (OpenSpec.ofChange Rows.runActivesSpec) Rows.runActivesRow = _ from runActives_pre H enc]
      exact runActives_lifted os started H enc)
#print axioms runActives_holds
end Go.Proofs.YtekooegnkifokaaGreat
