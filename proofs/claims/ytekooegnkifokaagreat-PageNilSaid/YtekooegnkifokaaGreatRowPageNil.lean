/- 'limelight .. PageNil' returns true for every input: the row, out of the walked function (the engine's texts). Conditions: none but the row's own. -/
import Derived.Test.YtekooegnkifokaaGreatEng09
import Derived.Test.YtekooegnkifokaaGreatEng05
import Derived.Test.YtekooegnkifokaaGreatRows
set_option linter.all false
set_option linter.unusedVariables false
set_option linter.unusedSimpArgs false
set_option linter.all false
set_option linter.unusedVariables false
set_option linter.unusedSimpArgs false
set_option linter.unusedVariables false
namespace Go.Proofs.YtekooegnkifokaaGreat
open Go Go.ChangeShapes Go.WideShapes Go.ChangeAt Go.RowKit
theorem pageNil_readable : (Tryz.f8.params.toList.all fun t => Tryz.prog.readableRec t && decide (t < Tryz.prog.types.size)) = true := by kernel_rfl
theorem pageNil_flat : (Tryz.f8.params.toList.all fun t => (Eng.flat Tryz.prog 8 t).isSome) = true := by kernel_rfl
theorem pageNil_res : Tryz.f8.resultTypes = #[4] := by kernel_rfl
set_option maxRecDepth 100000 in
theorem pageNil_lifted (os : Os) (started : os.Started) (H : Type) (enc : TypeId × Value → H) :
    ReturnsInHanded {} Tryz.checked os 8 .any (fun w args => (Rows.pageNilSpec.pre enc Tryz.prog Tryz.f8 [] false w args ∧ True) ∧ sizedMet enc Tryz.prog Tryz.f8 (OpenSpec.ofChange Rows.pageNilSpec) false w args)
      (Rows.pageNilSpec.post enc Tryz.prog Tryz.f8 false true false false) := by
  refine Eng.returnsInHanded_andS (C := Tryz.checked) (X := fun _ _ => True) (fun _ _ _ _ h => h) z_own started (by kernel_rfl) Tryz.func8
    (ChangeSpec.witness_shaped (enc := enc) (C := Tryz.checked) (os := os) (X := fun _ _ => True) false (World.laidAll Tryz.prog os []) #[.agg #[.int .i64 0, .int .i64 0, .int .i64 0, .int .i64 0, .bool false, .slice none 0 0]] 8 (World.laidAll_os _ _ _)
      (World.shaped_of_ZipB (by kernel_rfl) (by kernel_rfl)) (by kernel_rfl) (by kernel_rfl) (by kernel_rfl) trivial) ?_
  intro W base args ds gs before hval hW hw hX hS
  exact Eng.law_contract z_laidOut pageNil_readable pageNil_flat pageNil_res Tryz.underlying4 rfl (fun ds hl => by
    match ds, hl with | [a], _ => rfl) (fun xs h => Eng.law_PageNil_args xs h) hval rfl hW hw
theorem pageNil_pre (H : Type) (enc : TypeId × Value → H) : OpenClaim.pre enc Tryz.prog Tryz.f8 (OpenSpec.ofChange Rows.pageNilSpec) Rows.pageNilRow = fun w args => (Rows.pageNilSpec.pre enc Tryz.prog Tryz.f8 [] false w args ∧ True) ∧ sizedMet enc Tryz.prog Tryz.f8 (OpenSpec.ofChange Rows.pageNilSpec) false w args := by
  funext w args
  have e : (Rows.pageNilSpec.pre enc Tryz.prog Tryz.f8 [] false w args ∧ True) = Rows.pageNilSpec.pre enc Tryz.prog Tryz.f8 [] false w args := and_true _
  rw [e]
  rfl
theorem pageNil_inPlace : (Rows.pageNilRow.inPlace == Tryz.prog.inPlace 8) = true := by kernel_rfl
theorem pageNil_unfollowed : (Rows.pageNilRow.unfollowed == Tryz.prog.unfollowed 8) = true := by kernel_rfl
theorem pageNil_recurses : (Rows.pageNilRow.recurses == Tryz.prog.recurses 8) = true := by kernel_rfl
theorem pageNil_named : (Rows.pageNilRow.named == Tryz.prog.varsNamed 8) = true := by kernel_rfl
theorem pageNil_func : Tryz.prog.funcNamed Rows.pageNilRow.func = some 8 := by kernel_rfl
theorem pageNil_closed : joinedFacts Tryz.prog 8 Tryz.f8 Rows.pageNilSpec Rows.pageNilRow = true := by
  unfold joinedFacts
  simp only [Bool.and_eq_true]
  repeat' (refine And.intro ?_ ?_)
  · kernel_rfl
  · exact z_laidOut
  · exact z_maps
  · kernel_rfl
  · kernel_rfl
  · kernel_rfl
  · exact z_stops
  · kernel_rfl
  · exact z_knobs
  · exact pageNil_inPlace
  · exact pageNil_unfollowed
  · exact pageNil_recurses
  · exact pageNil_named
  · kernel_rfl
  · kernel_rfl
  · kernel_rfl
  · kernel_rfl
  · kernel_rfl
  · kernel_rfl
  · kernel_rfl
  · kernel_rfl
  · kernel_rfl
  · exact z_plain
  · kernel_rfl
  · exact z_heard
  · exact z_enter
  · exact z_lifted
  · exact z_make
  · kernel_rfl
  · kernel_rfl
  · kernel_rfl
  · kernel_rfl
theorem pageNil_holds : Rows.PageNilSaid :=
  OpenClaim.holds_of_wide 8 Tryz.f8 rfl rfl rfl rfl rfl rfl rfl ⟨rfl, rfl, rfl, rfl, rfl⟩ rfl rfl rfl rfl rfl pageNil_func Tryz.func8 pageNil_closed
    (of_decide_eq_true (by kernel_rfl)) (by unfold Func.isWrapper; first | (rw [if_pos (by decide +kernel)]; kernel_rfl) | (rw [if_neg (by decide +kernel)]; exact ⟨rfl, rfl⟩))
    (fun os started H enc _ => by
      rw [show OpenClaim.pre enc Tryz.pinned.checked.prog Tryz.f8 (OpenSpec.ofChange Rows.pageNilSpec) Rows.pageNilRow = _ from pageNil_pre H enc]
      exact pageNil_lifted os started H enc)
#print axioms pageNil_holds
end Go.Proofs.YtekooegnkifokaaGreat
