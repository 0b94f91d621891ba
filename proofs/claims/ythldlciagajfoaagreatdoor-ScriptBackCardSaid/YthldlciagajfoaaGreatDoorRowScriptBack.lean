/- 'limelight .. ScriptBack' returns true for every input: the row and its tied card, out of the walked function (the engine's texts). Conditions: what the row lists of package-level variables. -/
import Derived.Test.YthldlciagajfoaaGreatDoorEng10
import Derived.Test.YthldlciagajfoaaGreatDoorEng05
import Derived.Test.YthldlciagajfoaaGreatDoorRows
import Derived.Test.YthldlciagajfoaaGreatDoorCards
set_option linter.all false
set_option linter.unusedVariables false
set_option linter.unusedSimpArgs false
set_option maxRecDepth 100000
set_option linter.all false
set_option linter.unusedVariables false
set_option linter.unusedSimpArgs false
namespace Go.Proofs.YthldlciagajfoaaGreatDoor
open Go Go.ChangeShapes Go.WideShapes Go.ChangeAt Go.RowKit
theorem scriptBack_readable : (Tryz.f5.params.toList.all fun t => Tryz.prog.readableRec t && decide (t < Tryz.prog.types.size)) = true := by kernel_rfl
theorem scriptBack_flat : (Tryz.f5.params.toList.all fun t => (Eng.flat Tryz.prog 8 t).isSome) = true := by kernel_rfl
theorem scriptBack_res : Tryz.f5.resultTypes = #[4] := by kernel_rfl
set_option maxRecDepth 100000 in
theorem scriptBack_lifted (os : Os) (started : os.Started) (H : Type) (enc : TypeId × Value → H) :
    ReturnsInHanded {} Tryz.checked os 5 .any (fun w args => (Rows.scriptBackSpec.pre enc Tryz.prog Tryz.f5 Rows.scriptBackRow.domain false w args ∧ laidMetH Tryz.prog Rows.scriptBackRow.laid w) ∧ sizedMet enc Tryz.prog Tryz.f5 (OpenSpec.ofChange Rows.scriptBackSpec) false w args)
      (Rows.scriptBackSpec.post enc Tryz.prog Tryz.f5 false true false false) := by
  refine Eng.returnsInHanded_andS (C := Tryz.checked) (X := fun w _ => laidMetH Tryz.prog Rows.scriptBackRow.laid w) (fun _ _ _ hh h => h.of_heap hh) z_own started (by kernel_rfl) Tryz.func5
    (ChangeSpec.witness_shaped (enc := enc) (C := Tryz.checked) (os := os) (X := fun w _ => laidMetH Tryz.prog Rows.scriptBackRow.laid w) false (World.laidAll Tryz.prog os Rows.scriptBackRow.laid) #[.agg #[.int .i64 0, .int .i64 0, .int .i64 0, .int .i64 0, .bool false, .slice none 0 0], .string ⟨#[]⟩] 8 (World.laidAll_os _ _ _)
      (World.shaped_of_ZipB (by kernel_rfl) (by kernel_rfl)) (by kernel_rfl) (by kernel_rfl) (by kernel_rfl) (z_laidMet os _)) ?_
  intro W base args ds gs before hval hW hw hX hS
  exact Eng.law_contract z_laidOut scriptBack_readable scriptBack_flat scriptBack_res Tryz.underlying4 rfl (fun ds hl => by
    match ds, hl with | [a, b], _ => rfl) (fun xs h => Eng.law_ScriptBack_args xs h) hval
      (Eng.glob_of (l := Rows.scriptBackRow.laid) hX z_plainL hS (.tail _ (.tail _ (.head _))) (.tail _ (.tail _ (.tail _ (.head _)))) (.tail _ (.tail _ (.tail _ (.tail _ (.head _))))) (.tail _ (.tail _ (.tail _ (.tail _ (.tail _ (.tail _ (.tail _ (.head _)))))))) (.tail _ (.tail _ (.tail _ (.tail _ (.tail _ (.tail _ (.tail _ (.tail _ (.head _))))))))) (by kernel_rfl) (by kernel_rfl) (by kernel_rfl)) hW hw
theorem scriptBack_inPlace : (Rows.scriptBackRow.inPlace == Tryz.prog.inPlace 5) = true := by kernel_rfl
theorem scriptBack_unfollowed : (Rows.scriptBackRow.unfollowed == Tryz.prog.unfollowed 5) = true := by kernel_rfl
theorem scriptBack_recurses : (Rows.scriptBackRow.recurses == Tryz.prog.recurses 5) = true := by kernel_rfl
theorem scriptBack_named : (Rows.scriptBackRow.named == Tryz.prog.varsNamed 5) = true := by kernel_rfl
theorem scriptBack_func : Tryz.prog.funcNamed Rows.scriptBackRow.func = some 5 := by kernel_rfl
theorem scriptBack_closed : joinedFacts Tryz.prog 5 Tryz.f5 Rows.scriptBackSpec Rows.scriptBackRow = true := by
  unfold joinedFacts
  simp only [Bool.and_eq_true]
  repeat' (refine And.intro ?_ ?_)
  · kernel_rfl
  · exact z_laidOut
  · exact z_maps
  · kernel_rfl
  · kernel_rfl
  · kernel_rfl
  · exact z_stops
  · kernel_rfl
  · exact z_knobs
  · exact scriptBack_inPlace
  · exact scriptBack_unfollowed
  · exact scriptBack_recurses
  · exact scriptBack_named
  · kernel_rfl
  · kernel_rfl
  · kernel_rfl
  · kernel_rfl
  · kernel_rfl
  · kernel_rfl
  · kernel_rfl
  · kernel_rfl
  · kernel_rfl
  · exact z_plain
  · kernel_rfl
  · exact z_heard
  · exact z_enter
  · exact z_lifted
  · exact z_make
  · kernel_rfl
  · kernel_rfl
  · kernel_rfl
  · kernel_rfl
theorem scriptBack_pre (H : Type) (enc : TypeId × Value → H) : OpenClaim.pre enc Tryz.prog Tryz.f5 (OpenSpec.ofChange Rows.scriptBackSpec) Rows.scriptBackRow = fun w args => (Rows.scriptBackSpec.pre enc Tryz.prog Tryz.f5 Rows.scriptBackRow.domain false w args ∧ laidMetH Tryz.prog Rows.scriptBackRow.laid w) ∧ sizedMet enc Tryz.prog Tryz.f5 (OpenSpec.ofChange Rows.scriptBackSpec) false w args := rfl
theorem scriptBack_holds : Rows.ScriptBackSaid :=
  OpenClaim.holds_of_wide 5 Tryz.f5 rfl rfl rfl rfl rfl rfl rfl ⟨rfl, rfl, rfl, rfl, rfl⟩ rfl rfl rfl rfl rfl scriptBack_func Tryz.func5 scriptBack_closed
    (of_decide_eq_true (by kernel_rfl)) (by unfold Func.isWrapper; first | (rw [if_pos (by decide +kernel)]; kernel_rfl) | (rw [if_neg (by decide +kernel)]; exact ⟨rfl, rfl⟩))
    (fun os started H enc _ => by
      rw [show OpenClaim.pre enc Tryz.pinned.checked.prog Tryz.f5 (OpenSpec.ofChange Rows.scriptBackSpec) Rows.scriptBackRow = _ from scriptBack_pre H enc]
      exact scriptBack_lifted os started H enc)
theorem scriptBack_wf : Rows.scriptBackRow.wfByText (OpenSpec.ofChange Rows.scriptBackSpec) = true := by kernel_rfl
theorem scriptBack_goes : false = Rows.scriptBackRow.goesBy Tryz.pinned.checked.prog := goesBy_none z_noGo rfl
theorem scriptBack_stand : ([24, 9].all fun u => !Tryz.prog.wantsStandIn u) = true := by kernel_rfl
theorem scriptBack_card : Rows.ScriptBackCardSaid :=
  Claim7.holds_tied_plain_at .later [] [.pinned, .data, .sentinel, .sentinel, .data, .data, .data, .data, .listed] true (true, "cb0322ea15dea593dfcb9bb346889888971dda4e04ddfdef5fc5e6f596b60d7e") true scriptBack_holds (fun _ h => by cases h) scriptBack_wf (fun _ h => by cases h) scriptBack_row_tie rfl ⟨rfl, rfl⟩ z_main rfl
    (fun f fn hf hfn => by
      obtain rfl : f = 5 := Option.some.inj ((show Tryz.prog.funcNamed "limelight/limelightlaw24.ScriptBack" = some 5 from scriptBack_func).symm.trans hf) |>.symm
      obtain rfl : fn = Tryz.f5 := (Option.some.inj (Tryz.func5.symm.trans hfn)).symm
      exact ⟨z_looks, fun j t ht => by
        rw [Tryz.params5] at ht
        have hm : t ∈ [24, 9] := by simpa using Array.mem_of_getElem? ht
        exact (show Tryz.prog.wantsStandIn t = false by simpa using List.all_eq_true.1 scriptBack_stand t hm)⟩)
    scriptBack_goes
#print axioms scriptBack_card
end Go.Proofs.YthldlciagajfoaaGreatDoor
