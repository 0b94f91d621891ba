/- 'limelight .. ScriptWritten' returns true for every input: the row and its tied card, out of the walked function (the engine's texts). Conditions: what the row lists of package-level variables. -/
import Derived.Test.YthldlciagajfoaaGreatDoorEng10
import Derived.Test.YthldlciagajfoaaGreatDoorEng05
import Derived.Test.YthldlciagajfoaaGreatDoorRows
import Derived.Test.YthldlciagajfoaaGreatDoorCards
set_option linter.all false
set_option linter.unusedVariables false
set_option linter.unusedSimpArgs false
set_option maxRecDepth 100000
set_option linter.all false
set_option linter.unusedVariables false
set_option linter.unusedSimpArgs false
namespace Go.Proofs.YthldlciagajfoaaGreatDoor
open Go Go.ChangeShapes Go.WideShapes Go.ChangeAt Go.RowKit
theorem scriptWritten_readable : (Tryz.f7.params.toList.all fun t => Tryz.prog.readableRec t && decide (t < Tryz.prog.types.size)) = true := by kernel_rfl
theorem scriptWritten_flat : (Tryz.f7.params.toList.all fun t => (Eng.flat Tryz.prog 8 t).isSome) = true := by kernel_rfl
theorem scriptWritten_res : Tryz.f7.resultTypes = #[4] := by kernel_rfl
set_option maxRecDepth 100000 in
theorem scriptWritten_lifted (os : Os) (started : os.Started) (H : Type) (enc : TypeId × Value → H) :
    ReturnsInHanded {} Tryz.checked os 7 .any (fun w args => (Rows.scriptWrittenSpec.pre enc Tryz.prog Tryz.f7 Rows.scriptWrittenRow.domain false w args ∧ laidMetH Tryz.prog Rows.scriptWrittenRow.laid w) ∧ sizedMet enc Tryz.prog Tryz.f7 (OpenSpec.ofChange Rows.scriptWrittenSpec) false w args)
      (Rows.scriptWrittenSpec.post enc Tryz.prog Tryz.f7 false true false false) := by
  refine Eng.returnsInHanded_andS (C := Tryz.checked) (X := fun w _ => laidMetH Tryz.prog Rows.scriptWrittenRow.laid w) (fun _ _ _ hh h => h.of_heap hh) z_own started (by kernel_rfl) Tryz.func7
    (ChangeSpec.witness_shaped (enc := enc) (C := Tryz.checked) (os := os) (X := fun w _ => laidMetH Tryz.prog Rows.scriptWrittenRow.laid w) false (World.laidAll Tryz.prog os Rows.scriptWrittenRow.laid) #[.slice none 0 0] 8 (World.laidAll_os _ _ _)
      (World.shaped_of_ZipB (by kernel_rfl) (by kernel_rfl)) (by kernel_rfl) (by kernel_rfl) (by kernel_rfl) (z_laidMet os _)) ?_
  intro W base args ds gs before hval hW hw hX hS
  exact Eng.law_contract z_laidOut scriptWritten_readable scriptWritten_flat scriptWritten_res Tryz.underlying4 rfl (fun ds hl => by
    match ds, hl with | [a], _ => rfl) (fun xs h => Eng.law_ScriptWritten_args xs h) hval
      (Eng.glob_of (l := Rows.scriptWrittenRow.laid) hX z_plainL hS (.tail _ (.tail _ (.head _))) (.tail _ (.tail _ (.tail _ (.head _)))) (.tail _ (.tail _ (.tail _ (.tail _ (.head _))))) (.tail _ (.tail _ (.tail _ (.tail _ (.tail _ (.tail _ (.tail _ (.head _)))))))) (.tail _ (.tail _ (.tail _ (.tail _ (.tail _ (.tail _ (.tail _ (.tail _ (.head _))))))))) (by kernel_rfl) (by kernel_rfl) (by kernel_rfl)) hW hw
theorem scriptWritten_inPlace : (Rows.scriptWrittenRow.inPlace == Tryz.prog.inPlace 7) = true := by kernel_rfl
theorem scriptWritten_unfollowed : (Rows.scriptWrittenRow.unfollowed == Tryz.prog.unfollowed 7) = true := by kernel_rfl
theorem scriptWritten_recurses : (Rows.scriptWrittenRow.recurses == Tryz.prog.recurses 7) = true := by kernel_rfl
theorem scriptWritten_named : (Rows.scriptWrittenRow.named == Tryz.prog.varsNamed 7) = true := by kernel_rfl
theorem scriptWritten_func : Tryz.prog.funcNamed Rows.scriptWrittenRow.func = some 7 := by kernel_rfl
theorem scriptWritten_closed : joinedFacts Tryz.prog 7 Tryz.f7 Rows.scriptWrittenSpec Rows.scriptWrittenRow = true := by
  unfold joinedFacts
  simp only [Bool.and_eq_true]
  repeat' (refine And.intro ?_ ?_)
  · kernel_rfl
  · exact z_laidOut
  · exact z_maps
  · kernel_rfl
  · kernel_rfl
  · kernel_rfl
  · exact z_stops
  · kernel_rfl
  · exact z_knobs
  · exact scriptWritten_inPlace
  · exact scriptWritten_unfollowed
  · exact scriptWritten_recurses
  · exact scriptWritten_named
  · kernel_rfl
  · kernel_rfl
  · kernel_rfl
  · kernel_rfl
  · kernel_rfl
  · kernel_rfl
  · kernel_rfl
  · kernel_rfl
  · kernel_rfl
  · exact z_plain
  · kernel_rfl
  · exact z_heard
  · exact z_enter
  · exact z_lifted
  · exact z_make
  · kernel_rfl
  · kernel_rfl
  · kernel_rfl
  · kernel_rfl
theorem scriptWritten_pre (H : Type) (enc : TypeId × Value → H) : OpenClaim.pre enc Tryz.prog Tryz.f7 (OpenSpec.ofChange Rows.scriptWrittenSpec) Rows.scriptWrittenRow = fun w args => (Rows.scriptWrittenSpec.pre enc Tryz.prog Tryz.f7 Rows.scriptWrittenRow.domain false w args ∧ laidMetH Tryz.prog Rows.scriptWrittenRow.laid w) ∧ sizedMet enc Tryz.prog Tryz.f7 (OpenSpec.ofChange Rows.scriptWrittenSpec) false w args := rfl
theorem scriptWritten_holds : Rows.ScriptWrittenSaid :=
  OpenClaim.holds_of_wide 7 Tryz.f7 rfl rfl rfl rfl rfl rfl rfl ⟨rfl, rfl, rfl, rfl, rfl⟩ rfl rfl rfl rfl rfl scriptWritten_func Tryz.func7 scriptWritten_closed
    (of_decide_eq_true (by kernel_rfl)) (by unfold Func.isWrapper; first | (rw [if_pos (by decide +kernel)]; kernel_rfl) | (rw [if_neg (by decide +kernel)]; exact ⟨rfl, rfl⟩))
    (fun os started H enc _ => by
      rw [show OpenClaim.pre enc Tryz.pinned.checked.prog Tryz.f7 (OpenSpec.ofChange Rows.scriptWrittenSpec) Rows.scriptWrittenRow = _ from scriptWritten_pre H enc]
      exact scriptWritten_lifted os started H enc)
theorem scriptWritten_wf : Rows.scriptWrittenRow.wfByText (OpenSpec.ofChange Rows.scriptWrittenSpec) = true := by kernel_rfl
theorem scriptWritten_goes : false = Rows.scriptWrittenRow.goesBy Tryz.pinned.checked.prog := goesBy_none z_noGo rfl
theorem scriptWritten_stand : ([44].all fun u => !Tryz.prog.wantsStandIn u) = true := by kernel_rfl
theorem scriptWritten_card : Rows.ScriptWrittenCardSaid :=
  Claim7.holds_tied_plain_at .later [] [.pinned, .data, .sentinel, .sentinel, .data, .data, .data, .data, .listed] true (true, "cb0322ea15dea593dfcb9bb346889888971dda4e04ddfdef5fc5e6f596b60d7e") true scriptWritten_holds (fun _ h => by cases h) scriptWritten_wf (fun _ h => by cases h) scriptWritten_row_tie rfl ⟨rfl, rfl⟩ z_main rfl
    (fun f fn hf hfn => by
      obtain rfl : f = 7 := Option.some.inj ((show Tryz.prog.funcNamed "limelight/limelightlaw24.ScriptWritten" = some 7 from scriptWritten_func).symm.trans hf) |>.symm
      obtain rfl : fn = Tryz.f7 := (Option.some.inj (Tryz.func7.symm.trans hfn)).symm
      exact ⟨z_looks, fun j t ht => by
        rw [Tryz.params7] at ht
        have hm : t ∈ [44] := by simpa using Array.mem_of_getElem? ht
        exact (show Tryz.prog.wantsStandIn t = false by simpa using List.all_eq_true.1 scriptWritten_stand t hm)⟩)
    scriptWritten_goes
#print axioms scriptWritten_card
end Go.Proofs.YthldlciagajfoaaGreatDoor
