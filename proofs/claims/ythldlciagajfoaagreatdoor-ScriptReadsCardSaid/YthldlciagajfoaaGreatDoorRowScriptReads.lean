/- 'limelight .. ScriptReads' returns true for every input: the row and its tied card, out of the walked function (the engine's texts). Conditions: what the row lists of package-level variables. -/
import Derived.Test.YthldlciagajfoaaGreatDoorEng10
import Derived.Test.YthldlciagajfoaaGreatDoorEng05
import Derived.Test.YthldlciagajfoaaGreatDoorRows
import Derived.Test.YthldlciagajfoaaGreatDoorCards
set_option linter.all false
set_option linter.unusedVariables false
set_option linter.unusedSimpArgs false
set_option maxRecDepth 100000
set_option linter.all false
set_option linter.unusedVariables false
set_option linter.unusedSimpArgs false
namespace Go.Proofs.YthldlciagajfoaaGreatDoor
open Go Go.ChangeShapes Go.WideShapes Go.ChangeAt Go.RowKit
theorem scriptReads_readable : (Tryz.f4.params.toList.all fun t => Tryz.prog.readableRec t && decide (t < Tryz.prog.types.size)) = true := by kernel_rfl
theorem scriptReads_flat : (Tryz.f4.params.toList.all fun t => (Eng.flat Tryz.prog 8 t).isSome) = true := by kernel_rfl
theorem scriptReads_res : Tryz.f4.resultTypes = #[4] := by kernel_rfl
set_option maxRecDepth 100000 in
theorem scriptReads_lifted (os : Os) (started : os.Started) (H : Type) (enc : TypeId × Value → H) :
    ReturnsInHanded {} Tryz.checked os 4 .any (fun w args => (Rows.scriptReadsSpec.pre enc Tryz.prog Tryz.f4 Rows.scriptReadsRow.domain false w args ∧ laidMetH Tryz.prog Rows.scriptReadsRow.laid w) ∧ sizedMet enc Tryz.prog Tryz.f4 (OpenSpec.ofChange Rows.scriptReadsSpec) false w args)
      (Rows.scriptReadsSpec.post enc Tryz.prog Tryz.f4 false true false false) := by
  refine Eng.returnsInHanded_andS (C := Tryz.checked) (X := fun w _ => laidMetH Tryz.prog Rows.scriptReadsRow.laid w) (fun _ _ _ hh h => h.of_heap hh) z_own started (by kernel_rfl) Tryz.func4
    (ChangeSpec.witness_shaped (enc := enc) (C := Tryz.checked) (os := os) (X := fun w _ => laidMetH Tryz.prog Rows.scriptReadsRow.laid w) false (World.laidAll Tryz.prog os Rows.scriptReadsRow.laid) #[.string ⟨#[]⟩] 8 (World.laidAll_os _ _ _)
      (World.shaped_of_ZipB (by kernel_rfl) (by kernel_rfl)) (by kernel_rfl) (by kernel_rfl) (by kernel_rfl) (z_laidMet os _)) ?_
  intro W base args ds gs before hval hW hw hX hS
  exact Eng.law_contract z_laidOut scriptReads_readable scriptReads_flat scriptReads_res Tryz.underlying4 rfl (fun ds hl => by
    match ds, hl with | [a], _ => rfl) (fun xs h => Eng.law_ScriptReads_args xs h) hval
      (Eng.glob_of (l := Rows.scriptReadsRow.laid) hX z_plainL hS (.tail _ (.tail _ (.head _))) (.tail _ (.tail _ (.tail _ (.head _)))) (.tail _ (.tail _ (.tail _ (.tail _ (.head _))))) (.tail _ (.tail _ (.tail _ (.tail _ (.tail _ (.tail _ (.tail _ (.head _)))))))) (.tail _ (.tail _ (.tail _ (.tail _ (.tail _ (.tail _ (.tail _ (.tail _ (.head _))))))))) (by kernel_rfl) (by kernel_rfl) (by kernel_rfl)) hW hw
theorem scriptReads_inPlace : (Rows.scriptReadsRow.inPlace == Tryz.prog.inPlace 4) = true := by kernel_rfl
theorem scriptReads_unfollowed : (Rows.scriptReadsRow.unfollowed == Tryz.prog.unfollowed 4) = true := by kernel_rfl
theorem scriptReads_recurses : (Rows.scriptReadsRow.recurses == Tryz.prog.recurses 4) = true := by kernel_rfl
theorem scriptReads_named : (Rows.scriptReadsRow.named == Tryz.prog.varsNamed 4) = true := by kernel_rfl
theorem scriptReads_func : Tryz.prog.funcNamed Rows.scriptReadsRow.func = some 4 := by kernel_rfl
theorem scriptReads_closed : joinedFacts Tryz.prog 4 Tryz.f4 Rows.scriptReadsSpec Rows.scriptReadsRow = true := by
  unfold joinedFacts
  simp only [Bool.and_eq_true]
  repeat' (refine And.intro ?_ ?_)
  · kernel_rfl
  · exact z_laidOut
  · exact z_maps
  · kernel_rfl
  · kernel_rfl
  · kernel_rfl
  · exact z_stops
  · kernel_rfl
  · exact z_knobs
  · exact scriptReads_inPlace
  · exact scriptReads_unfollowed
  · exact scriptReads_recurses
  · exact scriptReads_named
  · kernel_rfl
  · kernel_rfl
  · kernel_rfl
  · kernel_rfl
  · kernel_rfl
  · kernel_rfl
  · kernel_rfl
  · kernel_rfl
  · kernel_rfl
  · exact z_plain
  · kernel_rfl
  · exact z_heard
  · exact z_enter
  · exact z_lifted
  · exact z_make
  · kernel_rfl
  · kernel_rfl
  · kernel_rfl
  · kernel_rfl
theorem scriptReads_pre (H : Type) (enc : TypeId × Value → H) : OpenClaim.pre enc Tryz.prog Tryz.f4 (OpenSpec.ofChange Rows.scriptReadsSpec) Rows.scriptReadsRow = fun w args => (Rows.scriptReadsSpec.pre enc Tryz.prog Tryz.f4 Rows.scriptReadsRow.domain false w args ∧ laidMetH Tryz.prog Rows.scriptReadsRow.laid w) ∧ sizedMet enc Tryz.prog Tryz.f4 (OpenSpec.ofChange Rows.scriptReadsSpec) false w args := rfl
theorem scriptReads_holds : Rows.ScriptReadsSaid :=
  OpenClaim.holds_of_wide 4 Tryz.f4 rfl rfl rfl rfl rfl rfl rfl ⟨rfl, rfl, rfl, rfl, rfl⟩ rfl rfl rfl rfl rfl scriptReads_func Tryz.func4 scriptReads_closed
    (of_decide_eq_true (by kernel_rfl)) (by unfold Func.isWrapper; first | (rw [if_pos (by decide +kernel)]; kernel_rfl) | (rw [if_neg (by decide +kernel)]; exact ⟨rfl, rfl⟩))
    (fun os started H enc _ => by
      rw [show OpenClaim.pre enc Tryz.pinned.checked.prog Tryz.f4 (OpenSpec.ofChange Rows.scriptReadsSpec) Rows.scriptReadsRow = _ from scriptReads_pre H enc]
      exact scriptReads_lifted os started H enc)
theorem scriptReads_wf : Rows.scriptReadsRow.wfByText (OpenSpec.ofChange Rows.scriptReadsSpec) = true := by kernel_rfl
theorem scriptReads_goes : false = Rows.scriptReadsRow.goesBy Tryz.pinned.checked.prog := goesBy_none z_noGo rfl
theorem scriptReads_stand : ([9].all fun u => !Tryz.prog.wantsStandIn u) = true := by kernel_rfl
theorem scriptReads_card : Rows.ScriptReadsCardSaid :=
  Claim7.holds_tied_plain_at .later [] [.pinned, .data, .sentinel, .sentinel, .data, .data, .data, .data, .listed] true (true, "cb0322ea15dea593dfcb9bb346889888971dda4e04ddfdef5fc5e6f596b60d7e") true scriptReads_holds (fun _ h => by cases h) scriptReads_wf (fun _ h => by cases h) scriptReads_row_tie rfl ⟨rfl, rfl⟩ z_main rfl
    (fun f fn hf hfn => by
      obtain rfl : f = 4 := Option.some.inj ((show Tryz.prog.funcNamed "limelight/limelightlaw24.ScriptReads" = some 4 from scriptReads_func).symm.trans hf) |>.symm
      obtain rfl : fn = Tryz.f4 := (Option.some.inj (Tryz.func4.symm.trans hfn)).symm
      exact ⟨z_looks, fun j t ht => by
        rw [Tryz.params4] at ht
        have hm : t ∈ [9] := by simpa using Array.mem_of_getElem? ht
        exact (show Tryz.prog.wantsStandIn t = false by simpa using List.all_eq_true.1 scriptReads_stand t hm)⟩)
    scriptReads_goes
#print axioms scriptReads_card
end Go.Proofs.YthldlciagajfoaaGreatDoor
