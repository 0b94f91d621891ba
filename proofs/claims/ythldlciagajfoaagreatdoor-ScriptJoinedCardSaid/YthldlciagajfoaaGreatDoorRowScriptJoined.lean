/- 'limelight .. ScriptJoined' returns true for every input: the row and its tied card, out of the walked function (the engine's texts). Conditions: what the row lists of package-level variables. -/
import Derived.Test.YthldlciagajfoaaGreatDoorEng10
import Derived.Test.YthldlciagajfoaaGreatDoorEng05
import Derived.Test.YthldlciagajfoaaGreatDoorRows
import Derived.Test.YthldlciagajfoaaGreatDoorCards
set_option linter.all false
set_option linter.unusedVariables false
set_option linter.unusedSimpArgs false
set_option maxRecDepth 100000
set_option linter.all false
set_option linter.unusedVariables false
set_option linter.unusedSimpArgs false
namespace Go.Proofs.YthldlciagajfoaaGreatDoor
open Go Go.ChangeShapes Go.WideShapes Go.ChangeAt Go.RowKit
theorem scriptJoined_readable : (Tryz.f6.params.toList.all fun t => Tryz.prog.readableRec t && decide (t < Tryz.prog.types.size)) = true := by kernel_rfl
theorem scriptJoined_flat : (Tryz.f6.params.toList.all fun t => (Eng.flat Tryz.prog 8 t).isSome) = true := by kernel_rfl
theorem scriptJoined_res : Tryz.f6.resultTypes = #[4] := by kernel_rfl
set_option maxRecDepth 100000 in
theorem scriptJoined_lifted (os : Os) (started : os.Started) (H : Type) (enc : TypeId × Value → H) :
    ReturnsInHanded {} Tryz.checked os 6 .any (fun w args => (Rows.scriptJoinedSpec.pre enc Tryz.prog Tryz.f6 Rows.scriptJoinedRow.domain false w args ∧ laidMetH Tryz.prog Rows.scriptJoinedRow.laid w) ∧ sizedMet enc Tryz.prog Tryz.f6 (OpenSpec.ofChange Rows.scriptJoinedSpec) false w args)
      (Rows.scriptJoinedSpec.post enc Tryz.prog Tryz.f6 false true false false) := by
  refine Eng.returnsInHanded_andS (C := Tryz.checked) (X := fun w _ => laidMetH Tryz.prog Rows.scriptJoinedRow.laid w) (fun _ _ _ hh h => h.of_heap hh) z_own started (by kernel_rfl) Tryz.func6
    (ChangeSpec.witness_shaped (enc := enc) (C := Tryz.checked) (os := os) (X := fun w _ => laidMetH Tryz.prog Rows.scriptJoinedRow.laid w) false (World.laidAll Tryz.prog os Rows.scriptJoinedRow.laid) #[.string ⟨#[]⟩, .string ⟨#[]⟩] 8 (World.laidAll_os _ _ _)
      (World.shaped_of_ZipB (by kernel_rfl) (by kernel_rfl)) (by kernel_rfl) (by kernel_rfl) (by kernel_rfl) (z_laidMet os _)) ?_
  intro W base args ds gs before hval hW hw hX hS
  exact Eng.law_contract z_laidOut scriptJoined_readable scriptJoined_flat scriptJoined_res Tryz.underlying4 rfl (fun ds hl => by
    match ds, hl with | [a, b], _ => rfl) (fun xs h => Eng.law_ScriptJoined_args xs h) hval
      (Eng.glob_of (l := Rows.scriptJoinedRow.laid) hX z_plainL hS (.tail _ (.tail _ (.head _))) (.tail _ (.tail _ (.tail _ (.head _)))) (.tail _ (.tail _ (.tail _ (.tail _ (.head _))))) (.tail _ (.tail _ (.tail _ (.tail _ (.tail _ (.tail _ (.tail _ (.head _)))))))) (.tail _ (.tail _ (.tail _ (.tail _ (.tail _ (.tail _ (.tail _ (.tail _ (.head _))))))))) (by kernel_rfl) (by kernel_rfl) (by kernel_rfl)) hW hw
theorem scriptJoined_inPlace : (Rows.scriptJoinedRow.inPlace == Tryz.prog.inPlace 6) = true := by kernel_rfl
theorem scriptJoined_unfollowed : (Rows.scriptJoinedRow.unfollowed == Tryz.prog.unfollowed 6) = true := by kernel_rfl
theorem scriptJoined_recurses : (Rows.scriptJoinedRow.recurses == Tryz.prog.recurses 6) = true := by kernel_rfl
theorem scriptJoined_named : (Rows.scriptJoinedRow.named == Tryz.prog.varsNamed 6) = true := by kernel_rfl
theorem scriptJoined_func : Tryz.prog.funcNamed Rows.scriptJoinedRow.func = some 6 := by kernel_rfl
theorem scriptJoined_closed : joinedFacts Tryz.prog 6 Tryz.f6 Rows.scriptJoinedSpec Rows.scriptJoinedRow = true := by
  unfold joinedFacts
  simp only [Bool.and_eq_true]
  repeat' (refine And.intro ?_ ?_)
  · kernel_rfl
  · exact z_laidOut
  · exact z_maps
  · kernel_rfl
  · kernel_rfl
  · kernel_rfl
  · exact z_stops
  · kernel_rfl
  · exact z_knobs
  · exact scriptJoined_inPlace
  · exact scriptJoined_unfollowed
  · exact scriptJoined_recurses
  · exact scriptJoined_named
  · kernel_rfl
  · kernel_rfl
  · kernel_rfl
  · kernel_rfl
  · kernel_rfl
  · kernel_rfl
  · kernel_rfl
  · kernel_rfl
  · kernel_rfl
  · exact z_plain
  · kernel_rfl
  · exact z_heard
  · exact z_enter
  · exact z_lifted
  · exact z_make
  · kernel_rfl
  · kernel_rfl
  · kernel_rfl
  · kernel_rfl
theorem scriptJoined_pre (H : Type) (enc : TypeId × Value → H) : OpenClaim.pre enc Tryz.prog Tryz.f6 (OpenSpec.ofChange Rows.scriptJoinedSpec) Rows.scriptJoinedRow = fun w args => (Rows.scriptJoinedSpec.pre enc Tryz.prog Tryz.f6 Rows.scriptJoinedRow.domain false w args ∧ laidMetH Tryz.prog Rows.scriptJoinedRow.laid w) ∧ sizedMet enc Tryz.prog Tryz.f6 (OpenSpec.ofChange Rows.scriptJoinedSpec) false w args := rfl
theorem scriptJoined_holds : Rows.ScriptJoinedSaid :=
  OpenClaim.holds_of_wide 6 Tryz.f6 rfl rfl rfl rfl rfl rfl rfl ⟨rfl, rfl, rfl, rfl, rfl⟩ rfl rfl rfl rfl rfl scriptJoined_func Tryz.func6 scriptJoined_closed
    (of_decide_eq_true (by kernel_rfl)) (by unfold Func.isWrapper; first | (rw [if_pos (by decide +kernel)]; kernel_rfl) | (rw [if_neg (by decide +kernel)]; exact ⟨rfl, rfl⟩))
    (fun os started H enc _ => by
      rw [show OpenClaim.pre enc Tryz.pinned.checked.prog Tryz.f6 (OpenSpec.ofChange Rows.scriptJoinedSpec) Rows.scriptJoinedRow = _ from scriptJoined_pre H enc]
      exact scriptJoined_lifted os started H enc)
theorem scriptJoined_wf : Rows.scriptJoinedRow.wfByText (OpenSpec.ofChange Rows.scriptJoinedSpec) = true := by kernel_rfl
theorem scriptJoined_goes : false = Rows.scriptJoinedRow.goesBy Tryz.pinned.checked.prog := goesBy_none z_noGo rfl
theorem scriptJoined_stand : ([9, 9].all fun u => !Tryz.prog.wantsStandIn u) = true := by kernel_rfl
theorem scriptJoined_card : Rows.ScriptJoinedCardSaid :=
  Claim7.holds_tied_plain_at .later [] [.pinned, .data, .sentinel, .sentinel, .data, .data, .data, .data, .listed] true (true, "cb0322ea15dea593dfcb9bb346889888971dda4e04ddfdef5fc5e6f596b60d7e") true scriptJoined_holds (fun _ h => by cases h) scriptJoined_wf (fun _ h => by cases h) scriptJoined_row_tie rfl ⟨rfl, rfl⟩ z_main rfl
    (fun f fn hf hfn => by
      obtain rfl : f = 6 := Option.some.inj ((show Tryz.prog.funcNamed "limelight/limelightlaw24.ScriptJoined" = some 6 from scriptJoined_func).symm.trans hf) |>.symm
      obtain rfl : fn = Tryz.f6 := (Option.some.inj (Tryz.func6.symm.trans hfn)).symm
      exact ⟨z_looks, fun j t ht => by
        rw [Tryz.params6] at ht
        have hm : t ∈ [9, 9] := by simpa using Array.mem_of_getElem? ht
        exact (show Tryz.prog.wantsStandIn t = false by simpa using List.all_eq_true.1 scriptJoined_stand t hm)⟩)
    scriptJoined_goes
#print axioms scriptJoined_card
end Go.Proofs.YthldlciagajfoaaGreatDoor
