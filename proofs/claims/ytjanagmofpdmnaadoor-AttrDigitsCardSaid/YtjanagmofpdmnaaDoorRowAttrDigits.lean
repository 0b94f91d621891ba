/- 'limelight/limelightlaw02.AttrDigits' returns true for every input: the row and its tied card, out of the walked function (the engine's texts). Conditions: what the row lists of package-level variables; unicode/utf8's tables are laid in the witness alone. -/
import Derived.Test.YtjanagmofpdmnaaDoorEng07
import Derived.Test.YtjanagmofpdmnaaDoorTie
import Derived.Test.YtjanagmofpdmnaaDoorCards
set_option linter.all false
set_option linter.unusedVariables false
set_option linter.unusedSimpArgs false
set_option linter.unusedVariables false
namespace Go.Proofs.YtjanagmofpdmnaaDoor
open Go Go.ChangeShapes Go.WideShapes Go.ChangeAt Go.RowKit
theorem attrDigits_own : ownKnob Tryd.prog.godebug = none := by kernel_rfl
theorem attrDigits_laidOut : laidOutB Tryd.prog = true := by kernel_rfl
theorem attrDigits_readable : (Tryd.f6.params.toList.all fun t => Tryd.prog.readableRec t && decide (t < Tryd.prog.types.size)) = true := by kernel_rfl
theorem attrDigits_flat : (Tryd.f6.params.toList.all fun t => (Eng.flat Tryd.prog 8 t).isSome) = true := by kernel_rfl
theorem attrDigits_res : Tryd.f6.resultTypes = #[4] := by kernel_rfl
set_option maxRecDepth 100000 in
theorem attrDigits_lifted (os : Os) (started : os.Started) (H : Type) (enc : TypeId × Value → H) :
    ReturnsInHanded {} Tryd.checked os 6 .any (fun w args => (Rows.attrDigitsSpec.pre enc Tryd.prog Tryd.f6 Rows.attrDigitsRow.domain false w args ∧ laidMetH Tryd.prog Rows.attrDigitsRow.laid w) ∧ sizedMet enc Tryd.prog Tryd.f6 (OpenSpec.ofChange Rows.attrDigitsSpec) false w args)
      (Rows.attrDigitsSpec.post enc Tryd.prog Tryd.f6 false true false false) := by
  refine returnsInHanded_of_change_and (C := Tryd.checked) (X := fun w _ => laidMetH Tryd.prog Rows.attrDigitsRow.laid w) (fun _ _ _ hh h => h.of_heap hh) attrDigits_own started (by kernel_rfl) Tryd.func6
    (ChangeSpec.witness_shaped (enc := enc) (C := Tryd.checked) (os := os) (X := fun w _ => laidMetH Tryd.prog Rows.attrDigitsRow.laid w) false (World.laidAll Tryd.prog os Rows.attrDigitsRow.laid) #[.int .i64 0, .int .i64 0, .string ⟨#[]⟩] 8 (World.laidAll_os _ _ _)
      (World.shaped_of_ZipB (by kernel_rfl) (by kernel_rfl)) (by kernel_rfl) (by kernel_rfl) (by kernel_rfl)
      (by rw [MakeChecks.laidMetH_plain _ _ _ (by kernel_rfl)]; exact laidMet_laidAll _ (by kernel_rfl) (by kernel_rfl))) ?_
  intro W base args ds gs before hval hW _ hw _ _
  exact Eng.law_contract attrDigits_laidOut attrDigits_readable attrDigits_flat attrDigits_res Tryd.underlying4 rfl (fun ds hl => by
    match ds, hl with | [a, b, c], _ => rfl) (fun xs h => Eng.law_Digits_args xs h) hval hW hw
theorem attrDigits_holds : Rows.AttrDigitsSaid :=
  OpenClaim.holds_of_wide 6 Tryd.f6 rfl rfl rfl rfl rfl rfl rfl ⟨rfl, rfl, rfl, rfl, rfl⟩ rfl rfl rfl rfl rfl (by kernel_rfl) Tryd.func6 (by kernel_rfl)
    (of_decide_eq_true (by kernel_rfl)) (by unfold Func.isWrapper; first | (rw [if_pos (by decide +kernel)]; kernel_rfl) | (rw [if_neg (by decide +kernel)]; exact ⟨rfl, rfl⟩))
    (fun os started H enc _ => attrDigits_lifted os started H enc)
theorem attrDigits_card : Rows.AttrDigitsCardSaid :=
  Claim7.holds_tied_plain_at .later [] [.data, .pinned] true (true, "8730f072247c441018c546e039d3752b51705f06f616c8c1dd864103b705870c") false attrDigits_holds (fun _ h => by cases h) (by kernel_rfl) (fun _ h => by cases h) attrDigits_row_tie rfl ⟨rfl, rfl⟩ (by kernel_rfl) rfl
    (fun f fn hf hfn => by
      obtain rfl : f = 6 := Option.some.inj ((show Tryd.prog.funcNamed "limelight/limelightlaw02.AttrDigits" = some 6 by kernel_rfl).symm.trans hf) |>.symm
      obtain rfl : fn = Tryd.f6 := (Option.some.inj (Tryd.func6.symm.trans hfn)).symm
      exact ⟨by kernel_rfl, fun j t ht => by
        rw [Tryd.params6] at ht
        have hm : t ∈ [3, 3, 9] := by simpa using Array.mem_of_getElem? ht
        have hall : ([3, 3, 9].all fun u => !Tryd.prog.wantsStandIn u) = true := by kernel_rfl
        exact (show Tryd.prog.wantsStandIn t = false by simpa using List.all_eq_true.1 hall t hm)⟩)
    (by kernel_rfl)
#print axioms attrDigits_card
end Go.Proofs.YtjanagmofpdmnaaDoor
