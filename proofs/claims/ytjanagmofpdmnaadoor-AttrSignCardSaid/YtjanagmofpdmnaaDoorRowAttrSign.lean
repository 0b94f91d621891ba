/- 'limelight/limelightlaw02.AttrSign' returns true for every input: the row and its tied card, out of the walked function (the engine's texts). Conditions: what the row lists of package-level variables; unicode/utf8's tables are laid in the witness alone. -/
import Derived.Test.YtjanagmofpdmnaaDoorEng07
import Derived.Test.YtjanagmofpdmnaaDoorTie
import Derived.Test.YtjanagmofpdmnaaDoorCards
set_option linter.all false
set_option linter.unusedVariables false
set_option linter.unusedSimpArgs false
set_option linter.unusedVariables false
namespace Go.Proofs.YtjanagmofpdmnaaDoor
open Go Go.ChangeShapes Go.WideShapes Go.ChangeAt Go.RowKit
theorem attrSign_own : ownKnob Tryd.prog.godebug = none := by kernel_rfl
theorem attrSign_laidOut : laidOutB Tryd.prog = true := by kernel_rfl
theorem attrSign_readable : (Tryd.f8.params.toList.all fun t => Tryd.prog.readableRec t && decide (t < Tryd.prog.types.size)) = true := by kernel_rfl
theorem attrSign_flat : (Tryd.f8.params.toList.all fun t => (Eng.flat Tryd.prog 8 t).isSome) = true := by kernel_rfl
theorem attrSign_res : Tryd.f8.resultTypes = #[4] := by kernel_rfl
set_option maxRecDepth 100000 in
theorem attrSign_lifted (os : Os) (started : os.Started) (H : Type) (enc : TypeId × Value → H) :
    ReturnsInHanded {} Tryd.checked os 8 .any (fun w args => (Rows.attrSignSpec.pre enc Tryd.prog Tryd.f8 Rows.attrSignRow.domain false w args ∧ laidMetH Tryd.prog Rows.attrSignRow.laid w) ∧ sizedMet enc Tryd.prog Tryd.f8 (OpenSpec.ofChange Rows.attrSignSpec) false w args)
      (Rows.attrSignSpec.post enc Tryd.prog Tryd.f8 false true false false) := by
  refine returnsInHanded_of_change_and (C := Tryd.checked) (X := fun w _ => laidMetH Tryd.prog Rows.attrSignRow.laid w) (fun _ _ _ hh h => h.of_heap hh) attrSign_own started (by kernel_rfl) Tryd.func8
    (ChangeSpec.witness_shaped (enc := enc) (C := Tryd.checked) (os := os) (X := fun w _ => laidMetH Tryd.prog Rows.attrSignRow.laid w) false (World.laidAll Tryd.prog os Rows.attrSignRow.laid) #[.string ⟨#[]⟩] 8 (World.laidAll_os _ _ _)
      (World.shaped_of_ZipB (by kernel_rfl) (by kernel_rfl)) (by kernel_rfl) (by kernel_rfl) (by kernel_rfl)
      (by rw [MakeChecks.laidMetH_plain _ _ _ (by kernel_rfl)]; exact laidMet_laidAll _ (by kernel_rfl) (by kernel_rfl))) ?_
  intro W base args ds gs before hval hW _ hw _ _
  exact Eng.law_contract attrSign_laidOut attrSign_readable attrSign_flat attrSign_res Tryd.underlying4 rfl (fun ds hl => by
    match ds, hl with | [a], _ => rfl) (fun xs h => Eng.law_Sign_args xs h) hval hW hw
theorem attrSign_holds : Rows.AttrSignSaid :=
  OpenClaim.holds_of_wide 8 Tryd.f8 rfl rfl rfl rfl rfl rfl rfl ⟨rfl, rfl, rfl, rfl, rfl⟩ rfl rfl rfl rfl rfl (by kernel_rfl) Tryd.func8 (by kernel_rfl)
    (of_decide_eq_true (by kernel_rfl)) (by unfold Func.isWrapper; first | (rw [if_pos (by decide +kernel)]; kernel_rfl) | (rw [if_neg (by decide +kernel)]; exact ⟨rfl, rfl⟩))
    (fun os started H enc _ => attrSign_lifted os started H enc)
theorem attrSign_card : Rows.AttrSignCardSaid :=
  Claim7.holds_tied_plain_at .later [] [.data, .pinned] true (true, "8730f072247c441018c546e039d3752b51705f06f616c8c1dd864103b705870c") false attrSign_holds (fun _ h => by cases h) (by kernel_rfl) (fun _ h => by cases h) attrSign_row_tie rfl ⟨rfl, rfl⟩ (by kernel_rfl) rfl
    (fun f fn hf hfn => by
      obtain rfl : f = 8 := Option.some.inj ((show Tryd.prog.funcNamed "limelight/limelightlaw02.AttrSign" = some 8 by kernel_rfl).symm.trans hf) |>.symm
      obtain rfl : fn = Tryd.f8 := (Option.some.inj (Tryd.func8.symm.trans hfn)).symm
      exact ⟨by kernel_rfl, fun j t ht => by
        rw [Tryd.params8] at ht
        have hm : t ∈ [9] := by simpa using Array.mem_of_getElem? ht
        have hall : ([9].all fun u => !Tryd.prog.wantsStandIn u) = true := by kernel_rfl
        exact (show Tryd.prog.wantsStandIn t = false by simpa using List.all_eq_true.1 hall t hm)⟩)
    (by kernel_rfl)
#print axioms attrSign_card
end Go.Proofs.YtjanagmofpdmnaaDoor
