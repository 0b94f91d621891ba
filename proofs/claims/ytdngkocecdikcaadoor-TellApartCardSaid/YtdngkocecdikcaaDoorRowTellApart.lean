/- 'limelight/limelightlaw23.TellApart' returns true for every input: the row and its tied card, out of the walked function (the engine's texts). Conditions: what the row lists of package-level variables; unicode/utf8's tables are laid in the witness alone. -/
import Derived.Test.YtdngkocecdikcaaDoorEng08
import Derived.Test.YtdngkocecdikcaaDoorTie
import Derived.Test.YtdngkocecdikcaaDoorCards
set_option linter.all false
set_option linter.unusedVariables false
set_option linter.unusedSimpArgs false
set_option linter.unusedVariables false
namespace Go.Proofs.YtdngkocecdikcaaDoor
open Go Go.ChangeShapes Go.WideShapes Go.ChangeAt Go.RowKit
theorem tellApart_own : ownKnob Tryd.prog.godebug = none := by kernel_rfl
theorem tellApart_laidOut : laidOutB Tryd.prog = true := by kernel_rfl
theorem tellApart_readable : (Tryd.f8.params.toList.all fun t => Tryd.prog.readableRec t && decide (t < Tryd.prog.types.size)) = true := by kernel_rfl
theorem tellApart_flat : (Tryd.f8.params.toList.all fun t => (Eng.flat Tryd.prog 8 t).isSome) = true := by kernel_rfl
theorem tellApart_res : Tryd.f8.resultTypes = #[4] := by kernel_rfl
set_option maxRecDepth 100000 in
theorem tellApart_lifted (os : Os) (started : os.Started) (H : Type) (enc : TypeId × Value → H) :
    ReturnsInHanded {} Tryd.checked os 8 .any (fun w args => (Rows.tellApartSpec.pre enc Tryd.prog Tryd.f8 Rows.tellApartRow.domain false w args ∧ laidMetH Tryd.prog Rows.tellApartRow.laid w) ∧ sizedMet enc Tryd.prog Tryd.f8 (OpenSpec.ofChange Rows.tellApartSpec) false w args)
      (Rows.tellApartSpec.post enc Tryd.prog Tryd.f8 false true false false) := by
  refine Eng.returnsInHanded_andS (C := Tryd.checked) (X := fun w _ => laidMetH Tryd.prog Rows.tellApartRow.laid w) (fun _ _ _ hh h => h.of_heap hh) tellApart_own started (by kernel_rfl) Tryd.func8
    (ChangeSpec.witness_shaped (enc := enc) (C := Tryd.checked) (os := os) (X := fun w _ => laidMetH Tryd.prog Rows.tellApartRow.laid w) false (World.laidAll Tryd.prog os Rows.tellApartRow.laid) #[.agg #[.int .i64 0, .int .i64 0, .int .i64 0, .int .i64 0, .int .i64 0, .int .i64 0, .int .i64 0, .int .i64 0], .agg #[.int .i64 0, .int .i64 0, .int .i64 0, .int .i64 0, .int .i64 0, .int .i64 0, .int .i64 0, .int .i64 0]] 8 (World.laidAll_os _ _ _)
      (World.shaped_of_ZipB (by kernel_rfl) (by kernel_rfl)) (by kernel_rfl) (by kernel_rfl) (by kernel_rfl)
      (by rw [MakeChecks.laidMetH_plain _ _ _ (by kernel_rfl)]; exact laidMet_laidAll _ (by kernel_rfl) (by kernel_rfl))) ?_
  intro W base args ds gs before hval hW hw hX hS
  exact Eng.law_contract tellApart_laidOut tellApart_readable tellApart_flat tellApart_res Tryd.underlying4 rfl (fun ds hl => by
    match ds, hl with | [a, b], _ => rfl) (fun xs h => Eng.law_TellApart_args xs h) hval (Eng.glob_of (l := Rows.tellApartRow.laid) hX (by kernel_rfl) hS (.tail _ (.tail _ (.tail _ (.tail _ (.tail _ (.head _)))))) (.tail _ (.tail _ (.tail _ (.tail _ (.head _))))) (.tail _ (.tail _ (.head _))) (by kernel_rfl)) hW hw
theorem tellApart_holds : Rows.TellApartSaid :=
  OpenClaim.holds_of_wide 8 Tryd.f8 rfl rfl rfl rfl rfl rfl rfl ⟨rfl, rfl, rfl, rfl, rfl⟩ rfl rfl rfl rfl rfl (by kernel_rfl) Tryd.func8 (by kernel_rfl)
    (of_decide_eq_true (by kernel_rfl)) (by unfold Func.isWrapper; first | (rw [if_pos (by decide +kernel)]; kernel_rfl) | (rw [if_neg (by decide +kernel)]; exact ⟨rfl, rfl⟩))
    (fun os started H enc _ => tellApart_lifted os started H enc)
theorem tellApart_card : Rows.TellApartCardSaid :=
  Claim7.holds_tied_plain_at .later [] [.data, .data, .data, .data, .sentinel, .sentinel, .pinned] true (true, "e6dc6c4169b16ce0202e33c1879c4aee956d593add61c96b35d9b7fa663cdd77") true tellApart_holds (fun _ h => by cases h) (by kernel_rfl) (fun _ h => by cases h) tellApart_row_tie rfl ⟨rfl, rfl⟩ (by kernel_rfl) rfl
    (fun f fn hf hfn => by
      obtain rfl : f = 8 := Option.some.inj ((show Tryd.prog.funcNamed "limelight/limelightlaw23.TellApart" = some 8 by kernel_rfl).symm.trans hf) |>.symm
      obtain rfl : fn = Tryd.f8 := (Option.some.inj (Tryd.func8.symm.trans hfn)).symm
      exact ⟨by kernel_rfl, fun j t ht => by
        rw [Tryd.params8] at ht
        have hm : t ∈ [24, 24] := by simpa using Array.mem_of_getElem? ht
        have hall : ([24, 24].all fun u => !Tryd.prog.wantsStandIn u) = true := by kernel_rfl
        exact (show Tryd.prog.wantsStandIn t = false by simpa using List.all_eq_true.1 hall t hm)⟩)
    (by kernel_rfl)
#print axioms tellApart_card
end Go.Proofs.YtdngkocecdikcaaDoor
