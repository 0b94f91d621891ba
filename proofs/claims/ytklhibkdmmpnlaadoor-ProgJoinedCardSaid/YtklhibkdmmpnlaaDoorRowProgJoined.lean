/- 'limelight/limelightlaw20.ProgJoined' returns true for every input: the row and its tied card, out of the walked function (the engine's texts). Conditions: what the row lists of package-level variables; unicode/utf8's tables are laid in the witness alone. -/
import Derived.Test.YtklhibkdmmpnlaaDoorEng07
import Derived.Test.YtklhibkdmmpnlaaDoorTie
import Derived.Test.YtklhibkdmmpnlaaDoorCards
set_option linter.all false
set_option linter.unusedVariables false
set_option linter.unusedSimpArgs false
set_option linter.unusedVariables false
namespace Go.Proofs.YtklhibkdmmpnlaaDoor
open Go Go.ChangeShapes Go.WideShapes Go.ChangeAt Go.RowKit
theorem progJoined_own : ownKnob Tryd.prog.godebug = none := by kernel_rfl
theorem progJoined_laidOut : laidOutB Tryd.prog = true := by kernel_rfl
theorem progJoined_readable : (Tryd.f6.params.toList.all fun t => Tryd.prog.readableRec t && decide (t < Tryd.prog.types.size)) = true := by kernel_rfl
theorem progJoined_flat : (Tryd.f6.params.toList.all fun t => (Eng.flat Tryd.prog 8 t).isSome) = true := by kernel_rfl
theorem progJoined_res : Tryd.f6.resultTypes = #[4] := by kernel_rfl
set_option maxRecDepth 100000 in
theorem progJoined_lifted (os : Os) (started : os.Started) (H : Type) (enc : TypeId × Value → H) :
    ReturnsInHanded {} Tryd.checked os 6 .any (fun w args => (Rows.progJoinedSpec.pre enc Tryd.prog Tryd.f6 Rows.progJoinedRow.domain false w args ∧ laidMetH Tryd.prog Rows.progJoinedRow.laid w) ∧ sizedMet enc Tryd.prog Tryd.f6 (OpenSpec.ofChange Rows.progJoinedSpec) false w args)
      (Rows.progJoinedSpec.post enc Tryd.prog Tryd.f6 false true false false) := by
  refine Eng.returnsInHanded_andS (C := Tryd.checked) (X := fun w _ => laidMetH Tryd.prog Rows.progJoinedRow.laid w) (fun _ _ _ hh h => h.of_heap hh) progJoined_own started (by kernel_rfl) Tryd.func6
    (ChangeSpec.witness_shaped (enc := enc) (C := Tryd.checked) (os := os) (X := fun w _ => laidMetH Tryd.prog Rows.progJoinedRow.laid w) false (World.laidAll Tryd.prog os Rows.progJoinedRow.laid) #[.slice none 0 0, .slice none 0 0] 8 (World.laidAll_os _ _ _)
      (World.shaped_of_ZipB (by kernel_rfl) (by kernel_rfl)) (by kernel_rfl) (by kernel_rfl) (by kernel_rfl)
      (by rw [MakeChecks.laidMetH_plain _ _ _ (by kernel_rfl)]; exact laidMet_laidAll _ (by kernel_rfl) (by kernel_rfl))) ?_
  intro W base args ds gs before hval hW hw hX hS
  exact Eng.law_contract progJoined_laidOut progJoined_readable progJoined_flat progJoined_res Tryd.underlying4 rfl (fun ds hl => by
    match ds, hl with | [a, b], _ => rfl) (fun xs h => Eng.law_ProgJoined_args xs h) hval (Eng.glob_of (l := Rows.progJoinedRow.laid) hX (by kernel_rfl) hS (.tail _ (.tail _ (.tail _ (.tail _ (.tail _ (.head _)))))) (.tail _ (.tail _ (.tail _ (.tail _ (.head _)))))) hW hw
theorem progJoined_holds : Rows.ProgJoinedSaid :=
  OpenClaim.holds_of_wide 6 Tryd.f6 rfl rfl rfl rfl rfl rfl rfl ⟨rfl, rfl, rfl, rfl, rfl⟩ rfl rfl rfl rfl rfl (by kernel_rfl) Tryd.func6 (by kernel_rfl)
    (of_decide_eq_true (by kernel_rfl)) (by unfold Func.isWrapper; first | (rw [if_pos (by decide +kernel)]; kernel_rfl) | (rw [if_neg (by decide +kernel)]; exact ⟨rfl, rfl⟩))
    (fun os started H enc _ => progJoined_lifted os started H enc)
theorem progJoined_card : Rows.ProgJoinedCardSaid :=
  Claim7.holds_tied_plain_at .later [] [.data, .data, .data, .data, .sentinel, .sentinel, .pinned] true (true, "bc59d23bb53ef3014222327e9e2266e844e3bc7c0ea23b92360a57b0b91f7149") true progJoined_holds (fun _ h => by cases h) (by kernel_rfl) (fun _ h => by cases h) progJoined_row_tie rfl ⟨rfl, rfl⟩ (by kernel_rfl) rfl
    (fun f fn hf hfn => by
      obtain rfl : f = 6 := Option.some.inj ((show Tryd.prog.funcNamed "limelight/limelightlaw20.ProgJoined" = some 6 by kernel_rfl).symm.trans hf) |>.symm
      obtain rfl : fn = Tryd.f6 := (Option.some.inj (Tryd.func6.symm.trans hfn)).symm
      exact ⟨by kernel_rfl, fun j t ht => by
        rw [Tryd.params6] at ht
        have hm : t ∈ [22, 22] := by simpa using Array.mem_of_getElem? ht
        have hall : ([22, 22].all fun u => !Tryd.prog.wantsStandIn u) = true := by kernel_rfl
        exact (show Tryd.prog.wantsStandIn t = false by simpa using List.all_eq_true.1 hall t hm)⟩)
    (by kernel_rfl)
#print axioms progJoined_card
end Go.Proofs.YtklhibkdmmpnlaaDoor
