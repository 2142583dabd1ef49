/- HistoricalMakes holds at every input that can be read: the call returns true and leaves its arguments as they were. Conditions: the listed variables of the library read as their text lays them, which the card ties. -/
import Derived.Test.YtdfmfjkcgbjgbaaGreatDoorHRowM
namespace Go.Proofs.YtdfmfjkcgbjgbaaGreatDoor
open Go Go.ChangeShapes Go.WideShapes Go.ChangeAt Go.RowKit
set_option linter.unusedVariables false
set_option linter.unusedSimpArgs false
set_option maxRecDepth 100000
set_option maxHeartbeats 100000000 in
theorem closedMakes : joinedFacts Tryz.pinned.checked.prog 4 Tryz.f4 (OpenSpec.ofChange Rows.historicalMakesSpec).bare Rows.historicalMakesRow = true := by
  unfold joinedFacts
  simp only [Bool.and_eq_true]
  repeat' apply And.intro
  all_goals as_aux_lemma => kernel_rfl
set_option maxHeartbeats 100000000 in
theorem saidMakes : Rows.HistoricalMakesSaid :=
  OpenClaim.holds_of_cond 4 Tryz.f4 rfl rfl rfl rfl rfl rfl rfl ⟨rfl, rfl, rfl, rfl, rfl⟩ rfl rfl rfl rfl rfl (by kernel_rfl) Tryz.func4 closedMakes
    (of_decide_eq_true (by kernel_rfl)) (by unfold Func.isWrapper; first | (rw [if_pos (by decide +kernel)]; kernel_rfl) | (rw [if_neg (by decide +kernel)]; exact ⟨rfl, rfl⟩))
    (fun os started H enc _ F => by rw [OpenClaim.pre_eq_preRow]; exact liftedMakes os started H enc F)
theorem plainMakes (f : FuncId) (fn : Func) (hf : Tryz.pinned.checked.prog.funcNamed "gristmill/gristmilllaw20.HistoricalMakes" = some f) (hfn : Tryz.pinned.checked.prog.funcs[f]? = some fn) :
    true = Tryz.pinned.checked.prog.looks [] ∧ ∀ (j : Nat) t, fn.params[j]? = some t → Tryz.pinned.checked.prog.wantsStandIn t = false := by
  obtain rfl : f = 4 := Option.some.inj ((show Tryz.prog.funcNamed "gristmill/gristmilllaw20.HistoricalMakes" = some 4 by kernel_rfl).symm.trans hf) |>.symm
  obtain rfl : fn = Tryz.f4 := (Option.some.inj (Tryz.func4.symm.trans hfn)).symm
  refine ⟨by kernel_rfl, fun j t ht => ?_⟩
  rw [Tryz.params4] at ht
  have h : t = 25 ∨ t = 3 ∨ t = 4 := by simpa using Array.mem_of_getElem? ht
  rcases h with rfl | rfl | rfl
  · exact (show Tryz.prog.wantsStandIn 25 = false by kernel_rfl)
  · exact (show Tryz.prog.wantsStandIn 3 = false by kernel_rfl)
  · exact (show Tryz.prog.wantsStandIn 4 = false by kernel_rfl)
theorem cardMakes : Rows.HistoricalMakesCardSaid :=
  Claim7.holds_tied_plain_at .later [] _ _ _ _ saidMakes (fun _ h => by cases h) (by kernel_rfl) (fun _ h => by cases h) historicalMakes_row_tie rfl ⟨rfl, rfl⟩ (by kernel_rfl) rfl plainMakes (by kernel_rfl)
end Go.Proofs.YtdfmfjkcgbjgbaaGreatDoor
