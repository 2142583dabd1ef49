/- RealtimeMakes holds at every input that can be read: the call returns true and leaves its arguments as they were. Conditions: the listed variables of the library read as their text lays them, which the card ties. -/
import Derived.Test.YtcljpmknandlhaaGreatDoorRRow
namespace Go.Proofs.YtcljpmknandlhaaGreatDoor
open Go Go.ChangeShapes Go.WideShapes Go.ChangeAt Go.RowKit
set_option linter.unusedVariables false
set_option linter.unusedSimpArgs false
set_option maxRecDepth 100000
set_option maxHeartbeats 100000000 in
theorem closedR : joinedFacts Tryz.pinned.checked.prog 3 Tryz.f3 (OpenSpec.ofChange Rows.realtimeMakesSpec).bare Rows.realtimeMakesRow = true := by
  unfold joinedFacts
  simp only [Bool.and_eq_true]
  repeat' apply And.intro
  all_goals as_aux_lemma => kernel_rfl
set_option maxHeartbeats 100000000 in
theorem saidR : Rows.RealtimeMakesSaid :=
  OpenClaim.holds_of_cond 3 Tryz.f3 rfl rfl rfl rfl rfl rfl rfl ⟨rfl, rfl, rfl, rfl, rfl⟩ rfl rfl rfl rfl rfl (by kernel_rfl) Tryz.func3 closedR
    (of_decide_eq_true (by kernel_rfl)) (by unfold Func.isWrapper; first | (rw [if_pos (by decide +kernel)]; kernel_rfl) | (rw [if_neg (by decide +kernel)]; exact ⟨rfl, rfl⟩))
    (fun os started H enc _ F => by rw [OpenClaim.pre_eq_preRow]; exact liftedR os started H enc F)
theorem plainR (f : FuncId) (fn : Func) (hf : Tryz.pinned.checked.prog.funcNamed "gristmill/gristmilllaw19.RealtimeMakes" = some f) (hfn : Tryz.pinned.checked.prog.funcs[f]? = some fn) :
    false = Tryz.pinned.checked.prog.looks [] ∧ ∀ (j : Nat) t, fn.params[j]? = some t → Tryz.pinned.checked.prog.wantsStandIn t = false := by
  obtain rfl : f = 3 := Option.some.inj ((show Tryz.prog.funcNamed "gristmill/gristmilllaw19.RealtimeMakes" = some 3 by kernel_rfl).symm.trans hf) |>.symm
  obtain rfl : fn = Tryz.f3 := (Option.some.inj (Tryz.func3.symm.trans hfn)).symm
  refine ⟨by kernel_rfl, fun j t ht => ?_⟩
  rw [Tryz.params3] at ht
  have h : t = 25 ∨ t = 3 ∨ t = 26 ∨ t = 3 := by simpa using Array.mem_of_getElem? ht
  rcases h with rfl | rfl | rfl | rfl
  · exact (show Tryz.prog.wantsStandIn 25 = false by kernel_rfl)
  · exact (show Tryz.prog.wantsStandIn 3 = false by kernel_rfl)
  · exact (show Tryz.prog.wantsStandIn 26 = false by kernel_rfl)
  · exact (show Tryz.prog.wantsStandIn 3 = false by kernel_rfl)
theorem cardR : Rows.RealtimeMakesCardSaid :=
  Claim7.holds_tied_plain_at .later [] _ _ _ _ saidR (fun _ h => by cases h) (by kernel_rfl) (fun _ h => by cases h) realtimeMakes_row_tie rfl ⟨rfl, rfl⟩ (by kernel_rfl) rfl plainR (by kernel_rfl)
end Go.Proofs.YtcljpmknandlhaaGreatDoor
