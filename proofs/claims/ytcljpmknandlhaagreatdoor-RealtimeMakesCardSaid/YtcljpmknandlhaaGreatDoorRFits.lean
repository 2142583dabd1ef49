/- Which setups may be: the nodes' own test, and the references'. -/
import Derived.Test.YtcljpmknandlhaaGreatDoorProg
import Derived.Test.YtcljpmknandlhaaGreatDoorSetup
namespace Go.Proofs.YtcljpmknandlhaaGreatDoor
open Go Go.RowKit
set_option linter.unusedVariables false
set_option linter.unusedSimpArgs false
def fineB (d m : Int) : Bool := decide (0 ≤ d ∧ d ≤ 8 ∧ 0 ≤ m ∧ m ≤ 8)
def inB (n most : Int) : Bool := decide (1 ≤ n ∧ n ≤ most)
def fitB (d m st so le ch re ba rt rn : Int) : Bool := fineB d m && inB st 8 && inB so 16 && inB le 16 && decide (1 ≤ ch ∧ ch ≤ 1099511627776) && inB re 1000 && inB ba 1000 && inB rt 1000 && inB rn 1000
def errB (b : Bool) : Int := if b then 0 else 1
theorem bool_eq {a b : Bool} (h : a = b) : Value.bool a = .bool b := by rw [h]

theorem fine04_any (w : World) (d m : Int) : Calls Tryz.prog 18 #[.agg #[.int .i64 d, .int .i64 m]] w fun e w' => e = .returned (.bool (fineB d m)) ∧ Below w.heap.size w w' := by
  go_enter Tryz.func18, Tryz.ntmps18
  go_wp2
  all_goals go_ret
  all_goals exact ⟨ret_eq (bool_eq (by unfold fineB; rw [Bool.eq_iff_iff]; simp only [decide_eq_true_eq, Bool.false_eq_true, false_iff, true_iff]; omega)), by go_grown⟩
theorem fine_any (w : World) (d m : Int) : Calls Tryz.prog 33 #[.agg #[.int .i64 d, .int .i64 m]] w fun e w' => e = .returned (.int .i64 (errB (fineB d m))) ∧ Below w.heap.size w w' := by
  go_enter Tryz.func33, Tryz.ntmps33
  go_wp2
  all_goals go_ret
  all_goals exact ⟨ret_eq (int_eq (by unfold errB fineB; simp only [decide_eq_true_eq]; split <;> omega)), by go_grown⟩
theorem in_any (w : World) (n k : Int) : Calls Tryz.prog 32 #[.int .i64 n, .int .i64 k] w fun e w' => e = .returned (.bool (inB n k)) ∧ w = w' := by
  go_enter Tryz.func32, Tryz.ntmps32
  go_wp2
  all_goals go_ret
  all_goals exact ⟨ret_eq (bool_eq (by unfold inB; rw [Bool.eq_iff_iff]; simp only [decide_eq_true_eq, Bool.false_eq_true, false_iff, true_iff]; omega)), rfl⟩
theorem fit_iff (d m st so le ch re ba rt rn : Int) : fitB d m st so le ch re ba rt rn = true ↔ fineB d m = true ∧ 1 ≤ st ∧ st ≤ 8 ∧ 1 ≤ so ∧ so ≤ 16 ∧ 1 ≤ le ∧ le ≤ 16 ∧ 1 ≤ ch ∧ ch ≤ 1099511627776 ∧ 1 ≤ re ∧ re ≤ 1000 ∧ 1 ≤ ba ∧ ba ≤ 1000 ∧ 1 ≤ rt ∧ rt ≤ 1000 ∧ 1 ≤ rn ∧ rn ≤ 1000 := by
  unfold fitB inB; simp only [Bool.and_eq_true, decide_eq_true_eq]; constructor
  · rintro ⟨⟨⟨⟨⟨⟨⟨⟨h0, h1⟩, h2⟩, h3⟩, h4⟩, h5⟩, h6⟩, h7⟩, h8⟩; exact ⟨h0, by omega⟩
  · rintro ⟨h0, h⟩; exact ⟨⟨⟨⟨⟨⟨⟨⟨h0, by omega⟩, by omega⟩, by omega⟩, by omega⟩, by omega⟩, by omega⟩, by omega⟩, by omega⟩
set_option maxRecDepth 100000 in
set_option maxHeartbeats 4000000 in
theorem fits19_any (w : World) (d m st so le ch re ba rt rn : Int) : Calls Tryz.prog 6 #[.agg #[.int .i64 d, .int .i64 m, .int .i64 st, .int .i64 so, .int .i64 le, .int .i64 ch, .int .i64 re, .int .i64 ba, .int .i64 rt, .int .i64 rn]] w
    fun e w' => e = .returned (.bool (fitB d m st so le ch re ba rt rn)) ∧ Below w.heap.size w w' := by
  go_enter Tryz.func6, Tryz.ntmps6
  go_wp2
  all_goals go_ret
  all_goals refine ⟨ret_eq (bool_eq ?_), ?_⟩
  all_goals first | (rw [Bool.eq_iff_iff, fit_iff]; unfold fineB; simp only [decide_eq_true_eq, Bool.false_eq_true, false_iff, true_iff]; omega) | go_grown
set_option maxRecDepth 100000 in
set_option maxHeartbeats 4000000 in
theorem fits_any (w : World) (d m st so le ch re ba rt rn : Int) : Calls Tryz.prog 19 #[.agg #[.int .i64 d, .int .i64 m, .int .i64 st, .int .i64 so, .int .i64 le, .int .i64 ch, .int .i64 re, .int .i64 ba, .int .i64 rt, .int .i64 rn]] w
    fun e w' => e = .returned (.bool (fitB d m st so le ch re ba rt rn)) ∧ Below w.heap.size w w' := by
  go_enter Tryz.func19, Tryz.ntmps19
  go_wp2
  all_goals go_ret
  all_goals refine ⟨ret_eq (bool_eq ?_), ?_⟩
  all_goals first | (rw [Bool.eq_iff_iff, fit_iff]; unfold fineB; simp only [decide_eq_true_eq, Bool.false_eq_true, false_iff, true_iff]; omega) | go_grown
end Go.Proofs.YtcljpmknandlhaaGreatDoor
