/- The timeline of a state without segments. -/
import Derived.Test.YthfmfiagmolmeaaGreatDoorProg
import Derived.Test.YthfmfiagmolmeaaGreatDoorNode
import Derived.WalkSpells
import Derived.Laws.IdiomRangeMap
namespace Go.Proofs.YthfmfiagmolmeaaGreatDoor
open Go Go.RowKit
set_option linter.unusedVariables false
set_option linter.unusedSimpArgs false
theorem next_empty (P : Program) (w : World) (ty : TypeId) (bm c : Nat) (hb : w.heap[bm]? = some (.map #[] c)) :
    (Instr.next (.pointer (some ⟨w.heap.size, 0, none⟩)) false ty).run P (w.alloc (.mapIter (some bm) c #[] c)) = .ok (.tuple #[.bool false]) (w.alloc (.mapIter (some bm) c #[] c)) := by
  rcases run_next_map (P := P) w ty bm c c #[] #[] c hb (by simp) (Nat.le_refl _) with h | ⟨e, he, _⟩
  · exact h.2
  · simp [leftOf] at he
structure LineAt (w : World) (tb mb : Nat) : Prop where
  blk : w.heap[tb]? = some (.cells #[.map (some mb)] 167 (0, 0))
  map : w.heap[mb]? = some (.map #[] 0)
  ne : tb ≠ mb
def LinePost (w : World) (e : Ending) (w' : World) : Prop :=
  ∃ tb mb, e = .returned (.pointer (some ⟨tb, 0, none⟩)) ∧ LineAt w' tb mb ∧ Below w.heap.size w w' ∧ w.heap.size ≤ tb ∧ w.heap.size ≤ mb
set_option maxRecDepth 100000 in
set_option maxHeartbeats 1000000 in
theorem line_nil (w : World) (ep te ld : Int) (A : Option Addr) (c : Nat) (O : Value) :
    Calls Tryz.prog 19 #[.agg #[.int .i64 ep, .int .i64 te, .int .i64 ld, .slice A 0 c, O]] w (LinePost w) := by
  have hmm := @run_makeMap Tryz.prog
  go_enter Tryz.func19, Tryz.ntmps19
  go_wp2
  go_rounds 1
  go_ret
  refine ⟨w.heap.size + 1 + 1, w.heap.size + 1, rfl, ⟨?_, ?_, by omega⟩, ?_, by omega, by omega⟩
  · exact alloc_at _ _ (by simp)
  · exact blk_alloc (alloc_at _ _ (by simp)) _
  · go_grown
set_option maxRecDepth 100000 in
set_option maxHeartbeats 1000000 in
theorem sort_sets_nil (w : World) (fv : Value) :
    Calls Tryz.prog 80 #[.slice none 0 0, fv] w fun e w' => e = .returned (.tuple #[]) ∧ w' = w := by
  go_enter Tryz.func80, Tryz.ntmps80
  go_wp2
  go_rounds 1
  go_rounds 1
  go_returns
  exact ⟨rfl, rfl⟩
set_option maxRecDepth 100000 in
set_option maxHeartbeats 1000000 in
theorem sort_segs_nil (w : World) (fv : Value) :
    Calls Tryz.prog 63 #[.slice none 0 0, fv] w fun e w' => e = .returned (.tuple #[]) ∧ w' = w := by
  go_enter Tryz.func63, Tryz.ntmps63
  go_wp2
  go_rounds 1
  go_rounds 1
  go_returns
  exact ⟨rfl, rfl⟩
set_option maxRecDepth 100000 in
set_option maxHeartbeats 1000000 in
theorem sort_ints_nil (w : World) :
    Calls Tryz.prog 83 #[.slice none 0 0] w fun e w' => e = .returned (.tuple #[]) ∧ w' = w := by
  go_enter Tryz.func83, Tryz.ntmps83
  go_wp2
  go_rounds 1
  go_rounds 1
  go_returns
  exact ⟨rfl, rfl⟩
set_option maxRecDepth 100000 in
set_option maxHeartbeats 1000000 in
theorem compact_nil (w : World) :
    Calls Tryz.prog 84 #[.slice none 0 0] w fun e w' => e = .returned (.slice none 0 0) ∧ w' = w := by
  go_enter Tryz.func84, Tryz.ntmps84
  go_wp2
  go_ret
  exact ⟨rfl, rfl⟩
set_option maxRecDepth 100000 in
set_option maxHeartbeats 1000000 in
theorem stretches_nil (w : World) (tb mb : Nat) (h : LineAt w tb mb) :
    Calls Tryz.prog 47 #[.pointer (some ⟨tb, 0, none⟩)] w fun e w' => e = .returned (.slice none 0 0) ∧ Below w.heap.size w w' := by
  have q0 := cell_of h.blk 0
  have qf := free_of h.blk
  have hrg := run_range_map (P := Tryz.prog) w _ _ _ mb #[] 0 Tryz.underlying165 h.map
  have hnx := fun ty => next_empty Tryz.prog w ty mb 0 h.map
  go_enter Tryz.func47, Tryz.ntmps47
  go_wp2
  refine wp_loop_rounds 1 ?_
  rw [rounds_succ]
  go_wp2_with (first | (go_at_call 80; refine (sort_sets_nil _ _).mono ?_; rintro e w1 ⟨rfl, rfl⟩) | (go_at_call 83; refine (sort_ints_nil _).mono ?_; rintro e w1 ⟨rfl, rfl⟩) | (go_at_call 84; refine (compact_nil _).mono ?_; rintro e w1 ⟨rfl, rfl⟩))
  go_rounds 1
  go_ret
  exact ⟨rfl, by go_grown⟩
end Go.Proofs.YthfmfiagmolmeaaGreatDoor
