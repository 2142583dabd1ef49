/- A realtime node's calls where it has no batch; nothing answers nothing. -/
import Derived.Test.YtcljpmknandlhaaGreatDoorProg
import Derived.Test.YtcljpmknandlhaaGreatDoorRCalls
import Derived.BigQuiet
namespace Go.Proofs.YtcljpmknandlhaaGreatDoor
open Go Go.RowKit
set_option linter.unusedVariables false
set_option linter.unusedSimpArgs false
set_option maxRecDepth 100000
theorem cellsR {w : World} {nb ib : Nat} {s : Su} {stream : Int} {at_ : Nat} (h : NodeR w nb ib s stream at_) :
    w.cell? ⟨nb, 10, none⟩ = some (.int .i64 (1 + stream)) ∧ w.cell? ⟨nb, 12, none⟩ = some (.pointer (some ⟨ib, 0, none⟩)) ∧ w.cell? ⟨nb, 13, none⟩ = some (.int .u64 at_) ∧ w.cell? ⟨nb, 15, none⟩ = some (.slice none 0 0) ∧ (∀ i, w.frozen? ⟨nb, i, none⟩ = false) ∧ nb < w.heap.size :=
  ⟨cell_of h.blk 10, cell_of h.blk 12, cell_of h.blk 13, cell_of h.blk 15, free_of h.blk, lt_of_blk h.blk⟩
theorem taken_at (w : World) (nb ib : Nat) (s : Su) (stream : Int) (at_ : Nat) (D m ch : Int) (n : Nat) (F : Value) (op : Int) (h : NodeR w nb ib s stream at_) (hi : InAt w ib D m ch ((n : Int) + 1) F op) (hn : n ≤ 1099511627777) :
    Calls Tryz.prog 9 #[.pointer (some ⟨nb, 0, none⟩)] w fun e w' => e = .returned (.int .u64 n) ∧ w' = w := by
  obtain ⟨p10, p12, p13, p15, pf, hnb⟩ := cellsR h
  have HI := hid hi
  clear h hi
  go_enter Tryz.func9, Tryz.ntmps9
  go_wp2_with (go_at_call 21; refine (next_at _ ib D m ch _ F op HI.out).mono ?_; rintro e w1 ⟨rfl, rfl⟩)
  go_ret
  exact ⟨ret_eq (int_eq (by first | rfl | omega | (simp; omega))), rfl⟩
theorem serving_no (w : World) :
    Calls Tryz.prog 22 #[.pointer none] w fun e w' => e = .returned (.slice none 0 0) ∧ w' = w := by
  go_enter Tryz.func22, Tryz.ntmps22
  go_wp2
  go_ret
  exact ⟨rfl, rfl⟩
theorem serving_at (w : World) (nb ib : Nat) (s : Su) (stream : Int) (at_ : Nat) (h : NodeR w nb ib s stream at_) :
    Calls Tryz.prog 22 #[.pointer (some ⟨nb, 0, none⟩)] w fun e w' => e = .returned (.slice none 0 0) ∧ w' = w := by
  obtain ⟨p10, p12, p13, p15, pf, hnb⟩ := cellsR h
  clear h
  go_enter Tryz.func22, Tryz.ntmps22
  go_wp2
  go_rounds 1
  go_ret
  exact ⟨rfl, rfl⟩
set_option maxHeartbeats 1000000 in
theorem sort_none (w : World) (fv : Value) :
    Calls Tryz.prog 23 #[.slice none 0 0, fv] w fun e w' => e = .returned (.tuple #[]) ∧ w' = w := by
  go_enter Tryz.func23, Tryz.ntmps23
  go_wp2
  go_rounds 1
  go_rounds 1
  go_returns
  exact ⟨rfl, rfl⟩
theorem served_no (w : World) :
    Calls Tryz.prog 10 #[.pointer none] w fun e w' => e = .returned (.slice none 0 0) ∧ w' = w := by
  go_enter Tryz.func10, Tryz.ntmps10
  go_wp2_with (go_at_call 22; refine (serving_no _).mono ?_; rintro e w1 ⟨rfl, rfl⟩)
  refine wp_loop_rounds 1 ?_
  rw [rounds_succ]
  go_wp2_with (go_at_call 23; refine (sort_none _ _).mono ?_; rintro e w1 ⟨rfl, rfl⟩)
  go_ret
  exact ⟨rfl, rfl⟩
theorem served_at (w : World) (nb ib : Nat) (s : Su) (stream : Int) (at_ : Nat) (h : NodeR w nb ib s stream at_) :
    Calls Tryz.prog 10 #[.pointer (some ⟨nb, 0, none⟩)] w fun e w' => e = .returned (.slice none 0 0) ∧ w' = w := by
  have H := hid h
  clear h
  go_enter Tryz.func10, Tryz.ntmps10
  go_wp2_with (go_at_call 22; refine (serving_at _ nb ib s stream at_ H.out).mono ?_; rintro e w1 ⟨rfl, rfl⟩)
  refine wp_loop_rounds 1 ?_
  rw [rounds_succ]
  go_wp2_with (go_at_call 23; refine (sort_none _ _).mono ?_; rintro e w1 ⟨rfl, rfl⟩)
  go_ret
  exact ⟨rfl, rfl⟩
theorem waiting_at (w : World) (nb ib : Nat) (s : Su) (stream : Int) (at_ : Nat) (D m ch : Int) (F : Value) (op : Int) (h : NodeR w nb ib s stream at_) (hi : InAt w ib D m ch ((at_ : Int) + 1) F op) (hn : at_ ≤ 1099511627777) :
    Calls Tryz.prog 11 #[.pointer (some ⟨nb, 0, none⟩)] w fun e w' => e = .returned (.int .i64 0) ∧ ∃ q, w' = w.drewN q := by
  obtain ⟨p10, p12, p13, p15, pf, hnb⟩ := cellsR h
  have H := hid h
  have HI := hid hi
  clear h hi
  go_enter Tryz.func11, Tryz.ntmps11
  go_wp2
  go_quiet ((go_at_call 9; exact Calls.quiet_of_same (taken_at _ nb ib s stream at_ D m ch at_ F op (H.out.ext ((Ext.refl (fun _ => False) w).drewN _) (fun h => h)) (HI.out.ext ((Ext.refl (fun _ => False) w).drewN _) (fun h => h)) hn)))
  go_wp2
  go_ret
  exact ⟨rfl, _, rfl⟩
theorem tick_no (w : World) (t : Int) (b d : Value) :
    Calls Tryz.prog 13 #[.pointer none, .int .i64 t, b, d] w fun e w' => e = .returned (.slice none 0 0) ∧ w' = w := by
  go_enter Tryz.func13, Tryz.ntmps13
  go_wp2
  go_ret
  exact ⟨rfl, rfl⟩
theorem handle_no (w : World) :
    Calls Tryz.prog 12 #[.pointer none, .agg #[.int .i64 1, .int .i64 0, .int .i64 0, .int .u64 0, .int .u64 0, .int .u64 0, .int .i64 0, .int .u64 0, .int .i64 0, .int .i64 0, .slice none 0 0, .slice none 0 0, .int .i64 0, .int .i64 0, .int .i64 0, .int .i64 0, .slice none 0 0, .int .i64 0, .int .i64 0, .slice none 0 0, .int .i64 0, .slice none 0 0, .slice none 0 0, .int .i64 0, .int .i64 0, .int .i64 0, .int .i64 0, .int .i64 0, .int .i64 0, .int .i64 0, .int .i64 0, .int .i64 0, .bool false, .int .i64 0, .int .i64 0, .int .i64 0, .int .i64 0, .int .i64 0, .int .i64 0, .slice none 0 0, .slice none 0 0]] w fun e w' => e = .returned (.slice none 0 0) ∧ Below w.heap.size w w' := by
  go_enter Tryz.func12, Tryz.ntmps12
  go_wp2
  go_ret
  exact ⟨rfl, by go_grown⟩
end Go.Proofs.YtcljpmknandlhaaGreatDoor
