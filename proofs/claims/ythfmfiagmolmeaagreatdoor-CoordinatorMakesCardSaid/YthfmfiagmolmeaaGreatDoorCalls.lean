/- The coordinator's calls: at no node, at a node that does not lead. -/
import Derived.Test.YthfmfiagmolmeaaGreatDoorProg
import Derived.Test.YthfmfiagmolmeaaGreatDoorNodeEl
import Derived.Test.YthfmfiagmolmeaaGreatDoorCover
import Derived.WalkSpells
import Derived.BigQuiet
import Derived.MapKept
namespace Go.Proofs.YthfmfiagmolmeaaGreatDoor
open Go Go.RowKit
set_option linter.unusedVariables false
set_option linter.unusedSimpArgs false
set_option maxRecDepth 100000
theorem term_at (w : World) (nb vb ub : Nat) (s : Su) (id term : Int) (h : NodeAt w nb vb ub s id term) :
    Calls Tryz.prog 10 #[.pointer (some ⟨nb, 0, none⟩)] w fun e w' => e = .returned (.int .i64 term) ∧ w' = w := by
  obtain ⟨p10, p11, p12, p13, p14, pf⟩ := cells15 h.blk
  clear h
  go_enter Tryz.func10, Tryz.ntmps10
  go_wp2
  go_ret
  exact ⟨rfl, rfl⟩
theorem term_no (w : World) :
    Calls Tryz.prog 10 #[.pointer none] w fun e w' => e = .returned (.int .i64 0) ∧ w' = w := by
  go_enter Tryz.func10, Tryz.ntmps10
  go_wp2
  go_ret
  exact ⟨rfl, rfl⟩
theorem elect_no (w : World) (b : Value) :
    Calls Tryz.prog 7 #[.pointer none, b] w fun e w' => e = .returned (.int .i64 1) ∧ w' = w := by
  go_enter Tryz.func7, Tryz.ntmps7
  go_wp2
  go_ret
  exact ⟨rfl, rfl⟩
theorem elect_nob (w : World) (a : Addr) :
    Calls Tryz.prog 7 #[.pointer (some a), .nilIface] w fun e w' => e = .returned (.int .i64 1) ∧ w' = w := by
  go_enter Tryz.func7, Tryz.ntmps7
  go_wp2
  go_ret
  exact ⟨rfl, rfl⟩
theorem tick_no (w : World) (t : Int) (b d : Value) :
    Calls Tryz.prog 11 #[.pointer none, .int .i64 t, b, d] w fun e w' => e = .returned (.slice none 0 0) ∧ w' = w := by
  go_enter Tryz.func11, Tryz.ntmps11
  go_wp2
  go_ret
  exact ⟨rfl, rfl⟩
theorem compact_no (w : World) (f t : Int) (b d : Value) :
    Calls Tryz.prog 8 #[.pointer none, .agg #[.int .i64 f, .int .i64 t], b, d] w fun e w' => e = .returned (.int .i64 1) ∧ Below w.heap.size w w' := by
  go_enter Tryz.func8, Tryz.ntmps8
  go_wp2
  go_ret
  exact ⟨rfl, by go_grown⟩
theorem wipe_no (w : World) (f t : Int) (b d : Value) :
    Calls Tryz.prog 9 #[.pointer none, .agg #[.int .i64 f, .int .i64 t], b, d] w fun e w' => e = .returned (.int .i64 1) ∧ Below w.heap.size w w' := by
  go_enter Tryz.func9, Tryz.ntmps9
  go_wp2
  all_goals (go_ret; exact ⟨rfl, by go_grown⟩)
end Go.Proofs.YthfmfiagmolmeaaGreatDoor
