/- A realtime node's small calls. -/
import Derived.Test.YtcljpmknandlhaaGreatDoorProg
import Derived.Test.YtcljpmknandlhaaGreatDoorRNew2
namespace Go.Proofs.YtcljpmknandlhaaGreatDoor
open Go Go.RowKit
set_option linter.unusedVariables false
set_option linter.unusedSimpArgs false
set_option maxRecDepth 100000
theorem next_at (w : World) (ib : Nat) (D m ch nx : Int) (F : Value) (op : Int) (h : InAt w ib D m ch nx F op) :
    Calls Tryz.prog 21 #[.pointer (some ⟨ib, 0, none⟩)] w fun e w' => e = .returned (.int .u64 nx) ∧ w' = w := by
  have p3 := cell_of h.blk 3
  clear h
  go_enter Tryz.func21, Tryz.ntmps21
  go_wp2
  go_ret
  exact ⟨rfl, rfl⟩
theorem taken_no (w : World) :
    Calls Tryz.prog 9 #[.pointer none] w fun e w' => e = .returned (.int .u64 0) ∧ w' = w := by
  go_enter Tryz.func9, Tryz.ntmps9
  go_wp2
  go_ret
  exact ⟨rfl, rfl⟩
theorem waiting_no (w : World) :
    Calls Tryz.prog 11 #[.pointer none] w fun e w' => e = .returned (.int .i64 0) ∧ w' = w := by
  go_enter Tryz.func11, Tryz.ntmps11
  go_wp2
  go_ret
  exact ⟨rfl, rfl⟩
theorem seal_no (w : World) :
    Calls Tryz.prog 8 #[.pointer none] w fun e w' => e = .returned (.tuple #[]) ∧ w' = w := by
  go_enter Tryz.func8, Tryz.ntmps8
  go_wp2
  go_returns
  exact ⟨rfl, rfl⟩
end Go.Proofs.YtcljpmknandlhaaGreatDoor
