/- A whole message into the block that was made last: as one operation, its cells not taken apart. -/
import Derived.Test.YtcljpmknandlhaaGreatDoorProg
import Derived.Test.YtcljpmknandlhaaGreatDoorBase
import Derived.Deep.WholeRow
namespace Go.Proofs.YtcljpmknandlhaaGreatDoor
open Go Go.RowKit
set_option linter.unusedVariables false
set_option linter.unusedSimpArgs false
set_option maxRecDepth 100000
def lastRow (w : World) : Bool := match w.heap[w.heap.size - 1]? with
  | some (.cells old _ (0, 0)) => old.size == 41
  | _ => false
def msgLike : Value → Bool
  | .agg cs => cs.size == 41 && cs.all (·.oneCell')
  | _ => false
theorem lastRow_alloc (w : World) (old : Array Value) (t : TypeId) : lastRow (w.alloc (.cells old t)) = (old.size == 41) := by
  unfold lastRow
  have : (w.alloc (.cells old t)).heap.size - 1 = w.heap.size := by simp
  rw [this, heap_alloc_last]
  rfl
theorem setRow_last (w : World) (c c' : Array Value) (t : TypeId) : (w.alloc (.cells c t)).setRow w.heap.size c' = w.alloc (.cells c' t) := World.setRow_alloc_new w c c' t
theorem lastRow_drew (w : World) : lastRow w.drew = lastRow w := rfl
theorem lastRow_drewN (w : World) (n : Nat) : lastRow (w.drewN n) = lastRow w := rfl
theorem setRow_drew (w : World) (g : Nat) (c : Array Value) : w.drew.setRow g c = (w.setRow g c).drew := rfl
theorem setRow_drewN (w : World) (g n : Nat) (c : Array Value) : (w.drewN n).setRow g c = (w.setRow g c).drewN n := rfl
theorem info_msg : (Tryz.prog.info? 70).map (·.size) = some 41 := by kernel_rfl
theorem wp_store_last {dst : Option Nat} {x y : Operand} {ty : TypeId} {pos : String} {af : Array Edge} {gd : Option (Nat × Bool)} {a : Act} {w : World} {K : Act → World → Prop} {Q : Exit → Act → World → Prop}
    (h1 : a.eval x = .pointer (some ⟨w.heap.size - 1, 0, none⟩)) (h2 : lastRow w = true) (h3 : msgLike (a.eval y) = true) :
    Oper.wp Tryz.prog { dst := dst, op := .store 70 x y, type := ty, pos := pos, after := af, guard := gd } a w K Q = K (a.put dst undef) (w.setRow (w.heap.size - 1) (a.eval y).cells) := by
  obtain ⟨cs, hy⟩ : ∃ cs, a.eval y = .agg cs := by
    generalize a.eval y = v at h3
    cases v <;> first | exact ⟨_, rfl⟩ | simp [msgLike] at h3
  rw [hy] at h3
  unfold msgLike at h3
  simp only [Bool.and_eq_true, beq_iff_eq] at h3
  obtain ⟨old, t, hg, ho⟩ : ∃ old t, w.heap[w.heap.size - 1]? = some (.cells old t (0, 0)) ∧ old.size = 41 := by
    unfold lastRow at h2
    split at h2
    · rename_i old t he
      exact ⟨old, t, he, by simpa using h2⟩
    · cases h2
  have hr := run_storeVar_row (P := Tryz.prog) w (w.heap.size - 1) t 70 old cs hg (by rw [h3.1]; exact info_msg) (ho.trans h3.1.symm) h3.2
  unfold Oper.wp execOp
  simp only [h1, hy, Instr.storeAt, Instr.sureAddr, Sem.run_bind, Sem.run_pure, Result.andThen_ok, hr, Value.cells, Oper.upon_skip]
end Go.Proofs.YtcljpmknandlhaaGreatDoor
