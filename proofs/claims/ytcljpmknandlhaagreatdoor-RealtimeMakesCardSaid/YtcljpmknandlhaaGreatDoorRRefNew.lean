/- The reference's first state. -/
import Derived.Test.YtcljpmknandlhaaGreatDoorProg
import Derived.Test.YtcljpmknandlhaaGreatDoorRef14
import Derived.WalkSpells
namespace Go.Proofs.YtcljpmknandlhaaGreatDoor
open Go Go.RowKit
set_option linter.unusedVariables false
set_option linter.unusedSimpArgs false
def zu (k : Nat) : List Value := List.replicate k (.int .u64 0)
theorem zu_one (k : Nat) : Ones (zu k) := by intro u hu; obtain ⟨_, rfl⟩ := List.mem_replicate.1 hu; rfl
/-- The state in the making. -/
structure Mk (w wr : World) (k : Nat) (O : Value) : Prop where
  b0 : wr.heap[w.heap.size]? = some (.cells #[.int .i64 0, .int .i64 0, .int .i64 0, .slice none 0 0, .slice none 0 0] 32 (0, 0))
  b1 : wr.heap[w.heap.size + 1]? = some (.cells #[.int .i64 0, .int .i64 0, .int .i64 0, .slice none 0 0, O] 32 (0, 0))
  own : Own wr (w.heap.size + 2) 37 1 O k (zu k)
  ext : Ext (fun _ => False) w wr
def FirstPost (n : Nat) (w : World) (e : Ending) (w' : World) : Prop :=
  ∃ O, e = .returned (.agg #[.int .i64 0, .int .i64 0, .int .i64 0, .slice none 0 0, O]) ∧ Own w' w.heap.size 37 1 O n (zu n) ∧ Below w.heap.size w w'
set_option maxRecDepth 100000 in
set_option maxHeartbeats 1000000 in
theorem first_any (w : World) (n : Nat) (hn : n ≤ 1000) :
    Calls Tryz.prog 15 #[.int .i64 n] w (FirstPost n w) := by
  go_enter Tryz.func15, Tryz.ntmps15
  go_wp2
  go_loopw [4] (fun i wr => ∃ k : Nat, ∃ O, k ≤ n ∧ i = .int .i64 k ∧ Hid (Mk w wr k O)) (fun i _ => n - (intOf i).toNat)
  case atStart => exact ⟨0, _, by omega, rfl, ⟨blk_alloc (alloc_at w _ rfl) _, alloc_at _ _ (by simp), Own.nil _ _ _ _, ((Ext.refl _ w).alloc _).alloc _⟩⟩
  case round =>
    obtain ⟨k, O, hk, rfl, H⟩ := hrel
    obtain ⟨A, c, rfl, _, _⟩ := H.out.own.form
    have hz1 : w.heap.size + 1 < wr.heap.size := lt_of_blk H.out.b1
    have hz0 : w.heap.size < wr.heap.size := by omega
    obtain ⟨p0, p1, p2, p3, p4, pf⟩ := cells5 H.out.b0
    obtain ⟨l0, l1, l2, l3, l4, lf⟩ := cells5 H.out.b1
    by_cases hlt : k < n
    · go_wp2_with (at_builtin; refine wpList_app (w.heap.size + 2) rfl (.tmp 11) (.tmp 12) 26 37 _ 1 8 rfl Tryz.underlying26 info_u64 rfl (by omega) (.slice A k c) k (zu k) _ 1 [.int .u64 0] rfl rfl (H.out.own.alloc _) (Rd_box _ _ _) (zu_one 1) ?hb ?hl ?_; (case hb => simp; omega); (case hl => omega); intro v1 w1 hO1 hg1 hat1; obtain ⟨A1, c1, rfl, _, _⟩ := hO1.form; have X1 := hid ((((Ext.refl (fun b => w.heap.size + 2 ≤ b) wr).alloc (.cells #[.int .u64 0] 37)).trans (Ext.of_grown (S := fun b => w.heap.size + 2 ≤ b) hg1 (fun b hb _ => (H.out.own.lt b hb).1)))); have b0 := X1.out.blk H.out.b0 (by omega); have b1 := X1.out.blk H.out.b1 (by omega); obtain ⟨m0, m1, m2, m3, m4, mf⟩ := cells5 b1; have B0 := hid b0; have B1 := hid b1; have O1 := hid hO1; clear b0 b1 hO1 hg1 hat1)
      go_roundw
      case measure => simp [intOf]; omega
      case rel =>
        refine ⟨k + 1, .slice A1 (k + 1) c1, by omega, by go_num, ?_, ?_, ?_, ?_⟩
        · exact blk_set_other B0.out (by simp) _
        · exact blk_set B1.out 4 _
        · exact (show zu k ++ [Value.int .u64 0] = zu (k + 1) from List.replicate_append_replicate (n := k) (m := 1)) ▸ O1.out.ext ((Ext.refl (fun b => b < w.heap.size + 2) w1).setCell (p := ⟨w.heap.size + 1, 4, none⟩) (by simp) _) (fun b hb h => by have := (O1.out.lt b hb).1; omega)
        · exact (H.out.ext.then_ X1.out (fun i hi h => by omega)).setCell (p := ⟨w.heap.size + 1, 4, none⟩) (by simp) _
    · have hkn : k = n := by omega
      subst hkn
      have hb := (((((H.out.ext.setCell (p := ⟨w.heap.size, 0, none⟩) (by simp) (.int .i64 0)).setCell (p := ⟨w.heap.size, 1, none⟩) (by simp) (.int .i64 0)).setCell (p := ⟨w.heap.size, 2, none⟩) (by simp) (.int .i64 0)).setCell (p := ⟨w.heap.size, 3, none⟩) (by simp) (.slice none 0 0)).setCell (p := ⟨w.heap.size, 4, none⟩) (by simp) (.slice A k c))
      go_wp2
      refine bodyPost_ret (by simp [results, Tryz.results15, go_sem, p0, p1, p2, p3, p4, hz1, hz0]; rfl) rfl ?_
      have hs := (((((Ext.refl (fun b => b < w.heap.size + 2) wr).setCell (p := ⟨w.heap.size, 0, none⟩) (by simp) (.int .i64 0)).setCell (p := ⟨w.heap.size, 1, none⟩) (by simp) (.int .i64 0)).setCell (p := ⟨w.heap.size, 2, none⟩) (by simp) (.int .i64 0)).setCell (p := ⟨w.heap.size, 3, none⟩) (by simp) (.slice none 0 0)).setCell (p := ⟨w.heap.size, 4, none⟩) (by simp) (.slice A k c)
      exact ⟨_, rfl, (H.out.own.ext hs (fun b hb h => by have := (H.out.own.lt b hb).1; omega)).mono (by omega), hb.below (Nat.le_refl _) (fun _ h => h.elim)⟩
end Go.Proofs.YtcljpmknandlhaaGreatDoor
