/- What is covered on a timeline without segments. -/
import Derived.Test.YthfmfiagmolmeaaGreatDoorProg
import Derived.Test.YthfmfiagmolmeaaGreatDoorTime
import Derived.WalkSpells
import Derived.Laws.IdiomRangeMap
import Derived.RangeFuncNested
import Derived.RangeFuncBound
import Derived.RangeFuncCalls
import Derived.RangeFuncLeaves
import Derived.RangeFuncFrom
import Derived.Shelf.Abstract
import Derived.Shelf.RegionOpen
import Derived.WalkKit
import Derived.OwnWalkIn
import Derived.TacticsInMore
import Derived.LoopNIn
import Derived.LoopIn
namespace Go.Proofs.YthfmfiagmolmeaaGreatDoor
open Go Go.RowKit Go.Shelf
attribute [local go_sem] Oper.semAt_some
set_option linter.unusedVariables false
set_option linter.unusedSimpArgs false
set_option maxRecDepth 100000 in
theorem keys_any (w : World) (mb : Nat) :
    Calls Tryz.prog 61 #[.map (some mb)] w fun e w' => e = .returned (.func (.func 111) #[] #[.pointer (some ⟨w.heap.size, 0, none⟩)]) ∧ w' = w.alloc (.cells #[.map (some mb)] 165) := by
  go_enter Tryz.func61, Tryz.ntmps61
  go_wp2
  go_ret
  exact ⟨rfl, rfl⟩
set_option maxRecDepth 100000 in
set_option maxHeartbeats 1000000 in
theorem keys_stop (n : Nat) (mb Bm : Nat) (w : World) (hBm : w.cell? ⟨Bm, 0, none⟩ = some (.map (some mb))) (hmb : w.heap[mb]? = some (.map #[] 0)) (Kp : World → World → Prop) (encs : Empty → Array Value) :
    SeqStopsK Fence.wide n Tryz.prog 111 #[.pointer (some ⟨Bm, 0, none⟩)] encs Kp (fun _ => True) (fun _ => False) 0 w := by
  intro l J Jx W hW hJ hJx hY h0
  have hb : W.cell? ⟨Bm, 0, none⟩ = some (.map (some mb)) := (hW.cell (p := ⟨Bm, 0, none⟩) (World.block_lt_of_cell? w _ hBm)).trans hBm
  have hm : W.heap[mb]? = some (.map #[] 0) := (hW.block mb (lt_of_blk hmb)).trans hmb
  have hrg := run_range_map (P := Tryz.prog) W _ _ _ mb #[] 0 Tryz.underlying165 hm
  have hnx := fun ty => next_empty Tryz.prog W ty mb 0 hm
  refine callsIn_of_wp Tryz.func111 rfl trivial ?_ rfl
  simp only [Tryz.ntmps111, List.size_toArray, List.length_cons, List.length_nil, Nat.reduceAdd, Nat.reduceSub, Array.replicate_succ, Array.replicate_zero, List.push_toArray, List.append_toArray, List.nil_append, List.cons_append]
  gi_wp2
  refine wpIn_loop_rounds 1 ?_
  rw [roundsIn_succ]
  gi_wp2
  go_end0
  exact ⟨⟨_, rfl⟩, .inl ⟨[], trivial, hJ [] W _ none h0 (World.grownBy_alloc W _ none) (fun r e => by cases e)⟩⟩
set_option maxRecDepth 100000 in
set_option maxHeartbeats 1000000 in
theorem covered_nil (w : World) (tb mb : Nat) (h : LineAt w tb mb) :
    Calls Tryz.prog 31 #[.pointer (some ⟨tb, 0, none⟩)] w fun e w' => e = .returned (.slice none 0 0) ∧ Below w.heap.size w w' := by
  have H := hid h
  have q0 := cell_of h.blk 0
  have qf := free_of h.blk
  have htb : tb < w.heap.size := lt_of_blk h.blk
  have hmb : mb < w.heap.size := lt_of_blk h.map
  clear h
  refine (callsIn_wide (n := 3)).1 ?_
  refine callsIn_of_wp_marks Tryz.func31 rfl trivial ?_ rfl
  simp only [Tryz.ntmps31, List.size_toArray, List.length_cons, List.length_nil, Nat.reduceAdd, Nat.reduceSub, Array.replicate_succ, Array.replicate_zero, List.push_toArray, List.append_toArray, List.nil_append, List.cons_append]
  gi_wp2_with (first | (refine ⟨trivial, ?_⟩; gi_at_call 47; refine (callsIn_wide.2 (stretches_nil _ tb mb ⟨blk_alloc H.out.blk _, blk_alloc H.out.map _, H.out.ne⟩)).mono ?_; rintro e w1 ⟨rfl, hb⟩; have X1 := (((Ext.refl (fun _ => False) w).alloc _).trans (Ext.of_below hb)); have b1 := X1.blk H.out.blk (fun h => h); have B1 := hid b1; have M1 := hid (X1.blk H.out.map (fun h => h)); have XX1 := hid X1; have l0 := cell_of b1 0; have lf := free_of b1; have r1 := (Ext.of_below (S := fun _ => False) hb).blk (alloc_at w (.cells #[.pointer (some ⟨tb, 0, none⟩)] 94) rfl) (fun h => h); have c0 := cell_of r1 0; have cf := free_of r1; have hz1 : w.heap.size < w1.heap.size := lt_of_blk r1; have hz2 : tb < w1.heap.size := lt_of_blk b1; have R1 := hid r1; clear X1 b1 r1 hb) | (refine ⟨trivial, ?_⟩; gi_at_call 61; refine (callsIn_wide.2 (keys_any _ mb)).mono ?_; rintro e w2 ⟨rfl, rfl⟩))
  have hB : Below w.heap.size w w1 := XX1.out.below (Nat.le_refl _) (fun _ h => h.elim)
  have hz : w.heap.size ≤ w1.heap.size := XX1.out.size
  have hB0 : Below w.heap.size w (((w1.alloc (.cells #[.slice none 0 0] 135)).alloc (.cells #[.slice none 0 0] 52)).alloc (.cells #[.map (some mb)] 165)) := ((hB.alloc hz _).alloc (by simp; omega) _).alloc (by simp; omega) _
  have hm0 : (((w1.alloc (.cells #[.slice none 0 0] 135)).alloc (.cells #[.slice none 0 0] 52)).alloc (.cells #[.map (some mb)] 165)).heap[mb]? = some (.map #[] 0) := blk_alloc (blk_alloc (blk_alloc M1.out _) _) _
  have hr4 := blk_alloc (alloc_at (w1.alloc (.cells #[.slice none 0 0] 135)) (.cells #[.slice none 0 0] 52) (show w1.heap.size + 1 = _ by simp)) (.cells #[.map (some mb)] 165)
  have hk0 := alloc_at ((w1.alloc (.cells #[.slice none 0 0] 135)).alloc (.cells #[.slice none 0 0] 52)) (.cells #[.map (some mb)] 165) (show w1.heap.size + 2 = _ by simp)
  have hc4 := cell_of hr4 0
  have hf4 := free_of hr4 0
  have hck := cell_of hk0 0
  refine wpIn_rangeFunc_ownF (α := Empty) rfl (by omega) (gf := 111) (lb := #[.pointer (some ⟨w1.heap.size + 2, 0, none⟩)]) rfl trivial (enters_of Tryz.func111 (by kernel_rfl) rfl)
    (keys_stop 2 mb (w1.heap.size + 2) _ hck hm0 (fun _ _ => True) (fun _ => #[])) (fun _ _ => trivial) (fun _ _ _ _ _ _ _ _ => trivial) (Below.refl _ _) (fun x => x.elim)
    (fun _ W => (W.cell? ⟨w1.heap.size + 1, 0, none⟩ = some (.slice none 0 0) ∧ W.frozen? ⟨w1.heap.size + 1, 0, none⟩ = false) ∧ Below w.heap.size w W) (fun _ _ _ => False)
    (OwnFrom.and (Own.from (fun s A B row hs hg hr => ⟨cell_kept hs.1 hg hr, (frozen_kept hs.1 hg hr).trans hs.2⟩) _) (ownFrom_below (Nat.le_refl _) (by simp; omega)))
    (fun _ _ _ _ _ hs _ _ => hs) ⟨⟨hc4, hf4⟩, hB0⟩ (fun x => x.elim) (fun _ x => x.elim) (fun _ _ x => x.elim) ?done (fun _ _ _ _ _ _ h => h.elim)
  case done =>
    rintro D xs W hD _ ⟨⟨hc, hf⟩, hBW⟩ hK
    gi_wp2_with (first | (refine ⟨trivial, ?_⟩; gi_at_call 63; refine (callsIn_wide.2 (sort_segs_nil _ _)).mono ?_; rintro e w4 ⟨rfl, rfl⟩))
    have hzz : w.heap.size ≤ D := by simp at hD; omega
    refine ⟨by simp, .inl ⟨_, _, rfl, run_takeDeferred hK, ?_⟩⟩
    exact ⟨_, results_tmp rfl _ _ _, rfl, hBW.trans (belowK_b (w := w) (Nat.le_refl _) _ D _ _ hzz hK rfl rfl)⟩
end Go.Proofs.YthfmfiagmolmeaaGreatDoor
