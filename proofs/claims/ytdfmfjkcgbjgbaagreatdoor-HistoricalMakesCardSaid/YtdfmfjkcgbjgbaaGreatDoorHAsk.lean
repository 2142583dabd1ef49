/- A historical node is asked of a segment that it doesn't serve. -/
import Derived.Test.YtdfmfjkcgbjgbaaGreatDoorProg
import Derived.Test.YtdfmfjkcgbjgbaaGreatDoorHNode
import Derived.Test.YtdfmfjkcgbjgbaaGreatDoorHCheck
import Derived.Deep.RegionHeld3
import Derived.MapKept
import Derived.Laws.Rows
import Derived.Deep.CutRange
import Derived.Test.YtdfmfjkcgbjgbaaGreatDoorMsgStore
import Derived.BigRegion
import Derived.RegionTactic
namespace Go.Proofs.YtdfmfjkcgbjgbaaGreatDoor
open Go Go.RowKit
set_option linter.unusedVariables false
set_option linter.unusedSimpArgs false
set_option maxRecDepth 100000
theorem key_fine (w : World) (a b c d e : Int) : (Instr.checkKey true 10000 38 (.agg #[.int .i64 a, .int .i64 b, .int .i64 c, .int .i64 d, .int .i64 e])).run Tryz.prog w = .ok () w := by kernel_rfl
theorem zero_seg (w : World) : (zeroValue 92).run Tryz.prog w = .ok (.pointer none) w := by kernel_rfl
theorem lookup_none (w : World) (mb n : Nat) (a b c d e : Int) (hb : w.heap[mb]? = some (.map #[] n)) :
    (Instr.lookup 84 (.map (some mb)) (.agg #[.int .i64 a, .int .i64 b, .int .i64 c, .int .i64 d, .int .i64 e]) true).run Tryz.prog w = .ok (.tuple #[.pointer none, .bool false]) w := by
  have ht := Tryz.underlying84
  simp [Instr.lookup, run_underlying ht, MapKept.run_getObj_map hb, key_fine, Instr.findKey, Instr.findNow, run_underlying Tryz.underlying38, zero_seg, Result.andThen]
/-- The question as a message; the answer. -/
abbrev msgA (g : Nat) : Array Value := #[.int .i64 3, .int .i64 3, .int .i64 0, .int .u64 0, .int .u64 4, .int .u64 0, .int .i64 0, .int .u64 0, .int .i64 0, .int .i64 0, .slice none 0 0, .slice none 0 0, .int .i64 0, .int .i64 0, .int .i64 1, .int .i64 0, .slice none 0 0, .int .i64 0, .int .i64 0, .slice none 0 0, .int .i64 0, .slice (some ⟨g, 0, none⟩) 1 1, .slice none 0 0, .int .i64 1, .int .i64 0, .int .i64 0, .int .i64 0, .int .i64 0, .int .i64 0, .int .i64 0, .int .i64 0, .int .i64 0, .bool false, .int .i64 0, .int .i64 0, .int .i64 0, .int .i64 0, .int .i64 0, .int .i64 0, .slice none 0 0, .slice none 0 0]
abbrev msgP (code : Int) : Array Value := #[.int .i64 5, .int .i64 21, .int .i64 3, .int .u64 0, .int .u64 4, .int .u64 0, .int .i64 0, .int .u64 0, .int .i64 code, .int .i64 0, .slice none 0 0, .slice none 0 0, .int .i64 0, .int .i64 0, .int .i64 0, .int .i64 0, .slice none 0 0, .int .i64 0, .int .i64 0, .slice none 0 0, .int .i64 0, .slice none 0 0, .slice none 0 0, .int .i64 0, .int .i64 0, .int .i64 0, .int .i64 0, .int .i64 0, .int .i64 0, .int .i64 0, .int .i64 0, .int .i64 0, .bool false, .int .i64 0, .int .i64 0, .int .i64 0, .int .i64 0, .int .i64 0, .int .i64 0, .slice none 0 0, .slice none 0 0]
theorem like_part : msgLike (.agg #[.int .i64 5, .int .i64 21, .int .i64 3, .int .u64 0, .int .u64 4, .int .u64 0, .int .i64 0, .int .u64 0, .int .i64 0, .int .i64 0, .slice none 0 0, .slice none 0 0, .int .i64 0, .int .i64 0, .int .i64 0, .int .i64 0, .slice none 0 0, .int .i64 0, .int .i64 0, .slice none 0 0, .int .i64 0, .slice none 0 0, .slice none 0 0, .int .i64 0, .int .i64 0, .int .i64 0, .int .i64 0, .int .i64 0, .int .i64 0, .int .i64 0, .int .i64 0, .int .i64 0, .bool false, .int .i64 0, .int .i64 0, .int .i64 0, .int .i64 0, .int .i64 0, .int .i64 0, .slice none 0 0, .slice none 0 0]) = true := by kernel_rfl
attribute [local go_sem ↓] wp_store_last
attribute [local go_sem] lastRow_alloc setRow_last lastRow_drew lastRow_drewN setRow_drew setRow_drewN like_part
def AskPost (nb sb mb : Nat) (w : World) (e : Ending) (w' : World) : Prop :=
  ∃ rb, e = .returned (.slice (some ⟨rb, 0, none⟩) 1 1) ∧ w'.heap[rb]? = some (.cells (msgP 120) 60 (0, 0)) ∧ Ext (fun _ => False) w w'
set_option maxHeartbeats 4000000 in
theorem handle_ask (w : World) (nb sb mb g : Nat) (s : Su) (term : Int) (O : Value) (h : NodeH w nb sb mb s 21 term O) (hset : ∃ y, w.cell? ⟨g, 0, none⟩ = some (.slice y 0 0)) (hf : fineB s.d s.m = true) :
    Calls Tryz.prog 9 #[.pointer (some ⟨nb, 0, none⟩), .agg (msgA g)] w (AskPost nb sb mb w) := by
  obtain ⟨p10, p12, p13, p14, p17, pf, hnb⟩ := cells18 h
  have H := hid h
  have HS := hid hset
  have HF := hid hf
  clear h hset hf
  unfold msgA
  go_enter Tryz.func9, Tryz.ntmps9
  go_wp2
  generalize hW : w.alloc (.cells (msgA g) 60) = W
  have X := hid (show Ext (fun _ => False) w W from hW ▸ (Ext.refl (fun _ => False) w).alloc _)
  have NW := hid (H.out.grow X.out)
  have bM := hid (show W.heap[w.heap.size]? = some (.cells (msgA g) 60 (0, 0)) from hW ▸ heap_alloc_new w _)
  clear hW p10 p12 p13 p14 p17 pf
  obtain ⟨q10, q12, q13, q14, q17, qf, hnW⟩ := cells18 NW.out
  have e1 := cell_of bM.out 1
  have e4 := cell_of bM.out 4
  have hwW := lt_of_blk bM.out
  go_region
  go_wp2
  generalize hW2 : (W.alloc (.cells (msgP 0) 60)).drew = W2
  have X2 := hid (show Ext (fun _ => False) W W2 from hW2 ▸ ((Ext.refl (fun _ => False) W).alloc _).drew)
  have N2 := hid (NW.out.grow X2.out)
  have b2 := hid (X2.out.blk bM.out (fun h => h))
  have p2 := hid (show W2.heap[W.heap.size]? = some (.cells (msgP 0) 60 (0, 0)) from hW2 ▸ heap_alloc_new W _)
  clear hW2 q10 q12 q13 q14 q17 qf e1 e4
  obtain ⟨r10, r12, r13, r14, r17, rf, hn2⟩ := cells18 N2.out
  have hw2 := lt_of_blk b2.out
  have hp2 := lt_of_blk p2.out
  have f25 := cell_of b2.out 25
  have f26 := cell_of b2.out 26
  have f27 := cell_of b2.out 27
  have f28 := cell_of b2.out 28
  have f29 := cell_of b2.out 29
  have hlk := fun n => lookup_none (W2.drewN n) mb 0 0 0 0 0 0 N2.out.map
  have hlk1 := lookup_none W2.drew mb 0 0 0 0 0 0 N2.out.map
  have hlk0 := lookup_none W2 mb 0 0 0 0 0 0 N2.out.map
  go_quiet (fail)
  go_wp2
  generalize hW3 : W2.drewN nq = W3
  have X3 := hid (show Ext (fun _ => False) W2 W3 from hW3 ▸ (Ext.refl (fun _ => False) W2).drewN nq)
  have N3 := hid (N2.out.grow X3.out)
  have b3 := hid (X3.out.blk b2.out (fun h => h))
  have p3 := hid (X3.out.blk p2.out (fun h => h))
  clear hW3 r10 r12 r13 r14 r17 rf f25 f26 f27 f28 f29 hlk hlk1 hlk0
  have s0 := cell_of N3.out.blk 0
  have s1 := cell_of N3.out.blk 1
  have hn3 := lt_of_blk N3.out.blk
  have hw3 := lt_of_blk b3.out
  have hp3 := lt_of_blk p3.out
  have f12 := cell_of b3.out 12
  have f13 := cell_of b3.out 13
  have f14 := cell_of b3.out 14
  have f15 := cell_of b3.out 15
  have f16 := cell_of b3.out 16
  have f17 := cell_of b3.out 17
  have f18 := cell_of b3.out 18
  have f19 := cell_of b3.out 19
  have f20 := cell_of b3.out 20
  have f21 := cell_of b3.out 21
  have f22 := cell_of b3.out 22
  have f23 := cell_of b3.out 23
  have f24 := cell_of b3.out 24
  have XA := hid (((X.out.trans X2.out)).trans X3.out)
  go_region_held3 (fun w' => w'.cell? ⟨nb, 0, none⟩ = some (.int .i64 s.d) ∧ w'.cell? ⟨nb, 1, none⟩ = some (.int .i64 s.m) ∧ w'.cell? ⟨w.heap.size, 12, none⟩ = some (.int .i64 0) ∧ w'.cell? ⟨w.heap.size, 13, none⟩ = some (.int .i64 0) ∧ w'.cell? ⟨w.heap.size, 14, none⟩ = some (.int .i64 1) ∧ w'.cell? ⟨w.heap.size, 15, none⟩ = some (.int .i64 0) ∧ w'.cell? ⟨w.heap.size, 16, none⟩ = some (.slice none 0 0) ∧ w'.cell? ⟨w.heap.size, 17, none⟩ = some (.int .i64 0) ∧ w'.cell? ⟨w.heap.size, 18, none⟩ = some (.int .i64 0) ∧ w'.cell? ⟨w.heap.size, 19, none⟩ = some (.slice none 0 0) ∧ w'.cell? ⟨w.heap.size, 20, none⟩ = some (.int .i64 0) ∧ w'.cell? ⟨w.heap.size, 21, none⟩ = some (.slice (some ⟨g, 0, none⟩) 1 1) ∧ w'.cell? ⟨w.heap.size, 22, none⟩ = some (.slice none 0 0) ∧ w'.cell? ⟨w.heap.size, 23, none⟩ = some (.int .i64 1) ∧ w'.cell? ⟨w.heap.size, 24, none⟩ = some (.int .i64 0)) (go_keep)
    (first | (go_at_call 25; refine (check_ok _ g s.d s.m (HS.out.imp fun _ hy => XA.out.drew.cell hy (fun h => h)) HF.out).mono ?_; rintro e w4 ⟨rfl, hx⟩; have X4 := hid hx; have N4 := hid (N3.out.grow ((Ext.refl (fun _ => False) W3).drew.trans hx)); have b4 := hid (hx.blk (w := W3.drew) b3.out (fun h => h)); have p4 := hid (hx.blk (w := W3.drew) p3.out (fun h => h)); have t0 := cell_of N4.out.blk 0; have t1 := cell_of N4.out.blk 1; have g12 := cell_of b4.out 12; have g13 := cell_of b4.out 13; have g14 := cell_of b4.out 14; have g15 := cell_of b4.out 15; have g16 := cell_of b4.out 16; have g17 := cell_of b4.out 17; have g18 := cell_of b4.out 18; have g19 := cell_of b4.out 19; have g20 := cell_of b4.out 20; have g21 := cell_of b4.out 21; have g22 := cell_of b4.out 22; have g23 := cell_of b4.out 23; have g24 := cell_of b4.out 24; have hp4 := lt_of_blk p4.out; have u8 := cell_of p4.out 8; have uf := free_of p4.out 8; clear hx))
  go_upto_region 15 with (fail)
  generalize hW5 : w4.setCell ⟨W.heap.size, 8, none⟩ (.int .i64 120) = W5
  have X5 := hid (show Ext (· = W.heap.size) w4 W5 from hW5 ▸ (Ext.refl (· = W.heap.size) w4).setCell (p := ⟨W.heap.size, 8, none⟩) (fun _ => rfl) _)
  have p5 := hid (show W5.heap[W.heap.size]? = some (.cells (msgP 120) 60 (0, 0)) from hW5 ▸ blk_set p4.out 8 _)
  clear hW5 t0 t1 u8 uf s0 s1 f12 g12 f13 g13 f14 g14 f15 g15 f16 g16 f17 g17 f18 g18 f19 g19 f20 g20 f21 g21 f22 g22 f23 g23 f24 g24
  have hp5 := lt_of_blk p5.out
  go_wp2_with (first | (refine wpList_load_row rfl 60 (.tmp 5) rfl W.heap.size rfl 60 (msgP 120) (0, 0) _ p5.out Tryz.underlying60 rfl info_msg ?_))
  go_ret
  have XZ := ((XA.out.drew.trans X4.out).mono (S' := (w.heap.size ≤ ·)) (fun _ _ h => h.elim)).then_ X5.out (fun i hi h => by have := X.out.size; omega)
  have XF := (XZ.alloc (.cells (msgP 120) 60))
  exact ⟨W5.heap.size, rfl, heap_alloc_new W5 _, (Ext.of_below (S := fun _ => False) (XF.below (Nat.le_refl _) (fun _ h => h)))⟩
end Go.Proofs.YtdfmfjkcgbjgbaaGreatDoor
