/- A query that may be: nothing is found wrong. -/
import Derived.Test.YtdfmfjkcgbjgbaaGreatDoorProg
import Derived.Test.YtdfmfjkcgbjgbaaGreatDoorHQuery
import Derived.Laws.EntriesVeiled
namespace Go.Proofs.YtdfmfjkcgbjgbaaGreatDoor
open Go Go.RowKit
set_option linter.unusedVariables false
set_option linter.unusedSimpArgs false
set_option maxRecDepth 100000
set_option maxHeartbeats 4000000 in
theorem check_ok (w : World) (g : Nat) (D m : Int) (hset : ∃ y, w.cell? ⟨g, 0, none⟩ = some (.slice y 0 0)) (hf : fineB D m = true) :
    Calls Tryz.prog 25 #[.agg #[.int .i64 D, .int .i64 m], .agg #[.int .i64 0, .int .i64 0, .int .i64 1, .int .i64 0, .slice none 0 0, .int .i64 0, .int .i64 0, .slice none 0 0, .int .i64 0, .slice (some ⟨g, 0, none⟩) 1 1, .slice none 0 0, .int .i64 1, .int .i64 0]] w fun e w' => e = .returned .nilIface ∧ Ext (fun _ => False) w w' := by
  have hmf : ∀ (fn : Fn) (first cap : Array Value) (w : World), (Instr.makeFunc fn first cap).run Tryz.prog w = .ok (.func fn first cap) w := fun _ _ _ _ => rfl
  have HS := hid hset
  have HF := hid hf
  clear hset hf
  go_enter Tryz.func25, Tryz.ntmps25
  go_wp2
  generalize hW : ((w.alloc (.cells #[.int .i64 D, .int .i64 m] 23)).alloc (.cells #[.int .i64 0, .int .i64 0, .int .i64 1, .int .i64 0, .slice none 0 0, .int .i64 0, .int .i64 0, .slice none 0 0, .int .i64 0, .slice (some ⟨g, 0, none⟩) 1 1, .slice none 0 0, .int .i64 1, .int .i64 0] 54)).alloc (.cells #[.string ⟨#[115, 99, 104, 101, 109, 97]⟩, .func (.func 66) #[] #[.pointer (some ⟨w.heap.size, 0, none⟩)], .string ⟨#[115, 112, 97, 110]⟩, .func (.func 68) #[] #[.pointer (some ⟨w.heap.size + 1, 0, none⟩)], .string ⟨#[102, 105, 108, 116, 101, 114]⟩, .func (.func 70) #[] #[.pointer (some ⟨w.heap.size, 0, none⟩), .pointer (some ⟨w.heap.size + 1, 0, none⟩)], .string ⟨#[103, 114, 97, 105, 110]⟩, .func (.func 72) #[] #[.pointer (some ⟨w.heap.size + 1, 0, none⟩)], .string ⟨#[115, 101, 116, 115]⟩, .func (.func 73) #[] #[.pointer (some ⟨w.heap.size + 1, 0, none⟩)], .string ⟨#[115, 101, 116, 115]⟩, .func (.func 74) #[] #[.pointer (some ⟨w.heap.size + 1, 0, none⟩), .pointer (some ⟨w.heap.size, 0, none⟩)], .string ⟨#[97, 103, 103, 115]⟩, .func (.func 78) #[] #[.pointer (some ⟨w.heap.size + 1, 0, none⟩)], .string ⟨#[97, 103, 103, 115]⟩, .func (.func 79) #[] #[.pointer (some ⟨w.heap.size + 1, 0, none⟩), .pointer (some ⟨w.heap.size, 0, none⟩)], .string ⟨#[103, 114, 111, 117, 112, 115]⟩, .func (.func 83) #[] #[.pointer (some ⟨w.heap.size + 1, 0, none⟩)], .string ⟨#[114, 111, 119, 115]⟩, .func (.func 84) #[] #[.pointer (some ⟨w.heap.size + 1, 0, none⟩)]] 159) = W0
  have X0 := hid (show Ext (fun _ => False) w W0 from hW ▸ (((Ext.refl (fun _ => False) w).alloc _).alloc _).alloc _)
  have A0 : Hid (Asked W0 w.heap.size (w.heap.size + 1) g D m) := ⟨hW ▸ blk_alloc (blk_alloc (heap_alloc_new w _) _) _, hW ▸ blk_alloc (alloc_at _ _ (by simp)) _, HS.out.imp fun _ hy => X0.out.cell hy (fun h => h), HF.out⟩
  have L0 := hid (show W0.heap[w.heap.size + 1 + 1]? = some (.cells #[.string ⟨#[115, 99, 104, 101, 109, 97]⟩, .func (.func 66) #[] #[.pointer (some ⟨w.heap.size, 0, none⟩)], .string ⟨#[115, 112, 97, 110]⟩, .func (.func 68) #[] #[.pointer (some ⟨w.heap.size + 1, 0, none⟩)], .string ⟨#[102, 105, 108, 116, 101, 114]⟩, .func (.func 70) #[] #[.pointer (some ⟨w.heap.size, 0, none⟩), .pointer (some ⟨w.heap.size + 1, 0, none⟩)], .string ⟨#[103, 114, 97, 105, 110]⟩, .func (.func 72) #[] #[.pointer (some ⟨w.heap.size + 1, 0, none⟩)], .string ⟨#[115, 101, 116, 115]⟩, .func (.func 73) #[] #[.pointer (some ⟨w.heap.size + 1, 0, none⟩)], .string ⟨#[115, 101, 116, 115]⟩, .func (.func 74) #[] #[.pointer (some ⟨w.heap.size + 1, 0, none⟩), .pointer (some ⟨w.heap.size, 0, none⟩)], .string ⟨#[97, 103, 103, 115]⟩, .func (.func 78) #[] #[.pointer (some ⟨w.heap.size + 1, 0, none⟩)], .string ⟨#[97, 103, 103, 115]⟩, .func (.func 79) #[] #[.pointer (some ⟨w.heap.size + 1, 0, none⟩), .pointer (some ⟨w.heap.size, 0, none⟩)], .string ⟨#[103, 114, 111, 117, 112, 115]⟩, .func (.func 83) #[] #[.pointer (some ⟨w.heap.size + 1, 0, none⟩)], .string ⟨#[114, 111, 119, 115]⟩, .func (.func 84) #[] #[.pointer (some ⟨w.heap.size + 1, 0, none⟩)]] 159 (0, 0)) from hW ▸ alloc_at _ _ (by simp))
  clear hW
  have p0 := cell_of L0.out 0
  have p1 := cell_of L0.out 1
  refine wp_loop_rounds 11 ?_
  rw [rounds_succ]
  go_wp2_with (go_at_call 66; refine (chk1 _ w.heap.size (w.heap.size + 1) g D m (A0.out.grow ((Ext.refl (fun _ => False) _).alloc _))).mono ?_; rintro e W1 ⟨rfl, hx⟩; have Y := ((Ext.refl (fun _ => False) _).alloc _).trans hx; have A1 := hid (A0.out.grow Y); have L1 := hid (Y.blk L0.out (fun h => h)); have X1 := hid (X0.out.trans Y); have p2 := cell_of L1.out 2; have p3 := cell_of L1.out 3; clear hx Y A0 L0 X0 p0 p1)
  rw [rounds_succ]
  go_wp2_with (go_at_call 68; refine (chk2 _ w.heap.size (w.heap.size + 1) g D m (A1.out.grow ((Ext.refl (fun _ => False) _).alloc _))).mono ?_; rintro e W2 ⟨rfl, hx⟩; have Y := ((Ext.refl (fun _ => False) _).alloc _).trans hx; have A2 := hid (A1.out.grow Y); have L2 := hid (Y.blk L1.out (fun h => h)); have X2 := hid (X1.out.trans Y); have p4 := cell_of L2.out 4; have p5 := cell_of L2.out 5; clear hx Y A1 L1 X1 p2 p3)
  rw [rounds_succ]
  go_wp2_with (go_at_call 70; refine (chk3 _ w.heap.size (w.heap.size + 1) g D m (A2.out.grow ((Ext.refl (fun _ => False) _).alloc _))).mono ?_; rintro e W3 ⟨rfl, hx⟩; have Y := ((Ext.refl (fun _ => False) _).alloc _).trans hx; have A3 := hid (A2.out.grow Y); have L3 := hid (Y.blk L2.out (fun h => h)); have X3 := hid (X2.out.trans Y); have p6 := cell_of L3.out 6; have p7 := cell_of L3.out 7; clear hx Y A2 L2 X2 p4 p5)
  rw [rounds_succ]
  go_wp2_with (go_at_call 72; refine (chk4 _ w.heap.size (w.heap.size + 1) g D m (A3.out.grow ((Ext.refl (fun _ => False) _).alloc _))).mono ?_; rintro e W4 ⟨rfl, hx⟩; have Y := ((Ext.refl (fun _ => False) _).alloc _).trans hx; have A4 := hid (A3.out.grow Y); have L4 := hid (Y.blk L3.out (fun h => h)); have X4 := hid (X3.out.trans Y); have p8 := cell_of L4.out 8; have p9 := cell_of L4.out 9; clear hx Y A3 L3 X3 p6 p7)
  rw [rounds_succ]
  go_wp2_with (go_at_call 73; refine (chk5 _ w.heap.size (w.heap.size + 1) g D m (A4.out.grow ((Ext.refl (fun _ => False) _).alloc _))).mono ?_; rintro e W5 ⟨rfl, hx⟩; have Y := ((Ext.refl (fun _ => False) _).alloc _).trans hx; have A5 := hid (A4.out.grow Y); have L5 := hid (Y.blk L4.out (fun h => h)); have X5 := hid (X4.out.trans Y); have p10 := cell_of L5.out 10; have p11 := cell_of L5.out 11; clear hx Y A4 L4 X4 p8 p9)
  rw [rounds_succ]
  go_wp2_with (go_at_call 74; refine (chk6 _ w.heap.size (w.heap.size + 1) g D m (A5.out.grow ((Ext.refl (fun _ => False) _).alloc _))).mono ?_; rintro e W6 ⟨rfl, hx⟩; have Y := ((Ext.refl (fun _ => False) _).alloc _).trans hx; have A6 := hid (A5.out.grow Y); have L6 := hid (Y.blk L5.out (fun h => h)); have X6 := hid (X5.out.trans Y); have p12 := cell_of L6.out 12; have p13 := cell_of L6.out 13; clear hx Y A5 L5 X5 p10 p11)
  rw [rounds_succ]
  go_wp2_with (go_at_call 78; refine (chk7 _ w.heap.size (w.heap.size + 1) g D m (A6.out.grow ((Ext.refl (fun _ => False) _).alloc _))).mono ?_; rintro e W7 ⟨rfl, hx⟩; have Y := ((Ext.refl (fun _ => False) _).alloc _).trans hx; have A7 := hid (A6.out.grow Y); have L7 := hid (Y.blk L6.out (fun h => h)); have X7 := hid (X6.out.trans Y); have p14 := cell_of L7.out 14; have p15 := cell_of L7.out 15; clear hx Y A6 L6 X6 p12 p13)
  rw [rounds_succ]
  go_wp2_with (go_at_call 79; refine (chk8 _ w.heap.size (w.heap.size + 1) g D m (A7.out.grow ((Ext.refl (fun _ => False) _).alloc _))).mono ?_; rintro e W8 ⟨rfl, hx⟩; have Y := ((Ext.refl (fun _ => False) _).alloc _).trans hx; have A8 := hid (A7.out.grow Y); have L8 := hid (Y.blk L7.out (fun h => h)); have X8 := hid (X7.out.trans Y); have p16 := cell_of L8.out 16; have p17 := cell_of L8.out 17; clear hx Y A7 L7 X7 p14 p15)
  rw [rounds_succ]
  go_wp2_with (go_at_call 83; refine (chk9 _ w.heap.size (w.heap.size + 1) g D m (A8.out.grow ((Ext.refl (fun _ => False) _).alloc _))).mono ?_; rintro e W9 ⟨rfl, hx⟩; have Y := ((Ext.refl (fun _ => False) _).alloc _).trans hx; have A9 := hid (A8.out.grow Y); have L9 := hid (Y.blk L8.out (fun h => h)); have X9 := hid (X8.out.trans Y); have p18 := cell_of L9.out 18; have p19 := cell_of L9.out 19; clear hx Y A8 L8 X8 p16 p17)
  rw [rounds_succ]
  go_wp2_with (go_at_call 84; refine (chk10 _ w.heap.size (w.heap.size + 1) g D m (A9.out.grow ((Ext.refl (fun _ => False) _).alloc _))).mono ?_; rintro e W10 ⟨rfl, hx⟩; have Y := ((Ext.refl (fun _ => False) _).alloc _).trans hx; have A10 := hid (A9.out.grow Y); have L10 := hid (Y.blk L9.out (fun h => h)); have X10 := hid (X9.out.trans Y); clear hx Y A9 L9 X9 p18 p19)
  rw [rounds_succ]
  go_wp2
  go_ret
  exact ⟨rfl, X10.out⟩
end Go.Proofs.YtdfmfjkcgbjgbaaGreatDoor
