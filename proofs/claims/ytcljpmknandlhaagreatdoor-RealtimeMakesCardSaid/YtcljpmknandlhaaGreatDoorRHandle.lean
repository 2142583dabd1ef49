/- A realtime node is sent a fact that is ahead, or the next one. -/
import Derived.Test.YtcljpmknandlhaaGreatDoorProg
import Derived.Test.YtcljpmknandlhaaGreatDoorRServe
import Derived.Test.YtcljpmknandlhaaGreatDoorRTake
import Derived.Test.YtcljpmknandlhaaGreatDoorMsgStore
import Derived.Deep.RegionHeld3
import Derived.Laws.Rows
import Derived.Deep.CutRange
import Derived.BigRegion
import Derived.RegionTactic
namespace Go.Proofs.YtcljpmknandlhaaGreatDoor
open Go Go.RowKit
set_option linter.unusedVariables false
set_option linter.unusedSimpArgs false
set_option maxRecDepth 100000
/-- A fact as a message; the answer, of some kind. -/
abbrev msgF (ask off : Int) (DV MV : Value) : Array Value := #[.int .i64 1, .int .i64 0, .int .i64 0, .int .u64 0, .int .u64 ask, .int .u64 off, .int .i64 0, .int .u64 0, .int .i64 0, .int .i64 0, DV, MV, .int .i64 0, .int .i64 0, .int .i64 0, .int .i64 0, .slice none 0 0, .int .i64 0, .int .i64 0, .slice none 0 0, .int .i64 0, .slice none 0 0, .slice none 0 0, .int .i64 0, .int .i64 0, .int .i64 0, .int .i64 0, .int .i64 0, .int .i64 0, .int .i64 0, .int .i64 0, .int .i64 0, .bool false, .int .i64 0, .int .i64 0, .int .i64 0, .int .i64 0, .int .i64 0, .int .i64 0, .slice none 0 0, .slice none 0 0]
abbrev msgK (kind ask off code : Int) : Array Value := #[.int .i64 kind, .int .i64 1, .int .i64 0, .int .u64 0, .int .u64 ask, .int .u64 off, .int .i64 0, .int .u64 0, .int .i64 code, .int .i64 0, .slice none 0 0, .slice none 0 0, .int .i64 0, .int .i64 0, .int .i64 0, .int .i64 0, .slice none 0 0, .int .i64 0, .int .i64 0, .slice none 0 0, .int .i64 0, .slice none 0 0, .slice none 0 0, .int .i64 0, .int .i64 0, .int .i64 0, .int .i64 0, .int .i64 0, .int .i64 0, .int .i64 0, .int .i64 0, .int .i64 0, .bool false, .int .i64 0, .int .i64 0, .int .i64 0, .int .i64 0, .int .i64 0, .int .i64 0, .slice none 0 0, .slice none 0 0]
attribute [local go_sem ↓] wp_store_last
attribute [local go_sem] lastRow_alloc setRow_last lastRow_drew lastRow_drewN setRow_drew setRow_drewN
def handle_gapPost (w : World) (e : Ending) (w' : World) : Prop := ∃ rb, e = .returned (.slice (some ⟨rb, 0, none⟩) 1 1) ∧ w'.heap[rb]? = some (.cells (msgK 2 5 0 171) 70 (0, 0)) ∧ Ext (fun _ => False) w w'
theorem like_handle_gap : msgLike (.agg #[.int .i64 5, .int .i64 1, .int .i64 0, .int .u64 0, .int .u64 5, .int .u64 0, .int .i64 0, .int .u64 0, .int .i64 0, .int .i64 0, .slice none 0 0, .slice none 0 0, .int .i64 0, .int .i64 0, .int .i64 0, .int .i64 0, .slice none 0 0, .int .i64 0, .int .i64 0, .slice none 0 0, .int .i64 0, .slice none 0 0, .slice none 0 0, .int .i64 0, .int .i64 0, .int .i64 0, .int .i64 0, .int .i64 0, .int .i64 0, .int .i64 0, .int .i64 0, .int .i64 0, .bool false, .int .i64 0, .int .i64 0, .int .i64 0, .int .i64 0, .int .i64 0, .int .i64 0, .slice none 0 0, .slice none 0 0]) = true := by kernel_rfl
attribute [local go_sem] like_handle_gap in
set_option maxHeartbeats 4000000 in
theorem handle_gap (w : World) (nb ib : Nat) (s : Su) (D m : Nat) (ch : Int) (A B : Option Addr) (c c2 : Nat) (mc : List Value) (h : NodeR w nb ib s 0 0) (hi : InAt w ib D m ch 1 (.slice none 0 0) 0) (hne : nb ≠ ib) (hD : D ≤ 8) (hm : m ≤ 8) (hR : Rd w (.slice A D c) D 1 (es D)) (hM : Rd w (.slice B m c2) m 1 mc) (o2 : Ones mc) (hL : ∀ k, At (.slice A D c) k ∨ At (.slice B m c2) k → k < w.heap.size) :
    Calls Tryz.prog 12 #[.pointer (some ⟨nb, 0, none⟩), .agg (msgF 5 2 (.slice A D c) (.slice B m c2))] w (handle_gapPost w) := by
  obtain ⟨p10, p12, p13, p15, pf, hnb⟩ := cellsR h
  have hibw := lt_of_blk hi.blk
  have H := hid h
  have HI := hid hi
  have HR := hid hR
  have HM := hid (And.intro hM o2)
  have HN := hid hne
  have HL := hid hL
  clear h hi hR hM o2 hne hL
  unfold msgF
  go_enter Tryz.func12, Tryz.ntmps12
  go_wp2
  generalize hW : w.alloc (.cells (msgF 5 2 (.slice A D c) (.slice B m c2)) 70) = W
  have X := hid (show Ext (fun _ => False) w W from hW ▸ (Ext.refl (fun _ => False) w).alloc _)
  have NW := hid (H.out.ext X.out (fun h => h))
  have bM := hid (show W.heap[w.heap.size]? = some (.cells (msgF 5 2 (.slice A D c) (.slice B m c2)) 70 (0, 0)) from hW ▸ heap_alloc_new w _)
  clear hW p10 p12 p13 p15 pf
  obtain ⟨q10', q12, q13, q15, qf, hnW⟩ := cellsR NW.out
  have q10 : W.cell? ⟨nb, 10, none⟩ = some (.int .i64 1) := q10'
  have e1 := cell_of bM.out 1
  have e4 := cell_of bM.out 4
  have hwW := lt_of_blk bM.out
  clear q10' q12 q13 q15
  go_region
  generalize hW2 : (W.alloc (.cells (msgK 5 5 0 0) 70)).drew = W2
  have X2 := hid (show Ext (fun _ => False) W W2 from hW2 ▸ ((Ext.refl (fun _ => False) W).alloc _).drew)
  have N2 := hid (NW.out.ext X2.out (fun h => h))
  have XA2 := hid (X.out.trans X2.out)
  have I2 := hid (HI.out.ext XA2.out (fun h => h))
  have b2 := hid (X2.out.blk bM.out (fun h => h))
  have p2 := hid (show W2.heap[W.heap.size]? = some (.cells (msgK 5 5 0 0) 70 (0, 0)) from hW2 ▸ heap_alloc_new W _)
  clear hW2 q10 qf e1 e4
  have f0 := cell_of b2.out 0
  have pf2 := free_of p2.out 0
  have pc2 := cell_of p2.out 0
  have hw2 := lt_of_blk b2.out
  have hp2 := lt_of_blk p2.out
  go_upto_region 8 with (fail)
  generalize hW3 : W2.setCell ⟨W.heap.size, 0, none⟩ (.int .i64 2) = W3
  have X3 := hid (show Ext (· = W.heap.size) W2 W3 from hW3 ▸ (Ext.refl (· = W.heap.size) W2).setCell (p := ⟨W.heap.size, 0, none⟩) (fun _ => rfl) _)
  have p3 := hid (show W3.heap[W.heap.size]? = some (.cells (msgK 2 5 0 0) 70 (0, 0)) from hW3 ▸ blk_set p2.out 0 _)
  have b3 := hid (X3.out.blk b2.out (by omega))
  have N3 := hid (N2.out.ext X3.out (by omega))
  have I3 := hid (I2.out.ext X3.out (by omega))
  have XA3 := hid ((XA2.out.mono (S' := (w.heap.size ≤ ·)) (fun _ _ h => h.elim)).then_ X3.out (fun i hi h => by omega))
  clear hW3 f0 pf2 pc2
  obtain ⟨r10, r12, r13, r15, rf, hn3⟩ := cellsR N3.out
  have e5 := cell_of b3.out 5
  have hw3 := lt_of_blk b3.out
  have hp3 := lt_of_blk p3.out
  go_quiet ((go_at_call 21; exact Calls.quiet_of_same (next_at _ ib D m ch 1 _ 0 (I3.out.ext ((Ext.refl (fun _ => False) W3).drewN _) (fun h => h)))))
  go_wp2
  generalize hW4 : W3.drewN nq = W4
  have X4 := hid (show Ext (fun _ => False) W3 W4 from hW4 ▸ (Ext.refl (fun _ => False) W3).drewN nq)
  have N4 := hid (N3.out.ext X4.out (fun h => h))
  have I4 := hid (I3.out.ext X4.out (fun h => h))
  have b4 := hid (X4.out.blk b3.out (fun h => h))
  have p4 := hid (X4.out.blk p3.out (fun h => h))
  have XA4 := hid (XA3.out.then_ X4.out (fun _ _ h => h.elim))
  clear hW4 r10 r12 r13 r15 rf e5
  obtain ⟨s10, s12, s13, s15, sf, hn4⟩ := cellsR N4.out
  have k5 := cell_of b4.out 5
  have k9 := cell_of b4.out 9
  have k10 := cell_of b4.out 10
  have k11 := cell_of b4.out 11
  have hw4 := lt_of_blk b4.out
  have hp4 := lt_of_blk p4.out
  go_region_held3 (fun w' => w'.cell? ⟨nb, 12, none⟩ = some (.pointer (some ⟨ib, 0, none⟩)) ∧ w'.cell? ⟨w.heap.size, 5, none⟩ = some (.int .u64 2) ∧ w'.cell? ⟨w.heap.size, 9, none⟩ = some (.int .i64 0) ∧ w'.cell? ⟨w.heap.size, 10, none⟩ = some (.slice A D c) ∧ w'.cell? ⟨w.heap.size, 11, none⟩ = some (.slice B m c2)) (go_keep)
    (first | (go_at_call 25; refine (take_gap _ ib D m ch _ 0 _ _ (I4.out.ext (Ext.refl (fun _ => False) W4).drew (fun h => h))).mono ?_; rintro e w5 ⟨rfl, hx⟩; have X5 := hid ((Ext.refl (fun _ => False) W4).drew.trans hx); have I5 := hid (I4.out.ext X5.out (fun h => h)); clear hx; have N5 := hid (N4.out.ext X5.out (fun h => h)); have b5 := hid (X5.out.blk b4.out (fun h => h)); have p5 := hid (X5.out.blk p4.out (fun h => h)); obtain ⟨t10, t12, t13, t15, tf, hn5⟩ := cellsR N5.out; have g5 := cell_of b5.out 5; have g9 := cell_of b5.out 9; have g10 := cell_of b5.out 10; have g11 := cell_of b5.out 11; have hw5 := lt_of_blk b5.out; have hp5 := lt_of_blk p5.out; have v5 := cell_of p5.out 5; have v8 := cell_of p5.out 8; have vf := free_of p5.out))
  clear s10 s12 s13 s15 sf k5 k9 k10 k11
  go_upto_region 27 with (first | (go_at_call 9; refine (taken_at _ nb ib s 0 0 D m ch 0 _ _ N5.out I5.out (by omega)).mono ?_; rintro e w6 ⟨rfl, rfl⟩))
  generalize hW7 : (w6.setCell ⟨W.heap.size, 5, none⟩ (.int .u64 0)).setCell ⟨W.heap.size, 8, none⟩ (.int .i64 171) = W7
  have X7 := hid (show Ext (· = W.heap.size) w6 W7 from hW7 ▸ ((Ext.refl (· = W.heap.size) w6).setCell (p := ⟨W.heap.size, 5, none⟩) (fun _ => rfl) _).setCell (p := ⟨W.heap.size, 8, none⟩) (fun _ => rfl) _)
  have p7 := hid (show W7.heap[W.heap.size]? = some (.cells (msgK 2 5 0 171) 70 (0, 0)) from hW7 ▸ blk_set (blk_set p5.out 5 _) 8 _)
  clear hW7 v5 v8 vf
  have hp7 := lt_of_blk p7.out
  go_wp2_with (first | (refine wpList_load_row rfl 70 (.tmp 5) rfl W.heap.size rfl 70 (msgK 2 5 0 171) (0, 0) _ p7.out Tryz.underlying70 rfl info_msg ?_))
  go_ret
  have hXW := X.out.size
  have XZ := (XA4.out.then_ X5.out (fun _ _ h => h.elim)).then_ X7.out (fun i hi h => by omega)
  have XF := (XZ.alloc (.cells (msgK 2 5 0 171) 70))
  exact ⟨W7.heap.size, rfl, heap_alloc_new W7 _, (Ext.of_below (S := fun _ => False) (XF.below (Nat.le_refl _) (fun _ h => h)))⟩
def handle_tookPost (nb ib : Nat) (s : Su) (D m : Nat) (ch : Int) (w : World) (e : Ending) (w' : World) : Prop := ∃ rb F, e = .returned (.slice (some ⟨rb, 0, none⟩) 1 1) ∧ w'.heap[rb]? = some (.cells (msgK 2 6 1 0) 70 (0, 0)) ∧ NodeR w' nb ib s 0 0 ∧ InAt w' ib D m ch 2 F 1 ∧ Ext (· = ib) w w'
theorem like_handle_took : msgLike (.agg #[.int .i64 5, .int .i64 1, .int .i64 0, .int .u64 0, .int .u64 6, .int .u64 0, .int .i64 0, .int .u64 0, .int .i64 0, .int .i64 0, .slice none 0 0, .slice none 0 0, .int .i64 0, .int .i64 0, .int .i64 0, .int .i64 0, .slice none 0 0, .int .i64 0, .int .i64 0, .slice none 0 0, .int .i64 0, .slice none 0 0, .slice none 0 0, .int .i64 0, .int .i64 0, .int .i64 0, .int .i64 0, .int .i64 0, .int .i64 0, .int .i64 0, .int .i64 0, .int .i64 0, .bool false, .int .i64 0, .int .i64 0, .int .i64 0, .int .i64 0, .int .i64 0, .int .i64 0, .slice none 0 0, .slice none 0 0]) = true := by kernel_rfl
attribute [local go_sem] like_handle_took in
set_option maxHeartbeats 4000000 in
theorem handle_took (w : World) (nb ib : Nat) (s : Su) (D m : Nat) (ch : Int) (A B : Option Addr) (c c2 : Nat) (mc : List Value) (h : NodeR w nb ib s 0 0) (hi : InAt w ib D m ch 1 (.slice none 0 0) 0) (hne : nb ≠ ib) (hD : D ≤ 8) (hm : m ≤ 8) (hR : Rd w (.slice A D c) D 1 (es D)) (hM : Rd w (.slice B m c2) m 1 mc) (o2 : Ones mc) (hL : ∀ k, At (.slice A D c) k ∨ At (.slice B m c2) k → k < w.heap.size) :
    Calls Tryz.prog 12 #[.pointer (some ⟨nb, 0, none⟩), .agg (msgF 6 1 (.slice A D c) (.slice B m c2))] w (handle_tookPost nb ib s D m ch w) := by
  obtain ⟨p10, p12, p13, p15, pf, hnb⟩ := cellsR h
  have hibw := lt_of_blk hi.blk
  have H := hid h
  have HI := hid hi
  have HR := hid hR
  have HM := hid (And.intro hM o2)
  have HN := hid hne
  have HL := hid hL
  clear h hi hR hM o2 hne hL
  unfold msgF
  go_enter Tryz.func12, Tryz.ntmps12
  go_wp2
  generalize hW : w.alloc (.cells (msgF 6 1 (.slice A D c) (.slice B m c2)) 70) = W
  have X := hid (show Ext (fun _ => False) w W from hW ▸ (Ext.refl (fun _ => False) w).alloc _)
  have NW := hid (H.out.ext X.out (fun h => h))
  have bM := hid (show W.heap[w.heap.size]? = some (.cells (msgF 6 1 (.slice A D c) (.slice B m c2)) 70 (0, 0)) from hW ▸ heap_alloc_new w _)
  clear hW p10 p12 p13 p15 pf
  obtain ⟨q10', q12, q13, q15, qf, hnW⟩ := cellsR NW.out
  have q10 : W.cell? ⟨nb, 10, none⟩ = some (.int .i64 1) := q10'
  have e1 := cell_of bM.out 1
  have e4 := cell_of bM.out 4
  have hwW := lt_of_blk bM.out
  clear q10' q12 q13 q15
  go_region
  generalize hW2 : (W.alloc (.cells (msgK 5 6 0 0) 70)).drew = W2
  have X2 := hid (show Ext (fun _ => False) W W2 from hW2 ▸ ((Ext.refl (fun _ => False) W).alloc _).drew)
  have N2 := hid (NW.out.ext X2.out (fun h => h))
  have XA2 := hid (X.out.trans X2.out)
  have I2 := hid (HI.out.ext XA2.out (fun h => h))
  have b2 := hid (X2.out.blk bM.out (fun h => h))
  have p2 := hid (show W2.heap[W.heap.size]? = some (.cells (msgK 5 6 0 0) 70 (0, 0)) from hW2 ▸ heap_alloc_new W _)
  clear hW2 q10 qf e1 e4
  have f0 := cell_of b2.out 0
  have pf2 := free_of p2.out 0
  have pc2 := cell_of p2.out 0
  have hw2 := lt_of_blk b2.out
  have hp2 := lt_of_blk p2.out
  go_upto_region 8 with (fail)
  generalize hW3 : W2.setCell ⟨W.heap.size, 0, none⟩ (.int .i64 2) = W3
  have X3 := hid (show Ext (· = W.heap.size) W2 W3 from hW3 ▸ (Ext.refl (· = W.heap.size) W2).setCell (p := ⟨W.heap.size, 0, none⟩) (fun _ => rfl) _)
  have p3 := hid (show W3.heap[W.heap.size]? = some (.cells (msgK 2 6 0 0) 70 (0, 0)) from hW3 ▸ blk_set p2.out 0 _)
  have b3 := hid (X3.out.blk b2.out (by omega))
  have N3 := hid (N2.out.ext X3.out (by omega))
  have I3 := hid (I2.out.ext X3.out (by omega))
  have XA3 := hid ((XA2.out.mono (S' := (w.heap.size ≤ ·)) (fun _ _ h => h.elim)).then_ X3.out (fun i hi h => by omega))
  clear hW3 f0 pf2 pc2
  obtain ⟨r10, r12, r13, r15, rf, hn3⟩ := cellsR N3.out
  have e5 := cell_of b3.out 5
  have hw3 := lt_of_blk b3.out
  have hp3 := lt_of_blk p3.out
  go_quiet ((go_at_call 21; exact Calls.quiet_of_same (next_at _ ib D m ch 1 _ 0 (I3.out.ext ((Ext.refl (fun _ => False) W3).drewN _) (fun h => h)))))
  go_wp2
  generalize hW4 : W3.drewN nq = W4
  have X4 := hid (show Ext (fun _ => False) W3 W4 from hW4 ▸ (Ext.refl (fun _ => False) W3).drewN nq)
  have N4 := hid (N3.out.ext X4.out (fun h => h))
  have I4 := hid (I3.out.ext X4.out (fun h => h))
  have b4 := hid (X4.out.blk b3.out (fun h => h))
  have p4 := hid (X4.out.blk p3.out (fun h => h))
  have XA4 := hid (XA3.out.then_ X4.out (fun _ _ h => h.elim))
  clear hW4 r10 r12 r13 r15 rf e5
  obtain ⟨s10, s12, s13, s15, sf, hn4⟩ := cellsR N4.out
  have k5 := cell_of b4.out 5
  have k9 := cell_of b4.out 9
  have k10 := cell_of b4.out 10
  have k11 := cell_of b4.out 11
  have hw4 := lt_of_blk b4.out
  have hp4 := lt_of_blk p4.out
  go_region_held3 (fun w' => w'.cell? ⟨nb, 12, none⟩ = some (.pointer (some ⟨ib, 0, none⟩)) ∧ w'.cell? ⟨w.heap.size, 5, none⟩ = some (.int .u64 1) ∧ w'.cell? ⟨w.heap.size, 9, none⟩ = some (.int .i64 0) ∧ w'.cell? ⟨w.heap.size, 10, none⟩ = some (.slice A D c) ∧ w'.cell? ⟨w.heap.size, 11, none⟩ = some (.slice B m c2)) (go_keep)
    (first | (go_at_call 25; refine (take_one _ ib D m ch A B c c2 mc (I4.out.ext (Ext.refl (fun _ => False) W4).drew (fun h => h)) hD hm (HR.out.ext XA4.out.drew (fun k hk h => by have := HL.out k (.inl hk); omega)) (HM.out.1.ext XA4.out.drew (fun k hk h => by have := HL.out k (.inr hk); omega)) HM.out.2).mono ?_; rintro e w5 ⟨F5, rfl, hI5, hx⟩; have X5 := hid ((Ext.refl (· = ib) W4).drew.trans hx); have I5 := hid hI5; clear hx hI5; have N5 := hid (N4.out.ext X5.out (fun h => HN.out h)); have b5 := hid (X5.out.blk b4.out (by omega)); have p5 := hid (X5.out.blk p4.out (by omega)); obtain ⟨t10, t12, t13, t15, tf, hn5⟩ := cellsR N5.out; have g5 := cell_of b5.out 5; have g9 := cell_of b5.out 9; have g10 := cell_of b5.out 10; have g11 := cell_of b5.out 11; have hw5 := lt_of_blk b5.out; have hp5 := lt_of_blk p5.out; have v5 := cell_of p5.out 5; have v8 := cell_of p5.out 8; have vf := free_of p5.out))
  clear s10 s12 s13 s15 sf k5 k9 k10 k11
  go_upto_region 27 with (first | (go_at_call 9; refine (taken_at _ nb ib s 0 0 D m ch 1 _ _ N5.out I5.out (by omega)).mono ?_; rintro e w6 ⟨rfl, rfl⟩))
  generalize hW7 : w6.setCell ⟨W.heap.size, 5, none⟩ (.int .u64 1) = W7
  have X7 := hid (show Ext (· = W.heap.size) w6 W7 from hW7 ▸ (Ext.refl (· = W.heap.size) w6).setCell (p := ⟨W.heap.size, 5, none⟩) (fun _ => rfl) _)
  have p7 := hid (show W7.heap[W.heap.size]? = some (.cells (msgK 2 6 1 0) 70 (0, 0)) from hW7 ▸ blk_set p5.out 5 _)
  clear hW7 v5 v8 vf
  have hp7 := lt_of_blk p7.out
  go_wp2_with (first | (refine wpList_load_row rfl 70 (.tmp 5) rfl W.heap.size rfl 70 (msgK 2 6 1 0) (0, 0) _ p7.out Tryz.underlying70 rfl info_msg ?_))
  go_ret
  have hXW := X.out.size
  have XZ := ((XA4.out.mono (S' := fun k => k = ib ∨ w.heap.size ≤ k) (fun _ _ h => .inr h)).then_ X5.out (fun _ _ h => .inl h)).then_ X7.out (fun i hi h => by omega)
  have XF := (XZ.alloc (.cells (msgK 2 6 1 0) 70))
  have N7 := N5.out.ext X7.out (by omega)
  have I7 := I5.out.ext X7.out (by omega)
  exact ⟨W7.heap.size, F5, rfl, heap_alloc_new W7 _, ⟨blk_alloc N7.blk _⟩, ⟨blk_alloc I7.blk _⟩, XF.mono (fun k hk h => by rcases h with h | h; exact h; omega)⟩
end Go.Proofs.YtcljpmknandlhaaGreatDoor
