/- An intake takes the first fact; it refuses one that is ahead. -/
import Derived.Test.YtcljpmknandlhaaGreatDoorProg
import Derived.Test.YtcljpmknandlhaaGreatDoorROwn
import Derived.Deep.RegionHeld3
import Derived.Deep.RegionLaw
namespace Go.Proofs.YtcljpmknandlhaaGreatDoor
open Go Go.RowKit
set_option linter.unusedVariables false
set_option linter.unusedSimpArgs false
set_option maxRecDepth 100000
theorem cellsI {w : World} {ib : Nat} {D m ch nx : Int} {F : Value} {op : Int} (h : InAt w ib D m ch nx F op) :
    w.cell? ⟨ib, 0, none⟩ = some (.int .i64 D) ∧ w.cell? ⟨ib, 1, none⟩ = some (.int .i64 m) ∧ w.cell? ⟨ib, 3, none⟩ = some (.int .u64 nx) ∧ w.cell? ⟨ib, 4, none⟩ = some F ∧ w.cell? ⟨ib, 5, none⟩ = some (.int .i64 op) ∧ (∀ i, w.frozen? ⟨ib, i, none⟩ = false) ∧ ib < w.heap.size :=
  ⟨cell_of h.blk 0, cell_of h.blk 1, cell_of h.blk 3, cell_of h.blk 4, cell_of h.blk 5, free_of h.blk, lt_of_blk h.blk⟩
theorem take_gap (w : World) (ib : Nat) (D m ch : Int) (F : Value) (op : Int) (V2 V3 : Value) (h : InAt w ib D m ch 1 F op) :
    Calls Tryz.prog 25 #[.pointer (some ⟨ib, 0, none⟩), .int .u64 2, .agg #[.int .i64 0, V2, V3]] w fun e w' => e = .returned (.int .i64 171) ∧ Ext (fun _ => False) w w' := by
  obtain ⟨p0, p1, p3, p4, p5, pf, hib⟩ := cellsI h
  clear h
  go_enter Tryz.func25, Tryz.ntmps25
  go_wp2
  go_ret
  exact ⟨rfl, (Ext.refl _ w).alloc _⟩
def TakePost (ib : Nat) (D m ch : Int) (w : World) (e : Ending) (w' : World) : Prop := ∃ F, e = .returned (.int .i64 0) ∧ InAt w' ib D m ch 2 F 1 ∧ Ext (· = ib) w w'
set_option maxHeartbeats 4000000 in
theorem take_one (w : World) (ib : Nat) (D m : Nat) (ch : Int) (A B : Option Addr) (c c2 : Nat) (mc : List Value) (h : InAt w ib D m ch 1 (.slice none 0 0) 0) (hD : D ≤ 8) (hm : m ≤ 8) (hR : Rd w (.slice A D c) D 1 (es D)) (hM : Rd w (.slice B m c2) m 1 mc) (o2 : Ones mc) :
    Calls Tryz.prog 25 #[.pointer (some ⟨ib, 0, none⟩), .int .u64 1, .agg #[.int .i64 0, .slice A D c, .slice B m c2]] w (TakePost ib D m ch w) := by
  obtain ⟨p0, p1, p3, p4, p5, pf, hib⟩ := cellsI h
  have HB := hid (show m ≤ c2 ∧ c2 ≤ 9223372036854775807 by obtain ⟨_, _, _, he, h1, h2, _⟩ := hM; injection he with _ _ e3; subst e3; exact ⟨h1, h2⟩)
  have HI := hid h
  have HR := hid hR
  have HM := hid (And.intro hM o2)
  clear h hR hM o2
  go_enter Tryz.func25, Tryz.ntmps25
  go_wp2
  generalize hW : w.alloc (.cells #[.int .i64 0, .slice A D c, .slice B m c2] 52) = W
  have X := hid (show Ext (fun _ => False) w W from hW ▸ (Ext.refl (fun _ => False) w).alloc _)
  have bM := hid (show W.heap[w.heap.size]? = some (.cells #[.int .i64 0, .slice A D c, .slice B m c2] 52 (0, 0)) from hW ▸ heap_alloc_new w _)
  have IW := hid (HI.out.ext X.out (fun h => h))
  clear hW p0 p1 p3 p4 p5 pf
  obtain ⟨q0, q1, q3, q4, q5, qf, hibW⟩ := cellsI IW.out
  have e0 := cell_of bM.out 0
  have e1 := cell_of bM.out 1
  have e2 := cell_of bM.out 2
  have hwW := lt_of_blk bM.out
  go_region_held3 (fun w' => w'.cell? ⟨ib, 0, none⟩ = some (.int .i64 D) ∧ w'.cell? ⟨ib, 1, none⟩ = some (.int .i64 m) ∧ w'.cell? ⟨w.heap.size, 0, none⟩ = some (.int .i64 0) ∧ w'.cell? ⟨w.heap.size, 1, none⟩ = some (.slice A D c) ∧ w'.cell? ⟨w.heap.size, 2, none⟩ = some (.slice B m c2)) (go_keep)
    (first | (go_at_call 39; refine (fact_check _ D m A B c c2 hD hm (HR.out.ext X.out.drew (fun _ _ h => h)) HB.out.1 HB.out.2).mono ?_; rintro e w1 ⟨rfl, hx⟩; have X1 := hid (X.out.drew.trans hx); have b1 := hid (hx.blk (w := W.drew) bM.out (fun h => h)); have I1 := hid (HI.out.ext X1.out (fun h => h)); have g0 := cell_of b1.out 0; have g1 := cell_of b1.out 1; have g2 := cell_of b1.out 2; have hw1 := lt_of_blk b1.out; obtain ⟨r0, r1, r3, r4, r5, rf, hib1⟩ := cellsI I1.out; clear hx))
  clear q0 q1 q3 q4 q5 qf e0 e1 e2
  go_wp2
  have ne1 : ¬ ib = w.heap.size := by omega
  have ne2 : ¬ w.heap.size = ib := by omega
  go_region_law (first | (refine step_app w.heap.size (by rfl) (.tmp 42) (.tmp 45) 114 52 _ 3 56 (by rfl) Tryz.underlying114 info_fact rfl (by omega) (.slice none 0 0) 0 [] _ 1 _ (by rfl) (by rfl) (Own.nil _ _ _ _) O2.out.rd Y2.out ?hb ?hl ?_; (case hb => have := X2.out.size; simp; omega); (case hl => omega); intro v3 w3 hO3 hg3 hat3; simp only [Nat.zero_add, List.nil_append] at hO3; obtain ⟨A3, k3, rfl, _, _⟩ := hO3.form; have X3 := hid (X2.out.trans (Ext.of_grown (S := fun _ => False) hg3 (by simp [Value.ownBlock]))); have b3 := hid ((Ext.of_grown (S := fun _ => False) hg3 (by simp [Value.ownBlock])).blk b2.out (fun h => h)); have I3 := hid (HI.out.ext X3.out (fun h => h)); have i0 := cell_of b3.out 0; have i1 := cell_of b3.out 1; have i2 := cell_of b3.out 2; have hw3 := lt_of_blk b3.out; obtain ⟨t0, t1, t3, t4, t5, tf, hib3⟩ := cellsI I3.out; clear hO3 hg3 hat3) | (go_simp; go_wp2_with (go_at_call 40; refine (own_one _ w1.heap.size (.slice A D c) (.slice B m c2) D m (es D) mc (alloc_at _ _ (by simp)) (HR.out.ext (X1.out.drew.alloc _) (fun _ _ h => h)) (HM.out.1.ext (X1.out.drew.alloc _) (fun _ _ h => h)) (es_one D) HM.out.2 (by omega) (by omega)).mono ?_; rintro e w2 ⟨A2, k2, y2, rfl, hO2, hy2, hb2⟩; have X2 := hid ((X1.out.drew.alloc _).trans (Ext.of_below hb2)); have b2 := hid (((Ext.refl (fun _ => False) w1).drew.alloc _ |>.trans (Ext.of_below hb2)).blk b1.out (fun h => h)); have I2 := hid (HI.out.ext X2.out (fun h => h)); have h0 := cell_of b2.out 0; have h1 := cell_of b2.out 1; have h2 := cell_of b2.out 2; have hw2 := lt_of_blk b2.out; obtain ⟨s0, s1, s3, s4, s5, sf, hib2⟩ := cellsI I2.out; have O2 := hid hO2; have Y2 := hid hy2; clear hO2 hy2 hb2)))
  all_goals
    go_wp2
    go_ret
    refine ⟨.slice A3 1 k3, rfl, ⟨?_⟩, ?_⟩
    · simpa using blk_set (blk_set (blk_set I3.out.blk 4 (.slice A3 1 k3)) 5 (.int .i64 1)) 3 (.int .u64 2)
    · exact (((X3.out.mono (S' := (· = ib)) (fun _ _ h => h.elim)).setCell (p := ⟨ib, 4, none⟩) (fun _ => rfl) _).setCell (p := ⟨ib, 5, none⟩) (fun _ => rfl) _).setCell (p := ⟨ib, 3, none⟩) (fun _ => rfl) _
end Go.Proofs.YtcljpmknandlhaaGreatDoor
