/- The law's own first steps: a node, two orders, a question. -/
import Derived.Test.YtdfmfjkcgbjgbaaGreatDoorProg
import Derived.Test.YtdfmfjkcgbjgbaaGreatDoorHNew
import Derived.Test.YtdfmfjkcgbjgbaaGreatDoorHHandle
import Derived.Test.YtdfmfjkcgbjgbaaGreatDoorHAsk
import Derived.Test.YtdfmfjkcgbjgbaaGreatDoorSetup
import Derived.Deep.RegionHeld3
import Derived.Deep.CutRange
namespace Go.Proofs.YtdfmfjkcgbjgbaaGreatDoor
open Go Go.RowKit
set_option linter.unusedVariables false
set_option linter.unusedSimpArgs false
set_option maxRecDepth 100000
theorem term_at (w : World) (nb sb mb : Nat) (s : Su) (id term : Int) (O : Value) (h : NodeH w nb sb mb s id term O) :
    Calls Tryz.prog 10 #[.pointer (some ⟨nb, 0, none⟩)] w fun e w' => e = .returned (.int .i64 term) ∧ w' = w := by
  obtain ⟨p10, p12, p13, p14, p17, pf, hnb⟩ := cells18 h
  clear h
  go_enter Tryz.func10, Tryz.ntmps10
  go_wp2
  go_ret
  exact ⟨rfl, rfl⟩
theorem waiting_at (w : World) (nb sb mb : Nat) (s : Su) (id term : Int) (A : Option Addr) (n c : Nat) (h : NodeH w nb sb mb s id term (.slice A n c)) :
    Calls Tryz.prog 11 #[.pointer (some ⟨nb, 0, none⟩)] w fun e w' => e = .returned (.int .i64 n) ∧ w' = w := by
  obtain ⟨p10, p12, p13, p14, p17, pf, hnb⟩ := cells18 h
  clear h
  go_enter Tryz.func11, Tryz.ntmps11
  go_wp2
  go_ret
  exact ⟨rfl, rfl⟩
theorem term_no (w : World) :
    Calls Tryz.prog 10 #[.pointer none] w fun e w' => e = .returned (.int .i64 0) ∧ w' = w := by
  go_enter Tryz.func10, Tryz.ntmps10
  go_wp2
  go_ret
  exact ⟨rfl, rfl⟩
theorem waiting_no (w : World) :
    Calls Tryz.prog 11 #[.pointer none] w fun e w' => e = .returned (.int .i64 0) ∧ w' = w := by
  go_enter Tryz.func11, Tryz.ntmps11
  go_wp2
  go_ret
  exact ⟨rfl, rfl⟩
theorem fit_small {D S R L C P B T N : Int} (h : Small D S R L C P B T N) : (Su.mk D 1 S R L C P B T N).fit = true := by
  obtain ⟨⟩ := h
  show fitB D 1 S R L C P B T N = true
  rw [fit_iff]
  refine ⟨?_, by omega⟩
  unfold fineB
  simp
  omega
theorem small_fine {D S R L C P B T N : Int} (h : Small D S R L C P B T N) : fineB D 1 = true := by
  obtain ⟨⟩ := h
  unfold fineB
  simp
  omega
set_option maxHeartbeats 4000000 in
theorem awake_any (w : World) : Calls Tryz.prog 5 #[] w fun e w' => e = .returned (.bool true) ∧ Below w.heap.size w w' := by
  have hi : I64 0 := by unfold I64; omega
  have HI := hid hi
  clear hi
  have tok1 := hid True.intro
  have tok2 := hid True.intro
  go_enter Tryz.func5, Tryz.ntmps5
  go_upto_region 2 with (first | (go_at_call 6; refine (setup_any _ 0 0 0 0 0 0 0 0 0 0 ⟨HI.out, HI.out, HI.out, HI.out, HI.out, HI.out, HI.out, HI.out, HI.out⟩).mono ?_; rintro e w1 ⟨D, S, R, L, C, P, B, T, N, rfl, hsm, hL, hB1⟩; have SM := hid hsm; have FT := hid (fit_small hsm); have r1 : 1 ≤ R := hsm.R1; have BB1 := hid hB1; unfold sval; clear hL hsm hB1))
  generalize hW : w1.alloc (.cells #[.int .i64 D, .int .i64 1, .int .i64 S, .int .i64 R, .int .i64 L, .int .i64 C, .int .i64 P, .int .i64 B, .int .i64 T, .int .i64 N] 25) = W
  have X1 := hid (show Ext (fun _ => False) w W from hW ▸ (Ext.of_below BB1.out).alloc _)
  have SB := hid (show W.heap[w1.heap.size]? = some (.cells #[.int .i64 D, .int .i64 1, .int .i64 S, .int .i64 R, .int .i64 L, .int .i64 C, .int .i64 P, .int .i64 B, .int .i64 T, .int .i64 N] 25 (0, 0)) from hW ▸ heap_alloc_new w1 _)
  have hzW : W.heap.size = w1.heap.size + 1 := by rw [← hW]; simp
  have HZ := hid hzW
  have hsw : w1.heap.size < W.heap.size := by omega
  clear hW hzW
  obtain ⟨a0, a1, a2, a3, a4, a5, a6, a7, a8, a9⟩ := cells10 SB.out
  go_region_held3 (fun w' => w'.cell? ⟨w1.heap.size, 0, none⟩ = some (.int .i64 D) ∧ w'.cell? ⟨w1.heap.size, 1, none⟩ = some (.int .i64 1) ∧ w'.cell? ⟨w1.heap.size, 2, none⟩ = some (.int .i64 S) ∧ w'.cell? ⟨w1.heap.size, 3, none⟩ = some (.int .i64 R) ∧ w'.cell? ⟨w1.heap.size, 4, none⟩ = some (.int .i64 L) ∧ w'.cell? ⟨w1.heap.size, 5, none⟩ = some (.int .i64 C) ∧ w'.cell? ⟨w1.heap.size, 6, none⟩ = some (.int .i64 P) ∧ w'.cell? ⟨w1.heap.size, 7, none⟩ = some (.int .i64 B) ∧ w'.cell? ⟨w1.heap.size, 8, none⟩ = some (.int .i64 T) ∧ w'.cell? ⟨w1.heap.size, 9, none⟩ = some (.int .i64 N)) (go_keep)
    (first | (go_at_call 8; refine (disk_new _).mono ?_; rintro e w2 ⟨rfl, rfl⟩) | (go_at_call 7; refine (new_yes _ 21 ⟨D, 1, S, R, L, C, P, B, T, N⟩ (W.heap.size + 1) W.heap.size ?hD FT.out (by omega) (by show (21 : Int) < 21 + R; omega)).mono ?_; (case hD => first | exact disk_made | exact disk_made.grow (Ext.refl _ _).drew); rintro e w3 ⟨nb, sb, mb, rfl, hN, hn1, hn2, hb⟩; have N3 := hid hN; have X3 := hid ((((Ext.refl (fun _ => False) W).alloc _).alloc _).drew.trans (Ext.of_below hb)); have s3 := hid (X3.out.blk SB.out (fun h => h)); obtain ⟨d0, d1, d2, d3, d4, d5, d6, d7, d8, d9⟩ := cells10 s3.out; have G3 := hid (And.intro hn1 hn2); clear hb hN hn1 hn2))
  clear a0 a1 a2 a3 a4 a5 a6 a7 a8 a9 d0 d1 d2 d3 d4 d5 d6 d7 d8 d9
  have G := hid (show w.heap.size ≤ nb ∧ w.heap.size ≤ mb by have := G3.out; have := X1.out.size; simp at *; omega)
  have XW := hid (X1.out.trans X3.out)
  go_wp2_with (first | (go_at_call 9; clear tok1; refine (handle_take _ nb sb mb ⟨D, 1, S, R, L, C, P, B, T, N⟩ 21 0 (.slice none 0 0) w3.heap.size 0 [] 2 false 0 10 0 0 0 (N3.out.grow ((Ext.refl (fun _ => False) w3).alloc _)) (Own.nil _ _ _ _) (by simp) (by omega) (by omega) (by intro b hb; cases hb) (by intro u hu; cases hu) (fun Z _ => contains_nil Z false 0 10 0 0 0 21)).mono ?_; rintro e w5 ⟨A5, c5, rfl, hN5, hO5, hat5, hx5⟩; have N5 := hid hN5; have X5 := hid ((((Ext.refl (fun _ => False) w3).alloc _).mono (S' := (· = nb)) (fun _ _ h => h.elim)).trans (hx5.mono (S' := (· = nb)) (fun k _ h => by rcases h with h | h; exact h; cases h))); clear hN5 hO5 hat5 hx5) | (go_at_call 9; clear tok2; refine (handle_skip _ nb sb mb ⟨D, 1, S, R, L, C, P, B, T, N⟩ 21 2 (.slice A5 1 c5) 1 true 0 0 0 0 0 21 N5.out (.inl (by omega))).mono ?_; rintro e w6 ⟨rfl, hx⟩; have N6 := hid (N5.out.grow hx); have X6 := hid hx; clear hx) | (go_at_call 9; refine (handle_ask _ nb sb mb (w6.heap.size + 1) ⟨D, 1, S, R, L, C, P, B, T, N⟩ 2 (.slice A5 1 c5) (N6.out.grow (((Ext.refl (fun _ => False) w6).alloc _).alloc _)) ⟨_, cell_of (alloc_at _ _ (by simp)) 0⟩ (small_fine SM.out)).mono ?_; rintro e w7 ⟨rb, rfl, hP, hx⟩; have X7 := hid ((((Ext.refl (fun _ => False) w6).alloc _).alloc _).trans hx); have N7 := hid (N6.out.grow X7.out); have k2 := cell_of hP 2; have k4 := cell_of hP 4; have k8 := cell_of hP 8; have hz7 := lt_of_blk hP; clear hP hx) | (go_at_call 10; refine (term_at _ nb sb mb _ 21 2 _ N7.out).mono ?_; rintro e w8 ⟨rfl, rfl⟩) | (go_at_call 11; refine (waiting_at _ nb sb mb _ 21 2 A5 1 c5 N7.out).mono ?_; rintro e w8 ⟨rfl, rfl⟩))
  go_ret
  refine ⟨rfl, ?_⟩
  exact ((((XW.out.mono (S' := (w.heap.size ≤ ·)) (fun _ _ h => h.elim)).then_ X5.out (fun i _ h => by have := G.out; omega)).then_ X6.out (fun _ _ h => h.elim)).then_ X7.out (fun _ _ h => h.elim)).below (Nat.le_refl _) (fun _ h => h)
end Go.Proofs.YtdfmfjkcgbjgbaaGreatDoor
