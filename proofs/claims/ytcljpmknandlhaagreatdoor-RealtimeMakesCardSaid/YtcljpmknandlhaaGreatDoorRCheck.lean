/- A fact of empty texts may be. -/
import Derived.Test.YtcljpmknandlhaaGreatDoorProg
import Derived.Test.YtcljpmknandlhaaGreatDoorRFact
import Derived.Test.YtcljpmknandlhaaGreatDoorRFits
import Derived.BigQuiet
namespace Go.Proofs.YtcljpmknandlhaaGreatDoor
open Go Go.RowKit
set_option linter.unusedVariables false
set_option linter.unusedSimpArgs false
set_option maxRecDepth 100000
theorem short_es (w : World) : Calls Tryz.prog 69 #[.string ⟨#[]⟩] w fun e w' => e = .returned (.bool false) ∧ w' = w := by
  go_enter Tryz.func69, Tryz.ntmps69
  go_wp2
  go_ret
  exact ⟨rfl, rfl⟩
theorem es_cell {w : World} {A : Option Addr} {n c : Nat} (h : Rd w (.slice A n c) n 1 (es n)) (k : Nat) (hk : k < n) : ∃ b o, A = some ⟨b, o, none⟩ ∧ b < w.heap.size ∧ w.cell? ⟨b, o + k, none⟩ = some (.string ⟨#[]⟩) := by
  obtain ⟨_, A', c', he, _, _, h4⟩ := h
  injection he with e1 e2 e3
  subst e1
  obtain ⟨b, o, rfl, hb, hc⟩ := h4 (by omega)
  exact ⟨b, o, rfl, hb, hc k _ (by simp [es, hk])⟩
set_option maxHeartbeats 1000000 in
theorem index_short (w : World) (V : Value) (n : Nat) (hR : Rd w V n 1 (es n)) (hn : n ≤ 1000) :
    Calls Tryz.prog 136 #[V, .func (.func 69) #[] #[]] w fun e w' => e = .returned (.int .i64 (-1)) ∧ w' = w := by
  obtain ⟨_, A, cc, rfl, hnc, hcm, _⟩ := id hR
  have HR := hid hR
  clear hR
  go_enter Tryz.func136, Tryz.ntmps136
  go_wp2
  go_loop [8] (fun i => ∃ k : Nat, k ≤ n ∧ i = .int .i64 k) (fun i => n - (intOf i).toNat)
  case atStart => exact ⟨0, by omega, rfl⟩
  case round =>
    obtain ⟨k, hk, rfl⟩ := hrel
    by_cases hlt : k < n
    · obtain ⟨b, o, rfl, hb, hc⟩ := es_cell HR.out k hlt
      go_wp2_with (go_at_call 69; refine (short_es _).mono ?_; rintro e w1 ⟨rfl, rfl⟩)
      go_round
      case measure => simp [intOf]; omega
      case rel => exact ⟨k + 1, by omega, by go_num⟩
    · go_wp2
      go_ret
      exact ⟨rfl, rfl⟩
theorem contains_short (w : World) (V : Value) (n : Nat) (hR : Rd w V n 1 (es n)) (hn : n ≤ 1000) :
    Calls Tryz.prog 70 #[V, .func (.func 69) #[] #[]] w fun e w' => e = .returned (.bool false) ∧ w' = w := by
  go_enter Tryz.func70, Tryz.ntmps70
  go_wp2_with (go_at_call 136; refine (index_short _ V n hR hn).mono ?_; rintro e w1 ⟨rfl, rfl⟩)
  go_ret
  exact ⟨rfl, rfl⟩
set_option maxHeartbeats 1000000 in
theorem fact_check (w : World) (D m : Nat) (A B : Option Addr) (c c2 : Nat) (hD : D ≤ 8) (hm : m ≤ 8) (hR : Rd w (.slice A D c) D 1 (es D)) (hmc : m ≤ c2) (hc2 : c2 ≤ 9223372036854775807) :
    Calls Tryz.prog 39 #[.agg #[.int .i64 D, .int .i64 m], .agg #[.int .i64 0, .slice A D c, .slice B m c2]] w fun e w' => e = .returned (.int .i64 0) ∧ Ext (fun _ => False) w w' := by
  have HR := hid hR
  have HF := hid (show errB (fineB D m) = 0 by unfold errB fineB; rw [decide_eq_true (by omega)]; rfl)
  clear hR
  go_enter Tryz.func39, Tryz.ntmps39
  go_wp2_with (first | (go_at_call 33; refine (fine_any _ D m).mono ?_; rintro e w1 ⟨rfl, hb⟩; rw [HF.out]; have X1 := hid (((((Ext.refl (fun _ => False) w).alloc (.cells #[.int .i64 D, .int .i64 m] 23)).alloc (.cells #[.int .i64 0, .slice A D c, .slice B m c2] 52))).trans (Ext.of_below hb)); have b0 := (Ext.of_below (S := fun _ => False) hb).blk (blk_alloc (alloc_at w (.cells #[.int .i64 D, .int .i64 m] 23) rfl) _) (fun h => h); have b1 := (Ext.of_below (S := fun _ => False) hb).blk (alloc_at (w.alloc (.cells #[.int .i64 D, .int .i64 m] 23)) (.cells #[.int .i64 0, .slice A D c, .slice B m c2] 52) (show w.heap.size + 1 = _ by simp)) (fun h => h); have s0 := cell_of b0 0; have s1 := cell_of b0 1; have f0 := cell_of b1 0; have f1 := cell_of b1 1; have f2 := cell_of b1 2; have hz0 := lt_of_blk b0; have hz1 := lt_of_blk b1; clear hb b0 b1) | (go_at_call 70; refine (contains_short _ _ D (HR.out.ext X1.out (fun _ _ h => h)) (by omega)).mono ?_; rintro e w2 ⟨rfl, rfl⟩))
  go_ret
  exact ⟨rfl, X1.out⟩
end Go.Proofs.YtcljpmknandlhaaGreatDoor
