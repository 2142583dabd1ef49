/- An intake takes a fact that is early, or the next one. -/
import Derived.Test.YtcljpmknandlhaaGreatDoorProg
import Derived.Test.YtcljpmknandlhaaGreatDoorRCheck
import Derived.Test.YtcljpmknandlhaaGreatDoorRCalls
import Derived.Test.YtcljpmknandlhaaGreatDoorApp
import Derived.Deep.RegionHeld3
import Derived.BigQuiet
namespace Go.Proofs.YtcljpmknandlhaaGreatDoor
open Go Go.RowKit
set_option linter.unusedVariables false
set_option linter.unusedSimpArgs false
set_option maxRecDepth 100000
theorem info_i64 : (Tryz.prog.info? 2).map (fun i => (i.zero, i.size, i.bytes)) = some (some (.int .i64 0), 1, 8) := by kernel_rfl
theorem info_fact : (Tryz.prog.info? 52).map (fun i => (i.zero, i.size, i.bytes)) = some (some (.agg #[.int .i64 0, .slice none 0 0, .slice none 0 0]), 3, 56) := by kernel_rfl
def ClonePost (w : World) (e : Ending) (w' : World) : Prop := ∃ A n c, e = .returned (.slice A n c) ∧ Ext (fun _ => False) w w'
theorem clone_strs (w : World) (v : Value) (n : Nat) (cs : List Value) (hR : Rd w v n 1 cs) (h1 : Ones cs) (hl : n ≤ 1000000) :
    Calls Tryz.prog 71 #[v] w (ClonePost w) := by
  obtain ⟨hlen, A, c, rfl, hnc, hcm, hcell⟩ := id hR
  have HR := hid hR
  have hnil := fun w => Lib.run_eql_slice_nil (P := Tryz.prog) w 49 9 A n c 0 0 Tryz.underlying49
  clear hR hcell hlen
  rcases A with _ | ad
  · go_enter Tryz.func71, Tryz.ntmps71
    go_wp2
    go_ret
    exact ⟨_, _, _, rfl, Ext.refl _ _⟩
  · go_enter Tryz.func71, Tryz.ntmps71
    go_wp2_with (at_builtin; refine wpList_app w.heap.size rfl (.tmp 5) (.tmp 6) 49 9 _ 1 16 rfl Tryz.underlying49 info_str rfl (by omega) (.slice (some ⟨w.heap.size, 0, none⟩) 0 0) 0 [] _ n cs rfl rfl (Own.empty w _ _) (HR.out.ext ((Ext.refl (fun _ => False) w).alloc _) (fun _ _ h => h)) h1 ?hb ?hl ?_; (case hb => simp); (case hl => omega); intro v1 w1 hown hg hat; obtain ⟨A1, c1, rfl, _, _⟩ := hown.form)
    go_ret
    exact ⟨_, _, _, rfl, Ext.of_below (((Below.refl w.heap.size w).alloc (Nat.le_refl _) _).grown hg (by simp) (fun k hk => by simp [Value.ownBlock] at hk; omega))⟩
theorem clone_ints (w : World) (v : Value) (n : Nat) (cs : List Value) (hR : Rd w v n 1 cs) (h1 : Ones cs) (hl : n ≤ 1000000) :
    Calls Tryz.prog 72 #[v] w (ClonePost w) := by
  obtain ⟨hlen, A, c, rfl, hnc, hcm, hcell⟩ := id hR
  have HR := hid hR
  have hnil := fun w => Lib.run_eql_slice_nil (P := Tryz.prog) w 50 2 A n c 0 0 Tryz.underlying50
  clear hR hcell hlen
  rcases A with _ | ad
  · go_enter Tryz.func72, Tryz.ntmps72
    go_wp2
    go_ret
    exact ⟨_, _, _, rfl, Ext.refl _ _⟩
  · go_enter Tryz.func72, Tryz.ntmps72
    go_wp2_with (at_builtin; refine wpList_app w.heap.size rfl (.tmp 5) (.tmp 6) 50 2 _ 1 8 rfl Tryz.underlying50 info_i64 rfl (by omega) (.slice (some ⟨w.heap.size, 0, none⟩) 0 0) 0 [] _ n cs rfl rfl (Own.empty w _ _) (HR.out.ext ((Ext.refl (fun _ => False) w).alloc _) (fun _ _ h => h)) h1 ?hb ?hl ?_; (case hb => simp); (case hl => omega); intro v1 w1 hown hg hat; obtain ⟨A1, c1, rfl, _, _⟩ := hown.form)
    go_ret
    exact ⟨_, _, _, rfl, Ext.of_below (((Below.refl w.heap.size w).alloc (Nat.le_refl _) _).grown hg (by simp) (fun k hk => by simp [Value.ownBlock] at hk; omega))⟩
def OwnPost (w : World) (e : Ending) (w' : World) : Prop := ∃ A c y, e = .returned (.slice A 1 c) ∧ Own w' w.heap.size 52 3 (.slice A 1 c) 1 y ∧ Ones y ∧ Below w.heap.size w w'
set_option maxHeartbeats 4000000 in
theorem own_one (w : World) (fb : Nat) (DV MV : Value) (n1 n2 : Nat) (c1 c2 : List Value) (hb : w.heap[fb]? = some (.cells #[.int .i64 0, DV, MV] 52 (0, 0))) (hD : Rd w DV n1 1 c1) (hM : Rd w MV n2 1 c2) (o1 : Ones c1) (o2 : Ones c2) (l1 : n1 ≤ 1000) (l2 : n2 ≤ 1000) :
    Calls Tryz.prog 40 #[.slice (some ⟨fb, 0, none⟩) 1 1] w (OwnPost w) := by
  obtain ⟨_, DA, dc, rfl, _, _, _⟩ := id hD
  obtain ⟨_, MA, mc, rfl, _, _, _⟩ := id hM
  have HD := hid (And.intro hD o1)
  have HM := hid (And.intro hM o2)
  have f0 := cell_of hb 0
  have f1 := cell_of hb 1
  have f2 := cell_of hb 2
  have hfb := lt_of_blk hb
  clear hD hM o1 o2 hb
  go_enter Tryz.func40, Tryz.ntmps40
  go_wp2
  refine wp_loop_rounds 2 ?_
  rw [rounds_succ]
  go_wp2
  generalize hW : w.alloc (.cells #[.int .i64 0, .slice DA n1 dc, .slice MA n2 mc] 52) = W
  have X := hid (show Ext (fun _ => False) w W from hW ▸ (Ext.refl (fun _ => False) w).alloc _)
  have bM := hid (show W.heap[w.heap.size]? = some (.cells #[.int .i64 0, .slice DA n1 dc, .slice MA n2 mc] 52 (0, 0)) from hW ▸ heap_alloc_new w _)
  clear hW f0 f1 f2
  have e0 := cell_of bM.out 0
  have e1 := cell_of bM.out 1
  have e2 := cell_of bM.out 2
  have hwW := lt_of_blk bM.out
  have tok1 := hid True.intro
  have tok2 := hid True.intro
  go_region_held3 (fun w' => w'.cell? ⟨w.heap.size, 0, none⟩ = some (.int .i64 0) ∧ w'.cell? ⟨w.heap.size, 1, none⟩ = some (.slice DA n1 dc) ∧ w'.cell? ⟨w.heap.size, 2, none⟩ = some (.slice MA n2 mc)) (go_keep)
    (first | (go_at_call 71; refine (clone_strs _ _ n1 c1 (HD.out.1.ext (X1.out) (fun _ _ h => h)) HD.out.2 (by omega)).mono ?_; rintro e w2 ⟨A2, k2, d2, rfl, hx⟩; have X2 := hid (X1.out.trans hx); have b2 := hid (hx.blk b1.out (fun h => h)); have h0 := cell_of b2.out 0; have h1 := cell_of b2.out 1; have h2 := cell_of b2.out 2; have hw2 := lt_of_blk b2.out; clear hx) | (go_at_call 72; refine (clone_ints _ _ n2 c2 (HM.out.1.ext (X1.out) (fun _ _ h => h)) HM.out.2 (by omega)).mono ?_; rintro e w2 ⟨A2, k2, d2, rfl, hx⟩; have X2 := hid (X1.out.trans hx); have b2 := hid (hx.blk b1.out (fun h => h)); have h0 := cell_of b2.out 0; have h1 := cell_of b2.out 1; have h2 := cell_of b2.out 2; have hw2 := lt_of_blk b2.out; clear hx) | (go_at_call 71; refine (clone_strs _ _ n1 c1 (HD.out.1.ext X.out.drew (fun _ _ h => h)) HD.out.2 (by omega)).mono ?_; rintro e w1 ⟨A1, k1, d1, rfl, hx⟩; have X1 := hid (X.out.drew.trans hx); have b1 := hid (hx.blk (w := W.drew) bM.out (fun h => h)); have g0 := cell_of b1.out 0; have g1 := cell_of b1.out 1; have g2 := cell_of b1.out 2; have hw1 := lt_of_blk b1.out; clear hx) | (go_at_call 72; refine (clone_ints _ _ n2 c2 (HM.out.1.ext X.out.drew (fun _ _ h => h)) HM.out.2 (by omega)).mono ?_; rintro e w1 ⟨A1, k1, d1, rfl, hx⟩; have X1 := hid (X.out.drew.trans hx); have b1 := hid (hx.blk (w := W.drew) bM.out (fun h => h)); have g0 := cell_of b1.out 0; have g1 := cell_of b1.out 1; have g2 := cell_of b1.out 2; have hw1 := lt_of_blk b1.out; clear hx) | (refine step_app w.heap.size (by rfl) (.tmp 12) (.tmp 22) 114 52 _ 3 56 (by rfl) Tryz.underlying114 info_fact rfl (by omega) (.slice none 0 0) 0 [] _ 1 _ (by rfl) (by rfl) (Own.nil _ _ _ _) (Rd_blk (alloc_at _ _ (by simp)) 3 rfl) ?h1 ?hb ?hl ?_; (case h1 => simp [Value.oneCell']); (case hb => have := X2.out.size; simp; omega); (case hl => omega); intro v3 w3 hO3 hg3 hat3; simp only [Nat.zero_add, List.nil_append] at hO3; obtain ⟨A3, k3, rfl, _, _⟩ := hO3.form; have X3 := hid (Ext.of_grown (S := fun _ => False) hg3 (by simp [Value.ownBlock])); have O3 := hid hO3; have b3 := X3.out.blk (blk_alloc b2.out _) (fun h => h); have i0 := cell_of b3 0; have i1 := cell_of b3 1; have i2 := cell_of b3 2; clear hO3 hg3 hat3 b3))
  all_goals
    go_wp2
    rw [rounds_succ]
    go_wp2
    go_ret
    have XZ := (X2.out.alloc _).trans X3.out
    exact ⟨A3, k3, _, rfl, O3.out, by simp [Ones, Value.oneCell'], XZ.below (Nat.le_refl _) (fun _ h => h.elim)⟩
end Go.Proofs.YtcljpmknandlhaaGreatDoor
