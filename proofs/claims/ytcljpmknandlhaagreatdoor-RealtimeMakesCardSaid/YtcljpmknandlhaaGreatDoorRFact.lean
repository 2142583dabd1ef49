/- A fact of a small setup, out of the fact of zeros. -/
import Derived.Test.YtcljpmknandlhaaGreatDoorProg
import Derived.Test.YtcljpmknandlhaaGreatDoorRRefNew
import Derived.WalkSpells
namespace Go.Proofs.YtcljpmknandlhaaGreatDoor
open Go Go.RowKit
set_option linter.unusedVariables false
set_option linter.unusedSimpArgs false
set_option maxRecDepth 100000
/-- empty texts -/
def es (k : Nat) : List Value := List.replicate k (.string ⟨#[]⟩)
theorem es_one (k : Nat) : Ones (es k) := by intro u hu; obtain ⟨_, rfl⟩ := List.mem_replicate.1 hu; rfl
theorem es_snoc (k : Nat) : es k ++ [Value.string ⟨#[]⟩] = es (k + 1) := List.replicate_append_replicate (n := k) (m := 1)
theorem info_str : (Tryz.prog.info? 9).map (fun i => (i.zero, i.size, i.bytes)) = some (some (.string ⟨#[]⟩), 1, 16) := by kernel_rfl
/-- The fact in the making. -/
structure MkF (w wr : World) (k : Nat) (O : Value) (D m S R L C P B T N : Int) : Prop where
  b0 : wr.heap[w.heap.size]? = some (.cells #[.int .i64 D, .int .i64 m, .int .i64 S, .int .i64 R, .int .i64 L, .int .i64 C, .int .i64 P, .int .i64 B, .int .i64 T, .int .i64 N] 25 (0, 0))
  b1 : wr.heap[w.heap.size + 1]? = some (.cells #[.int .i64 0, .slice none 0 0, .slice none 0 0] 52 (0, 0))
  b2 : wr.heap[w.heap.size + 2]? = some (.cells #[.int .i64 0, .slice none 0 0, .slice none 0 0] 52 (0, 0))
  b3 : wr.heap[w.heap.size + 3]? = some (.cells #[.int .i64 0] 2 (0, 0))
  b4 : wr.heap[w.heap.size + 4]? = some (.cells #[.int .i64 0, O, .slice (some ⟨w.heap.size + 3, 0, none⟩) 1 1] 52 (0, 0))
  own : Own wr (w.heap.size + 5) 9 1 O k (es k)
  ext : Ext (fun _ => False) w wr
def FactPost (D : Nat) (w : World) (e : Ending) (w' : World) : Prop :=
  ∃ A c g, e = .returned (.agg #[.int .i64 0, .slice A D c, .slice (some ⟨g, 0, none⟩) 1 1]) ∧ Own w' w.heap.size 9 1 (.slice A D c) D (es D) ∧ w'.heap[g]? = some (.cells #[.int .i64 0] 2 (0, 0)) ∧ w.heap.size ≤ g ∧ Below w.heap.size w w'
set_option maxHeartbeats 2000000 in
theorem fact_zero (w : World) (D : Nat) (m S R L C P B T N : Int) (hD : D ≤ 8) (hc : 10 ≤ C) (hc2 : C ≤ 29) :
    Calls Tryz.prog 16 #[.agg #[.int .i64 D, .int .i64 m, .int .i64 S, .int .i64 R, .int .i64 L, .int .i64 C, .int .i64 P, .int .i64 B, .int .i64 T, .int .i64 N], .agg #[.int .i64 0, .slice none 0 0, .slice none 0 0]] w (FactPost D w) := by
  go_enter Tryz.func16, Tryz.ntmps16
  go_wp2
  go_loopw [7] (fun i wr => ∃ k : Nat, ∃ O, k ≤ D ∧ i = .int .i64 k ∧ Hid (MkF w wr k O D m S R L C P B T N)) (fun i _ => D - (intOf i).toNat)
  case atStart => exact ⟨0, _, by omega, rfl, ⟨blk_alloc (blk_alloc (blk_alloc (blk_alloc (alloc_at w _ rfl) _) _) _) _, blk_alloc (blk_alloc (blk_alloc (alloc_at _ _ (by simp)) _) _) _, blk_alloc (blk_alloc (alloc_at _ _ (by simp)) _) _, blk_alloc (alloc_at _ _ (by simp)) _, alloc_at _ _ (by simp), Own.nil _ _ _ _, (((((Ext.refl _ w).alloc _).alloc _).alloc _).alloc _).alloc _⟩⟩
  case round =>
    obtain ⟨k, O, hk, rfl, H⟩ := hrel
    obtain ⟨A, c, rfl, _, _⟩ := H.out.own.form
    have hz4 : w.heap.size + 4 < wr.heap.size := lt_of_blk H.out.b4
    have hz0 : w.heap.size < wr.heap.size := by omega
    have hz1 : w.heap.size + 1 < wr.heap.size := by omega
    have hz2 : w.heap.size + 2 < wr.heap.size := by omega
    have p0 := cell_of H.out.b0 0
    have q0 := cell_of H.out.b1 0
    have q1 := cell_of H.out.b1 1
    have q2 := cell_of H.out.b1 2
    have r0 := cell_of H.out.b2 0
    have r1 := cell_of H.out.b2 1
    have r2 := cell_of H.out.b2 2
    have rf := free_of H.out.b2
    have l0 := cell_of H.out.b4 0
    have l1 := cell_of H.out.b4 1
    have l2 := cell_of H.out.b4 2
    have lf := free_of H.out.b4
    have hk0 : ¬ ((k : Int) < 0) := by omega
    by_cases hlt : k < D
    · go_wp2_with (at_builtin; refine wpList_app (w.heap.size + 5) rfl (.tmp 60) (.tmp 62) 49 9 _ 1 16 rfl Tryz.underlying49 info_str rfl (by omega) (.slice A k c) k (es k) _ 1 [.string ⟨#[]⟩] rfl rfl (H.out.own.alloc _) (Rd_box _ _ _) (es_one 1) ?hb ?hl ?_; (case hb => simp; omega); (case hl => omega); intro v1 w1 hO1 hg1 hat1; obtain ⟨A1, c1, rfl, _, _⟩ := hO1.form; have X1 := hid ((((Ext.refl (fun b => w.heap.size + 5 ≤ b) wr).alloc (.cells #[.string ⟨#[]⟩] 9)).trans (Ext.of_grown (S := fun b => w.heap.size + 5 ≤ b) hg1 (fun b hb _ => (H.out.own.lt b hb).1)))); have b0 := X1.out.blk H.out.b0 (by omega); have b1 := X1.out.blk H.out.b1 (by omega); have b2 := X1.out.blk H.out.b2 (by omega); have b3 := X1.out.blk H.out.b3 (by omega); have b4 := X1.out.blk H.out.b4 (by omega); have m0 := cell_of b4 0; have m1 := cell_of b4 1; have m2 := cell_of b4 2; have mf := free_of b4; have B0 := hid b0; have B1 := hid b1; have B2 := hid b2; have B3 := hid b3; have B4 := hid b4; have O1 := hid hO1; clear b0 b1 b2 b3 b4 hO1 hg1 hat1)
      go_roundw
      case measure => simp [intOf]; omega
      case rel =>
        refine ⟨k + 1, .slice A1 (k + 1) c1, by omega, by go_num, ?_, ?_, ?_, ?_, ?_, ?_, ?_⟩
        · exact blk_set_other B0.out (by dsimp only; omega) _
        · exact blk_set_other B1.out (by dsimp only; omega) _
        · exact blk_set_other B2.out (by dsimp only; omega) _
        · exact blk_set_other B3.out (by dsimp only; omega) _
        · exact blk_set B4.out 1 _
        · exact (es_snoc k) ▸ O1.out.ext ((Ext.refl (fun b => b < w.heap.size + 5) w1).setCell (p := ⟨w.heap.size + 4, 1, none⟩) (by simp) _) (fun b hb h => by have := (O1.out.lt b hb).1; omega)
        · exact (H.out.ext.then_ X1.out (fun i hi h => by omega)).setCell (p := ⟨w.heap.size + 4, 1, none⟩) (by simp) _
    · have hkn : k = D := by omega
      subst hkn
      have hb := (((H.out.ext.setCell (p := ⟨w.heap.size + 2, 0, none⟩) (by simp) (.int .i64 0)).setCell (p := ⟨w.heap.size + 2, 1, none⟩) (by simp) (.slice A k c)).setCell (p := ⟨w.heap.size + 2, 2, none⟩) (by simp) (.slice (some ⟨w.heap.size + 3, 0, none⟩) 1 1))
      have hs := (((Ext.refl (fun b => b = w.heap.size + 2) wr).setCell (p := ⟨w.heap.size + 2, 0, none⟩) (fun _ => rfl) (.int .i64 0)).setCell (p := ⟨w.heap.size + 2, 1, none⟩) (fun _ => rfl) (.slice A k c)).setCell (p := ⟨w.heap.size + 2, 2, none⟩) (fun _ => rfl) (.slice (some ⟨w.heap.size + 3, 0, none⟩) 1 1)
      have HB := hid hb
      have HS := hid hs
      clear hb hs
      go_wp2
      refine bodyPost_ret (by simp [results, Tryz.results16, go_sem, r0, r1, r2, hz0, hz2]; rfl) rfl ?_
      exact ⟨A, c, w.heap.size + 3, rfl, (H.out.own.ext HS.out (fun b hb h => by have := (H.out.own.lt b hb).1; omega)).mono (by omega), HS.out.blk H.out.b3 (by omega), by omega, HB.out.below (Nat.le_refl _) (fun _ h => h.elim)⟩
end Go.Proofs.YtcljpmknandlhaaGreatDoor
