/- The reference's states: copied, new, behind an election. -/
import Derived.Test.YtcljpmknandlhaaGreatDoorProg
import Derived.Test.YtcljpmknandlhaaGreatDoorBase
import Derived.WalkSpells
namespace Go.Proofs.YtcljpmknandlhaaGreatDoor
open Go Go.RowKit
set_option linter.unusedVariables false
theorem gcell {W w1 : World} {row : Option Nat} (hg : W.grownBy w1 row) (hr : row = none) : (∀ b o, b < W.heap.size → w1.cell? ⟨b, o, none⟩ = W.cell? ⟨b, o, none⟩) ∧ (∀ b o, b < W.heap.size → w1.frozen? ⟨b, o, none⟩ = W.frozen? ⟨b, o, none⟩) ∧ W.heap.size ≤ w1.heap.size ∧ Below W.heap.size W w1 := by
  subst hr
  have hb : Below W.heap.size W w1 := ⟨hg.os, hg.tape, hg.output, hg.size, fun k hk => hg.block k hk (by simp)⟩
  exact ⟨fun b o h => hb.cell (p := ⟨b, o, none⟩) h, fun b o h => hb.frozen (p := ⟨b, o, none⟩) h, hg.size, hb⟩
theorem cells5 {w : World} {b : Nat} {a0 a1 a2 a3 a4 : Value} {T : TypeId} (h : w.heap[b]? = some (.cells #[a0, a1, a2, a3, a4] T (0, 0))) :
    w.cell? ⟨b, 0, none⟩ = some a0 ∧ w.cell? ⟨b, 1, none⟩ = some a1 ∧ w.cell? ⟨b, 2, none⟩ = some a2 ∧ w.cell? ⟨b, 3, none⟩ = some a3 ∧ w.cell? ⟨b, 4, none⟩ = some a4 ∧ (∀ i, w.frozen? ⟨b, i, none⟩ = false) :=
  ⟨cell_of h 0, cell_of h 1, cell_of h 2, cell_of h 3, cell_of h 4, free_of h⟩
theorem info_meta : (Tryz.prog.info? 96).map (fun i => (i.zero, i.size, i.bytes)) = some (some (.agg #[.int .i64 0, .int .i64 0, .int .i64 0, .int .i64 0, .int .i64 0, .string ⟨#[]⟩, .int .u32 0, .int .i64 0]), 8, 72) := by kernel_rfl
theorem info_u64 : (Tryz.prog.info? 37).map (fun i => (i.zero, i.size, i.bytes)) = some (some (.int .u64 0), 1, 8) := by kernel_rfl
def Ones (l : List Value) : Prop := ∀ u ∈ l, u.oneCell' = true

def CopyPost (ep te ld : Int) (n k : Nat) (mc oc : List Value) (w : World) (e : Ending) (w' : World) : Prop :=
  ∃ M O, e = .returned (.agg #[.int .i64 ep, .int .i64 te, .int .i64 ld, M, O]) ∧ Own w' w.heap.size 96 8 M n mc ∧ Own w' w.heap.size 37 1 O k oc ∧ Below w.heap.size w w'
set_option maxRecDepth 100000 in
set_option maxHeartbeats 1000000 in
theorem copy_any (w : World) (ep te ld : Int) (M O : Value) (n k : Nat) (mc oc : List Value) (hM : Rd w M n 8 mc) (hO : Rd w O k 1 oc) (h1 : Ones mc) (h2 : Ones oc) (hn : n ≤ 1000000) (hk : k ≤ 1000000) :
    Calls Tryz.prog 365 #[.agg #[.int .i64 ep, .int .i64 te, .int .i64 ld, M, O]] w (CopyPost ep te ld n k mc oc w) := by
  have HM := hid hM
  have HO := hid hO
  clear hM hO
  go_enter Tryz.func365, Tryz.ntmps365
  go_wp2_with (first | (at_builtin; refine wpList_app (w.heap.size + 2) rfl (.tmp 5) (.tmp 7) 30 96 _ 8 72 rfl Tryz.underlying30 info_meta rfl (by omega) (.slice none 0 0) 0 [] M n mc rfl rfl (Own.nil _ _ _ _) (HM.out.ext (((Ext.refl (fun _ => False) w).alloc _).alloc _) (fun _ _ h => h)) h1 ?hb ?hl ?_; (case hb => simp); (case hl => omega); intro v1 w1 hO1 hg1 hat1; simp only [Nat.zero_add, List.nil_append] at hO1; obtain ⟨A1, c1, rfl, _, _⟩ := hO1.form; have X1 := Ext.of_grown (S := fun _ => False) hg1 (by simp [Value.ownBlock]); have E1 := hid ((((Ext.refl (fun _ => False) w).alloc _).alloc _).trans X1); have b1 := X1.blk (blk_alloc (alloc_at w (.cells #[.int .i64 ep, .int .i64 te, .int .i64 ld, M, O] 32) rfl) _) (fun h => h); have r1 := X1.blk (alloc_at (w.alloc (.cells #[.int .i64 ep, .int .i64 te, .int .i64 ld, M, O] 32)) (.cells #[.int .i64 0, .int .i64 0, .int .i64 0, .slice none 0 0, .slice none 0 0] 32) (show w.heap.size + 1 = _ by simp)) (fun h => h); obtain ⟨p0, p1, p2, p3, p4, pf⟩ := cells5 b1; have hz1 : w.heap.size + 1 < w1.heap.size := lt_of_blk r1; have B1 := hid b1; have R1 := hid r1; have O1 := hid hO1; clear hg1 hat1 X1 b1 r1 hO1) | (at_builtin; go_must (refine wpList_app (w.heap.size + 2) rfl (.tmp 10) (.tmp 12) 26 37 _ 1 8 rfl Tryz.underlying26 info_u64 rfl (by omega) (.slice none 0 0) 0 [] O k oc rfl rfl (Own.nil _ _ _ _) (HO.out.ext (E1.out.setCell (p := ⟨w.heap.size, 3, none⟩) (by simp) _) (fun _ _ h => h)) h2 ?hb ?hl ?_); (case hb => simp; omega); (case hl => omega); intro v2 w2 hO2 hg2 hat2; simp only [Nat.zero_add, List.nil_append] at hO2; obtain ⟨A2, c2, rfl, _, _⟩ := hO2.form; have X2 := Ext.of_grown (S := fun _ => False) hg2 (by simp [Value.ownBlock]); have E2 := hid ((E1.out.setCell (p := ⟨w.heap.size, 3, none⟩) (by simp) _).trans X2); have b2 := X2.blk (blk_set B1.out 3 (Value.slice A1 n c1)) (fun h => h); have r2 := X2.blk (blk_set_other R1.out (a := ⟨w.heap.size, 3, none⟩) (by simp) (Value.slice A1 n c1)) (fun h => h); have hO1' := (O1.out.ext (((Ext.refl (· = w.heap.size) w1).setCell (p := ⟨w.heap.size, 3, none⟩) (fun _ => rfl) (Value.slice A1 n c1)).then_ X2 (fun _ _ h => h.elim)) (fun b hb h => by have := (O1.out.lt b hb).1; omega)); obtain ⟨k0, k1, k2, k3, k4, kf⟩ := cells5 (show w2.heap[w.heap.size]? = some (.cells #[.int .i64 ep, .int .i64 te, .int .i64 ld, .slice A1 n c1, O] 32 (0, 0)) from b2); have hz2 : w.heap.size + 1 < w2.heap.size := lt_of_blk r2; obtain ⟨l0, l1, l2, l3, l4, lf⟩ := cells5 r2; have R2 := hid r2; have O1' := hid hO1'; have O2 := hid hO2; clear hg2 hat2 X2 b2 r2 hO1' hO2))
  have hb := (((((E2.out.setCell (p := ⟨w.heap.size, 4, none⟩) (by simp) (Value.slice A2 k c2)).setCell (p := ⟨w.heap.size + 1, 0, none⟩) (by simp) (.int .i64 ep)).setCell (p := ⟨w.heap.size + 1, 1, none⟩) (by simp) (.int .i64 te)).setCell (p := ⟨w.heap.size + 1, 2, none⟩) (by simp) (.int .i64 ld)).setCell (p := ⟨w.heap.size + 1, 3, none⟩) (by simp) (.slice A1 n c1)).setCell (p := ⟨w.heap.size + 1, 4, none⟩) (by simp) (.slice A2 k c2)
  have hs := ((((((Ext.refl (fun b => b < w.heap.size + 2) w2).setCell (p := ⟨w.heap.size, 4, none⟩) (by simp) (Value.slice A2 k c2)).setCell (p := ⟨w.heap.size + 1, 0, none⟩) (by simp) (.int .i64 ep)).setCell (p := ⟨w.heap.size + 1, 1, none⟩) (by simp) (.int .i64 te)).setCell (p := ⟨w.heap.size + 1, 2, none⟩) (by simp) (.int .i64 ld)).setCell (p := ⟨w.heap.size + 1, 3, none⟩) (by simp) (.slice A1 n c1)).setCell (p := ⟨w.heap.size + 1, 4, none⟩) (by simp) (.slice A2 k c2)
  refine bodyPost_ret (by simp [results, Tryz.results365, go_sem, l0, l1, l2, l3, l4]; rfl) rfl ?_
  exact ⟨_, _, rfl, (O1'.out.ext hs (fun b hb h => by have := (O1'.out.lt b hb).1; omega)).mono (by omega), (O2.out.ext hs (fun b hb h => by have := (O2.out.lt b hb).1; omega)).mono (by omega), hb.below (Nat.le_refl _) (fun _ h => h.elim)⟩
end Go.Proofs.YtcljpmknandlhaaGreatDoor
