/- The reference's states: behind an election. -/
import Derived.Test.YthfmfiagmolmeaaGreatDoorProg
import Derived.Test.YthfmfiagmolmeaaGreatDoorRef14
import Derived.WalkSpells
namespace Go.Proofs.YthfmfiagmolmeaaGreatDoor
open Go Go.RowKit
set_option linter.unusedVariables false
set_option linter.unusedSimpArgs false
def ElectPost (ep te id : Int) (n k : Nat) (mc oc : List Value) (w : World) (e : Ending) (w' : World) : Prop :=
  ∃ M O, e = .returned (.tuple #[.agg #[.int .i64 ep, .int .i64 (te + 1), .int .i64 id, M, O], .int .i64 0]) ∧ Own w' w.heap.size 110 8 M n mc ∧ Own w' w.heap.size 34 1 O k oc ∧ Below w.heap.size w w'
set_option maxRecDepth 100000 in
set_option maxHeartbeats 1000000 in
theorem elect_any (w : World) (ep te ld id : Int) (M O : Value) (n k : Nat) (mc oc : List Value) (hM : Rd w M n 8 mc) (hO : Rd w O k 1 oc) (h1 : Ones mc) (h2 : Ones oc) (hn : n ≤ 1000000) (hk : k ≤ 1000000)
    (hid0 : 0 ≤ id) (ht0 : 0 ≤ te) (ht1 : te ≤ 1000000) :
    Calls Tryz.prog 328 #[.agg #[.int .i64 ep, .int .i64 te, .int .i64 ld, M, O], .int .i64 id] w (ElectPost ep te id n k mc oc w) := by
  have HM := hid hM
  have HO := hid hO
  have H1 := hid h1
  have H2 := hid h2
  clear hM hO h1 h2
  have hnl : ¬ id < 0 := by omega
  go_enter Tryz.func328, Tryz.ntmps328
  go_wp2_with (go_at_call 327; refine (copy_any _ ep te ld M O n k mc oc (HM.out.ext (((Ext.refl (fun _ => False) w).alloc _).alloc _) (fun _ _ h => h)) (HO.out.ext (((Ext.refl (fun _ => False) w).alloc _).alloc _) (fun _ _ h => h)) H1.out H2.out hn hk).mono ?_; rintro e w1 ⟨M1, O1, rfl, hm, ho, hb⟩; have X1 := Ext.of_below (S := fun _ => False) hb; have b1 := X1.blk (blk_alloc (alloc_at w (.cells #[.int .i64 ep, .int .i64 te, .int .i64 ld, M, O] 60) rfl) _) (fun h => h); have r1 := X1.blk (alloc_at (w.alloc (.cells #[.int .i64 ep, .int .i64 te, .int .i64 ld, M, O] 60)) (.cells #[.int .i64 0, .int .i64 0, .int .i64 0, .slice none 0 0, .slice none 0 0] 60) (show w.heap.size + 1 = _ by simp)) (fun h => h); obtain ⟨p0, p1, p2, p3, p4, pf⟩ := cells5 b1; obtain ⟨l0, l1, l2, l3, l4, lf⟩ := cells5 r1; have hz1 : w.heap.size + 1 < w1.heap.size := lt_of_blk r1; have hz0 : w.heap.size < w1.heap.size := (by omega); have B1 := hid b1; have R1 := hid r1; clear X1 b1 r1; obtain ⟨A1, k1, rfl, _, _⟩ := hm.form; obtain ⟨A2, k2, rfl, _, _⟩ := ho.form; have HM1 := hid hm; have HO1 := hid ho; have HB := hid hb; clear hm ho hb)
  have hE := ((((Ext.refl (fun _ => False) w).alloc (.cells #[.int .i64 ep, .int .i64 te, .int .i64 ld, M, O] 60)).alloc (.cells #[.int .i64 0, .int .i64 0, .int .i64 0, .slice none 0 0, .slice none 0 0] 60)).trans (Ext.of_below HB.out))
  have hb := (((((hE.setCell (p := ⟨w.heap.size + 1, 0, none⟩) (by simp) (.int .i64 ep)).setCell (p := ⟨w.heap.size + 1, 1, none⟩) (by simp) (.int .i64 (te + 1))).setCell (p := ⟨w.heap.size + 1, 2, none⟩) (by simp) (.int .i64 id)).setCell (p := ⟨w.heap.size + 1, 3, none⟩) (by simp) (.slice A1 n k1)).setCell (p := ⟨w.heap.size + 1, 4, none⟩) (by simp) (.slice A2 k k2)).alloc (.cells #[.int .i64 ep, .int .i64 (te + 1), .int .i64 id, .slice A1 n k1, .slice A2 k k2] 60)
  have hs := ((((((Ext.refl (fun b => b < w.heap.size + 2) w1).setCell (p := ⟨w.heap.size + 1, 0, none⟩) (by simp) (.int .i64 ep)).setCell (p := ⟨w.heap.size + 1, 1, none⟩) (by simp) (.int .i64 (te + 1))).setCell (p := ⟨w.heap.size + 1, 2, none⟩) (by simp) (.int .i64 id)).setCell (p := ⟨w.heap.size + 1, 3, none⟩) (by simp) (.slice A1 n k1)).setCell (p := ⟨w.heap.size + 1, 4, none⟩) (by simp) (.slice A2 k k2)).alloc (.cells #[.int .i64 ep, .int .i64 (te + 1), .int .i64 id, .slice A1 n k1, .slice A2 k k2] 60)
  refine bodyPost_ret (by simp [results, Tryz.results328, go_sem, l0, l1, l2, l3, l4, hz1, hz0]; rfl) rfl ?_
  exact ⟨_, _, rfl, (HM1.out.ext hs (fun b hb h => by have := (HM1.out.lt b hb).1; simp at this; omega)).mono (by simp; omega), (HO1.out.ext hs (fun b hb h => by have := (HO1.out.lt b hb).1; simp at this; omega)).mono (by simp; omega), hb.below (Nat.le_refl _) (fun _ h => h.elim)⟩
end Go.Proofs.YthfmfiagmolmeaaGreatDoor
