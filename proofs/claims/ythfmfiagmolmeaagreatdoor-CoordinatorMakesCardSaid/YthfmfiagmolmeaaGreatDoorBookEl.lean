/- The reference's book: an election. -/
import Derived.Test.YthfmfiagmolmeaaGreatDoorProg
import Derived.Test.YthfmfiagmolmeaaGreatDoorBook
import Derived.WalkSpells
namespace Go.Proofs.YthfmfiagmolmeaaGreatDoor
open Go Go.RowKit
set_option linter.unusedVariables false
set_option linter.unusedSimpArgs false
def BookElPost (bb : Nat) (ep te id : Int) (calls : Int) (n k : Nat) (mc oc : List Value) (w : World) (e : Ending) (w' : World) : Prop :=
  ∃ M1 O1 A1 c1 A2 c2, e = .returned (.tuple #[.agg #[.int .i64 ep, .int .i64 (te + 1), .int .i64 id, .slice A1 n c1, .slice A2 k c2], .int .i64 0]) ∧ Own w' w.heap.size 110 8 (.slice A1 n c1) n mc ∧ Own w' w.heap.size 34 1 (.slice A2 k c2) k oc ∧
    BookAt w' bb ep (te + 1) id M1 O1 (calls + 1) n k mc oc ∧ (∀ b, At M1 b → w.heap.size ≤ b) ∧ (∀ b, At O1 b → w.heap.size ≤ b) ∧ Ext (· = bb) w w'
set_option maxRecDepth 100000 in
set_option maxHeartbeats 1000000 in
theorem bookel_any (w : World) (bb : Nat) (ep te ld id : Int) (M O : Value) (calls : Int) (n k : Nat) (mc oc : List Value) (h : BookAt w bb ep te ld M O calls n k mc oc) (h0 : 0 ≤ calls) (h1 : calls ≤ 1000) (o1 : Ones mc) (o2 : Ones oc) (hn : n ≤ 1000000) (hk : k ≤ 1000000)
    (hid0 : 0 ≤ id) (ht0 : 0 ≤ te) (ht1 : te ≤ 1000000) :
    Calls Tryz.prog 323 #[.pointer (some ⟨bb, 0, none⟩), .int .i64 id] w (BookElPost bb ep te id calls n k mc oc w) := by
  have H := hid h
  have O1 := hid o1
  have O2 := hid o2
  have hbb : bb < w.heap.size := lt_of_blk h.blk
  clear h o1 o2
  go_enter Tryz.func323, Tryz.ntmps323
  go_wp2_with (first | (go_at_call 325; refine (way_any _ bb ep te ld M O calls n k mc oc (H.out.ext ((Ext.refl (fun _ => False) w).alloc _) (fun h => h) (fun _ _ h => h) (fun _ _ h => h)) h0 h1).mono ?_; rintro e w1 ⟨rfl, hB1, hX1⟩; obtain ⟨p0, p1, p2, p3, p4, p5, p6, p7, p8, pf⟩ := cells9 hB1.blk; have r1 := hX1.blk (alloc_at w (.cells #[.int .i64 0, .int .i64 0, .int .i64 0, .slice none 0 0, .slice none 0 0] 60) rfl) (show ¬ w.heap.size = bb by omega); have R1 := hid r1; have B1 := hid hB1; have X1 := hid hX1; have hz1 : w.heap.size < w1.heap.size := lt_of_blk r1; have hw1 : bb < w1.heap.size := lt_of_blk hB1.blk; clear r1 hB1 hX1) | (go_at_call 328; refine (elect_any _ ep te ld id M O n k mc oc B1.out.rdM B1.out.rdO O1.out O2.out hn hk hid0 ht0 ht1).mono ?_; rintro e w2 ⟨M1, O1, rfl, hm, ho, hb⟩; obtain ⟨A1, k1, rfl, _, _⟩ := hm.form; obtain ⟨A2, k2, rfl, _, _⟩ := ho.form; have X2 := Ext.of_below (S := fun _ => False) hb; have r2 := X2.blk R1.out (fun h => h); obtain ⟨l0, l1, l2, l3, l4, lf⟩ := cells5 r2; have b2 := X2.blk B1.out.blk (fun h => h); obtain ⟨q0, q1, q2, q3, q4, q5, q6, q7, q8, qf⟩ := cells9 b2; have R2 := hid r2; have BB2 := hid b2; have XX2 := hid X2; have M2 := hid hm; have N2 := hid ho; have hz2 : w.heap.size < w2.heap.size := lt_of_blk r2; have hw2 : bb < w2.heap.size := lt_of_blk b2; clear hm ho hb X2 r2 b2) | (go_at_call 327; have X3 := hid ((Ext.set5 (S := (· = bb)) w2 bb (.int .i64 ep) (.int .i64 (te + 1)) (.int .i64 id) (.slice A1 n k1) (.slice A2 k k2) (fun _ => rfl)).alloc (.cells #[.int .i64 ep, .int .i64 (te + 1), .int .i64 id, .slice A1 n k1, .slice A2 k k2] 60)); refine (copy_any _ ep (te + 1) id (.slice A1 n k1) (.slice A2 k k2) n k mc oc (M2.out.rd.ext X3.out (fun b hb e => by have := (M2.out.lt b hb).1; omega)) (N2.out.rd.ext X3.out (fun b hb e => by have := (N2.out.lt b hb).1; omega)) O1.out O2.out hn hk).mono ?_; rintro e w3 ⟨M3, O3, rfl, hm, ho, hb⟩; obtain ⟨A3, k3, rfl, _, _⟩ := hm.form; obtain ⟨A4, k4, rfl, _, _⟩ := ho.form; have X4 := hid (Ext.of_below (S := fun _ => False) hb); have r3 := X4.out.blk (X3.out.blk R2.out (show ¬ w.heap.size = bb by omega)) (fun h => h); obtain ⟨m0, m1, m2, m3, m4, mf⟩ := cells5 r3; have M3 := hid hm; have N3 := hid ho; have hz3 : w.heap.size < w3.heap.size := lt_of_blk r3; clear hm ho hb r3))
  have hE := hid ((((((Ext.refl (· = bb) w).alloc _).trans X1.out).then_ XX2.out (fun _ _ h => h.elim)).trans X3.out).then_ X4.out (fun _ _ h => h.elim))
  have hs := Ext.set5 (S := (· = w.heap.size)) w3 w.heap.size (.int .i64 ep) (.int .i64 (te + 1)) (.int .i64 id) (.slice A3 n k3) (.slice A4 k k4) (fun _ => rfl)
  have hw := Ext.set5 (S := (w.heap.size ≤ ·)) w3 w.heap.size (.int .i64 ep) (.int .i64 (te + 1)) (.int .i64 id) (.slice A3 n k3) (.slice A4 k k4) (fun _ => Nat.le_refl _)
  have hz12 : w1.heap.size ≤ w2.heap.size := XX2.out.size
  have hz23 : w2.heap.size ≤ w3.heap.size := Nat.le_trans X3.out.size X4.out.size
  have hM3 := (M2.out.ext X3.out (fun b hb e => by have := (M2.out.lt b hb).1; omega)).ext X4.out (fun _ _ h => h)
  have hN3 := (N2.out.ext X3.out (fun b hb e => by have := (N2.out.lt b hb).1; omega)).ext X4.out (fun _ _ h => h)
  have hblk := X4.out.blk (blk_alloc (blk_set (blk_set (blk_set (blk_set (blk_set BB2.out 0 (.int .i64 ep)) 1 (.int .i64 (te + 1))) 2 (.int .i64 id)) 3 (.slice A1 n k1)) 4 (.slice A2 k k2)) (.cells #[.int .i64 ep, .int .i64 (te + 1), .int .i64 id, .slice A1 n k1, .slice A2 k k2] 60)) (fun h => h)
  have hb3 : BookAt w3 bb ep (te + 1) id (.slice A1 n k1) (.slice A2 k k2) (calls + 1) n k mc oc := ⟨hblk, hM3.rd, hN3.rd, fun b hb => ⟨by have := (hM3.lt b hb).1; omega, (hM3.lt b hb).2⟩, fun b hb => ⟨by have := (hN3.lt b hb).1; omega, (hN3.lt b hb).2⟩⟩
  refine bodyPost_ret (by simp [results, Tryz.results323, go_sem, m0, m1, m2, m3, m4, hz3]; rfl) rfl ?_
  have hz4 := X3.out.size
  have g3 : ∀ b, At (.slice A3 n k3) b → w2.heap.size ≤ b := fun b hb => Nat.le_trans hz4 (M3.out.lt b hb).1
  have g4 : ∀ b, At (.slice A4 k k4) b → w2.heap.size ≤ b := fun b hb => Nat.le_trans hz4 (N3.out.lt b hb).1
  have hz5 : w.heap.size ≤ w2.heap.size := by omega
  refine ⟨.slice A1 n k1, .slice A2 k k2, A3, k3, A4, k4, rfl, (M3.out.ext hs (fun b hb h => by have := g3 b hb; omega)).mono (Nat.le_trans hz5 hz4), (N3.out.ext hs (fun b hb h => by have := g4 b hb; omega)).mono (Nat.le_trans hz5 hz4), ?_, fun b hb => by have := (hM3.lt b hb).1; omega, fun b hb => by have := (hN3.lt b hb).1; omega, hE.out.then_ hw (fun i hi h => by omega)⟩
  refine hb3.ext hs (by omega) (fun b hb => ?_) (fun b hb => ?_)
  · have := (hM3.lt b hb).1; omega
  · have := (hN3.lt b hb).1; omega
end Go.Proofs.YthfmfiagmolmeaaGreatDoor
