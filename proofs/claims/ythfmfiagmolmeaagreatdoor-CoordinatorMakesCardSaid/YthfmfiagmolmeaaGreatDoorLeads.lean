/- Whether a node leads; what it does where it does not. -/
import Derived.Test.YthfmfiagmolmeaaGreatDoorProg
import Derived.Test.YthfmfiagmolmeaaGreatDoorCalls
import Derived.WalkSpells
import Derived.BigQuiet
import Derived.MapKept
import Derived.Laws.IdiomRangeMap
namespace Go.Proofs.YthfmfiagmolmeaaGreatDoor
open Go Go.RowKit
set_option linter.unusedVariables false
set_option linter.unusedSimpArgs false
set_option maxRecDepth 100000
theorem leads_zero (w : World) (nb vb ub : Nat) (s : Su) (id : Int) (b : Value) (h : NodeAt w nb vb ub s id 0) :
    Calls Tryz.prog 18 #[.pointer (some ⟨nb, 0, none⟩), b] w fun e w' => e = .returned (.tuple #[.agg #[.int .i64 0, .int .i64 0, .int .i64 0, .slice none 0 0, .slice none 0 0], .int .i64 141]) ∧ Below w.heap.size w w' := by
  have hnb : nb < w.heap.size := lt_of_blk h.blk
  obtain ⟨p10, p11, p12, p13, p14, pf⟩ := cells15 h.blk
  clear h
  go_enter Tryz.func18, Tryz.ntmps18
  go_wp2
  go_returns
  exact ⟨rfl, by go_grown⟩
theorem compact_zero (w : World) (nb vb ub : Nat) (s : Su) (id : Int) (f t : Int) (T T' : TypeId) (b d : Value) (h : NodeAt w nb vb ub s id 0) :
    Calls Tryz.prog 8 #[.pointer (some ⟨nb, 0, none⟩), .agg #[.int .i64 f, .int .i64 t], .iface T b, .iface T' d] w fun e w' => e = .returned (.int .i64 141) ∧ Below w.heap.size w w' := by
  have H := hid h
  clear h
  go_enter Tryz.func8, Tryz.ntmps8
  go_wp2_with (go_at_call 18; refine (leads_zero _ nb vb ub s id _ (H.out.ext ((Ext.refl (fun _ => False) w).alloc _) (fun h => h) (fun h => h) (fun h => h))).mono ?_; rintro e w1 ⟨rfl, hb⟩; have HB := hid hb; clear hb)
  go_ret
  exact ⟨rfl, ((((Below.refl w.heap.size w).alloc (Nat.le_refl _) _).trans (HB.out.mono (by simp))).alloc (by have := HB.out.size; simp at this; omega) _)⟩
def LeadsPost (nb vb ub bb : Nat) (s : Su) (id ep ld : Int) (k : Nat) (w : World) (e : Ending) (w' : World) : Prop :=
  ∃ A1 c1 A2 c2, e = .returned (.tuple #[.agg #[.int .i64 ep, .int .i64 2, .int .i64 ld, .slice A1 0 c1, .slice A2 k c2], .int .i64 141]) ∧ NodeAt w' nb vb ub s id 0 ∧ Ext (fun b => b = nb ∨ b = bb) w w'
set_option maxHeartbeats 1000000 in
theorem leads_old (w : World) (nb vb ub bb : Nat) (s : Su) (id ep ld : Int) (M O : Value) (calls : Int) (k : Nat) (oc : List Value) (hN : NodeAt w nb vb ub s id 1) (hB : BookAt w bb ep 2 ld M O calls 0 k [] oc)
    (hne : bb ≠ nb ∧ bb ≠ vb ∧ bb ≠ ub) (h0 : 0 ≤ calls) (h1 : calls ≤ 1000) (o2 : Ones oc) (hk : k ≤ 1000000) :
    Calls Tryz.prog 18 #[.pointer (some ⟨nb, 0, none⟩), .iface 56 (.pointer (some ⟨bb, 0, none⟩))] w (LeadsPost nb vb ub bb s id ep ld k w) := by
  have N := hid hN
  have B := hid hB
  have O2 := hid o2
  have NE := hid hne
  have hnb : nb < w.heap.size := lt_of_blk hN.blk
  obtain ⟨p10, p11, p12, p13, p14, pf⟩ := cells15 hN.blk
  clear hN hB o2 hne
  go_enter Tryz.func18, Tryz.ntmps18
  go_wp2_with (go_at_call 324; refine (state_any _ bb ep 2 ld M O calls 0 k [] oc (B.out.ext ((Ext.refl (fun _ => False) w).alloc _) (fun h => h) (fun _ _ h => h) (fun _ _ h => h)) h0 h1 (by intro u hu; cases hu) O2.out (by omega) hk).mono ?_; rintro e w1 ⟨A1, c1, A2, c2, rfl, hm, ho, hb, hx⟩; have X1 := (((Ext.refl (· = bb) w).alloc _).trans hx); have N1 := N.out.ext X1 NE.out.1.symm NE.out.2.1.symm NE.out.2.2.symm; obtain ⟨q10, q11, q12, q13, q14, qf⟩ := cells15 N1.blk; have hnb1 : nb < w1.heap.size := lt_of_blk N1.blk; have NN1 := hid N1; have XX1 := hid X1; have hr := hx.blk (alloc_at w (.cells #[.int .i64 0, .int .i64 0, .int .i64 0, .slice none 0 0, .slice none 0 0] 60) rfl) (show ¬ w.heap.size = bb by have := lt_of_blk B.out.blk; omega); obtain ⟨l0, l1, l2, l3, l4, lf⟩ := cells5 hr; have hz1 : w.heap.size < w1.heap.size := lt_of_blk hr; have R1 := hid hr; clear hm ho hb hx X1 N1 hr)
  go_quiet (fail)
  have N2 := hid (NN1.out.ext (((Ext.refl (fun _ => False) w1).alloc (.cells #[.int .i64 ep, .int .i64 2, .int .i64 ld, .slice A1 0 c1, .slice A2 k c2] 60)).drewN nq) (fun h => h) (fun h => h) (fun h => h))
  go_wp2_with (go_at_call 17; refine (rest_any _ nb vb ub s id 1 N2.out).mono ?_; rintro e w3 ⟨rfl, hN3, hx3⟩; have g3 := hx3.blk (alloc_at (w1.drewN nq) (.cells #[.int .i64 ep, .int .i64 2, .int .i64 ld, .slice A1 0 c1, .slice A2 k c2] 60) (show w1.heap.size = _ from rfl)) (show ¬ w1.heap.size = nb by omega); have r3 := hx3.blk (blk_alloc (w := w1.drewN nq) R1.out (.cells #[.int .i64 ep, .int .i64 2, .int .i64 ld, .slice A1 0 c1, .slice A2 k c2] 60)) (show ¬ w.heap.size = nb by omega); obtain ⟨s0, s1, s2, s3, s4, sf⟩ := cells5 g3; obtain ⟨m0, m1, m2, m3, m4, mf⟩ := cells5 r3; have hz3 : w.heap.size < w3.heap.size := lt_of_blk r3; have hz4 : w1.heap.size < w3.heap.size := lt_of_blk g3; have N3 := hid hN3; have X3 := hid hx3; clear hN3 hx3 g3 r3)
  have hs := Ext.set5 (S := (w.heap.size ≤ ·)) w3 w.heap.size (.int .i64 ep) (.int .i64 2) (.int .i64 ld) (.slice A1 0 c1) (.slice A2 k c2) (fun _ => Nat.le_refl _)
  have ht := Ext.set5 (S := (· = w.heap.size)) w3 w.heap.size (.int .i64 ep) (.int .i64 2) (.int .i64 ld) (.slice A1 0 c1) (.slice A2 k c2) (fun _ => rfl)
  have hvb : vb < w.heap.size := lt_of_blk N.out.views
  have hub : ub < w.heap.size := lt_of_blk N.out.unnamed
  refine bodyPost_ret (by simp [results, Tryz.results18, go_sem, m0, m1, m2, m3, m4, hz3]; rfl) rfl ?_
  refine ⟨_, _, _, _, rfl, N3.out.ext ht (by omega) (by omega) (by omega), ?_⟩
  exact (((XX1.out.mono (S' := fun b => b = nb ∨ b = bb) (fun _ _ h => .inr h)).then_ ((Ext.refl (fun _ => False) w1).alloc _ |>.drewN nq) (fun _ _ h => h.elim)).then_ X3.out (fun _ _ h => .inl h)).then_ hs (fun i hi h => by omega)
end Go.Proofs.YthfmfiagmolmeaaGreatDoor
