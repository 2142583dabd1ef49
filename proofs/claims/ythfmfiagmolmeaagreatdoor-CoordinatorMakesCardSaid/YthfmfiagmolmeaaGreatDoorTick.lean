/- A tick of a node that was elected no more. -/
import Derived.Test.YthfmfiagmolmeaaGreatDoorProg
import Derived.Test.YthfmfiagmolmeaaGreatDoorLeads
import Derived.WalkSpells
import Derived.BigQuiet
import Derived.MapKept
import Derived.Laws.IdiomRangeMap
namespace Go.Proofs.YthfmfiagmolmeaaGreatDoor
open Go Go.RowKit
set_option linter.unusedVariables false
set_option linter.unusedSimpArgs false
set_option maxRecDepth 100000
def TickPost (nb vb ub bb : Nat) (s : Su) (id : Int) (w : World) (e : Ending) (w' : World) : Prop :=
  e = .returned (.slice none 0 0) ∧ NodeAt w' nb vb ub s id 0 ∧ Ext (fun b => b = nb ∨ b = bb) w w'
set_option maxHeartbeats 1000000 in
theorem tick_old (w : World) (nb vb ub bb : Nat) (s : Su) (id ep ld : Int) (M O : Value) (calls : Int) (k : Nat) (oc : List Value) (T' : TypeId) (t : Int) (d : Value) (hN : NodeAt w nb vb ub s id 1) (hB : BookAt w bb ep 2 ld M O calls 0 k [] oc)
    (hne : bb ≠ nb ∧ bb ≠ vb ∧ bb ≠ ub) (h0 : 0 ≤ calls) (h1 : calls ≤ 1000) (o2 : Ones oc) (hk : k ≤ 1000000) :
    Calls Tryz.prog 11 #[.pointer (some ⟨nb, 0, none⟩), .int .i64 t, .iface 56 (.pointer (some ⟨bb, 0, none⟩)), .iface T' d] w (TickPost nb vb ub bb s id w) := by
  have N := hid hN
  have B := hid hB
  have O2 := hid o2
  have NE := hid hne
  have hnb : nb < w.heap.size := lt_of_blk hN.blk
  obtain ⟨p10, p11, p12, p13, p14, pf⟩ := cells15 hN.blk
  have hrg := run_range_map (P := Tryz.prog) w _ _ _ vb #[] 0 Tryz.underlying78 hN.views
  have hnx := fun ty => next_empty Tryz.prog w ty vb 0 hN.views
  have XI := hid ((Ext.refl (fun _ => False) w).alloc (.mapIter (some vb) 0 #[] 0))
  clear hN hB o2 hne
  go_enter Tryz.func11, Tryz.ntmps11
  go_wp2
  refine wp_loop_rounds 1 ?_
  rw [rounds_succ]
  go_wp2_with (first | (go_at_call 18; refine (leads_old _ nb vb ub bb s id ep ld M O calls k oc (N.out.ext XI.out (fun h => h) (fun h => h) (fun h => h)) (B.out.ext XI.out (fun h => h) (fun _ _ h => h) (fun _ _ h => h)) NE.out h0 h1 O2.out hk).mono ?_; rintro e w1 ⟨A1, c1, A2, c2, rfl, hN1, hx1⟩; have X1 := hid ((XI.out.mono (S' := fun b => b = nb ∨ b = bb) (fun _ _ h => h.elim)).trans hx1); have N1 := hid hN1; have hnb1 : nb < w1.heap.size := lt_of_blk hN1.blk; clear hN1 hx1) | (go_at_call 19; refine (line_nil _ ep 2 ld A1 c1 (.slice A2 k c2)).mono ?_; rintro e w2 ⟨tb, mb, rfl, hL, hb, ht1, ht2⟩; have L2 := hid hL; have Y2 := hid (((Ext.refl (fun _ => False) w1).alloc (.cells #[.int .i64 ep, .int .i64 2, .int .i64 ld, .slice A1 0 c1, .slice A2 k c2] 60)).trans (Ext.of_below hb)); clear hL hb ht1 ht2) | (go_at_call 31; refine (covered_nil _ tb mb L2.out).mono ?_; rintro e w3 ⟨rfl, hb⟩; have Y3 := hid (Y2.out.trans (Ext.of_below hb)); have N3 := hid (N1.out.ext Y3.out (fun h => h) (fun h => h) (fun h => h)); obtain ⟨q10, q11, q12, q13, q14, qf⟩ := cells15 N3.out.blk; have hcl := (fun ty => run_clear_empty Tryz.prog w3 _ _ _ ty Tryz.underlying79 ub 0 N3.out.unnamed); clear hb) | (simp only [hcl]))
  go_ret
  exact ⟨rfl, N3.out, X1.out.then_ Y3.out (fun _ _ h => h.elim)⟩
end Go.Proofs.YthfmfiagmolmeaaGreatDoor
