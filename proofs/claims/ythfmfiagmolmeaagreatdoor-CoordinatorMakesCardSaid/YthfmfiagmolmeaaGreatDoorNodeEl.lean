/- The coordinator's node: its election. -/
import Derived.Test.YthfmfiagmolmeaaGreatDoorProg
import Derived.Test.YthfmfiagmolmeaaGreatDoorNode
import Derived.WalkSpells
import Derived.BigQuiet
import Derived.MapKept
import Derived.Deep.RegionWith
import Derived.Deep.CutRange
namespace Go.Proofs.YthfmfiagmolmeaaGreatDoor
open Go Go.RowKit
set_option linter.unusedVariables false
set_option linter.unusedSimpArgs false
def NodeElPost (nb vb ub bb : Nat) (s : Su) (id ep te calls : Int) (n k : Nat) (mc oc : List Value) (w : World) (e : Ending) (w' : World) : Prop :=
  ∃ M1 O1, e = .returned (.int .i64 0) ∧ NodeAt w' nb vb ub s id (te + 1) ∧ BookAt w' bb ep (te + 1) id M1 O1 (calls + 1) n k mc oc ∧ (∀ b, At M1 b → w.heap.size ≤ b) ∧ (∀ b, At O1 b → w.heap.size ≤ b) ∧ Ext (fun b => b = nb ∨ b = bb) w w'
set_option maxRecDepth 100000 in
set_option maxHeartbeats 4000000 in
theorem nodeel_any (w : World) (nb vb ub bb : Nat) (s : Su) (id term : Int) (ep te ld : Int) (M O : Value) (calls : Int) (n k : Nat) (mc oc : List Value) (hN : NodeAt w nb vb ub s id term) (hB : BookAt w bb ep te ld M O calls n k mc oc)
    (hne : bb ≠ nb ∧ bb ≠ vb ∧ bb ≠ ub) (h0 : 0 ≤ calls) (h1 : calls ≤ 1000) (o1 : Ones mc) (o2 : Ones oc) (hn : n ≤ 1000000) (hk : k ≤ 1000000) (hid0 : 0 ≤ id) (ht0 : 0 ≤ te) (ht1 : te ≤ 1000000) (hM : ∀ b, At M b → b ≠ nb) (hO : ∀ b, At O b → b ≠ nb) :
    Calls Tryz.prog 7 #[.pointer (some ⟨nb, 0, none⟩), .iface 56 (.pointer (some ⟨bb, 0, none⟩))] w (NodeElPost nb vb ub bb s id ep te calls n k mc oc w) := by
  have N := hid hN
  have B := hid hB
  have O1 := hid o1
  have O2 := hid o2
  have HM := hid hM
  have HO := hid hO
  have NE := hid hne
  clear hN hB o1 o2 hM hO hne
  go_enter Tryz.func7, Tryz.ntmps7
  go_upto_region 4 with (go_at_call 17; refine (rest_any _ nb vb ub s id term N.out).mono ?_; rintro e w1 ⟨rfl, hN1, hX1⟩; have N1 := hid hN1; have X1 := hid hX1; obtain ⟨p10, p11, p12, p13, p14, pf⟩ := cells15 hN1.blk; clear hN1 hX1)
  have hB1 := hid (B.out.ext X1.out NE.out.1 HM.out HO.out)
  go_cut [5, 6] from 15 to 26 (fun u5 u6 wx => ∃ g S1 S2 M1 O1, u5 = .pointer (some ⟨g, 0, none⟩) ∧ u6 = .int .i64 0 ∧ Hid (Got wx w g nb vb ub bb s id ep te calls n k mc oc S1 S2 M1 O1))
  case first =>
    have hna := nil_el bb
    have hme := met_el bb
    have hb1 : bb < w1.heap.size := lt_of_blk hB1.out.blk
    have hnb1 : nb < w1.heap.size := lt_of_blk N1.out.blk
    go_region_with (go_at_call 323; refine (bookel_any _ bb ep te ld id M O calls n k mc oc ?hbb h0 h1 O1.out O2.out hn hk hid0 ht0 ht1).mono ?_; (case hbb => first | exact hB1.out.ext ((Ext.refl (fun _ => False) w1).drew) (fun h => h) (fun _ _ h => h) (fun _ _ h => h) | exact hB1.out.ext (((Ext.refl (fun _ => False) w1).alloc _).drew) (fun h => h) (fun _ _ h => h) (fun _ _ h => h)); rintro e w2 ⟨M2, O2, A1, c1, A2, c2, rfl, hm, ho, hb2, hnm, hno, hx2⟩; have X2 := hid hx2; have B2 := hid hb2; have NM := hid hnm; have NO := hid hno; clear hm ho; (first | (have r2 := hx2.blk (show ((w1.alloc (.cells #[.int .i64 0, .int .i64 0, .int .i64 0, .slice none 0 0, .slice none 0 0] 60)).drew).heap[w1.heap.size]? = _ from heap_alloc_new w1 _) (show ¬ w1.heap.size = bb by omega); obtain ⟨l0, l1, l2, l3, l4, lf⟩ := cells5 r2; have hz2 : w1.heap.size < w2.heap.size := lt_of_blk r2; have R2 := hid r2; clear r2) | skip); clear hb2 hx2 hnm hno)
    all_goals (go_wp2_with fail; go_meet)
    all_goals (case rel => first
      | exact ⟨_, _, _, _, _, rfl, rfl, got_new N1.out X1.out (((Ext.refl (· = bb) w1).drew).trans X2.out) NE.out B2.out NM.out NO.out⟩
      | exact ⟨_, _, _, _, _, rfl, rfl, got_old N1.out X1.out ((((Ext.refl (· = bb) w1).alloc _).drew).trans X2.out) NE.out hb1 B2.out (fun b hb => by have := NM.out b hb; simp at this; omega) (fun b hb => by have := NO.out b hb; simp at this; omega) R2.out⟩)
  case rest =>
    obtain ⟨g, S1, S2, M1, O1, rfl, rfl, G⟩ := hcut
    obtain ⟨q0, q1, q2, q3, q4, qf⟩ := cells5 G.out.st
    obtain ⟨r10, r11, r12, r13, r14, rf⟩ := cells15 G.out.node.blk
    go_wp2
    go_ret
    have X := (Ext.refl (· = nb) wc).setCell (p := ⟨nb, 11, none⟩) (fun _ => rfl) (.int .i64 (te + 1))
    have hz := Ext.size X1.out
    have hnb : nb < w.heap.size := lt_of_blk N.out.blk
    refine ⟨M1, O1, rfl, ⟨blk_set G.out.node.blk 11 _, blk_set_other G.out.node.views G.out.node.ne1.symm _, blk_set_other G.out.node.unnamed G.out.node.ne2.symm _, G.out.node.ne1, G.out.node.ne2, G.out.node.ne3⟩, ?_, G.out.newM, G.out.newO, ?_⟩
    · exact G.out.book.ext X (fun h => NE.out.1 h) (fun b hb h => by have := G.out.newM b hb; omega) (fun b hb h => by have := G.out.newO b hb; omega)
    · exact G.out.ext.then_ X (fun i hi h => .inl h)
end Go.Proofs.YthfmfiagmolmeaaGreatDoor
