/- A historical node takes orders. -/
import Derived.Test.YtdfmfjkcgbjgbaaGreatDoorProg
import Derived.Test.YtdfmfjkcgbjgbaaGreatDoorHNode
import Derived.Test.YtdfmfjkcgbjgbaaGreatDoorHIndex
import Derived.Deep.RegionHeld3
import Derived.Deep.RegionLaw
import Derived.BigQuiet
namespace Go.Proofs.YtdfmfjkcgbjgbaaGreatDoor
open Go Go.RowKit
set_option linter.unusedVariables false
set_option linter.unusedSimpArgs false
set_option maxRecDepth 100000
/-- An order as a message: its cells. -/
abbrev msgO (tm : Int) (dr : Bool) (f t v p c x : Int) : Array Value := #[.int .i64 6, .int .i64 0, .int .i64 0, .int .u64 0, .int .u64 0, .int .u64 0, .int .i64 tm, .int .u64 0, .int .i64 0, .int .i64 0, .slice none 0 0, .slice none 0 0, .int .i64 0, .int .i64 0, .int .i64 0, .int .i64 0, .slice none 0 0, .int .i64 0, .int .i64 0, .slice none 0 0, .int .i64 0, .slice none 0 0, .slice none 0 0, .int .i64 0, .int .i64 0, .int .i64 0, .int .i64 0, .int .i64 0, .int .i64 0, .int .i64 0, .int .i64 0, .int .i64 0, .bool dr, .int .i64 f, .int .i64 t, .int .i64 v, .int .i64 p, .int .i64 c, .int .i64 x, .slice none 0 0, .slice none 0 0]
set_option maxHeartbeats 1000000 in
theorem handle_skip (w : World) (nb sb mb : Nat) (s : Su) (id term : Int) (O : Value) (tm : Int) (dr : Bool) (f t v p c x : Int) (h : NodeH w nb sb mb s id term O) (hno : tm < term ∨ x ≠ id) :
    Calls Tryz.prog 9 #[.pointer (some ⟨nb, 0, none⟩), .agg (msgO tm dr f t v p c x)] w fun e w' => e = .returned (.slice none 0 0) ∧ Ext (fun _ => False) w w' := by
  obtain ⟨p10, p12, p13, p14, p17, pf, hnb⟩ := cells18 h
  clear h
  unfold msgO
  by_cases h1 : term ≤ tm
  · have h2 : (x == id) = false := by simp; omega
    clear hno
    go_enter Tryz.func9, Tryz.ntmps9
    go_wp2
    go_quiet (fail)
    go_wp2
    go_ret
    exact ⟨rfl, ((Ext.refl _ w).alloc _).drewN nq⟩
  · have h2 : decide (term ≤ tm) = false := by simp; omega
    clear hno
    go_enter Tryz.func9, Tryz.ntmps9
    go_wp2
    go_quiet (fail)
    go_wp2
    go_ret
    exact ⟨rfl, ((Ext.refl _ w).alloc _).drewN nq⟩
/-- What taking an order leaves. -/
def TookPost (nb sb mb : Nat) (s : Su) (id tm : Int) (base n : Nat) (cs : List Value) (u : Nat → Prop) (w : World) (e : Ending) (w' : World) : Prop :=
  ∃ A c, e = .returned (.slice none 0 0) ∧ NodeH w' nb sb mb s id tm (.slice A n c) ∧ Own w' base 40 7 (.slice A n c) n cs ∧ (∀ b, At (.slice A n c) b → u b ∨ w.heap.size ≤ b) ∧ Ext (fun b => b = nb ∨ u b) w w'
theorem took_done {w w2 : World} {nb sb mb base n z : Nat} {s : Su} {id tm : Int} {O : Value} {A : Option Addr} {c : Nat} {cs : List Value} (N2 : NodeH w2 nb sb mb s id tm O) (O2 : Own w2 base 40 7 (.slice A n c) n cs)
    (AT : (Value.slice A n c).ownBlock = O.ownBlock ∨ (Value.slice A n c).ownBlock = some z) (hz : w.heap.size ≤ z) (hx : Ext (fun b => b = nb ∨ At O b) w w2) (hne : ∀ b, At O b → b ≠ nb) (hnb : nb < w.heap.size) :
    TookPost nb sb mb s id tm base n cs (At O) w (.returned (.slice none 0 0)) (w2.setCell ⟨nb, 13, none⟩ (.slice A n c)) := by
  have hat : ∀ b, At (.slice A n c) b → At O b ∨ w.heap.size ≤ b := by
    intro b hb
    unfold At at hb
    rcases AT with h | h
    · exact .inl (by unfold At; rw [← h]; exact hb)
    · rw [h] at hb
      injection hb with hb
      exact .inr (by omega)
  refine ⟨A, c, rfl, ⟨blk_set N2.blk 13 _, blk_set_other N2.map N2.ne.symm _, N2.ne⟩, O2.ext ((Ext.refl (· = nb) w2).setCell (p := ⟨nb, 13, none⟩) (fun _ => rfl) _) (fun b hb h => ?_), hat, hx.setCell (p := ⟨nb, 13, none⟩) (fun _ => .inl rfl) _⟩
  rcases hat b hb with h' | h'
  · exact hne b h' h
  · omega
theorem info_order : (Tryz.prog.info? 40).map (fun i => (i.zero, i.size, i.bytes)) = some (some (.agg #[.bool false, .int .i64 0, .int .i64 0, .int .i64 0, .int .i64 0, .int .i64 0, .int .i64 0]), 7, 56) := by kernel_rfl
set_option maxHeartbeats 4000000 in
theorem handle_take (w : World) (nb sb mb : Nat) (s : Su) (id term : Int) (O : Value) (base k : Nat) (cs : List Value) (tm : Int) (dr : Bool) (f t v p c : Int) (h : NodeH w nb sb mb s id term O) (hO : Own w base 40 7 O k cs)
    (hb : base ≤ w.heap.size) (hk : k ≤ 1000) (h1 : term ≤ tm) (hnO : ∀ b, At O b → b ≠ nb ∧ b ≠ mb) (one : ∀ u ∈ cs, u.oneCell' = true)
    (hC : ∀ W, Ext (fun b => b = nb) w W → Calls Tryz.prog 24 #[O, .agg #[.bool dr, .int .i64 f, .int .i64 t, .int .i64 v, .int .i64 p, .int .i64 c, .int .i64 id]] W fun e w' => e = .returned (.bool false) ∧ Ext (fun _ => False) W w') :
    Calls Tryz.prog 9 #[.pointer (some ⟨nb, 0, none⟩), .agg (msgO tm dr f t v p c id)] w
      (TookPost nb sb mb s id tm base (k + 1) (cs ++ ordC dr f t v p c id) (At O) w) := by
  obtain ⟨p10, p12, p13, p14, p17, pf, hnb⟩ := cells18 h
  have H := hid h
  have HO := hid hO
  have HC := hid hC
  have HN := hid hnO
  have H1 := hid one
  clear h hO hC hnO one
  unfold msgO
  go_enter Tryz.func9, Tryz.ntmps9
  go_wp2
  go_quiet (fail)
  go_wp2
  generalize hW : ((w.alloc (.cells (msgO tm dr f t v p c id) 60)).drewN nq).setCell ⟨nb, 14, none⟩ (.int .i64 tm) = W
  have X := hid (show Ext (fun b => b = nb) w W from hW ▸ (((Ext.refl (fun b => b = nb) w).alloc _).drewN nq).setCell (p := ⟨nb, 14, none⟩) (fun _ => rfl) _)
  have NW := hid (show NodeH W nb sb mb s id tm O from hW ▸ ⟨blk_set (blk_alloc (w := w) H.out.blk (.cells (msgO tm dr f t v p c id) 60)) 14 _, blk_set_other (a := ⟨nb, 14, none⟩) (blk_alloc (w := w) H.out.map (.cells (msgO tm dr f t v p c id) 60)) H.out.ne.symm _, H.out.ne⟩)
  have bM := hid (show W.heap[w.heap.size]? = some (.cells (msgO tm dr f t v p c id) 60 (0, 0)) from hW ▸ blk_set_other (a := ⟨nb, 14, none⟩) (heap_alloc_new w (.cells (msgO tm dr f t v p c id) 60)) (show w.heap.size ≠ nb by omega) _)
  clear hW p10 p12 p13 p14 p17 pf
  obtain ⟨q10, q12, q13, q14, q17, qf, hnW⟩ := cells18 NW.out
  have e32 := cell_of bM.out 32
  have e33 := cell_of bM.out 33
  have e34 := cell_of bM.out 34
  have e35 := cell_of bM.out 35
  have e36 := cell_of bM.out 36
  have e37 := cell_of bM.out 37
  have e38 := cell_of bM.out 38
  have hwW := lt_of_blk bM.out
  go_region_held3 (fun w' => w'.cell? ⟨nb, 13, none⟩ = some O ∧ w'.cell? ⟨w.heap.size, 32, none⟩ = some (.bool dr) ∧ w'.cell? ⟨w.heap.size, 33, none⟩ = some (.int .i64 f) ∧ w'.cell? ⟨w.heap.size, 34, none⟩ = some (.int .i64 t) ∧ w'.cell? ⟨w.heap.size, 35, none⟩ = some (.int .i64 v) ∧ w'.cell? ⟨w.heap.size, 36, none⟩ = some (.int .i64 p) ∧ w'.cell? ⟨w.heap.size, 37, none⟩ = some (.int .i64 c) ∧ w'.cell? ⟨w.heap.size, 38, none⟩ = some (.int .i64 id)) (go_keep)
    (first | (go_at_call 24; refine (HC.out _ (X.out.drew)).mono ?_; rintro e w1 ⟨rfl, hx⟩; have X1 := hid hx; have N1 := hid (NW.out.grow ((Ext.refl (fun _ => False) W).drew.trans hx)); have b1 := hid (hx.blk (w := W.drew) bM.out (fun h => h)); obtain ⟨r10, r12, r13, r14, r17, rf, hn1⟩ := cells18 N1.out; have f32 := cell_of b1.out 32; have f33 := cell_of b1.out 33; have f34 := cell_of b1.out 34; have f35 := cell_of b1.out 35; have f36 := cell_of b1.out 36; have f37 := cell_of b1.out 37; have f38 := cell_of b1.out 38; have hw1 := lt_of_blk b1.out; clear hx))
  go_wp2
  have hbase1 : base ≤ w1.heap.size := by omega
  have XW1 := hid (X.out.drew.then_ X1.out (fun _ _ h => h.elim))
  have hOl := hid HO.out.lt
  go_region_law (refine step_app base (by rfl) (.tmp 55) (.tmp 58) 85 40 _ 7 56 (by rfl) Tryz.underlying85 info_order rfl (by omega) O k cs _ 1 (ordC dr f t v p c id) (by rfl) (by rfl) ?hO ?hR ?h1 ?hb ?hl ?_; (case hO => exact HO.out.ext (XW1.out.drew.alloc _) (fun b hb h => (HN.out b hb).1 h)); (case hR => exact Rd_blk (alloc_at _ _ (by simp)) 7 rfl); (case h1 => simp [ordC, Value.oneCell']); (case hb => simp; omega); (case hl => omega); intro v2 w2 hO2 hg2 hat2; obtain ⟨A2, c2, rfl, _, _⟩ := hO2.form; have X2 := hid (((Ext.refl (At O) w1).drew.alloc (.cells #[.bool dr, .int .i64 f, .int .i64 t, .int .i64 v, .int .i64 p, .int .i64 c, .int .i64 id] 40)).then_ (Ext.of_grown (S := At O) hg2 (fun k hk _ => hk)) (fun _ _ h => h)); have N2 := hid (N1.out.ext X2.out (fun h => (HN.out _ h).1 rfl) (fun h => (HN.out _ h).2 rfl)); have b2 := hid (X2.out.blk b1.out (fun h => by have := (hOl.out _ h).2; omega)); obtain ⟨s10, s12, s13, s14, s17, sf, hn2⟩ := cells18 N2.out; have g32 := cell_of b2.out 32; have g33 := cell_of b2.out 33; have g34 := cell_of b2.out 34; have g35 := cell_of b2.out 35; have g36 := cell_of b2.out 36; have g37 := cell_of b2.out 37; have g38 := cell_of b2.out 38; have O2 := hid hO2; have AT2 := hid hat2; have hw2 := lt_of_blk b2.out; clear hg2 hat2 hO2)
  all_goals
    go_wp2
    go_ret
    exact took_done N2.out O2.out AT2.out (by simp; omega) (((X.out.mono (S' := fun b => b = nb ∨ At O b) (fun _ _ h => .inl h)).drew.then_ X1.out (fun _ _ h => h.elim)).then_ X2.out (fun _ _ h => .inr h)) (fun b hb => (HN.out b hb).1) hnb
end Go.Proofs.YtdfmfjkcgbjgbaaGreatDoor
