/- The coordinator's node: its small calls. -/
import Derived.Test.YthfmfiagmolmeaaGreatDoorProg
import Derived.Test.YthfmfiagmolmeaaGreatDoorCoord
import Derived.Test.YthfmfiagmolmeaaGreatDoorBookEl
import Derived.WalkSpells
import Derived.BigQuiet
import Derived.MapKept
import Derived.Deep.RegionWith
import Derived.Deep.CutRange
namespace Go.Proofs.YthfmfiagmolmeaaGreatDoor
open Go Go.RowKit
set_option linter.unusedVariables false
set_option linter.unusedSimpArgs false
theorem cells15 {w : World} {b : Nat} {a0 a1 a2 a3 a4 a5 a6 a7 a8 a9 a10 a11 a12 a13 a14 : Value} {T : TypeId} (h : w.heap[b]? = some (.cells #[a0, a1, a2, a3, a4, a5, a6, a7, a8, a9, a10, a11, a12, a13, a14] T (0, 0))) :
    w.cell? ⟨b, 10, none⟩ = some a10 ∧ w.cell? ⟨b, 11, none⟩ = some a11 ∧ w.cell? ⟨b, 12, none⟩ = some a12 ∧ w.cell? ⟨b, 13, none⟩ = some a13 ∧ w.cell? ⟨b, 14, none⟩ = some a14 ∧ (∀ i, w.frozen? ⟨b, i, none⟩ = false) :=
  ⟨cell_of h 10, cell_of h 11, cell_of h 12, cell_of h 13, cell_of h 14, free_of h⟩
theorem NodeAt.ext {w w' : World} {nb vb ub : Nat} {s : Su} {id term : Int} (h : NodeAt w nb vb ub s id term) {S : Nat → Prop} (hE : Ext S w w') (h1 : ¬ S nb) (h2 : ¬ S vb) (h3 : ¬ S ub) : NodeAt w' nb vb ub s id term :=
  ⟨hE.blk h.blk h1, hE.blk h.views h2, hE.blk h.unnamed h3, h.ne1, h.ne2, h.ne3⟩
theorem run_clear_empty (P : Program) (w : World) (t k e ty : TypeId) (ht : P.underlying t = some (.map k e)) (r c : Nat) (hb : w.heap[r]? = some (.map #[] c)) :
    (Builtin.clear_ #[t] ty #[.map (some r)]).run P w = .ok (.tuple #[]) w := by
  have hw : ({ w with heap := w.heap.setIfInBounds r (.map #[] c) } : World) = w := by
    have : w.heap.setIfInBounds r (.map #[] c) = w.heap := by
      apply Array.ext_getElem?
      intro i
      by_cases h : r = i
      · subst h
        have hl := lt_of_blk hb
        rw [Array.getElem?_setIfInBounds_self_of_lt hl, hb]
      · rw [Array.getElem?_setIfInBounds_ne h]
    rw [this]
  simp [Builtin.clear_, run_underlying ht, MapKept.run_getObj_map hb, MapKept.run_setObj_map _ hb, Result.andThen]
  exact hw
set_option maxRecDepth 100000 in
set_option maxHeartbeats 1000000 in
theorem rest_any (w : World) (nb vb ub : Nat) (s : Su) (id term : Int) (h : NodeAt w nb vb ub s id term) :
    Calls Tryz.prog 17 #[.pointer (some ⟨nb, 0, none⟩)] w fun e w' => e = .returned (.tuple #[]) ∧ NodeAt w' nb vb ub s id 0 ∧ Ext (· = nb) w w' := by
  have H := hid h
  obtain ⟨p10, p11, p12, p13, p14, pf⟩ := cells15 h.blk
  have hu := h.unnamed
  have hne := h.ne2
  have hcl : ∀ ty, (Builtin.clear_ #[79] ty #[.map (some ub)]).run Tryz.prog (w.setCell ⟨nb, 11, none⟩ (.int .i64 0)) = .ok (.tuple #[]) (w.setCell ⟨nb, 11, none⟩ (.int .i64 0)) :=
    fun ty => run_clear_empty _ _ _ _ _ ty Tryz.underlying79 _ _ (blk_set_other hu (fun e => hne e.symm) _)
  clear h
  go_enter Tryz.func17, Tryz.ntmps17
  go_wp2_with (simp only [hcl])
  go_returns
  refine ⟨rfl, ⟨blk_set (blk_set H.out.blk 11 _) 14 _, blk_set_other (blk_set_other H.out.views H.out.ne1.symm _) H.out.ne1.symm _, blk_set_other (blk_set_other H.out.unnamed H.out.ne2.symm _) H.out.ne2.symm _, H.out.ne1, H.out.ne2, H.out.ne3⟩, ((Ext.refl (· = nb) w).setCell (p := ⟨nb, 11, none⟩) (fun _ => rfl) _).setCell (p := ⟨nb, 14, none⟩) (fun _ => rfl) _⟩
theorem nil_el (b : Nat) (w : World) : (nilAhead 533 56 (.pointer (some ⟨b, 0, none⟩)) "Elect").run Tryz.prog w = .ok (some false) w := by kernel_rfl
theorem met_el (b : Nat) (w : World) : (method 533 56 (.pointer (some ⟨b, 0, none⟩)) "Elect").run Tryz.prog w = .ok (323, .pointer (some ⟨b, 0, none⟩)) w := by kernel_rfl
structure Got (wx w : World) (g nb vb ub bb : Nat) (s : Su) (id ep te calls : Int) (n k : Nat) (mc oc : List Value) (S1 S2 M1 O1 : Value) : Prop where
  st : wx.heap[g]? = some (.cells #[.int .i64 ep, .int .i64 (te + 1), .int .i64 id, S1, S2] 60 (0, 0))
  node : NodeAt wx nb vb ub s id 0
  book : BookAt wx bb ep (te + 1) id M1 O1 (calls + 1) n k mc oc
  newM : ∀ b, At M1 b → w.heap.size ≤ b
  newO : ∀ b, At O1 b → w.heap.size ≤ b
  ext : Ext (fun b => b = nb ∨ b = bb) w wx
section
variable {w w1 w2 : World} {nb vb ub bb : Nat} {s : Su} {id ep te calls : Int} {n k : Nat} {mc oc : List Value} {S1 S2 M1 O1 : Value}
theorem got_new (hN : NodeAt w1 nb vb ub s id 0) (X1 : Ext (· = nb) w w1) (hx : Ext (· = bb) w1 w2) (hne : bb ≠ nb ∧ bb ≠ vb ∧ bb ≠ ub) (hB : BookAt w2 bb ep (te + 1) id M1 O1 (calls + 1) n k mc oc) (h1 : ∀ b, At M1 b → w1.heap.size ≤ b) (h2 : ∀ b, At O1 b → w1.heap.size ≤ b) :
    Got (w2.alloc (.cells #[.int .i64 ep, .int .i64 (te + 1), .int .i64 id, S1, S2] 60)) w w2.heap.size nb vb ub bb s id ep te calls n k mc oc S1 S2 M1 O1 := by
  have X := (Ext.refl (fun _ => False) w2).alloc (.cells #[.int .i64 ep, .int .i64 (te + 1), .int .i64 id, S1, S2] 60)
  have hz := X1.size
  refine ⟨heap_alloc_new w2 _, (hN.ext hx hne.1.symm hne.2.1.symm hne.2.2.symm).ext X (fun h => h) (fun h => h) (fun h => h), hB.ext X (fun h => h) (fun _ _ h => h) (fun _ _ h => h), fun b hb => by have := h1 b hb; omega, fun b hb => by have := h2 b hb; omega, ?_⟩
  exact ((X1.mono (S' := fun b => b = nb ∨ b = bb) (fun _ _ h => .inl h)).then_ hx (fun i _ h => .inr h)).then_ X (fun _ _ h => h.elim)
theorem got_old (hN : NodeAt w1 nb vb ub s id 0) (X1 : Ext (· = nb) w w1) (hx : Ext (· = bb) w1 w2) (hne : bb ≠ nb ∧ bb ≠ vb ∧ bb ≠ ub) (hbb : bb < w1.heap.size) (hB : BookAt w2 bb ep (te + 1) id M1 O1 (calls + 1) n k mc oc) (h1 : ∀ b, At M1 b → w1.heap.size < b) (h2 : ∀ b, At O1 b → w1.heap.size < b)
    {a0 a1 a2 a3 a4 : Value} (hr : w2.heap[w1.heap.size]? = some (.cells #[a0, a1, a2, a3, a4] 60 (0, 0))) :
    Got (((((w2.setCell ⟨w1.heap.size, 0, none⟩ (.int .i64 ep)).setCell ⟨w1.heap.size, 1, none⟩ (.int .i64 (te + 1))).setCell ⟨w1.heap.size, 2, none⟩ (.int .i64 id)).setCell ⟨w1.heap.size, 3, none⟩ S1).setCell ⟨w1.heap.size, 4, none⟩ S2) w w1.heap.size nb vb ub bb s id ep te calls n k mc oc S1 S2 M1 O1 := by
  have X := Ext.set5 (S := (· = w1.heap.size)) w2 w1.heap.size (.int .i64 ep) (.int .i64 (te + 1)) (.int .i64 id) S1 S2 (fun _ => rfl)
  have Y := Ext.set5 (S := (w1.heap.size ≤ ·)) w2 w1.heap.size (.int .i64 ep) (.int .i64 (te + 1)) (.int .i64 id) S1 S2 (fun _ => Nat.le_refl _)
  have hz := X1.size
  have hnb : nb < w1.heap.size := lt_of_blk hN.blk
  have hvb : vb < w1.heap.size := lt_of_blk hN.views
  have hub : ub < w1.heap.size := lt_of_blk hN.unnamed
  refine ⟨?_, (hN.ext hx hne.1.symm hne.2.1.symm hne.2.2.symm).ext X (by omega) (by omega) (by omega), hB.ext X (by omega) (fun b hb h => by have := h1 b hb; omega) (fun b hb h => by have := h2 b hb; omega), fun b hb => by have := h1 b hb; omega, fun b hb => by have := h2 b hb; omega, ?_⟩
  · exact blk_set (blk_set (blk_set (blk_set (blk_set hr 0 (.int .i64 ep)) 1 (.int .i64 (te + 1))) 2 (.int .i64 id)) 3 S1) 4 S2
  · exact ((X1.mono (S' := fun b => b = nb ∨ b = bb) (fun _ _ h => .inl h)).then_ hx (fun i _ h => .inr h)).then_ Y (fun i hi h => by omega)
end
end Go.Proofs.YthfmfiagmolmeaaGreatDoor
