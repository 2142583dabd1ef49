/- The reference's book. -/
import Derived.Test.YtcljpmknandlhaaGreatDoorProg
import Derived.Test.YtcljpmknandlhaaGreatDoorRRefNew
import Derived.WalkSpells
import Derived.BigQuiet
namespace Go.Proofs.YtcljpmknandlhaaGreatDoor
open Go Go.RowKit
set_option linter.unusedVariables false
set_option linter.unusedSimpArgs false
/-- A book in memory: what it holds, its calls. -/
def bookCells (ep te ld : Int) (M O : Value) (calls : Int) : Array Value :=
  #[.int .i64 ep, .int .i64 te, .int .i64 ld, M, O, .bool false, .int .i64 calls, .slice none 0 0, .slice none 0 0]
structure BookAt (w : World) (bb : Nat) (ep te ld : Int) (M O : Value) (calls : Int) (n k : Nat) (mc oc : List Value) : Prop where
  blk : w.heap[bb]? = some (.cells #[.int .i64 ep, .int .i64 te, .int .i64 ld, M, O, .bool false, .int .i64 calls, .slice none 0 0, .slice none 0 0] 36 (0, 0))
  rdM : Rd w M n 8 mc
  rdO : Rd w O k 1 oc
  neM : ∀ b, At M b → b ≠ bb ∧ b < w.heap.size
  neO : ∀ b, At O b → b ≠ bb ∧ b < w.heap.size
theorem cells9 {w : World} {b : Nat} {a0 a1 a2 a3 a4 a5 a6 a7 a8 : Value} {T : TypeId} (h : w.heap[b]? = some (.cells #[a0, a1, a2, a3, a4, a5, a6, a7, a8] T (0, 0))) :
    w.cell? ⟨b, 0, none⟩ = some a0 ∧ w.cell? ⟨b, 1, none⟩ = some a1 ∧ w.cell? ⟨b, 2, none⟩ = some a2 ∧ w.cell? ⟨b, 3, none⟩ = some a3 ∧ w.cell? ⟨b, 4, none⟩ = some a4 ∧ w.cell? ⟨b, 5, none⟩ = some a5 ∧ w.cell? ⟨b, 6, none⟩ = some a6 ∧ w.cell? ⟨b, 7, none⟩ = some a7 ∧ w.cell? ⟨b, 8, none⟩ = some a8 ∧ (∀ i, w.frozen? ⟨b, i, none⟩ = false) :=
  ⟨cell_of h 0, cell_of h 1, cell_of h 2, cell_of h 3, cell_of h 4, cell_of h 5, cell_of h 6, cell_of h 7, cell_of h 8, free_of h⟩
theorem BookAt.ext {w w' : World} {bb : Nat} {ep te ld : Int} {M O : Value} {calls : Int} {n k : Nat} {mc oc : List Value} (h : BookAt w bb ep te ld M O calls n k mc oc) {S : Nat → Prop} (hE : Ext S w w') (hb : ¬ S bb) (h1 : ∀ b, At M b → ¬ S b) (h2 : ∀ b, At O b → ¬ S b) :
    BookAt w' bb ep te ld M O calls n k mc oc := ⟨hE.blk h.blk hb, h.rdM.ext hE h1, h.rdO.ext hE h2, fun b hb => ⟨(h.neM b hb).1, Nat.lt_of_lt_of_le (h.neM b hb).2 hE.size⟩, fun b hb => ⟨(h.neO b hb).1, Nat.lt_of_lt_of_le (h.neO b hb).2 hE.size⟩⟩
theorem Ext.set5 {S : Nat → Prop} (w : World) (b : Nat) (a0 a1 a2 a3 a4 : Value) (hp : b < w.heap.size → S b) : Ext S w (((((w.setCell ⟨b, 0, none⟩ a0).setCell ⟨b, 1, none⟩ a1).setCell ⟨b, 2, none⟩ a2).setCell ⟨b, 3, none⟩ a3).setCell ⟨b, 4, none⟩ a4) :=
  (((((Ext.refl S w).setCell (p := ⟨b, 0, none⟩) hp a0).setCell (p := ⟨b, 1, none⟩) hp a1).setCell (p := ⟨b, 2, none⟩) hp a2).setCell (p := ⟨b, 3, none⟩) hp a3).setCell (p := ⟨b, 4, none⟩) hp a4
def WayPost (bb : Nat) (ep te ld : Int) (M O : Value) (calls : Int) (n k : Nat) (mc oc : List Value) (w : World) (e : Ending) (w' : World) : Prop :=
  e = .returned (.int .i64 0) ∧ BookAt w' bb ep te ld M O (calls + 1) n k mc oc ∧ Ext (· = bb) w w'
set_option maxRecDepth 100000 in
set_option maxHeartbeats 1000000 in
theorem way_any (w : World) (bb : Nat) (ep te ld : Int) (M O : Value) (calls : Int) (n k : Nat) (mc oc : List Value) (h : BookAt w bb ep te ld M O calls n k mc oc) (h0 : 0 ≤ calls) (h1 : calls ≤ 1000) :
    Calls Tryz.prog 363 #[.pointer (some ⟨bb, 0, none⟩)] w (WayPost bb ep te ld M O calls n k mc oc w) := by
  have H := hid h
  obtain ⟨p0, p1, p2, p3, p4, p5, p6, p7, p8, pf⟩ := cells9 h.blk
  clear h
  have hlt : ¬ calls + 1 ≤ 0 := by omega
  go_enter Tryz.func363, Tryz.ntmps363
  go_wp2
  go_quiet (fail)
  go_wp2
  go_ret
  have X := (((Ext.refl (· = bb) w).setCell (p := ⟨bb, 6, none⟩) (fun _ => rfl) (.int .i64 (calls + 1))).drewN nq)
  exact ⟨rfl, ⟨blk_set H.out.blk 6 _, H.out.rdM.ext X (fun b hb e => (H.out.neM b hb).1 e), H.out.rdO.ext X (fun b hb e => (H.out.neO b hb).1 e), fun b hb => ⟨(H.out.neM b hb).1, Nat.lt_of_lt_of_le (H.out.neM b hb).2 X.size⟩, fun b hb => ⟨(H.out.neO b hb).1, Nat.lt_of_lt_of_le (H.out.neO b hb).2 X.size⟩⟩, X⟩
def StatePost (bb : Nat) (ep te ld : Int) (M O : Value) (calls : Int) (n k : Nat) (mc oc : List Value) (w : World) (e : Ending) (w' : World) : Prop :=
  ∃ A1 c1 A2 c2, e = .returned (.tuple #[.agg #[.int .i64 ep, .int .i64 te, .int .i64 ld, .slice A1 n c1, .slice A2 k c2], .int .i64 0]) ∧ Own w' w.heap.size 96 8 (.slice A1 n c1) n mc ∧ Own w' w.heap.size 37 1 (.slice A2 k c2) k oc ∧
    BookAt w' bb ep te ld M O (calls + 1) n k mc oc ∧ Ext (· = bb) w w'
set_option maxRecDepth 100000 in
set_option maxHeartbeats 1000000 in
theorem state_any (w : World) (bb : Nat) (ep te ld : Int) (M O : Value) (calls : Int) (n k : Nat) (mc oc : List Value) (h : BookAt w bb ep te ld M O calls n k mc oc) (h0 : 0 ≤ calls) (h1 : calls ≤ 1000) (o1 : Ones mc) (o2 : Ones oc) (hn : n ≤ 1000000) (hk : k ≤ 1000000) :
    Calls Tryz.prog 362 #[.pointer (some ⟨bb, 0, none⟩)] w (StatePost bb ep te ld M O calls n k mc oc w) := by
  have H := hid h
  have O1 := hid o1
  have O2 := hid o2
  have hbb : bb < w.heap.size := lt_of_blk h.blk
  have L1 := hid (show ∀ b, At M b → ¬ (fun _ => False) b from fun _ _ h => h)
  clear h o1 o2
  go_enter Tryz.func362, Tryz.ntmps362
  go_wp2_with (first | (go_at_call 363; refine (way_any _ bb ep te ld M O calls n k mc oc (H.out.ext ((Ext.refl (fun _ => False) w).alloc _) (fun h => h) (fun _ _ h => h) (fun _ _ h => h)) h0 h1).mono ?_; rintro e w1 ⟨rfl, hB1, hX1⟩; obtain ⟨p0, p1, p2, p3, p4, p5, p6, p7, p8, pf⟩ := cells9 hB1.blk; have r1 := hX1.blk (alloc_at w (.cells #[.int .i64 0, .int .i64 0, .int .i64 0, .slice none 0 0, .slice none 0 0] 32) rfl) (show ¬ w.heap.size = bb by omega); have R1 := hid r1; have B1 := hid hB1; have X1 := hid hX1; have hz1 : w.heap.size < w1.heap.size := lt_of_blk r1; have hw1 : bb < w1.heap.size := lt_of_blk hB1.blk; clear r1 hB1 hX1) | (go_at_call 365; refine (copy_any _ ep te ld M O n k mc oc B1.out.rdM B1.out.rdO O1.out O2.out hn hk).mono ?_; rintro e w2 ⟨M1, O1, rfl, hm, ho, hb⟩; obtain ⟨A1, k1, rfl, _, _⟩ := hm.form; obtain ⟨A2, k2, rfl, _, _⟩ := ho.form; have X2 := Ext.of_below (S := fun _ => False) hb; have r2 := X2.blk R1.out (fun h => h); obtain ⟨l0, l1, l2, l3, l4, lf⟩ := cells5 r2; have R2 := hid r2; have XX2 := hid X2; have M2 := hid hm; have O2 := hid ho; have hz2 : w.heap.size < w2.heap.size := lt_of_blk r2; clear hm ho hb X2 r2))
  have hE := hid (((((Ext.refl (· = bb) w).alloc _).trans X1.out).then_ XX2.out (fun _ _ h => h.elim)))
  have hs := Ext.set5 (S := (· = w.heap.size)) w2 w.heap.size (.int .i64 ep) (.int .i64 te) (.int .i64 ld) (.slice A1 n k1) (.slice A2 k k2) (fun _ => rfl)
  have hw := Ext.set5 (S := (w.heap.size ≤ ·)) w2 w.heap.size (.int .i64 ep) (.int .i64 te) (.int .i64 ld) (.slice A1 n k1) (.slice A2 k k2) (fun _ => Nat.le_refl _)
  have hb2 : BookAt w2 bb ep te ld M O (calls + 1) n k mc oc := B1.out.ext XX2.out (fun h => h) (fun _ _ h => h) (fun _ _ h => h)
  refine bodyPost_ret (by simp [results, Tryz.results362, go_sem, l0, l1, l2, l3, l4, hz2]; rfl) rfl ?_
  refine ⟨_, _, _, _, rfl, (M2.out.ext hs (fun b hb h => by have := (M2.out.lt b hb).1; omega)).mono (by omega), (O2.out.ext hs (fun b hb h => by have := (O2.out.lt b hb).1; omega)).mono (by omega), ?_, hE.out.then_ hw (fun i hi h => by omega)⟩
  refine hb2.ext hs (by omega) (fun b hb => ?_) (fun b hb => ?_)
  · have := H.out.neM b hb; omega
  · have := H.out.neO b hb; omega
/-- A book that is away. -/
structure BookOff (w : World) (bb : Nat) (S4 : Value) : Prop where
  blk : w.heap[bb]? = some (.cells #[.int .i64 0, .int .i64 0, .int .i64 0, .slice none 0 0, S4, .bool true, .int .i64 0, .slice none 0 0, .slice none 0 0] 36 (0, 0))
theorem way_off (w : World) (bb : Nat) (S4 : Value) (h : BookOff w bb S4) :
    Calls Tryz.prog 363 #[.pointer (some ⟨bb, 0, none⟩)] w fun e w' => e = .returned (.int .i64 1) ∧ w' = w := by
  have p5 := cell_of h.blk 5
  clear h
  go_enter Tryz.func363, Tryz.ntmps363
  go_wp2
  go_ret
  exact ⟨rfl, rfl⟩
set_option maxRecDepth 100000 in
theorem state_off (w : World) (bb : Nat) (S4 : Value) (h : BookOff w bb S4) :
    Calls Tryz.prog 362 #[.pointer (some ⟨bb, 0, none⟩)] w fun e w' => e = .returned (.tuple #[.agg #[.int .i64 0, .int .i64 0, .int .i64 0, .slice none 0 0, .slice none 0 0], .int .i64 122]) ∧ Ext (fun _ => False) w w' := by
  have H := hid h
  clear h
  go_enter Tryz.func362, Tryz.ntmps362
  go_wp2_with (go_at_call 363; refine (way_off _ bb S4 ⟨blk_alloc H.out.blk _⟩).mono ?_; rintro e w1 ⟨rfl, rfl⟩)
  refine bodyPost_ret (by simp [results, Tryz.results362, go_sem]; rfl) rfl ?_
  exact ⟨rfl, (Ext.refl _ w).alloc _⟩
end Go.Proofs.YtcljpmknandlhaaGreatDoor
