/- A historical node: made on a disk without files, or not. -/
import Derived.Test.YtdfmfjkcgbjgbaaGreatDoorProg
import Derived.Test.YtdfmfjkcgbjgbaaGreatDoorHStore
import Derived.Test.YtdfmfjkcgbjgbaaGreatDoorHFits
import Derived.Test.YtdfmfjkcgbjgbaaGreatDoorHNode
namespace Go.Proofs.YtdfmfjkcgbjgbaaGreatDoor
open Go Go.RowKit
set_option linter.unusedVariables false
set_option linter.unusedSimpArgs false
set_option maxRecDepth 100000
def Su.fit (s : Su) : Bool := fitB s.d s.m s.st s.so s.le s.ch s.re s.ba s.rt s.rn
theorem Su.fit_eq (s : Su) : s.fit = fitB s.d s.m s.st s.so s.le s.ch s.re s.ba s.rt s.rn := rfl
theorem cells10 {w : World} {b : Nat} {a0 a1 a2 a3 a4 a5 a6 a7 a8 a9 : Value} {T : TypeId} (h : w.heap[b]? = some (.cells #[a0, a1, a2, a3, a4, a5, a6, a7, a8, a9] T (0, 0))) :
    w.cell? ⟨b, 0, none⟩ = some a0 ∧ w.cell? ⟨b, 1, none⟩ = some a1 ∧ w.cell? ⟨b, 2, none⟩ = some a2 ∧ w.cell? ⟨b, 3, none⟩ = some a3 ∧ w.cell? ⟨b, 4, none⟩ = some a4 ∧ w.cell? ⟨b, 5, none⟩ = some a5 ∧ w.cell? ⟨b, 6, none⟩ = some a6 ∧ w.cell? ⟨b, 7, none⟩ = some a7 ∧ w.cell? ⟨b, 8, none⟩ = some a8 ∧ w.cell? ⟨b, 9, none⟩ = some a9 :=
  ⟨cell_of h 0, cell_of h 1, cell_of h 2, cell_of h 3, cell_of h 4, cell_of h 5, cell_of h 6, cell_of h 7, cell_of h 8, cell_of h 9⟩
def NewPost (s : Su) (id : Int) (w : World) (e : Ending) (w' : World) : Prop :=
  ∃ nb sb mb, e = .returned (.tuple #[.pointer (some ⟨nb, 0, none⟩), .int .i64 0]) ∧ NodeH w' nb sb mb s id 0 (.slice none 0 0) ∧ w.heap.size ≤ nb ∧ w.heap.size ≤ mb ∧ Below w.heap.size w w'
set_option maxHeartbeats 2000000 in
theorem new_yes (w : World) (id : Int) (s : Su) (db fb : Nat) (hD : DiskAt w db fb false) (hf : s.fit = true) (h0 : 21 ≤ id) (h1 : id < 21 + s.so) :
    Calls Tryz.prog 7 #[.int .i64 id, s.val, .pointer (some ⟨db, 0, none⟩)] w (NewPost s id w) := by
  obtain ⟨d, m, st, so, le, ch, re, ba, rt, rn⟩ := s
  unfold Su.fit at hf
  unfold Su.val
  dsimp only at hf h1 ⊢
  have hmm := @run_makeMap Tryz.prog
  have HF := (fit_iff ..).1 hf
  have hle : 1 ≤ so ∧ so ≤ 16 := ⟨HF.2.2.2.1, HF.2.2.2.2.1⟩
  have HH := hid hf
  have HD := hid hD
  clear HF hf hD
  go_enter Tryz.func7, Tryz.ntmps7
  go_wp2_with (first | (go_at_call 17; refine (fits_any _ d m st so le ch re ba rt rn).mono ?_; rintro e w1 ⟨rfl, hB1⟩; rw [HH.out]; obtain ⟨hc1, hf1⟩ := bcell hB1; have hz1 := hB1.size; have R1 := hid ((Ext.of_below (S := fun _ => False) hB1).blk (heap_alloc_new w _) (fun h => h)); have X1 := hid (((Ext.refl (fun _ => False) w).alloc _).trans (Ext.of_below hB1)); clear hB1) | (go_at_call 18; refine (store_open _ db fb (HD.out.grow X1.out)).mono ?_; rintro e w2 ⟨sb, rfl, hs, hsb, hb⟩; have HS := hid hs; have X2 := hid (X1.out.trans (Ext.of_below hb)); have r2 := (Ext.of_below (S := fun _ => False) hb).blk R1.out (fun h => h); obtain ⟨a0, a1, a2, a3, a4, a5, a6, a7, a8, a9⟩ := cells10 r2; have hz2 := lt_of_blk r2; clear hb hs r2) | (go_at_call 19; refine (store_list _ sb db fb (blk_alloc (blk_alloc HS.out _) _) (HD.out.grow ((X2.out.alloc _).alloc _))).mono ?_; rintro e w3 ⟨rfl, hb⟩; have X3 := hid (((X2.out.alloc _).alloc _).trans (Ext.of_below hb)); have N3 := hid (Ext.of_below (S := fun _ => False) hb); clear hb))
  refine wp_loop_rounds 1 ?_
  rw [rounds_succ]
  go_wp2
  go_ret2
  refine ⟨w2.heap.size + 1, sb, w2.heap.size, rfl, ⟨N3.out.blk (alloc_at _ _ (by simp)) (fun h => h), N3.out.blk (blk_alloc (heap_alloc_new w2 _) _) (fun h => h), by omega⟩, ?_, ?_, X3.out.below (Nat.le_refl _) (fun _ h => h.elim)⟩
  · have := X2.out.size; omega
  · exact X2.out.size
set_option maxHeartbeats 2000000 in
theorem new_off (w : World) (id : Int) (s : Su) (db fb : Nat) (hD : DiskAt w db fb true) (hf : s.fit = true) (h0 : 21 ≤ id) (h1 : id < 21 + s.so) :
    Calls Tryz.prog 7 #[.int .i64 id, s.val, .pointer (some ⟨db, 0, none⟩)] w fun e w' => e = .returned (.tuple #[.pointer none, .int .i64 122]) ∧ Below w.heap.size w w' := by
  obtain ⟨d, m, st, so, le, ch, re, ba, rt, rn⟩ := s
  unfold Su.fit at hf
  unfold Su.val
  dsimp only at hf h1 ⊢
  have HF := (fit_iff ..).1 hf
  have hle : 1 ≤ so ∧ so ≤ 16 := ⟨HF.2.2.2.1, HF.2.2.2.2.1⟩
  have HH := hid hf
  have HD := hid hD
  clear HF hf hD
  go_enter Tryz.func7, Tryz.ntmps7
  go_wp2_with (first | (go_at_call 17; refine (fits_any _ d m st so le ch re ba rt rn).mono ?_; rintro e w1 ⟨rfl, hB1⟩; rw [HH.out]; obtain ⟨hc1, hf1⟩ := bcell hB1; have hz1 := hB1.size; have X1 := hid (((Ext.refl (fun _ => False) w).alloc _).trans (Ext.of_below hB1)); clear hB1) | (go_at_call 18; refine (store_off _ db fb (HD.out.grow X1.out)).mono ?_; rintro e w2 ⟨rfl, hb⟩; have X2 := hid (X1.out.trans (Ext.of_below hb)); clear hb))
  go_ret2
  exact ⟨rfl, X2.out.below (Nat.le_refl _) (fun _ h => h.elim)⟩
set_option maxHeartbeats 2000000 in
theorem new_no (w : World) (id : Int) (s : Su) (D : Value) (hs : I64 id ∧ I64 s.so) (hf : ¬ (s.fit = true ∧ 21 ≤ id ∧ id < 21 + s.so)) :
    Calls Tryz.prog 7 #[.int .i64 id, s.val, D] w fun e w' => e = .returned (.tuple #[.pointer none, .int .i64 1]) ∧ Below w.heap.size w w' := by
  obtain ⟨d, m, st, so, le, ch, re, ba, rt, rn⟩ := s
  unfold Su.fit at hf
  unfold Su.val
  dsimp only at hf hs ⊢
  obtain ⟨x, hx⟩ : ∃ x, x = fitB d m st so le ch re ba rt rn := ⟨_, rfl⟩
  rw [← hx] at hf
  have HH := hid hx
  cases x
  · clear hf hx
    go_enter Tryz.func7, Tryz.ntmps7
    go_wp2_with (go_at_call 17; refine (fits_any _ d m st so le ch re ba rt rn).mono ?_; rintro e w1 ⟨rfl, hB1⟩; rw [← HH.out]; obtain ⟨hc1, hf1⟩ := bcell hB1; have hz1 := hB1.size)
    go_ret2
    exact ⟨rfl, ((Below.refl w.heap.size w).alloc (Nat.le_refl _) _).trans (hB1.mono (by simp))⟩
  · have HF := (fit_iff ..).1 hx.symm
    have hle : 1 ≤ so ∧ so ≤ 16 := ⟨HF.2.2.2.1, HF.2.2.2.2.1⟩
    have hf' : id < 21 ∨ 21 + so ≤ id := by
      rcases Classical.em (id < 21) with h | h
      · exact .inl h
      · exact .inr (by have := hf; simp at this; omega)
    clear HF hf hx
    by_cases h41 : id < 21
    · go_enter Tryz.func7, Tryz.ntmps7
      go_wp2_with (go_at_call 17; refine (fits_any _ d m st so le ch re ba rt rn).mono ?_; rintro e w1 ⟨rfl, hB1⟩; rw [← HH.out]; obtain ⟨hc1, hf1⟩ := bcell hB1; have hz1 := hB1.size)
      all_goals go_ret2
      exact ⟨rfl, ((Below.refl w.heap.size w).alloc (Nat.le_refl _) _).trans (hB1.mono (by simp))⟩
    · have h41' : 21 + so ≤ id := by omega
      go_enter Tryz.func7, Tryz.ntmps7
      go_wp2_with (go_at_call 17; refine (fits_any _ d m st so le ch re ba rt rn).mono ?_; rintro e w1 ⟨rfl, hB1⟩; rw [← HH.out]; obtain ⟨hc1, hf1⟩ := bcell hB1; have hz1 := hB1.size)
      all_goals go_ret2
      exact ⟨rfl, ((Below.refl w.heap.size w).alloc (Nat.le_refl _) _).trans (hB1.mono (by simp))⟩
set_option maxHeartbeats 2000000 in
theorem new_none (w : World) (id : Int) (s : Su) (hs : I64 id ∧ I64 s.so) :
    Calls Tryz.prog 7 #[.int .i64 id, s.val, .pointer none] w fun e w' => e = .returned (.tuple #[.pointer none, .int .i64 1]) ∧ Below w.heap.size w w' := by
  by_cases hf : s.fit = true ∧ 21 ≤ id ∧ id < 21 + s.so
  · obtain ⟨d, m, st, so, le, ch, re, ba, rt, rn⟩ := s
    unfold Su.fit at hf
    unfold Su.val
    dsimp only at hf hs ⊢
    obtain ⟨hf, h0, h1⟩ := hf
    have HF := (fit_iff ..).1 hf
    have hle : 1 ≤ so ∧ so ≤ 16 := ⟨HF.2.2.2.1, HF.2.2.2.2.1⟩
    have HH := hid hf
    clear HF hf
    go_enter Tryz.func7, Tryz.ntmps7
    go_wp2_with (go_at_call 17; refine (fits_any _ d m st so le ch re ba rt rn).mono ?_; rintro e w1 ⟨rfl, hB1⟩; rw [HH.out]; obtain ⟨hc1, hf1⟩ := bcell hB1; have hz1 := hB1.size)
    go_ret2
    exact ⟨rfl, ((Below.refl w.heap.size w).alloc (Nat.le_refl _) _).trans (hB1.mono (by simp))⟩
  · exact new_no w id s _ hs hf
end Go.Proofs.YtdfmfjkcgbjgbaaGreatDoor
