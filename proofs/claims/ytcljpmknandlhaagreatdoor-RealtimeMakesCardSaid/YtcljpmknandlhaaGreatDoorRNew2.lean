/- A realtime node that is not made. -/
import Derived.Test.YtcljpmknandlhaaGreatDoorProg
import Derived.Test.YtcljpmknandlhaaGreatDoorRNew
namespace Go.Proofs.YtcljpmknandlhaaGreatDoor
open Go Go.RowKit
set_option linter.unusedVariables false
set_option linter.unusedSimpArgs false
set_option maxRecDepth 100000
set_option maxHeartbeats 2000000 in
theorem new_off (w : World) (bb : Nat) (S4 : Value) (s : Su) (j : Int) (hB : BookOff w bb S4) (hf : s.fit = true) (h0 : 0 ≤ j) (h1 : j < s.st) :
    Calls Tryz.prog 7 #[.int .i64 j, s.val, .iface 28 (.pointer (some ⟨bb, 0, none⟩))] w fun e w' => e = .returned (.tuple #[.pointer none, .int .i64 122]) ∧ Ext (fun _ => False) w w' := by
  obtain ⟨d, m, st, so, le, ch, re, ba, rt, rn⟩ := s
  unfold Su.fit at hf
  unfold Su.val
  dsimp only at hf h1 ⊢
  have HF := (fit_iff ..).1 hf
  have hst : 1 ≤ st ∧ st ≤ 8 := by omega
  have HH := hid hf
  have HB := hid hB
  clear HF hf hB
  go_enter Tryz.func7, Tryz.ntmps7
  go_wp2_with (first | (go_at_call 19; refine (fits_any _ d m st so le ch re ba rt rn).mono ?_; rintro e w1 ⟨rfl, hb⟩; rw [HH.out]; have X1 := hid (((Ext.refl (fun _ => False) w).alloc _).trans (Ext.of_below hb)); have R1 := hid ((Ext.of_below (S := fun _ => False) hb).blk (heap_alloc_new w _) (fun h => h)); obtain ⟨a0, a1, a2, a3, a4, a5, a6, a7, a8, a9⟩ := cells10 R1.out; have hz1 := lt_of_blk R1.out; clear hb) | (go_at_call 362; refine (state_off _ bb S4 ⟨X1.out.blk HB.out.blk (fun h => h)⟩).mono ?_; rintro e w2 ⟨rfl, hx⟩; have X2 := hid (X1.out.trans hx); clear hx))
  go_ret2
  exact ⟨rfl, X2.out.alloc _⟩
set_option maxHeartbeats 2000000 in
theorem new_no (w : World) (id : Int) (s : Su) (D : Value) (hs : I64 id ∧ I64 s.st) (hf : ¬ (s.fit = true ∧ 0 ≤ id ∧ id < s.st)) :
    Calls Tryz.prog 7 #[.int .i64 id, s.val, D] w fun e w' => e = .returned (.tuple #[.pointer none, .int .i64 1]) ∧ Below w.heap.size w w' := by
  obtain ⟨d, m, st, so, le, ch, re, ba, rt, rn⟩ := s
  unfold Su.fit at hf
  unfold Su.val
  dsimp only at hf hs ⊢
  obtain ⟨x, hx⟩ : ∃ x, x = fitB d m st so le ch re ba rt rn := ⟨_, rfl⟩
  rw [← hx] at hf
  have HH := hid hx
  cases x
  · clear hf hx
    go_enter Tryz.func7, Tryz.ntmps7
    go_wp2_with (go_at_call 19; refine (fits_any _ d m st so le ch re ba rt rn).mono ?_; rintro e w1 ⟨rfl, hB1⟩; rw [← HH.out]; obtain ⟨hc1, hf1⟩ := bcell hB1; have hz1 := hB1.size)
    go_ret2
    exact ⟨rfl, ((Below.refl w.heap.size w).alloc (Nat.le_refl _) _).trans (hB1.mono (by simp))⟩
  · have HF := (fit_iff ..).1 hx.symm
    have hle : 1 ≤ st ∧ st ≤ 8 := by omega
    have hf' : id < 0 ∨ st ≤ id := by
      rcases Classical.em (id < 0) with h | h
      · exact .inl h
      · exact .inr (by have := hf; simp at this; omega)
    clear HF hf hx
    by_cases h41 : id < 0
    · go_enter Tryz.func7, Tryz.ntmps7
      go_wp2_with (go_at_call 19; refine (fits_any _ d m st so le ch re ba rt rn).mono ?_; rintro e w1 ⟨rfl, hB1⟩; rw [← HH.out]; obtain ⟨hc1, hf1⟩ := bcell hB1; have hz1 := hB1.size)
      all_goals go_ret2
      exact ⟨rfl, ((Below.refl w.heap.size w).alloc (Nat.le_refl _) _).trans (hB1.mono (by simp))⟩
    · have h41' : st ≤ id := by omega
      go_enter Tryz.func7, Tryz.ntmps7
      go_wp2_with (go_at_call 19; refine (fits_any _ d m st so le ch re ba rt rn).mono ?_; rintro e w1 ⟨rfl, hB1⟩; rw [← HH.out]; obtain ⟨hc1, hf1⟩ := bcell hB1; have hz1 := hB1.size)
      all_goals go_ret2
      exact ⟨rfl, ((Below.refl w.heap.size w).alloc (Nat.le_refl _) _).trans (hB1.mono (by simp))⟩
set_option maxHeartbeats 2000000 in
theorem new_none (w : World) (id : Int) (s : Su) (hs : I64 id ∧ I64 s.st) :
    Calls Tryz.prog 7 #[.int .i64 id, s.val, .nilIface] w fun e w' => e = .returned (.tuple #[.pointer none, .int .i64 1]) ∧ Below w.heap.size w w' := by
  by_cases hf : s.fit = true ∧ 0 ≤ id ∧ id < s.st
  · obtain ⟨d, m, st, so, le, ch, re, ba, rt, rn⟩ := s
    unfold Su.fit at hf
    unfold Su.val
    dsimp only at hf hs ⊢
    obtain ⟨hf, h0, h1⟩ := hf
    have HF := (fit_iff ..).1 hf
    have hle : 1 ≤ st ∧ st ≤ 8 := by omega
    have HH := hid hf
    clear HF hf
    go_enter Tryz.func7, Tryz.ntmps7
    go_wp2_with (go_at_call 19; refine (fits_any _ d m st so le ch re ba rt rn).mono ?_; rintro e w1 ⟨rfl, hB1⟩; rw [HH.out]; obtain ⟨hc1, hf1⟩ := bcell hB1; have hz1 := hB1.size)
    go_ret2
    exact ⟨rfl, ((Below.refl w.heap.size w).alloc (Nat.le_refl _) _).trans (hB1.mono (by simp))⟩
  · exact new_no w id s _ hs hf
set_option maxHeartbeats 2000000 in
theorem new_gone (w : World) (bb : Nat) (s : Su) (j : Nat) (M O : Value) (k : Nat) (xs : List Nat) (hB : BookAt w bb 0 0 0 M O 0 0 k [] (zo xs)) (hl : xs.length = k) (hk : k ≤ 1000) (hf : s.fit = true) (h1 : (j : Int) < s.st) (h2 : k ≤ j) :
    Calls Tryz.prog 7 #[.int .i64 j, s.val, .iface 28 (.pointer (some ⟨bb, 0, none⟩))] w fun e w' => e = .returned (.tuple #[.pointer none, .int .i64 1]) ∧ Ext (· = bb) w w' ∧ BookAt w' bb 0 0 0 M O 1 0 k [] (zo xs) := by
  obtain ⟨d, m, st, so, le, ch, re, ba, rt, rn⟩ := s
  unfold Su.fit at hf
  unfold Su.val
  dsimp only at hf h1 ⊢
  have HF := (fit_iff ..).1 hf
  have hst : 1 ≤ st ∧ st ≤ 8 ∧ 1 ≤ ch ∧ ch ≤ 1099511627776 := by omega
  have FN := hid HF.1
  have HH := hid hf
  have HB := hid hB
  have HX := hid hl
  clear HF hf hB hl
  go_enter Tryz.func7, Tryz.ntmps7
  go_wp2_with (first | (go_at_call 19; refine (fits_any _ d m st so le ch re ba rt rn).mono ?_; rintro e w1 ⟨rfl, hb⟩; rw [HH.out]; have X1 := hid (((Ext.refl (fun _ => False) w).alloc _).trans (Ext.of_below hb)); have R1 := hid ((Ext.of_below (S := fun _ => False) hb).blk (heap_alloc_new w _) (fun h => h)); obtain ⟨a0, a1, a2, a3, a4, a5, a6, a7, a8, a9⟩ := cells10 R1.out; have hz1 := lt_of_blk R1.out; clear hb) | (go_at_call 362; refine (state_any _ bb 0 0 0 M O 0 0 k [] (zo xs) (HB.out.ext X1.out (fun h => h) (fun _ _ h => h) (fun _ _ h => h)) (by omega) (by omega) (by intro u hu; cases hu) (zo_one xs) (by omega) (by omega)).mono ?_; rintro e w2 ⟨A1, c1, A2, c2, rfl, hm, ho, hb, hx⟩; have X2 := hid ((X1.out.mono (S' := (· = bb)) (fun _ _ h => h.elim)).trans hx); have O2 := hid ho; have R2 := hid (hx.blk R1.out (show ¬ w.heap.size = bb by have := lt_of_blk HB.out.blk; omega)); obtain ⟨b0, b1, b2, b3, b4, b5, b6, b7, b8, b9⟩ := cells10 R2.out; have hz2 := lt_of_blk R2.out; have K2 := hid hb; clear hm ho hb hx))
  go_ret2
  exact ⟨rfl, X2.out.alloc _, K2.out.ext ((Ext.refl (fun _ => False) w2).alloc _) (fun h => h) (fun _ _ h => h) (fun _ _ h => h)⟩
end Go.Proofs.YtcljpmknandlhaaGreatDoor
