/- The law on a node's making: true of whatever comes. -/
import Derived.Test.YtdfmfjkcgbjgbaaGreatDoorProg
import Derived.Test.YtdfmfjkcgbjgbaaGreatDoorHAwake
namespace Go.Proofs.YtdfmfjkcgbjgbaaGreatDoor
open Go Go.RowKit
set_option linter.unusedVariables false
set_option linter.unusedSimpArgs false
set_option maxRecDepth 100000
theorem handle_no (w : World) :
    Calls Tryz.prog 9 #[.pointer none, .agg #[.int .i64 3, .int .i64 0, .int .i64 0, .int .u64 0, .int .u64 0, .int .u64 0, .int .i64 0, .int .u64 0, .int .i64 0, .int .i64 0, .slice none 0 0, .slice none 0 0, .int .i64 0, .int .i64 0, .int .i64 0, .int .i64 0, .slice none 0 0, .int .i64 0, .int .i64 0, .slice none 0 0, .int .i64 0, .slice none 0 0, .slice none 0 0, .int .i64 0, .int .i64 0, .int .i64 0, .int .i64 0, .int .i64 0, .int .i64 0, .int .i64 0, .int .i64 0, .int .i64 0, .bool false, .int .i64 0, .int .i64 0, .int .i64 0, .int .i64 0, .int .i64 0, .int .i64 0, .slice none 0 0, .slice none 0 0]] w fun e w' => e = .returned (.slice none 0 0) ∧ Below w.heap.size w w' := by
  go_enter Tryz.func9, Tryz.ntmps9
  go_wp2
  go_ret
  exact ⟨rfl, by go_grown⟩
theorem tick_no (w : World) (t : Int) (b d : Value) :
    Calls Tryz.prog 13 #[.pointer none, .int .i64 t, b, d] w fun e w' => e = .returned (.slice none 0 0) ∧ w' = w := by
  go_enter Tryz.func13, Tryz.ntmps13
  go_wp2
  go_ret
  exact ⟨rfl, rfl⟩
theorem served_no (w : World) :
    Calls Tryz.prog 14 #[.pointer none] w fun e w' => e = .returned (.slice none 0 0) ∧ w' = w := by
  go_enter Tryz.func14, Tryz.ntmps14
  go_wp2
  go_ret
  exact ⟨rfl, rfl⟩
theorem served_at (w : World) (nb sb mb : Nat) (s : Su) (id term : Int) (O : Value) (h : NodeH w nb sb mb s id term O) :
    Calls Tryz.prog 14 #[.pointer (some ⟨nb, 0, none⟩)] w fun e w' => e = .returned (.slice none 0 0) ∧ Below w.heap.size w w' := by
  obtain ⟨p10, p12, p13, p14, p17, pf, hnb⟩ := cells18 h
  have H := hid h
  clear h
  go_enter Tryz.func14, Tryz.ntmps14
  go_wp2_with (first | (go_at_call 32; refine (keys_anyG _ mb).mono ?_; rintro e w1 ⟨rfl, rfl⟩) | (go_at_call 31; refine (sorted_nilG _ _ w.heap.size mb (cell_of (heap_alloc_new _ _) 0) (blk_alloc H.out.map _)).mono ?_; rintro e w2 ⟨rfl, hb⟩; have X2 := hid (((Ext.refl (fun _ => False) w).alloc _).trans (Ext.of_below hb)); clear hb))
  go_ret
  exact ⟨rfl, X2.out.below (Nat.le_refl _) (fun _ h => h.elim)⟩
set_option maxHeartbeats 4000000 in
theorem makes_yes (w : World) (s : Su) (id : Int) (hs : I64 id ∧ I64 s.so) (hf : (s.fit = true ∧ 21 ≤ id ∧ id < 21 + s.so)) :
    Calls Tryz.prog 4 #[s.val, .int .i64 id, .bool false] w fun e w' => e = .returned (.bool true) ∧ Below w.heap.size w w' := by
  obtain ⟨d, m, st, so, le, ch, re, ba, rt, rn⟩ := s
  have HS := hid hs
  have HF := hid hf
  have tok1 := hid True.intro
  have tok2 := hid True.intro
  have tok3 := hid True.intro
  unfold Su.val
  dsimp only
  have HX := hid (show fitB d m st so le ch re ba rt rn = true from hf.1)
  have hx0 := (fit_iff d m st so le ch re ba rt rn).1 hf.1
  have HL : 1 ≤ so ∧ so ≤ 16 := by omega
  have i1 : 21 ≤ id := hf.2.1
  have i2 : id < 21 + so := hf.2.2
  clear hs hf hx0
  go_enter Tryz.func4, Tryz.ntmps4
  go_wp2_with (first | (go_at_call 5; refine (awake_any _).mono ?_; rintro e w1 ⟨rfl, hb⟩; have X1 := hid (((Ext.refl (fun _ => False) w).alloc _).trans (Ext.of_below hb)); have S1 := hid ((Ext.of_below (S := fun _ => False) hb).blk (alloc_at w (.cells #[.int .i64 d, .int .i64 m, .int .i64 st, .int .i64 so, .int .i64 le, .int .i64 ch, .int .i64 re, .int .i64 ba, .int .i64 rt, .int .i64 rn] 25) rfl) (fun h => h)); obtain ⟨a0, a1, a2, a3, a4, a5, a6, a7, a8, a9⟩ := cells10 S1.out; have hza : w.heap.size < w1.heap.size := lt_of_blk S1.out; clear hb) | (go_at_call 8; refine (disk_new _).mono ?_; rintro e w2 ⟨rfl, rfl⟩; have D2 := hid (disk_made (w := w1))) | (go_at_call 7; clear tok1; refine (new_yes _ id ⟨d, m, st, so, le, ch, re, ba, rt, rn⟩ (w1.heap.size + 1) w1.heap.size D2.out HF.out.1 HF.out.2.1 HF.out.2.2).mono ?_; rintro e w4 ⟨nb, sb, mb, rfl, hN, _, _, hb⟩; have N4 := hid hN; clear hN; have X4 := hid (((X1.out.alloc _).alloc _).mono (S' := (w.heap.size ≤ ·)) (fun _ _ h => h.elim) |>.trans (Ext.of_below hb)); have S4 := hid ((Ext.of_below (S := fun _ => False) hb).blk (blk_alloc (blk_alloc S1.out _) _) (fun h => h)); obtain ⟨c0, c1, c2, c3, c4, c5, c6, c7, c8, c9⟩ := cells10 S4.out; have hzc : w.heap.size < w4.heap.size := lt_of_blk S4.out; clear hb) | (go_at_call 7; refine (new_none _ id ⟨d, m, st, so, le, ch, re, ba, rt, rn⟩ HS.out).mono ?_; rintro e w5 ⟨rfl, hb⟩; have X5 := hid (X4.out.trans (Ext.of_below hb)); have S5 := hid ((Ext.of_below (S := fun _ => False) hb).blk S4.out (fun h => h)); obtain ⟨cc0, cc1, cc2, cc3, cc4, cc5, cc6, cc7, cc8, cc9⟩ := cells10 S5.out; have hzcc : w.heap.size < w5.heap.size := lt_of_blk S5.out; have N5 := hid (N4.out.grow (Ext.of_below (S := fun _ => False) hb)); clear hb) | (go_at_call 9; refine (handle_no _).mono ?_; rintro e w6 ⟨rfl, hb⟩; have X56 := hid (Ext.of_below (S := fun _ => False) hb); have X6 := hid (X5.out.trans (Ext.of_below hb)); have S6 := hid ((Ext.of_below (S := fun _ => False) hb).blk S5.out (fun h => h)); obtain ⟨dd0, dd1, dd2, dd3, dd4, dd5, dd6, dd7, dd8, dd9⟩ := cells10 S6.out; have hzdd : w.heap.size < w6.heap.size := lt_of_blk S6.out; clear hb) | (go_at_call 13; refine (tick_no _ 1 _ _).mono ?_; rintro e wx ⟨rfl, rfl⟩) | (go_at_call 14; clear tok3; refine (served_no _).mono ?_; rintro e wx ⟨rfl, rfl⟩) | (go_at_call 11; refine (waiting_no _).mono ?_; rintro e wx ⟨rfl, rfl⟩) | (go_at_call 10; clear tok2; refine (term_no _).mono ?_; rintro e wx ⟨rfl, rfl⟩) | (go_at_call 15; refine (fits19_any _ d m st so le ch re ba rt rn).mono ?_; rintro e w7 ⟨rfl, hb⟩; rw [HX.out]; have X7 := hid (((X6.out.alloc _).alloc _).trans (Ext.of_below hb)); have S7 := hid ((Ext.of_below (S := fun _ => False) hb).blk (blk_alloc (blk_alloc S6.out _) _) (fun h => h)); obtain ⟨f0, f1, f2, f3, f4, f5, f6, f7, f8, f9⟩ := cells10 S7.out; have hzf : w.heap.size < w7.heap.size := lt_of_blk S7.out; have N7 := hid ((N5.out.grow X56.out).grow ((((Ext.refl (fun _ => False) w6).alloc _).alloc _).trans (Ext.of_below hb))); clear hb) | (go_at_call 14; refine (served_at _ nb sb mb _ id 0 _ N7.out).mono ?_; rintro e w8 ⟨rfl, hb⟩; have N8 := hid (N7.out.grow (Ext.of_below hb)); have X8 := hid (X7.out.trans (Ext.of_below hb)); clear hb) | (go_at_call 10; refine (term_at _ nb sb mb _ id 0 _ N8.out).mono ?_; rintro e w9 ⟨rfl, rfl⟩))
  go_ret
  exact ⟨rfl, X8.out.below (Nat.le_refl _) (fun _ h => h)⟩
set_option maxHeartbeats 4000000 in
theorem makes_off (w : World) (s : Su) (id : Int) (hs : I64 id ∧ I64 s.so) (hf : (s.fit = true ∧ 21 ≤ id ∧ id < 21 + s.so)) :
    Calls Tryz.prog 4 #[s.val, .int .i64 id, .bool true] w fun e w' => e = .returned (.bool true) ∧ Below w.heap.size w w' := by
  obtain ⟨d, m, st, so, le, ch, re, ba, rt, rn⟩ := s
  have HS := hid hs
  have HF := hid hf
  have tok1 := hid True.intro
  have tok2 := hid True.intro
  have tok3 := hid True.intro
  unfold Su.val
  dsimp only
  have HX := hid (show fitB d m st so le ch re ba rt rn = true from hf.1)
  have hx0 := (fit_iff d m st so le ch re ba rt rn).1 hf.1
  have HL : 1 ≤ so ∧ so ≤ 16 := by omega
  have i1 : 21 ≤ id := hf.2.1
  have i2 : id < 21 + so := hf.2.2
  clear hs hf hx0
  go_enter Tryz.func4, Tryz.ntmps4
  go_wp2_with (first | (go_at_call 5; refine (awake_any _).mono ?_; rintro e w1 ⟨rfl, hb⟩; have X1 := hid (((Ext.refl (fun _ => False) w).alloc _).trans (Ext.of_below hb)); have S1 := hid ((Ext.of_below (S := fun _ => False) hb).blk (alloc_at w (.cells #[.int .i64 d, .int .i64 m, .int .i64 st, .int .i64 so, .int .i64 le, .int .i64 ch, .int .i64 re, .int .i64 ba, .int .i64 rt, .int .i64 rn] 25) rfl) (fun h => h)); obtain ⟨a0, a1, a2, a3, a4, a5, a6, a7, a8, a9⟩ := cells10 S1.out; have hza : w.heap.size < w1.heap.size := lt_of_blk S1.out; clear hb) | (go_at_call 8; refine (disk_new _).mono ?_; rintro e w2 ⟨rfl, rfl⟩; have D2 := hid (disk_made (w := w1))) | (go_at_call 12; refine (disk_cut _ (w1.heap.size + 1) w1.heap.size D2.out).mono ?_; rintro e w3 ⟨rfl, hD3, hx3⟩; have D3 := hid hD3; have X3 := hid ((((Ext.refl (fun _ => False) w1).alloc _).alloc _).mono (S' := (w1.heap.size ≤ ·)) (fun _ _ h => h.elim) |>.then_ hx3 (fun i hi h => by omega)); have S3 := hid (X3.out.blk S1.out (by omega)); obtain ⟨b0, b1, b2, b3, b4, b5, b6, b7, b8, b9⟩ := cells10 S3.out; have hzb : w.heap.size < w3.heap.size := lt_of_blk S3.out; clear hD3 hx3) | (go_at_call 7; clear tok1; refine (new_off _ id ⟨d, m, st, so, le, ch, re, ba, rt, rn⟩ (w1.heap.size + 1) w1.heap.size D3.out HF.out.1 HF.out.2.1 HF.out.2.2).mono ?_; rintro e w4 ⟨rfl, hb⟩; have X4 := hid ((X1.out.mono (S' := (w.heap.size ≤ ·)) (fun _ _ h => h.elim)).then_ (X3.out) (fun i hi h => by have := X1.out.size; omega) |>.trans (Ext.of_below hb)); have S4 := hid ((Ext.of_below (S := fun _ => False) hb).blk S3.out (fun h => h)); obtain ⟨c0, c1, c2, c3, c4, c5, c6, c7, c8, c9⟩ := cells10 S4.out; have hzc : w.heap.size < w4.heap.size := lt_of_blk S4.out; clear hb) | (go_at_call 7; refine (new_none _ id ⟨d, m, st, so, le, ch, re, ba, rt, rn⟩ HS.out).mono ?_; rintro e w5 ⟨rfl, hb⟩; have X5 := hid (X4.out.trans (Ext.of_below hb)); have S5 := hid ((Ext.of_below (S := fun _ => False) hb).blk S4.out (fun h => h)); obtain ⟨cc0, cc1, cc2, cc3, cc4, cc5, cc6, cc7, cc8, cc9⟩ := cells10 S5.out; have hzcc : w.heap.size < w5.heap.size := lt_of_blk S5.out; skip; clear hb) | (go_at_call 9; refine (handle_no _).mono ?_; rintro e w6 ⟨rfl, hb⟩; have X6 := hid (X5.out.trans (Ext.of_below hb)); have S6 := hid ((Ext.of_below (S := fun _ => False) hb).blk S5.out (fun h => h)); obtain ⟨dd0, dd1, dd2, dd3, dd4, dd5, dd6, dd7, dd8, dd9⟩ := cells10 S6.out; have hzdd : w.heap.size < w6.heap.size := lt_of_blk S6.out; clear hb) | (go_at_call 13; refine (tick_no _ 1 _ _).mono ?_; rintro e wx ⟨rfl, rfl⟩) | (go_at_call 14; clear tok3; refine (served_no _).mono ?_; rintro e wx ⟨rfl, rfl⟩) | (go_at_call 11; refine (waiting_no _).mono ?_; rintro e wx ⟨rfl, rfl⟩) | (go_at_call 10; clear tok2; refine (term_no _).mono ?_; rintro e wx ⟨rfl, rfl⟩) | (go_at_call 15; refine (fits19_any _ d m st so le ch re ba rt rn).mono ?_; rintro e w7 ⟨rfl, hb⟩; rw [HX.out]; have X7 := hid (((X6.out.alloc _).alloc _).trans (Ext.of_below hb)); have S7 := hid ((Ext.of_below (S := fun _ => False) hb).blk (blk_alloc (blk_alloc S6.out _) _) (fun h => h)); obtain ⟨f0, f1, f2, f3, f4, f5, f6, f7, f8, f9⟩ := cells10 S7.out; have hzf : w.heap.size < w7.heap.size := lt_of_blk S7.out; skip; clear hb))
  go_ret
  exact ⟨rfl, X7.out.below (Nat.le_refl _) (fun _ h => h)⟩
set_option maxHeartbeats 4000000 in
theorem makes_no (w : World) (s : Su) (id : Int) (hs : I64 id ∧ I64 s.so) (hf : ¬ (s.fit = true ∧ 21 ≤ id ∧ id < 21 + s.so)) :
    Calls Tryz.prog 4 #[s.val, .int .i64 id, .bool false] w fun e w' => e = .returned (.bool true) ∧ Below w.heap.size w w' := by
  obtain ⟨d, m, st, so, le, ch, re, ba, rt, rn⟩ := s
  have HS := hid hs
  have HF := hid hf
  have tok1 := hid True.intro
  have tok2 := hid True.intro
  have tok3 := hid True.intro
  unfold Su.val
  dsimp only
  obtain ⟨x, hx⟩ : ∃ x, fitB d m st so le ch re ba rt rn = x := ⟨_, rfl⟩
  have HX := hid hx
  cases x
  · clear hs hf hx
    go_enter Tryz.func4, Tryz.ntmps4
    go_wp2_with (first | (go_at_call 5; refine (awake_any _).mono ?_; rintro e w1 ⟨rfl, hb⟩; have X1 := hid (((Ext.refl (fun _ => False) w).alloc _).trans (Ext.of_below hb)); have S1 := hid ((Ext.of_below (S := fun _ => False) hb).blk (alloc_at w (.cells #[.int .i64 d, .int .i64 m, .int .i64 st, .int .i64 so, .int .i64 le, .int .i64 ch, .int .i64 re, .int .i64 ba, .int .i64 rt, .int .i64 rn] 25) rfl) (fun h => h)); obtain ⟨a0, a1, a2, a3, a4, a5, a6, a7, a8, a9⟩ := cells10 S1.out; have hza : w.heap.size < w1.heap.size := lt_of_blk S1.out; clear hb) | (go_at_call 8; refine (disk_new _).mono ?_; rintro e w2 ⟨rfl, rfl⟩; have D2 := hid (disk_made (w := w1))) | (go_at_call 7; clear tok1; refine (new_no _ id ⟨d, m, st, so, le, ch, re, ba, rt, rn⟩ _ HS.out HF.out).mono ?_; rintro e w4 ⟨rfl, hb⟩; have X4 := hid (((X1.out.alloc _).alloc _).mono (S' := (w.heap.size ≤ ·)) (fun _ _ h => h.elim) |>.trans (Ext.of_below hb)); have S4 := hid ((Ext.of_below (S := fun _ => False) hb).blk (blk_alloc (blk_alloc S1.out _) _) (fun h => h)); obtain ⟨c0, c1, c2, c3, c4, c5, c6, c7, c8, c9⟩ := cells10 S4.out; have hzc : w.heap.size < w4.heap.size := lt_of_blk S4.out; clear hb) | (go_at_call 7; refine (new_none _ id ⟨d, m, st, so, le, ch, re, ba, rt, rn⟩ HS.out).mono ?_; rintro e w5 ⟨rfl, hb⟩; have X5 := hid (X4.out.trans (Ext.of_below hb)); have S5 := hid ((Ext.of_below (S := fun _ => False) hb).blk S4.out (fun h => h)); obtain ⟨cc0, cc1, cc2, cc3, cc4, cc5, cc6, cc7, cc8, cc9⟩ := cells10 S5.out; have hzcc : w.heap.size < w5.heap.size := lt_of_blk S5.out; skip; clear hb) | (go_at_call 9; refine (handle_no _).mono ?_; rintro e w6 ⟨rfl, hb⟩; have X6 := hid (X5.out.trans (Ext.of_below hb)); have S6 := hid ((Ext.of_below (S := fun _ => False) hb).blk S5.out (fun h => h)); obtain ⟨dd0, dd1, dd2, dd3, dd4, dd5, dd6, dd7, dd8, dd9⟩ := cells10 S6.out; have hzdd : w.heap.size < w6.heap.size := lt_of_blk S6.out; clear hb) | (go_at_call 13; refine (tick_no _ 1 _ _).mono ?_; rintro e wx ⟨rfl, rfl⟩) | (go_at_call 14; clear tok3; refine (served_no _).mono ?_; rintro e wx ⟨rfl, rfl⟩) | (go_at_call 11; refine (waiting_no _).mono ?_; rintro e wx ⟨rfl, rfl⟩) | (go_at_call 10; clear tok2; refine (term_no _).mono ?_; rintro e wx ⟨rfl, rfl⟩) | (go_at_call 15; refine (fits19_any _ d m st so le ch re ba rt rn).mono ?_; rintro e w7 ⟨rfl, hb⟩; rw [HX.out]; have X7 := hid (((X6.out.alloc _).alloc _).trans (Ext.of_below hb)); have S7 := hid ((Ext.of_below (S := fun _ => False) hb).blk (blk_alloc (blk_alloc S6.out _) _) (fun h => h)); obtain ⟨f0, f1, f2, f3, f4, f5, f6, f7, f8, f9⟩ := cells10 S7.out; have hzf : w.heap.size < w7.heap.size := lt_of_blk S7.out; skip; clear hb))
    go_ret
    exact ⟨rfl, X7.out.below (Nat.le_refl _) (fun _ h => h)⟩
  · have HL : 1 ≤ so ∧ so ≤ 16 := by
      have h := (fit_iff ..).1 hx
      omega
    have hf' : id < 21 ∨ 21 + so ≤ id := by
      rcases Classical.em (id < 21) with h | h
      · exact .inl h
      · refine .inr ?_
        rcases Classical.em (id < 21 + so) with h2 | h2
        · exact absurd ⟨hx, by omega, h2⟩ HF.out
        · omega
    clear hs hf hx
    by_cases h41 : id < 21
    · clear hf'
      go_enter Tryz.func4, Tryz.ntmps4
      go_wp2_with (first | (go_at_call 5; refine (awake_any _).mono ?_; rintro e w1 ⟨rfl, hb⟩; have X1 := hid (((Ext.refl (fun _ => False) w).alloc _).trans (Ext.of_below hb)); have S1 := hid ((Ext.of_below (S := fun _ => False) hb).blk (alloc_at w (.cells #[.int .i64 d, .int .i64 m, .int .i64 st, .int .i64 so, .int .i64 le, .int .i64 ch, .int .i64 re, .int .i64 ba, .int .i64 rt, .int .i64 rn] 25) rfl) (fun h => h)); obtain ⟨a0, a1, a2, a3, a4, a5, a6, a7, a8, a9⟩ := cells10 S1.out; have hza : w.heap.size < w1.heap.size := lt_of_blk S1.out; clear hb) | (go_at_call 8; refine (disk_new _).mono ?_; rintro e w2 ⟨rfl, rfl⟩; have D2 := hid (disk_made (w := w1))) | (go_at_call 7; clear tok1; refine (new_no _ id ⟨d, m, st, so, le, ch, re, ba, rt, rn⟩ _ HS.out HF.out).mono ?_; rintro e w4 ⟨rfl, hb⟩; have X4 := hid (((X1.out.alloc _).alloc _).mono (S' := (w.heap.size ≤ ·)) (fun _ _ h => h.elim) |>.trans (Ext.of_below hb)); have S4 := hid ((Ext.of_below (S := fun _ => False) hb).blk (blk_alloc (blk_alloc S1.out _) _) (fun h => h)); obtain ⟨c0, c1, c2, c3, c4, c5, c6, c7, c8, c9⟩ := cells10 S4.out; have hzc : w.heap.size < w4.heap.size := lt_of_blk S4.out; clear hb) | (go_at_call 7; refine (new_none _ id ⟨d, m, st, so, le, ch, re, ba, rt, rn⟩ HS.out).mono ?_; rintro e w5 ⟨rfl, hb⟩; have X5 := hid (X4.out.trans (Ext.of_below hb)); have S5 := hid ((Ext.of_below (S := fun _ => False) hb).blk S4.out (fun h => h)); obtain ⟨cc0, cc1, cc2, cc3, cc4, cc5, cc6, cc7, cc8, cc9⟩ := cells10 S5.out; have hzcc : w.heap.size < w5.heap.size := lt_of_blk S5.out; skip; clear hb) | (go_at_call 9; refine (handle_no _).mono ?_; rintro e w6 ⟨rfl, hb⟩; have X6 := hid (X5.out.trans (Ext.of_below hb)); have S6 := hid ((Ext.of_below (S := fun _ => False) hb).blk S5.out (fun h => h)); obtain ⟨dd0, dd1, dd2, dd3, dd4, dd5, dd6, dd7, dd8, dd9⟩ := cells10 S6.out; have hzdd : w.heap.size < w6.heap.size := lt_of_blk S6.out; clear hb) | (go_at_call 13; refine (tick_no _ 1 _ _).mono ?_; rintro e wx ⟨rfl, rfl⟩) | (go_at_call 14; clear tok3; refine (served_no _).mono ?_; rintro e wx ⟨rfl, rfl⟩) | (go_at_call 11; refine (waiting_no _).mono ?_; rintro e wx ⟨rfl, rfl⟩) | (go_at_call 10; clear tok2; refine (term_no _).mono ?_; rintro e wx ⟨rfl, rfl⟩) | (go_at_call 15; refine (fits19_any _ d m st so le ch re ba rt rn).mono ?_; rintro e w7 ⟨rfl, hb⟩; rw [HX.out]; have X7 := hid (((X6.out.alloc _).alloc _).trans (Ext.of_below hb)); have S7 := hid ((Ext.of_below (S := fun _ => False) hb).blk (blk_alloc (blk_alloc S6.out _) _) (fun h => h)); obtain ⟨f0, f1, f2, f3, f4, f5, f6, f7, f8, f9⟩ := cells10 S7.out; have hzf : w.heap.size < w7.heap.size := lt_of_blk S7.out; skip; clear hb))
      go_ret
      exact ⟨rfl, X7.out.below (Nat.le_refl _) (fun _ h => h)⟩
    · have h41' : 21 + so ≤ id := by omega
      clear hf'
      go_enter Tryz.func4, Tryz.ntmps4
      go_wp2_with (first | (go_at_call 5; refine (awake_any _).mono ?_; rintro e w1 ⟨rfl, hb⟩; have X1 := hid (((Ext.refl (fun _ => False) w).alloc _).trans (Ext.of_below hb)); have S1 := hid ((Ext.of_below (S := fun _ => False) hb).blk (alloc_at w (.cells #[.int .i64 d, .int .i64 m, .int .i64 st, .int .i64 so, .int .i64 le, .int .i64 ch, .int .i64 re, .int .i64 ba, .int .i64 rt, .int .i64 rn] 25) rfl) (fun h => h)); obtain ⟨a0, a1, a2, a3, a4, a5, a6, a7, a8, a9⟩ := cells10 S1.out; have hza : w.heap.size < w1.heap.size := lt_of_blk S1.out; clear hb) | (go_at_call 8; refine (disk_new _).mono ?_; rintro e w2 ⟨rfl, rfl⟩; have D2 := hid (disk_made (w := w1))) | (go_at_call 7; clear tok1; refine (new_no _ id ⟨d, m, st, so, le, ch, re, ba, rt, rn⟩ _ HS.out HF.out).mono ?_; rintro e w4 ⟨rfl, hb⟩; have X4 := hid (((X1.out.alloc _).alloc _).mono (S' := (w.heap.size ≤ ·)) (fun _ _ h => h.elim) |>.trans (Ext.of_below hb)); have S4 := hid ((Ext.of_below (S := fun _ => False) hb).blk (blk_alloc (blk_alloc S1.out _) _) (fun h => h)); obtain ⟨c0, c1, c2, c3, c4, c5, c6, c7, c8, c9⟩ := cells10 S4.out; have hzc : w.heap.size < w4.heap.size := lt_of_blk S4.out; clear hb) | (go_at_call 7; refine (new_none _ id ⟨d, m, st, so, le, ch, re, ba, rt, rn⟩ HS.out).mono ?_; rintro e w5 ⟨rfl, hb⟩; have X5 := hid (X4.out.trans (Ext.of_below hb)); have S5 := hid ((Ext.of_below (S := fun _ => False) hb).blk S4.out (fun h => h)); obtain ⟨cc0, cc1, cc2, cc3, cc4, cc5, cc6, cc7, cc8, cc9⟩ := cells10 S5.out; have hzcc : w.heap.size < w5.heap.size := lt_of_blk S5.out; skip; clear hb) | (go_at_call 9; refine (handle_no _).mono ?_; rintro e w6 ⟨rfl, hb⟩; have X6 := hid (X5.out.trans (Ext.of_below hb)); have S6 := hid ((Ext.of_below (S := fun _ => False) hb).blk S5.out (fun h => h)); obtain ⟨dd0, dd1, dd2, dd3, dd4, dd5, dd6, dd7, dd8, dd9⟩ := cells10 S6.out; have hzdd : w.heap.size < w6.heap.size := lt_of_blk S6.out; clear hb) | (go_at_call 13; refine (tick_no _ 1 _ _).mono ?_; rintro e wx ⟨rfl, rfl⟩) | (go_at_call 14; clear tok3; refine (served_no _).mono ?_; rintro e wx ⟨rfl, rfl⟩) | (go_at_call 11; refine (waiting_no _).mono ?_; rintro e wx ⟨rfl, rfl⟩) | (go_at_call 10; clear tok2; refine (term_no _).mono ?_; rintro e wx ⟨rfl, rfl⟩) | (go_at_call 15; refine (fits19_any _ d m st so le ch re ba rt rn).mono ?_; rintro e w7 ⟨rfl, hb⟩; rw [HX.out]; have X7 := hid (((X6.out.alloc _).alloc _).trans (Ext.of_below hb)); have S7 := hid ((Ext.of_below (S := fun _ => False) hb).blk (blk_alloc (blk_alloc S6.out _) _) (fun h => h)); obtain ⟨f0, f1, f2, f3, f4, f5, f6, f7, f8, f9⟩ := cells10 S7.out; have hzf : w.heap.size < w7.heap.size := lt_of_blk S7.out; skip; clear hb))
      go_ret
      exact ⟨rfl, X7.out.below (Nat.le_refl _) (fun _ h => h)⟩
set_option maxHeartbeats 4000000 in
theorem makes_nooff (w : World) (s : Su) (id : Int) (hs : I64 id ∧ I64 s.so) (hf : ¬ (s.fit = true ∧ 21 ≤ id ∧ id < 21 + s.so)) :
    Calls Tryz.prog 4 #[s.val, .int .i64 id, .bool true] w fun e w' => e = .returned (.bool true) ∧ Below w.heap.size w w' := by
  obtain ⟨d, m, st, so, le, ch, re, ba, rt, rn⟩ := s
  have HS := hid hs
  have HF := hid hf
  have tok1 := hid True.intro
  have tok2 := hid True.intro
  have tok3 := hid True.intro
  unfold Su.val
  dsimp only
  obtain ⟨x, hx⟩ : ∃ x, fitB d m st so le ch re ba rt rn = x := ⟨_, rfl⟩
  have HX := hid hx
  cases x
  · clear hs hf hx
    go_enter Tryz.func4, Tryz.ntmps4
    go_wp2_with (first | (go_at_call 5; refine (awake_any _).mono ?_; rintro e w1 ⟨rfl, hb⟩; have X1 := hid (((Ext.refl (fun _ => False) w).alloc _).trans (Ext.of_below hb)); have S1 := hid ((Ext.of_below (S := fun _ => False) hb).blk (alloc_at w (.cells #[.int .i64 d, .int .i64 m, .int .i64 st, .int .i64 so, .int .i64 le, .int .i64 ch, .int .i64 re, .int .i64 ba, .int .i64 rt, .int .i64 rn] 25) rfl) (fun h => h)); obtain ⟨a0, a1, a2, a3, a4, a5, a6, a7, a8, a9⟩ := cells10 S1.out; have hza : w.heap.size < w1.heap.size := lt_of_blk S1.out; clear hb) | (go_at_call 8; refine (disk_new _).mono ?_; rintro e w2 ⟨rfl, rfl⟩; have D2 := hid (disk_made (w := w1))) | (go_at_call 12; refine (disk_cut _ (w1.heap.size + 1) w1.heap.size D2.out).mono ?_; rintro e w3 ⟨rfl, hD3, hx3⟩; have D3 := hid hD3; have X3 := hid ((((Ext.refl (fun _ => False) w1).alloc _).alloc _).mono (S' := (w1.heap.size ≤ ·)) (fun _ _ h => h.elim) |>.then_ hx3 (fun i hi h => by omega)); have S3 := hid (X3.out.blk S1.out (by omega)); obtain ⟨b0, b1, b2, b3, b4, b5, b6, b7, b8, b9⟩ := cells10 S3.out; have hzb : w.heap.size < w3.heap.size := lt_of_blk S3.out; clear hD3 hx3) | (go_at_call 7; clear tok1; refine (new_no _ id ⟨d, m, st, so, le, ch, re, ba, rt, rn⟩ _ HS.out HF.out).mono ?_; rintro e w4 ⟨rfl, hb⟩; have X4 := hid ((X1.out.mono (S' := (w.heap.size ≤ ·)) (fun _ _ h => h.elim)).then_ (X3.out) (fun i hi h => by have := X1.out.size; omega) |>.trans (Ext.of_below hb)); have S4 := hid ((Ext.of_below (S := fun _ => False) hb).blk S3.out (fun h => h)); obtain ⟨c0, c1, c2, c3, c4, c5, c6, c7, c8, c9⟩ := cells10 S4.out; have hzc : w.heap.size < w4.heap.size := lt_of_blk S4.out; clear hb) | (go_at_call 7; refine (new_none _ id ⟨d, m, st, so, le, ch, re, ba, rt, rn⟩ HS.out).mono ?_; rintro e w5 ⟨rfl, hb⟩; have X5 := hid (X4.out.trans (Ext.of_below hb)); have S5 := hid ((Ext.of_below (S := fun _ => False) hb).blk S4.out (fun h => h)); obtain ⟨cc0, cc1, cc2, cc3, cc4, cc5, cc6, cc7, cc8, cc9⟩ := cells10 S5.out; have hzcc : w.heap.size < w5.heap.size := lt_of_blk S5.out; skip; clear hb) | (go_at_call 9; refine (handle_no _).mono ?_; rintro e w6 ⟨rfl, hb⟩; have X6 := hid (X5.out.trans (Ext.of_below hb)); have S6 := hid ((Ext.of_below (S := fun _ => False) hb).blk S5.out (fun h => h)); obtain ⟨dd0, dd1, dd2, dd3, dd4, dd5, dd6, dd7, dd8, dd9⟩ := cells10 S6.out; have hzdd : w.heap.size < w6.heap.size := lt_of_blk S6.out; clear hb) | (go_at_call 13; refine (tick_no _ 1 _ _).mono ?_; rintro e wx ⟨rfl, rfl⟩) | (go_at_call 14; clear tok3; refine (served_no _).mono ?_; rintro e wx ⟨rfl, rfl⟩) | (go_at_call 11; refine (waiting_no _).mono ?_; rintro e wx ⟨rfl, rfl⟩) | (go_at_call 10; clear tok2; refine (term_no _).mono ?_; rintro e wx ⟨rfl, rfl⟩) | (go_at_call 15; refine (fits19_any _ d m st so le ch re ba rt rn).mono ?_; rintro e w7 ⟨rfl, hb⟩; rw [HX.out]; have X7 := hid (((X6.out.alloc _).alloc _).trans (Ext.of_below hb)); have S7 := hid ((Ext.of_below (S := fun _ => False) hb).blk (blk_alloc (blk_alloc S6.out _) _) (fun h => h)); obtain ⟨f0, f1, f2, f3, f4, f5, f6, f7, f8, f9⟩ := cells10 S7.out; have hzf : w.heap.size < w7.heap.size := lt_of_blk S7.out; skip; clear hb))
    go_ret
    exact ⟨rfl, X7.out.below (Nat.le_refl _) (fun _ h => h)⟩
  · have HL : 1 ≤ so ∧ so ≤ 16 := by
      have h := (fit_iff ..).1 hx
      omega
    have hf' : id < 21 ∨ 21 + so ≤ id := by
      rcases Classical.em (id < 21) with h | h
      · exact .inl h
      · refine .inr ?_
        rcases Classical.em (id < 21 + so) with h2 | h2
        · exact absurd ⟨hx, by omega, h2⟩ HF.out
        · omega
    clear hs hf hx
    by_cases h41 : id < 21
    · clear hf'
      go_enter Tryz.func4, Tryz.ntmps4
      go_wp2_with (first | (go_at_call 5; refine (awake_any _).mono ?_; rintro e w1 ⟨rfl, hb⟩; have X1 := hid (((Ext.refl (fun _ => False) w).alloc _).trans (Ext.of_below hb)); have S1 := hid ((Ext.of_below (S := fun _ => False) hb).blk (alloc_at w (.cells #[.int .i64 d, .int .i64 m, .int .i64 st, .int .i64 so, .int .i64 le, .int .i64 ch, .int .i64 re, .int .i64 ba, .int .i64 rt, .int .i64 rn] 25) rfl) (fun h => h)); obtain ⟨a0, a1, a2, a3, a4, a5, a6, a7, a8, a9⟩ := cells10 S1.out; have hza : w.heap.size < w1.heap.size := lt_of_blk S1.out; clear hb) | (go_at_call 8; refine (disk_new _).mono ?_; rintro e w2 ⟨rfl, rfl⟩; have D2 := hid (disk_made (w := w1))) | (go_at_call 12; refine (disk_cut _ (w1.heap.size + 1) w1.heap.size D2.out).mono ?_; rintro e w3 ⟨rfl, hD3, hx3⟩; have D3 := hid hD3; have X3 := hid ((((Ext.refl (fun _ => False) w1).alloc _).alloc _).mono (S' := (w1.heap.size ≤ ·)) (fun _ _ h => h.elim) |>.then_ hx3 (fun i hi h => by omega)); have S3 := hid (X3.out.blk S1.out (by omega)); obtain ⟨b0, b1, b2, b3, b4, b5, b6, b7, b8, b9⟩ := cells10 S3.out; have hzb : w.heap.size < w3.heap.size := lt_of_blk S3.out; clear hD3 hx3) | (go_at_call 7; clear tok1; refine (new_no _ id ⟨d, m, st, so, le, ch, re, ba, rt, rn⟩ _ HS.out HF.out).mono ?_; rintro e w4 ⟨rfl, hb⟩; have X4 := hid ((X1.out.mono (S' := (w.heap.size ≤ ·)) (fun _ _ h => h.elim)).then_ (X3.out) (fun i hi h => by have := X1.out.size; omega) |>.trans (Ext.of_below hb)); have S4 := hid ((Ext.of_below (S := fun _ => False) hb).blk S3.out (fun h => h)); obtain ⟨c0, c1, c2, c3, c4, c5, c6, c7, c8, c9⟩ := cells10 S4.out; have hzc : w.heap.size < w4.heap.size := lt_of_blk S4.out; clear hb) | (go_at_call 7; refine (new_none _ id ⟨d, m, st, so, le, ch, re, ba, rt, rn⟩ HS.out).mono ?_; rintro e w5 ⟨rfl, hb⟩; have X5 := hid (X4.out.trans (Ext.of_below hb)); have S5 := hid ((Ext.of_below (S := fun _ => False) hb).blk S4.out (fun h => h)); obtain ⟨cc0, cc1, cc2, cc3, cc4, cc5, cc6, cc7, cc8, cc9⟩ := cells10 S5.out; have hzcc : w.heap.size < w5.heap.size := lt_of_blk S5.out; skip; clear hb) | (go_at_call 9; refine (handle_no _).mono ?_; rintro e w6 ⟨rfl, hb⟩; have X6 := hid (X5.out.trans (Ext.of_below hb)); have S6 := hid ((Ext.of_below (S := fun _ => False) hb).blk S5.out (fun h => h)); obtain ⟨dd0, dd1, dd2, dd3, dd4, dd5, dd6, dd7, dd8, dd9⟩ := cells10 S6.out; have hzdd : w.heap.size < w6.heap.size := lt_of_blk S6.out; clear hb) | (go_at_call 13; refine (tick_no _ 1 _ _).mono ?_; rintro e wx ⟨rfl, rfl⟩) | (go_at_call 14; clear tok3; refine (served_no _).mono ?_; rintro e wx ⟨rfl, rfl⟩) | (go_at_call 11; refine (waiting_no _).mono ?_; rintro e wx ⟨rfl, rfl⟩) | (go_at_call 10; clear tok2; refine (term_no _).mono ?_; rintro e wx ⟨rfl, rfl⟩) | (go_at_call 15; refine (fits19_any _ d m st so le ch re ba rt rn).mono ?_; rintro e w7 ⟨rfl, hb⟩; rw [HX.out]; have X7 := hid (((X6.out.alloc _).alloc _).trans (Ext.of_below hb)); have S7 := hid ((Ext.of_below (S := fun _ => False) hb).blk (blk_alloc (blk_alloc S6.out _) _) (fun h => h)); obtain ⟨f0, f1, f2, f3, f4, f5, f6, f7, f8, f9⟩ := cells10 S7.out; have hzf : w.heap.size < w7.heap.size := lt_of_blk S7.out; skip; clear hb))
      go_ret
      exact ⟨rfl, X7.out.below (Nat.le_refl _) (fun _ h => h)⟩
    · have h41' : 21 + so ≤ id := by omega
      clear hf'
      go_enter Tryz.func4, Tryz.ntmps4
      go_wp2_with (first | (go_at_call 5; refine (awake_any _).mono ?_; rintro e w1 ⟨rfl, hb⟩; have X1 := hid (((Ext.refl (fun _ => False) w).alloc _).trans (Ext.of_below hb)); have S1 := hid ((Ext.of_below (S := fun _ => False) hb).blk (alloc_at w (.cells #[.int .i64 d, .int .i64 m, .int .i64 st, .int .i64 so, .int .i64 le, .int .i64 ch, .int .i64 re, .int .i64 ba, .int .i64 rt, .int .i64 rn] 25) rfl) (fun h => h)); obtain ⟨a0, a1, a2, a3, a4, a5, a6, a7, a8, a9⟩ := cells10 S1.out; have hza : w.heap.size < w1.heap.size := lt_of_blk S1.out; clear hb) | (go_at_call 8; refine (disk_new _).mono ?_; rintro e w2 ⟨rfl, rfl⟩; have D2 := hid (disk_made (w := w1))) | (go_at_call 12; refine (disk_cut _ (w1.heap.size + 1) w1.heap.size D2.out).mono ?_; rintro e w3 ⟨rfl, hD3, hx3⟩; have D3 := hid hD3; have X3 := hid ((((Ext.refl (fun _ => False) w1).alloc _).alloc _).mono (S' := (w1.heap.size ≤ ·)) (fun _ _ h => h.elim) |>.then_ hx3 (fun i hi h => by omega)); have S3 := hid (X3.out.blk S1.out (by omega)); obtain ⟨b0, b1, b2, b3, b4, b5, b6, b7, b8, b9⟩ := cells10 S3.out; have hzb : w.heap.size < w3.heap.size := lt_of_blk S3.out; clear hD3 hx3) | (go_at_call 7; clear tok1; refine (new_no _ id ⟨d, m, st, so, le, ch, re, ba, rt, rn⟩ _ HS.out HF.out).mono ?_; rintro e w4 ⟨rfl, hb⟩; have X4 := hid ((X1.out.mono (S' := (w.heap.size ≤ ·)) (fun _ _ h => h.elim)).then_ (X3.out) (fun i hi h => by have := X1.out.size; omega) |>.trans (Ext.of_below hb)); have S4 := hid ((Ext.of_below (S := fun _ => False) hb).blk S3.out (fun h => h)); obtain ⟨c0, c1, c2, c3, c4, c5, c6, c7, c8, c9⟩ := cells10 S4.out; have hzc : w.heap.size < w4.heap.size := lt_of_blk S4.out; clear hb) | (go_at_call 7; refine (new_none _ id ⟨d, m, st, so, le, ch, re, ba, rt, rn⟩ HS.out).mono ?_; rintro e w5 ⟨rfl, hb⟩; have X5 := hid (X4.out.trans (Ext.of_below hb)); have S5 := hid ((Ext.of_below (S := fun _ => False) hb).blk S4.out (fun h => h)); obtain ⟨cc0, cc1, cc2, cc3, cc4, cc5, cc6, cc7, cc8, cc9⟩ := cells10 S5.out; have hzcc : w.heap.size < w5.heap.size := lt_of_blk S5.out; skip; clear hb) | (go_at_call 9; refine (handle_no _).mono ?_; rintro e w6 ⟨rfl, hb⟩; have X6 := hid (X5.out.trans (Ext.of_below hb)); have S6 := hid ((Ext.of_below (S := fun _ => False) hb).blk S5.out (fun h => h)); obtain ⟨dd0, dd1, dd2, dd3, dd4, dd5, dd6, dd7, dd8, dd9⟩ := cells10 S6.out; have hzdd : w.heap.size < w6.heap.size := lt_of_blk S6.out; clear hb) | (go_at_call 13; refine (tick_no _ 1 _ _).mono ?_; rintro e wx ⟨rfl, rfl⟩) | (go_at_call 14; clear tok3; refine (served_no _).mono ?_; rintro e wx ⟨rfl, rfl⟩) | (go_at_call 11; refine (waiting_no _).mono ?_; rintro e wx ⟨rfl, rfl⟩) | (go_at_call 10; clear tok2; refine (term_no _).mono ?_; rintro e wx ⟨rfl, rfl⟩) | (go_at_call 15; refine (fits19_any _ d m st so le ch re ba rt rn).mono ?_; rintro e w7 ⟨rfl, hb⟩; rw [HX.out]; have X7 := hid (((X6.out.alloc _).alloc _).trans (Ext.of_below hb)); have S7 := hid ((Ext.of_below (S := fun _ => False) hb).blk (blk_alloc (blk_alloc S6.out _) _) (fun h => h)); obtain ⟨f0, f1, f2, f3, f4, f5, f6, f7, f8, f9⟩ := cells10 S7.out; have hzf : w.heap.size < w7.heap.size := lt_of_blk S7.out; skip; clear hb))
      go_ret
      exact ⟨rfl, X7.out.below (Nat.le_refl _) (fun _ h => h)⟩
end Go.Proofs.YtdfmfjkcgbjgbaaGreatDoor
