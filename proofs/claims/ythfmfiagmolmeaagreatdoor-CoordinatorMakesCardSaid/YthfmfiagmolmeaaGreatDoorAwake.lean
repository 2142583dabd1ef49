/- The law's own run: two nodes, one book. -/
import Derived.Test.YthfmfiagmolmeaaGreatDoorProg
import Derived.Test.YthfmfiagmolmeaaGreatDoorTick
import Derived.Test.YthfmfiagmolmeaaGreatDoorSetup
import Derived.WalkSpells
namespace Go.Proofs.YthfmfiagmolmeaaGreatDoor
open Go Go.RowKit
set_option linter.unusedVariables false
set_option linter.unusedSimpArgs false
set_option maxRecDepth 100000
/-- Two nodes and a book, apart. -/
structure Three (w : World) (n1 v1 u1 n2 v2 u2 bb : Nat) (s : Su) (t1 t2 te ld calls : Int) (M O : Value) (k : Nat) : Prop where
  one : NodeAt w n1 v1 u1 s 41 t1
  two : NodeAt w n2 v2 u2 s 42 t2
  book : BookAt w bb 0 te ld M O calls 0 k [] (zu k)
  apart : bb ≠ n1 ∧ bb ≠ v1 ∧ bb ≠ u1 ∧ bb ≠ n2 ∧ bb ≠ v2 ∧ bb ≠ u2 ∧ n1 ≠ n2 ∧ n1 ≠ v2 ∧ n1 ≠ u2 ∧ n2 ≠ v1 ∧ n2 ≠ u1
  outM : ∀ b, At M b → b ≠ n1 ∧ b ≠ n2
  outO : ∀ b, At O b → b ≠ n1 ∧ b ≠ n2
theorem Three.grow {w w' : World} {n1 v1 u1 n2 v2 u2 bb : Nat} {s : Su} {t1 t2 te ld calls : Int} {M O : Value} {k : Nat} (h : Three w n1 v1 u1 n2 v2 u2 bb s t1 t2 te ld calls M O k) (hE : Ext (fun _ => False) w w') :
    Three w' n1 v1 u1 n2 v2 u2 bb s t1 t2 te ld calls M O k :=
  ⟨h.one.ext hE (fun h => h) (fun h => h) (fun h => h), h.two.ext hE (fun h => h) (fun h => h) (fun h => h), h.book.ext hE (fun h => h) (fun _ _ h => h) (fun _ _ h => h), h.apart, h.outM, h.outO⟩
section
variable {w w' : World} {n1 v1 u1 n2 v2 u2 bb : Nat} {s : Su} {t1 t2 te ld calls te' calls' : Int} {M O M1 O1 : Value} {k : Nat}
theorem Three.el1 (h : Three w n1 v1 u1 n2 v2 u2 bb s t1 t2 te ld calls M O k) (hP : NodeAt w' n1 v1 u1 s 41 (te + 1)) (hB : BookAt w' bb 0 (te + 1) 41 M1 O1 (calls + 1) 0 k [] (zu k))
    (hM : ∀ b, At M1 b → w.heap.size ≤ b) (hO : ∀ b, At O1 b → w.heap.size ≤ b) (hx : Ext (fun b => b = n1 ∨ b = bb) w w') (e1 : te' = te + 1) (e2 : calls' = calls + 1) :
    Three w' n1 v1 u1 n2 v2 u2 bb s te' t2 te' 41 calls' M1 O1 k := by
  subst e1 e2
  have ha := h.apart
  have l1 := lt_of_blk h.one.blk
  have l2 := lt_of_blk h.two.blk
  exact ⟨hP, h.two.ext hx (by omega) (by omega) (by omega), hB, ha, fun b hb => by have := hM b hb; omega, fun b hb => by have := hO b hb; omega⟩
theorem Three.el2 (h : Three w n1 v1 u1 n2 v2 u2 bb s t1 t2 te ld calls M O k) (hP : NodeAt w' n2 v2 u2 s 42 (te + 1)) (hB : BookAt w' bb 0 (te + 1) 42 M1 O1 (calls + 1) 0 k [] (zu k))
    (hM : ∀ b, At M1 b → w.heap.size ≤ b) (hO : ∀ b, At O1 b → w.heap.size ≤ b) (hx : Ext (fun b => b = n2 ∨ b = bb) w w') (e1 : te' = te + 1) (e2 : calls' = calls + 1) :
    Three w' n1 v1 u1 n2 v2 u2 bb s t1 te' te' 42 calls' M1 O1 k := by
  subst e1 e2
  have ha := h.apart
  have l1 := lt_of_blk h.one.blk
  have l2 := lt_of_blk h.two.blk
  exact ⟨h.one.ext hx (by omega) (by omega) (by omega), hP, hB, ha, fun b hb => by have := hM b hb; omega, fun b hb => by have := hO b hb; omega⟩
end
theorem fit_small {D S R L C P B T N : Int} (h : Small D S R L C P B T N) : (Su.mk D 1 S R L C P B T N).fit = true := by
  obtain ⟨⟩ := h
  show fitB D 1 S R L C P B T N = true
  rw [fit_iff]
  refine ⟨?_, by omega⟩
  unfold fineB
  simp
  omega
theorem cells10 {w : World} {b : Nat} {a0 a1 a2 a3 a4 a5 a6 a7 a8 a9 : Value} {T : TypeId} (h : w.heap[b]? = some (.cells #[a0, a1, a2, a3, a4, a5, a6, a7, a8, a9] T (0, 0))) :
    w.cell? ⟨b, 0, none⟩ = some a0 ∧ w.cell? ⟨b, 1, none⟩ = some a1 ∧ w.cell? ⟨b, 2, none⟩ = some a2 ∧ w.cell? ⟨b, 3, none⟩ = some a3 ∧ w.cell? ⟨b, 4, none⟩ = some a4 ∧ w.cell? ⟨b, 5, none⟩ = some a5 ∧ w.cell? ⟨b, 6, none⟩ = some a6 ∧ w.cell? ⟨b, 7, none⟩ = some a7 ∧ w.cell? ⟨b, 8, none⟩ = some a8 ∧ w.cell? ⟨b, 9, none⟩ = some a9 :=
  ⟨cell_of h 0, cell_of h 1, cell_of h 2, cell_of h 3, cell_of h 4, cell_of h 5, cell_of h 6, cell_of h 7, cell_of h 8, cell_of h 9⟩
set_option maxHeartbeats 2000000 in
theorem awake_any (w : World) : Calls Tryz.prog 4 #[] w fun e w' => e = .returned (.bool true) ∧ Below w.heap.size w w' := by
  have hi : I64 0 := by unfold I64; omega
  have hi1 : I64 1 := by unfold I64; omega
  have HI := hid (And.intro hi hi1)
  clear hi hi1
  have tok1 := hid True.intro
  have tok2 := hid True.intro
  have tok3 := hid True.intro
  have tok4 := hid True.intro
  go_enter Tryz.func4, Tryz.ntmps4
  go_upto_region 7 with (first | (go_at_call 13; refine (setup_any _ 0 0 0 0 1 0 0 0 0 0 ⟨HI.out.1, HI.out.1, HI.out.1, HI.out.2, HI.out.1, HI.out.1, HI.out.1, HI.out.1, HI.out.1⟩).mono ?_; rintro e w1 ⟨D, S, R, L, C, P, B, T, N, rfl, hsm, hL, hB1⟩; (have hL2 : L = 2 := (by rw [hL]; decide)); subst hL2; clear hL; obtain ⟨n, rfl⟩ : ∃ n : Nat, S = n := ⟨S.toNat, by have := hsm.S1; omega⟩; have SM := hid hsm; have hn : n ≤ 1000 := (by have := hsm.S2; omega); have FT := hid (fit_small hsm); have BB1 := hid hB1; unfold sval; clear hsm hB1) | (go_at_call 14; refine (first_any _ n hn).mono ?_; rintro e w2 ⟨O0, rfl, hO, hB2⟩; obtain ⟨A0, c0, rfl, _, _⟩ := hO.form; have OW := hid hO; have X2 := hid (Ext.of_below (S := fun _ => False) hB2); have sr := X2.out.blk (alloc_at w1 (.cells #[.int .i64 D, .int .i64 1, .int .i64 n, .int .i64 R, .int .i64 2, .int .i64 C, .int .i64 P, .int .i64 B, .int .i64 T, .int .i64 N] 25) rfl) (fun h => h); obtain ⟨a0, a1, a2, a3, a4, a5, a6, a7, a8, a9⟩ := cells10 sr; have hs2 : w1.heap.size < w2.heap.size := lt_of_blk sr; have SR2 := hid sr; have BB2 := hid hB2; clear hO hB2 sr) | (go_at_call 5; clear tok1; refine (new_yes _ 41 ⟨D, 1, n, R, 2, C, P, B, T, N⟩ FT.out (by omega) (by show (41 : Int) < 41 + 2; omega)).mono ?_; rintro e w3 ⟨n1, v1, u1, rfl, hN1, b1, b2, b3, hB3⟩; have X3 := hid (Ext.of_below (S := fun _ => False) hB3); have sr := X3.out.blk (blk_alloc SR2.out _) (fun h => h); obtain ⟨d0, d1, d2, d3, d4, d5, d6, d7, d8, d9⟩ := cells10 sr; have hs3 : w1.heap.size < w3.heap.size := lt_of_blk sr; have SR3 := hid sr; have N1 := hid hN1; have G1 := hid (And.intro b1 (And.intro b2 b3)); clear hN1 b1 b2 b3 hB3 sr) | (go_at_call 5; refine (new_yes _ 42 ⟨D, 1, n, R, 2, C, P, B, T, N⟩ FT.out (by omega) (by show (42 : Int) < 41 + 2; omega)).mono ?_; rintro e w4 ⟨n2, v2, u2, rfl, hN2, b1, b2, b3, hB4⟩; have X4 := hid (Ext.of_below (S := fun _ => False) hB4); have N2 := hid hN2; have G2 := hid (And.intro b1 (And.intro b2 b3)); clear hN2 b1 b2 b3 hB4))
  have XB := hid (((Ext.refl (fun _ => False) w2).alloc (.cells #[.int .i64 0, .int .i64 0, .int .i64 0, .slice none 0 0, .slice A0 n c0, .bool false, .int .i64 0, .slice none 0 0, .slice none 0 0] 64)).trans X3.out |>.trans X4.out)
  have TH : Hid (Three w4 n1 v1 u1 n2 v2 u2 w2.heap.size ⟨D, 1, n, R, 2, C, P, B, T, N⟩ 0 0 0 0 0 (.slice none 0 0) (.slice A0 n c0) n) := by
    have hbk := X4.out.blk (X3.out.blk (alloc_at w2 (.cells #[.int .i64 0, .int .i64 0, .int .i64 0, .slice none 0 0, .slice A0 n c0, .bool false, .int .i64 0, .slice none 0 0, .slice none 0 0] 64) rfl) (fun h => h)) (fun h => h)
    have hOw := OW.out.ext XB.out (fun _ _ h => h)
    have g1 := G1.out
    have g2 := G2.out
    have h1 := lt_of_blk N1.out.blk
    have h2 := lt_of_blk N1.out.views
    have h3 := lt_of_blk N1.out.unnamed
    simp at g1
    refine ⟨N1.out.ext X4.out (fun h => h) (fun h => h) (fun h => h), N2.out, ⟨hbk, Rd.nil _ _, hOw.rd, (by intro b hb; cases hb), fun b hb => ?_⟩, by omega, (by intro b hb; cases hb), fun b hb => ?_⟩
    · have := (OW.out.lt b hb).2
      have := (hOw.lt b hb).2
      omega
    · have := (OW.out.lt b hb).2
      omega
  have EW4 := hid ((((Ext.of_below (S := fun _ => False) BB1.out).alloc _).trans X2.out).trans XB.out)
  have hgb : w.heap.size ≤ w2.heap.size := by have := BB1.out.size; have := X2.out.size; simp at this; omega
  have hg1 : w.heap.size ≤ n1 := by have := G1.out; simp at this; omega
  have hg2 : w.heap.size ≤ n2 := by have := G2.out; have := lt_of_blk N1.out.blk; omega
  clear OW XB X2 X3 X4 SR2 SR3 BB1 BB2 N1 N2 G1 G2 a0 a1 a2 a3 a4 a5 a6 a7 a8 a9 d0 d1 d2 d3 d4 d5 d6 d7 d8 d9 hs2 hs3 FT SM
  go_wp2_with (first | (go_at_call 8; refine (compact_zero _ n1 v1 u1 _ 41 0 10 _ _ _ _ (TH.out.grow ((Ext.refl (fun _ => False) w4).alloc _)).one).mono ?_; rintro e w5 ⟨rfl, hb⟩; have XA := hid (((Ext.refl (fun _ => False) w4).alloc _).trans (Ext.of_below hb)); have T5 := hid (TH.out.grow XA.out); clear hb) | (go_at_call 7; clear tok2; refine (nodeel_any _ n1 v1 u1 w2.heap.size _ 41 0 0 0 0 _ _ 0 0 n [] (zu n) T5.out.one T5.out.book ⟨T5.out.apart.1, T5.out.apart.2.1, T5.out.apart.2.2.1⟩ (by omega) (by omega) (by intro u hu; cases hu) (zu_one n) (by omega) (by omega) (by omega) (by omega) (by omega) (fun b hb => (T5.out.outM b hb).1) (fun b hb => (T5.out.outO b hb).1)).mono ?_; rintro e w6 ⟨M6, O6, rfl, hN, hB, hM, hO, hx⟩; have T6 := hid (T5.out.el1 hN hB hM hO hx (te' := 1) (calls' := 1) rfl rfl); have X6 := hid hx; clear hN hB hM hO hx) | (go_at_call 7; refine (nodeel_any _ n2 v2 u2 w2.heap.size _ 42 0 0 1 41 _ _ 1 0 n [] (zu n) T6.out.two T6.out.book ⟨T6.out.apart.2.2.2.1, T6.out.apart.2.2.2.2.1, T6.out.apart.2.2.2.2.2.1⟩ (by omega) (by omega) (by intro u hu; cases hu) (zu_one n) (by omega) (by omega) (by omega) (by omega) (by omega) (fun b hb => (T6.out.outM b hb).2) (fun b hb => (T6.out.outO b hb).2)).mono ?_; rintro e w7 ⟨M7, O7, rfl, hN, hB, hM, hO, hx⟩; have T7 := hid (T6.out.el2 hN hB hM hO hx (te' := 2) (calls' := 2) rfl rfl); have X7 := hid hx; clear hN hB hM hO hx) | (go_at_call 10; clear tok3; refine (term_at _ n1 v1 u1 _ 41 1 T6.out.one).mono ?_; rintro e w7' ⟨rfl, rfl⟩) | (go_at_call 11; refine (tick_old _ n1 v1 u1 w2.heap.size _ 41 0 42 _ _ 2 n (zu n) _ 1 _ (T7.out.grow ((Ext.refl (fun _ => False) _).alloc _)).one (T7.out.grow ((Ext.refl (fun _ => False) _).alloc _)).book ⟨T7.out.apart.1, T7.out.apart.2.1, T7.out.apart.2.2.1⟩ (by omega) (by omega) (zu_one n) (by omega)).mono ?_; rintro e w8 ⟨rfl, hN8, hx8⟩; have X8 := hid (((Ext.refl (fun b => b = n1 ∨ b = w2.heap.size) _).alloc _).trans hx8); have N8 := hid hN8; have M8 := hid (T7.out.two.ext X8.out (by have := T7.out.apart; omega) (by have := T7.out.apart; omega) (by have := T7.out.apart; omega)); clear hN8 hx8) | (go_at_call 10; clear tok4; refine (term_at _ n1 v1 u1 _ 41 0 N8.out).mono ?_; rintro e w9 ⟨rfl, rfl⟩) | (go_at_call 10; refine (term_at _ n2 v2 u2 _ 42 2 M8.out).mono ?_; rintro e w9 ⟨rfl, rfl⟩))
  go_ret
  refine ⟨rfl, ?_⟩
  have r6 := X6.out.mono (S' := (w.heap.size ≤ ·)) (fun k _ h => by omega)
  have r7 := X7.out.mono (S' := (w.heap.size ≤ ·)) (fun k _ h => by omega)
  have r8 := X8.out.mono (S' := (w.heap.size ≤ ·)) (fun k _ h => by omega)
  exact (((((EW4.out.trans XA.out).mono (S' := (w.heap.size ≤ ·)) (fun _ _ h => h.elim)).trans r6).trans r7).trans r8).below (Nat.le_refl _) (fun _ h => h)
end Go.Proofs.YthfmfiagmolmeaaGreatDoor
