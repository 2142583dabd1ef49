/- The law's own first steps: a node, a fact that is ahead, the next one. -/
import Derived.Test.YtcljpmknandlhaaGreatDoorProg
import Derived.Test.YtcljpmknandlhaaGreatDoorRHandle
import Derived.Test.YtcljpmknandlhaaGreatDoorRNew2
import Derived.Test.YtcljpmknandlhaaGreatDoorSetup
namespace Go.Proofs.YtcljpmknandlhaaGreatDoor
open Go Go.RowKit
set_option linter.unusedVariables false
set_option linter.unusedSimpArgs false
set_option maxRecDepth 100000
theorem fit_small {D S R L C P B T N : Int} (h : Small D S R L C P B T N) : (Su.mk D 1 S R L C P B T N).fit = true := by
  obtain ⟨⟩ := h
  show fitB D 1 S R L C P B T N = true
  rw [fit_iff]
  refine ⟨?_, by omega⟩
  unfold fineB
  simp
  omega
theorem zu_zo (k : Nat) : zu k = zo (List.replicate k 0) := by simp [zu, zo]
theorem rep0 (n : Nat) (h : 1 ≤ n) : (List.replicate n 0)[0]? = some 0 := by cases n <;> simp_all
theorem book_new {w : World} {B : Nat} {A : Option Addr} {n c : Nat} (hO : Own w B 37 1 (.slice A n c) n (zu n)) :
    BookAt (w.alloc (.cells #[.int .i64 0, .int .i64 0, .int .i64 0, .slice none 0 0, .slice A n c, .bool false, .int .i64 0, .slice none 0 0, .slice none 0 0] 36)) w.heap.size 0 0 0 (.slice none 0 0) (.slice A n c) 0 0 n [] (zo (List.replicate n 0)) := by
  refine ⟨heap_alloc_new w _, Rd.nil _ _, zu_zo n ▸ hO.rd.ext ((Ext.refl (fun _ => False) w).alloc _) (fun _ _ h => h), fun b hb => by simp [At, Value.ownBlock] at hb, fun b hb => ?_⟩
  have := (hO.lt b hb).2
  exact ⟨by omega, by simp; omega⟩
set_option maxHeartbeats 4000000 in
theorem awake_any (w : World) : Calls Tryz.prog 4 #[] w fun e w' => e = .returned (.bool true) ∧ Below w.heap.size w w' := by
  have hi : I64 0 := by unfold I64; omega
  have HI := hid hi
  clear hi
  have tok1 := hid True.intro
  have tok2 := hid True.intro
  go_enter Tryz.func4, Tryz.ntmps4
  go_wp2_with (first | (go_at_call 14; refine (setup_any _ 0 0 0 0 0 0 0 0 0 0 ⟨HI.out, HI.out, HI.out, HI.out, HI.out, HI.out, HI.out, HI.out, HI.out⟩).mono ?_; rintro e w1 ⟨D, S, R, L, C, P, B, T, N, rfl, hsm, hL, hB1⟩; (have g1 := hsm.D1; have g2 := hsm.D2; have g3 := hsm.S1; have g4 := hsm.S2; have g5 := hsm.C1; have g6 := hsm.C2); obtain ⟨Dn, rfl⟩ := Int.eq_ofNat_of_zero_le (show 0 ≤ D by omega); obtain ⟨Sn, rfl⟩ := Int.eq_ofNat_of_zero_le (show 0 ≤ S by omega); have FT := hid (fit_small hsm); have BB1 := hid hB1; unfold sval; clear hL hsm hB1) | (go_at_call 15; refine (first_any _ Sn (by omega)).mono ?_; rintro e w2 ⟨O, rfl, hO, hb⟩; obtain ⟨A2, c2, rfl, _, _⟩ := hO.form; have X2 := hid (((Ext.of_below (S := fun _ => False) BB1.out).alloc _).trans (Ext.of_below hb)); have S2 := hid ((Ext.of_below (S := fun _ => False) hb).blk (heap_alloc_new w1 _) (fun h => h)); have O2 := hid hO; obtain ⟨a0, a1, a2, a3, a4, a5, a6, a7, a8, a9⟩ := cells10 S2.out; have hz2 := lt_of_blk S2.out; clear hO hb) | (go_at_call 7; refine (new_yes _ w2.heap.size ⟨Dn, 1, Sn, R, L, C, P, B, T, N⟩ 0 (.slice none 0 0) (.slice A2 Sn c2) Sn (List.replicate Sn 0) 0 (book_new O2.out) (List.length_replicate) (by omega) FT.out (by show ((0 : Nat) : Int) < (Sn : Int); omega) (by omega) (rep0 Sn (by omega)) (by omega)).mono ?_; rintro e w3 ⟨nb, ib, rfl, hN, hI, hn1, hn2, hne, hx, _⟩; have N3 := hid hN; have I3 := hid hI; have X3 := hid ((X2.out.alloc _ |>.mono (S' := (w.heap.size ≤ ·)) (fun _ _ h => h.elim)).then_ hx (fun i hi h => by have := X2.out.size; omega)); have S3 := hid (hx.blk (blk_alloc S2.out _) (by omega)); obtain ⟨b0, b1, b2, b3, b4, b5, b6, b7, b8, b9⟩ := cells10 S3.out; have hz3 := lt_of_blk S3.out; have G3 := hid (And.intro hn1 (And.intro hn2 hne)); clear hx hN hI hn1 hn2 hne) | (go_at_call 16; refine (fact_zero _ Dn 1 Sn R L C P B T N (by omega) (by omega) (by omega)).mono ?_; rintro e w4 ⟨A4, c4, g4, rfl, hO4, hg4, hl4, hb4⟩; have X4 := hid (X3.out.then_ (Ext.of_below (S := fun _ => False) hb4) (fun _ _ h => h.elim)); have N4 := hid (N3.out.ext (Ext.of_below (S := fun _ => False) hb4) (fun h => h)); have I4 := hid (I3.out.ext (Ext.of_below (S := fun _ => False) hb4) (fun h => h)); have O4 := hid hO4; have M4 := hid hg4; have hzg := lt_of_blk hg4; have L4 := hid hl4; clear hO4 hg4 hl4 hb4) | (go_at_call 12; clear tok1; refine (handle_gap _ nb ib ⟨Dn, 1, Sn, R, L, C, P, B, T, N⟩ Dn 1 C A4 (some ⟨g4, 0, none⟩) c4 1 [.int .i64 0] (N4.out.ext ((Ext.refl (fun _ => False) w4).alloc _) (fun h => h)) (I4.out.ext ((Ext.refl (fun _ => False) w4).alloc _) (fun h => h)) G3.out.2.2 (by omega) (by omega) (O4.out.rd.ext ((Ext.refl (fun _ => False) w4).alloc _) (fun _ _ h => h)) (Rd_one (cell_of (blk_alloc M4.out _) 0)) (by intro u hu; simp at hu; subst hu; rfl) (fun k hk => by rcases hk with hk | hk; (have := (O4.out.lt k hk).2; simp; omega); (simp [At, Value.ownBlock] at hk; simp; omega))).mono ?_; rintro e w5 ⟨rb5, rfl, hP5, hx5⟩; have X45 := hid (((Ext.refl (fun _ => False) w4).alloc _).trans hx5); have X5 := hid (X4.out.then_ X45.out (fun _ _ h => h.elim)); have N5 := hid (N4.out.ext X45.out (fun h => h)); have I5 := hid (I4.out.ext X45.out (fun h => h)); have P5 := hid hP5; have F5 := hid (hx5.blk (heap_alloc_new w4 _) (fun h => h)); (have j0 := cell_of F5.out 0; have j1 := cell_of F5.out 1; have j2 := cell_of F5.out 2); have hz5 := lt_of_blk F5.out; clear hP5 hx5) | (go_at_call 12; clear tok2; refine (handle_took _ nb ib ⟨Dn, 1, Sn, R, L, C, P, B, T, N⟩ Dn 1 C A4 (some ⟨g4, 0, none⟩) c4 1 [.int .i64 0] N5.out I5.out G3.out.2.2 (by omega) (by omega) (O4.out.rd.ext X45.out (fun _ _ h => h)) (Rd_one (cell_of (X45.out.blk M4.out (fun h => h)) 0)) (by intro u hu; simp at hu; subst hu; rfl) (fun k hk => by have := X45.out.size; rcases hk with hk | hk; (have := (O4.out.lt k hk).2; omega); (simp [At, Value.ownBlock] at hk; omega))).mono ?_; rintro e w6 ⟨rb6, F6, rfl, hP6, hN6, hI6, hx6⟩; have N6 := hid hN6; have I6 := hid hI6; have X6 := hid (X5.out.then_ hx6 (fun i hi h => by have := G3.out; have := X2.out.size; simp at *; omega)); have Q5 := hx6.blk P5.out (fun h => by subst h; have := P5.out.symm.trans I5.out.blk; simp at this); (have u0 := cell_of Q5 0; have u8 := cell_of Q5 8; have v4 := cell_of hP6 4; have v5 := cell_of hP6 5; have v8 := cell_of hP6 8); (have hq5 := lt_of_blk Q5; have hq6 := lt_of_blk hP6); clear hN6 hI6 hx6 hP6 Q5) | (go_at_call 9; refine (taken_at _ nb ib ⟨Dn, 1, Sn, R, L, C, P, B, T, N⟩ 0 0 Dn 1 C 1 F6 1 N6.out I6.out (by omega)).mono ?_; rintro e w7 ⟨rfl, rfl⟩))
  go_ret
  exact ⟨rfl, X6.out.below (Nat.le_refl _) (fun _ h => h)⟩
end Go.Proofs.YtcljpmknandlhaaGreatDoor
