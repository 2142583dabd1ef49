/- The law on a node's making: true of whatever comes. -/
import Derived.Test.YtcljpmknandlhaaGreatDoorProg
import Derived.Test.YtcljpmknandlhaaGreatDoorRLaw
import Derived.Deep.RegionHeld3
import Derived.Deep.RegionLaw
import Derived.BigQuiet
namespace Go.Proofs.YtcljpmknandlhaaGreatDoor
open Go Go.RowKit
set_option linter.unusedVariables false
set_option linter.unusedSimpArgs false
set_option maxRecDepth 100000
set_option maxHeartbeats 8000000 in
theorem makes_yes (w : World) (s : Su) (j a : Int) (V : Value) (n : Nat) (zs : List Nat) (hs : I64 j ∧ I64 s.st) (ha : I64 a) (hV : Rd w V n 1 (zo zs)) (hz : zs.length = n) (hoff : ab a % 2 = 0) (hf : s.fit = true) (h0 : 0 ≤ j) (h1 : j < s.st) (h2 : j < (min n 10 : Nat)) :
    Calls Tryz.prog 3 #[s.val, .int .i64 j, V, .int .i64 a] w fun e w' => e = .returned (.bool true) ∧ Below w.heap.size w w' := by
  obtain ⟨d, m, st, so, le, ch, re, ba, rt, rn⟩ := s
  obtain ⟨_, VA, vc, rfl, hnc, hcm, _⟩ := id hV
  have HA := ab_ge a ha.1 ha.2
  have HS := hid hs
  have HV := hid (And.intro hV hz)
  have tok1 := hid True.intro
  have tok2 := hid True.intro
  unfold Su.val
  dsimp only at *
  have HX := hid (show fitB d m st so le ch re ba rt rn = true from hf)
  have hst : 1 ≤ st ∧ st ≤ 8 := by have := (fit_iff d m st so le ch re ba rt rn).1 HX.out; omega
  clear hf
  obtain ⟨jn, rfl⟩ := Int.eq_ofNat_of_zero_le h0
  clear hs ha hV hz
  go_enter Tryz.func3, Tryz.ntmps3
  go_wp2_with (first | (go_at_call 4; refine (awake_any _).mono ?_; rintro e w1 ⟨rfl, hb⟩; have X1 := hid (((Ext.refl (fun _ => False) w).alloc _).trans (Ext.of_below hb)); have S1 := hid ((Ext.of_below (S := fun _ => False) hb).blk (alloc_at w (.cells #[.int .i64 d, .int .i64 m, .int .i64 st, .int .i64 so, .int .i64 le, .int .i64 ch, .int .i64 re, .int .i64 ba, .int .i64 rt, .int .i64 rn] 25) rfl) (fun h => h)); have hza : w.heap.size < w1.heap.size := lt_of_blk S1.out; clear hb) | (go_at_call 5; refine (abs19 _ a).mono ?_; rintro e w' ⟨rfl, rfl⟩))
  have HOFF := hid hoff
  clear hoff
  go_loopw [11] (fun i wr => ∃ (k : Nat) (A : Option Addr) (c : Nat), k ≤ n ∧ k ≤ 10 ∧ i = .int .i64 k ∧ Hid (LoopR w1 wr false k A c zs)) (fun i _ => 10 - (intOf i).toNat)
  case atStart => exact ⟨0, none, 0, by omega, by omega, rfl, heap_alloc_new w1 _, Own.nil _ _ _ _, (Ext.refl _ w1).alloc _⟩
  case round =>
    obtain ⟨k, A, c, hk, hk10, rfl, H⟩ := hrel
    have k4 := cell_of H.out.blk 4
    have kf := free_of H.out.blk
    have hzb := lt_of_blk H.out.blk
    have XR := hid (X1.out.trans H.out.ext)
    by_cases hlt : k < n ∧ k < 10
    · obtain ⟨g1, g2⟩ := hlt
      obtain ⟨b1, o1, rfl, hb1, x, hx, hc1⟩ := zo_cell HV.out.1 k g1 HV.out.2
      have q1 := XR.out.cell hc1 (fun h => h)
      have zq := World.block_lt_of_cell? wr _ q1
      have HZX := hid hx
      have i0 : (0 : Int) ≤ (k : Int) := by omega
      have i1 : (k : Int) < (n : Int) := by omega
      have x0 : (0 : Int) ≤ (x : Int) := by omega
      clear hx hc1 hb1
      go_wp2
      go_region_law (refine step_app (w1.heap.size + 1) (by rfl) (.tmp 42) (.tmp 48) 26 37 _ 1 8 (by rfl) Tryz.underlying26 info_u64 rfl (by omega) (.slice A k c) k (zo (offs zs k)) _ 1 _ (by rfl) (by rfl) ?hO (Rd_box _ _ _) ?h1 ?hb ?hl ?_; (case hO => first | exact H.out.own.ext ((Ext.refl (fun _ => False) wr).drew.alloc _) (fun _ _ h => h)); (case h1 => simp [Value.oneCell']); (case hb => simp; omega); (case hl => omega); intro v2 w2 hO2 hg2 hat2; obtain ⟨A2, c2, rfl, _, _⟩ := hO2.form; have O2 := hid hO2; have X2 := hid (((Ext.refl (At (.slice A k c)) wr).drew.alloc _).then_ (Ext.of_grown (S := At (.slice A k c)) hg2 (fun k hk _ => hk)) (fun _ _ h => h)); have b2 := X2.out.blk H.out.blk (fun hh => by have := H.out.own.lt _ hh; omega); have j4 := cell_of b2 4; have jf := free_of b2; have hz2 := lt_of_blk b2; have y1 := hid q1; clear hO2 hg2 hat2 b2)
      all_goals
        go_wp2
        go_roundw
        case measure => simp [intOf]; omega
        case rel => exact ⟨k + 1, A2, c2, by omega, by omega, by go_num, H.out.next HZX.out X2.out O2.out⟩
    · have SR := hid (H.out.ext.blk S1.out (fun h => h))
      obtain ⟨a0, a1, a2, a3, a4, a5, a6, a7, a8, a9⟩ := cells10 SR.out
      have hzr := lt_of_blk SR.out
      have HE := hid (show (k : Int) = n ∨ k = 10 by omega)
      have hkj : jn < k := by omega
      obtain ⟨x, hxx⟩ : ∃ x, (offs zs k)[jn]? = some x := ⟨_, List.getElem?_eq_getElem (by rw [offs_len (by have := HV.out.2; omega)]; omega)⟩
      have HXX := hid hxx
      clear hxx
      have ij0 : (0 : Int) ≤ (jn : Int) := by omega
      have ij1 : (jn : Int) < (k : Int) := by omega
      have hoff := HOFF.out
      by_cases g1 : k < n
      · have g2 : ¬ k < 10 := by omega
        clear hlt k4 kf
        go_wp2_with (first | (go_at_call 6; refine (fits19_any _ d m st so le ch re ba rt rn).mono ?_; rintro e w3 ⟨rfl, hb⟩; rw [HX.out]; have XF := hid (Ext.of_below (S := fun _ => False) hb); have L3 := hid (H.out.far XF.out); have S3 := hid (XF.out.blk SR.out (fun h => h)); obtain ⟨b0, b1, b2, b3, b4, b5, b6, b7, b8, b9⟩ := cells10 S3.out; have hz3 := lt_of_blk S3.out; have X3 := hid (XR.out.trans XF.out); clear hb) | (go_at_call 7; clear tok1; refine (new_yes _ w1.heap.size ⟨d, m, st, so, le, ch, re, ba, rt, rn⟩ jn (.slice none 0 0) (.slice A k c) k (offs zs k) x L3.out.book (offs_len (by have := HV.out.2; omega)) (by omega) HX.out (by show (jn : Int) < st; omega) (by omega) HXX.out (offs_le HXX.out)).mono ?_; rintro e w4 ⟨nb, ib, rfl, hN, hI, hn1, hn2, hne, hx, hB⟩; have X34 := hid hx; have B4 := hid hB; have N4 := hid hN; have I4 := hid hI; have hx40 := hid (offs_le HXX.out); clear hx hB hN hI hn1 hn2 hne; have S4 := hid (X34.out.blk S3.out (by omega)); obtain ⟨c0, c1, c2, c3, c4, c5, c6, c7, c8, c9⟩ := cells10 S4.out; have hz4 := lt_of_blk S4.out; have X4 := hid ((X3.out.mono (S' := (w.heap.size ≤ ·)) (fun _ _ h => h.elim)).then_ X34.out (fun i hi h => by omega))) | (go_at_call 7; refine (new_none _ _ ⟨d, m, st, so, le, ch, re, ba, rt, rn⟩ HS.out).mono ?_; rintro e w5 ⟨rfl, hb⟩; have X45 := hid (Ext.of_below (S := fun _ => False) hb); have X5 := hid (X4.out.trans (Ext.of_below hb)); have S5 := hid (X45.out.blk S4.out (fun h => h)); obtain ⟨d0, d1, d2, d3, d4, d5, d6, d7, d8, d9⟩ := cells10 S5.out; have hz5 := lt_of_blk S5.out; clear hb) | (go_at_call 8; refine (seal_no _).mono ?_; rintro e wx ⟨rfl, rfl⟩) | (go_at_call 9; refine (taken_no _).mono ?_; rintro e wx ⟨rfl, rfl⟩) | (go_at_call 10; refine (served_no _).mono ?_; rintro e wx ⟨rfl, rfl⟩) | (go_at_call 11; refine (waiting_no _).mono ?_; rintro e wx ⟨rfl, rfl⟩) | (go_at_call 12; refine (handle_no _).mono ?_; rintro e w6 ⟨rfl, hb⟩; have X56 := hid (Ext.of_below (S := fun _ => False) hb); have X6 := hid (X5.out.trans (Ext.of_below hb)); have S6 := hid (X56.out.blk S5.out (fun h => h)); obtain ⟨f0, f1, f2, f3, f4, f5, f6, f7, f8, f9⟩ := cells10 S6.out; have hz6 := lt_of_blk S6.out; have B6 := hid (B4.out.ext (X45.out.trans X56.out) (fun h => h) (fun _ _ h => h) (fun _ _ h => h)); have N6 := hid (N4.out.ext (X45.out.trans X56.out) (fun h => h)); have I6 := hid (I4.out.ext (X45.out.trans X56.out) (fun h => h)); obtain ⟨_, _, _, _, m4, _, _, _, _, _⟩ := cells9 B6.out.blk; have hm4 := lt_of_blk B6.out.blk; obtain ⟨qb, qo, rfl, hqb, xx, hxx, mc⟩ := zo_cell B6.out.rdO jn (by omega) (offs_len (by have := HV.out.2; omega)); obtain rfl := Option.some.inj (HXX.out.symm.trans hxx); clear hxx; clear hb) | (go_at_call 13; refine (tick_no _ 1 _ _).mono ?_; rintro e wx ⟨rfl, rfl⟩) | (go_at_call 5; refine (abs19 _ a).mono ?_; rintro e w9 ⟨rfl, rfl⟩))
        have hx40 := hx40.out
        go_quiet ((first | (go_at_call 9; exact Calls.quiet_of_same (taken_at _ nb ib ⟨d, m, st, so, le, ch, re, ba, rt, rn⟩ jn x d m ch x _ _ (N6.out.ext (((Ext.refl (fun _ => False) w6).alloc _).drewN _) (fun h => h)) (I6.out.ext (((Ext.refl (fun _ => False) w6).alloc _).drewN _) (fun h => h)) (by omega))) | (go_at_call 11; exact Calls.quiet_of (waiting_at _ nb ib ⟨d, m, st, so, le, ch, re, ba, rt, rn⟩ jn x d m ch _ _ (N6.out.ext (((Ext.refl (fun _ => False) w6).alloc _).drewN _) (fun h => h)) (I6.out.ext (((Ext.refl (fun _ => False) w6).alloc _).drewN _) (fun h => h)) (by omega))) | (go_at_call 10; exact Calls.quiet_of_same (served_at _ nb ib ⟨d, m, st, so, le, ch, re, ba, rt, rn⟩ jn x (N6.out.ext (((Ext.refl (fun _ => False) w6).alloc _).drewN _) (fun h => h))))))
        go_wp2
        go_ret
        exact ⟨rfl, ((X6.out.alloc _).drewN _).below (Nat.le_refl _) (fun _ h => h)⟩
      · clear hlt k4 kf
        go_wp2_with (first | (go_at_call 6; refine (fits19_any _ d m st so le ch re ba rt rn).mono ?_; rintro e w3 ⟨rfl, hb⟩; rw [HX.out]; have XF := hid (Ext.of_below (S := fun _ => False) hb); have L3 := hid (H.out.far XF.out); have S3 := hid (XF.out.blk SR.out (fun h => h)); obtain ⟨b0, b1, b2, b3, b4, b5, b6, b7, b8, b9⟩ := cells10 S3.out; have hz3 := lt_of_blk S3.out; have X3 := hid (XR.out.trans XF.out); clear hb) | (go_at_call 7; clear tok1; refine (new_yes _ w1.heap.size ⟨d, m, st, so, le, ch, re, ba, rt, rn⟩ jn (.slice none 0 0) (.slice A k c) k (offs zs k) x L3.out.book (offs_len (by have := HV.out.2; omega)) (by omega) HX.out (by show (jn : Int) < st; omega) (by omega) HXX.out (offs_le HXX.out)).mono ?_; rintro e w4 ⟨nb, ib, rfl, hN, hI, hn1, hn2, hne, hx, hB⟩; have X34 := hid hx; have B4 := hid hB; have N4 := hid hN; have I4 := hid hI; have hx40 := hid (offs_le HXX.out); clear hx hB hN hI hn1 hn2 hne; have S4 := hid (X34.out.blk S3.out (by omega)); obtain ⟨c0, c1, c2, c3, c4, c5, c6, c7, c8, c9⟩ := cells10 S4.out; have hz4 := lt_of_blk S4.out; have X4 := hid ((X3.out.mono (S' := (w.heap.size ≤ ·)) (fun _ _ h => h.elim)).then_ X34.out (fun i hi h => by omega))) | (go_at_call 7; refine (new_none _ _ ⟨d, m, st, so, le, ch, re, ba, rt, rn⟩ HS.out).mono ?_; rintro e w5 ⟨rfl, hb⟩; have X45 := hid (Ext.of_below (S := fun _ => False) hb); have X5 := hid (X4.out.trans (Ext.of_below hb)); have S5 := hid (X45.out.blk S4.out (fun h => h)); obtain ⟨d0, d1, d2, d3, d4, d5, d6, d7, d8, d9⟩ := cells10 S5.out; have hz5 := lt_of_blk S5.out; clear hb) | (go_at_call 8; refine (seal_no _).mono ?_; rintro e wx ⟨rfl, rfl⟩) | (go_at_call 9; refine (taken_no _).mono ?_; rintro e wx ⟨rfl, rfl⟩) | (go_at_call 10; refine (served_no _).mono ?_; rintro e wx ⟨rfl, rfl⟩) | (go_at_call 11; refine (waiting_no _).mono ?_; rintro e wx ⟨rfl, rfl⟩) | (go_at_call 12; refine (handle_no _).mono ?_; rintro e w6 ⟨rfl, hb⟩; have X56 := hid (Ext.of_below (S := fun _ => False) hb); have X6 := hid (X5.out.trans (Ext.of_below hb)); have S6 := hid (X56.out.blk S5.out (fun h => h)); obtain ⟨f0, f1, f2, f3, f4, f5, f6, f7, f8, f9⟩ := cells10 S6.out; have hz6 := lt_of_blk S6.out; have B6 := hid (B4.out.ext (X45.out.trans X56.out) (fun h => h) (fun _ _ h => h) (fun _ _ h => h)); have N6 := hid (N4.out.ext (X45.out.trans X56.out) (fun h => h)); have I6 := hid (I4.out.ext (X45.out.trans X56.out) (fun h => h)); obtain ⟨_, _, _, _, m4, _, _, _, _, _⟩ := cells9 B6.out.blk; have hm4 := lt_of_blk B6.out.blk; obtain ⟨qb, qo, rfl, hqb, xx, hxx, mc⟩ := zo_cell B6.out.rdO jn (by omega) (offs_len (by have := HV.out.2; omega)); obtain rfl := Option.some.inj (HXX.out.symm.trans hxx); clear hxx; clear hb) | (go_at_call 13; refine (tick_no _ 1 _ _).mono ?_; rintro e wx ⟨rfl, rfl⟩) | (go_at_call 5; refine (abs19 _ a).mono ?_; rintro e w9 ⟨rfl, rfl⟩))
        have hx40 := hx40.out
        go_quiet ((first | (go_at_call 9; exact Calls.quiet_of_same (taken_at _ nb ib ⟨d, m, st, so, le, ch, re, ba, rt, rn⟩ jn x d m ch x _ _ (N6.out.ext (((Ext.refl (fun _ => False) w6).alloc _).drewN _) (fun h => h)) (I6.out.ext (((Ext.refl (fun _ => False) w6).alloc _).drewN _) (fun h => h)) (by omega))) | (go_at_call 11; exact Calls.quiet_of (waiting_at _ nb ib ⟨d, m, st, so, le, ch, re, ba, rt, rn⟩ jn x d m ch _ _ (N6.out.ext (((Ext.refl (fun _ => False) w6).alloc _).drewN _) (fun h => h)) (I6.out.ext (((Ext.refl (fun _ => False) w6).alloc _).drewN _) (fun h => h)) (by omega))) | (go_at_call 10; exact Calls.quiet_of_same (served_at _ nb ib ⟨d, m, st, so, le, ch, re, ba, rt, rn⟩ jn x (N6.out.ext (((Ext.refl (fun _ => False) w6).alloc _).drewN _) (fun h => h))))))
        go_wp2
        go_ret
        exact ⟨rfl, ((X6.out.alloc _).drewN _).below (Nat.le_refl _) (fun _ h => h)⟩
end Go.Proofs.YtcljpmknandlhaaGreatDoor
