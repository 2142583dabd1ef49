/- The law on orders' terms: true of whatever comes. -/
import Derived.Test.YtdfmfjkcgbjgbaaGreatDoorProg
import Derived.Test.YtdfmfjkcgbjgbaaGreatDoorHAwake
import Derived.Deep.RegionHeld3
import Derived.Deep.CutRange
import Derived.BigQuiet
namespace Go.Proofs.YtdfmfjkcgbjgbaaGreatDoor
open Go Go.RowKit
set_option linter.unusedVariables false
set_option linter.unusedSimpArgs false
set_option maxRecDepth 100000
/-- whole numbers as cells -/
def iv (l : List Int) : List Value := l.map fun x => .int .i64 x
theorem int_cell {w : World} {A : Option Addr} {n c : Nat} {l : List Int} (h : Rd w (.slice A n c) n 1 (iv l)) (k : Nat) (hk : k < n) (hl : l.length = n) : ∃ b o, A = some ⟨b, o, none⟩ ∧ b < w.heap.size ∧ ∃ x, l[k]? = some x ∧ w.cell? ⟨b, o + k, none⟩ = some (.int .i64 x) := by
  obtain ⟨_, A', c', he, _, _, h4⟩ := h
  injection he with e1 e2 e3
  subst e1
  obtain ⟨b, o, rfl, hb, hc⟩ := h4 (by omega)
  exact ⟨b, o, rfl, hb, l[k]'(by omega), List.getElem?_eq_getElem (by omega), hc k _ (by simp [iv, List.getElem?_eq_getElem (show k < l.length by omega)])⟩
theorem ords_snoc (l : List Int) (v : Int) : ords l ++ ordC false 0 0 v 0 0 21 = ords (l ++ [v]) := by simp [ords]
theorem ords_one (l : List Int) : ∀ u ∈ ords l, u.oneCell' = true := by
  intro u hu
  simp only [ords, List.mem_flatMap] at hu
  obtain ⟨v, _, hv⟩ := hu
  simp only [ordC, List.mem_cons, List.not_mem_nil, or_false] at hv
  rcases hv with rfl | rfl | rfl | rfl | rfl | rfl | rfl <;> rfl
/-- What holds at a round's head. -/
structure Loop (w3 wr : World) (nb sb mb : Nat) (s : Su) (k taken : Nat) (most : Int) (A : Option Addr) (c : Nat) (l : List Int) : Prop where
  node : NodeH wr nb sb mb s 21 most (.slice A taken c)
  own : Own wr w3.heap.size 40 7 (.slice A taken c) taken (ords l)
  len : l.length = taken
  less : ∀ y ∈ l, y < k
  ext : Ext (fun b => b = nb ∨ w3.heap.size ≤ b) w3 wr
theorem Loop.far {w3 wr : World} {nb sb mb : Nat} {s : Su} {k taken : Nat} {most : Int} {A : Option Addr} {c : Nat} {l : List Int} (h : Loop w3 wr nb sb mb s k taken most A c l) {wx : World} (hx : Ext (fun _ => False) wr wx) : Loop w3 wx nb sb mb s k taken most A c l :=
  ⟨h.node.grow hx, h.own.ext hx (fun _ _ h => h), h.len, h.less, h.ext.then_ hx (fun _ _ h => h.elim)⟩
theorem Loop.next {w3 wr : World} {nb sb mb : Nat} {s : Su} {k taken : Nat} {most : Int} {A : Option Addr} {c : Nat} {l : List Int} (h : Loop w3 wr nb sb mb s k taken most A c l) : Loop w3 wr nb sb mb s (k + 1) taken most A c l :=
  ⟨h.node, h.own, h.len, fun y hy => by have := h.less y hy; omega, h.ext⟩
theorem Loop.took {w3 wr wx : World} {nb sb mb : Nat} {s : Su} {k taken : Nat} {most tm : Int} {A A' : Option Addr} {c c' : Nat} {l : List Int} (h : Loop w3 wr nb sb mb s k taken most A c l)
    (hN : NodeH wx nb sb mb s 21 tm (.slice A' (taken + 1) c')) (hO : Own wx w3.heap.size 40 7 (.slice A' (taken + 1) c') (taken + 1) (ords l ++ ordC false 0 0 k 0 0 21))
    (hx : Ext (fun b => b = nb ∨ At (.slice A taken c) b) wr wx) : Loop w3 wx nb sb mb s (k + 1) (taken + 1) tm A' c' (l ++ [(k : Int)]) :=
  ⟨hN, ords_snoc l k ▸ hO, by simp [h.len], fun y hy => by
    rcases List.mem_append.1 hy with h1 | h1
    · have := h.less y h1; omega
    · simp at h1; omega, h.ext.then_ hx (fun i hi hh => by
    rcases hh with hh | hh
    · exact .inl hh
    · exact .inr (h.own.lt i hh).1)⟩
set_option maxHeartbeats 8000000 in
theorem terms_law (w : World) (d m st so le ch re ba rt rn : Int) (hi : I64 d ∧ I64 st ∧ I64 so ∧ I64 le ∧ I64 ch ∧ I64 re ∧ I64 ba ∧ I64 rt ∧ I64 rn) (TV NV : Value) (n1 n2 : Nat) (ts xs : List Int) (hT : Rd w TV n1 1 (iv ts)) (hX : Rd w NV n2 1 (iv xs)) (l1 : ts.length = n1) (l2 : xs.length = n2) :
    Calls Tryz.prog 3 #[.agg #[.int .i64 d, .int .i64 m, .int .i64 st, .int .i64 so, .int .i64 le, .int .i64 ch, .int .i64 re, .int .i64 ba, .int .i64 rt, .int .i64 rn], TV, NV] w fun e w' => e = .returned (.bool true) ∧ Below w.heap.size w w' := by
  obtain ⟨v1, TA, tc, rfl, ht1, ht2, v2⟩ := id hT
  obtain ⟨v3, XA, xc, rfl, hx1, hx2, v4⟩ := id hX
  clear v1 v2 v3 v4
  have HI := hid hi
  have HT := hid (And.intro hT l1)
  have HX := hid (And.intro hX l2)
  clear hi hT hX l1 l2
  go_enter Tryz.func3, Tryz.ntmps3
  go_upto_region 5 with (first | (go_at_call 5; refine (awake_any _).mono ?_; rintro e w0 ⟨rfl, hb⟩; have X0 := hid (((Ext.refl (fun _ => False) w).alloc _).trans (Ext.of_below hb)); have r0 := (Ext.of_below (S := fun _ => False) hb).blk (alloc_at w (.cells #[.int .i64 d, .int .i64 m, .int .i64 st, .int .i64 so, .int .i64 le, .int .i64 ch, .int .i64 re, .int .i64 ba, .int .i64 rt, .int .i64 rn] 25) rfl) (fun h => h); obtain ⟨a0, a1, a2, a3, a4, a5, a6, a7, a8, a9⟩ := cells10 r0; have hz0 := lt_of_blk r0; clear hb r0) | (go_at_call 6; refine (setup_any _ d m st so le ch re ba rt rn HI.out).mono ?_; rintro e w1 ⟨D, S, R, L, C, P, B, T, N, rfl, hsm, hL, hB1⟩; have SM := hid hsm; have FT := hid (fit_small hsm); have r1 : 1 ≤ R := hsm.R1; have BB1 := hid (X0.out.trans (Ext.of_below hB1)); unfold sval; clear hL hsm hB1))
  generalize hW : w1.alloc (.cells #[.int .i64 D, .int .i64 1, .int .i64 S, .int .i64 R, .int .i64 L, .int .i64 C, .int .i64 P, .int .i64 B, .int .i64 T, .int .i64 N] 25) = W
  have X1 := hid (show Ext (fun _ => False) w W from hW ▸ BB1.out.alloc _)
  have SB := hid (show W.heap[w1.heap.size]? = some (.cells #[.int .i64 D, .int .i64 1, .int .i64 S, .int .i64 R, .int .i64 L, .int .i64 C, .int .i64 P, .int .i64 B, .int .i64 T, .int .i64 N] 25 (0, 0)) from hW ▸ heap_alloc_new w1 _)
  have hzW : W.heap.size = w1.heap.size + 1 := by rw [← hW]; simp
  have HZ := hid hzW
  have hsw : w1.heap.size < W.heap.size := by omega
  clear hW hzW a0 a1 a2 a3 a4 a5 a6 a7 a8 a9
  obtain ⟨a0, a1, a2, a3, a4, a5, a6, a7, a8, a9⟩ := cells10 SB.out
  go_region_held3 (fun w' => w'.cell? ⟨w1.heap.size, 0, none⟩ = some (.int .i64 D) ∧ w'.cell? ⟨w1.heap.size, 1, none⟩ = some (.int .i64 1) ∧ w'.cell? ⟨w1.heap.size, 2, none⟩ = some (.int .i64 S) ∧ w'.cell? ⟨w1.heap.size, 3, none⟩ = some (.int .i64 R) ∧ w'.cell? ⟨w1.heap.size, 4, none⟩ = some (.int .i64 L) ∧ w'.cell? ⟨w1.heap.size, 5, none⟩ = some (.int .i64 C) ∧ w'.cell? ⟨w1.heap.size, 6, none⟩ = some (.int .i64 P) ∧ w'.cell? ⟨w1.heap.size, 7, none⟩ = some (.int .i64 B) ∧ w'.cell? ⟨w1.heap.size, 8, none⟩ = some (.int .i64 T) ∧ w'.cell? ⟨w1.heap.size, 9, none⟩ = some (.int .i64 N)) (go_keep)
    (first | (go_at_call 8; refine (disk_new _).mono ?_; rintro e w2 ⟨rfl, rfl⟩) | (go_at_call 7; refine (new_yes _ 21 ⟨D, 1, S, R, L, C, P, B, T, N⟩ (W.heap.size + 1) W.heap.size ?hD FT.out (by omega) (by show (21 : Int) < 21 + R; omega)).mono ?_; (case hD => first | exact disk_made | exact disk_made.grow (Ext.refl _ _).drew); rintro e w3 ⟨nb, sb, mb, rfl, hN, hn1, hn2, hb⟩; have N3 := hid hN; have X3 := hid ((((Ext.refl (fun _ => False) W).alloc _).alloc _).drew.trans (Ext.of_below hb)); have s3 := hid (X3.out.blk SB.out (fun h => h)); obtain ⟨d0, d1, d2, d3, d4, d5, d6, d7, d8, d9⟩ := cells10 s3.out; have G3 := hid (And.intro hn1 hn2); clear hb hN hn1 hn2))
  clear a0 a1 a2 a3 a4 a5 a6 a7 a8 a9 d0 d1 d2 d3 d4 d5 d6 d7 d8 d9
  have G := hid (show w.heap.size ≤ nb ∧ w.heap.size ≤ mb by have := G3.out; have := X1.out.size; simp at *; omega)
  have GB := hid (show nb < w3.heap.size ∧ mb < w3.heap.size from ⟨lt_of_blk N3.out.blk, lt_of_blk N3.out.map⟩)
  have XW := hid (X1.out.trans X3.out)
  go_wp2
  go_loopw [11, 12, 13] (fun u v i wr => ∃ (k taken : Nat) (most : Int) (A : Option Addr) (c : Nat) (l : List Int), k ≤ 60 ∧ k ≤ n1 ∧ k ≤ n2 ∧ taken ≤ k ∧ u = .int .i64 most ∧ v = .int .i64 taken ∧ i = .int .i64 k ∧ Hid (Loop w3 wr nb sb mb ⟨D, 1, S, R, L, C, P, B, T, N⟩ k taken most A c l)) (fun _ _ i _ => 60 - (intOf i).toNat)
  case atStart => exact ⟨0, 0, 0, none, 0, [], by omega, by omega, by omega, by omega, rfl, rfl, rfl, N3.out, Own.nil _ _ _ _, rfl, (fun y hy => by cases hy), Ext.refl _ _⟩
  case round =>
    obtain ⟨k, taken, most, A, c, l, hk, hk1, hk2, htk, rfl, rfl, rfl, H⟩ := hrel
    by_cases hlt : k < n1 ∧ k < n2 ∧ k < 60
    · obtain ⟨g1, g2, g3⟩ := hlt
      obtain ⟨b1, o1, rfl, hb1, t, ht, hc1⟩ := int_cell HT.out.1 k g1 HT.out.2
      obtain ⟨b2, o2, rfl, hb2, x, hxx, hc2⟩ := int_cell HX.out.1 k g2 HX.out.2
      have XR := hid ((XW.out.mono (S' := fun b => b = nb ∨ w3.heap.size ≤ b) (fun _ _ h => h.elim)).trans H.out.ext)
      have far : ∀ b, b < w.heap.size → ¬ (b = nb ∨ w3.heap.size ≤ b) := fun b hb => by have := G.out; have := GB.out; omega
      have FAR := hid far
      have q1 := XR.out.cell hc1 (far b1 hb1)
      have q2 := XR.out.cell hc2 (far b2 hb2)
      have z1 := World.block_lt_of_cell? wr _ q1
      have z2 := World.block_lt_of_cell? wr _ q2
      clear far ht hxx hc1 hc2
      go_upto_region 14 with (fail)
      generalize hW4 : wr.alloc (.cells #[.bool false, .int .i64 0, .int .i64 0, .int .i64 k, .int .i64 0, .int .i64 0, .int .i64 x] 40) = W4
      have X4 := hid (show Ext (fun _ => False) wr W4 from hW4 ▸ (Ext.refl (fun _ => False) wr).alloc _)
      have O4 := hid (show W4.heap[wr.heap.size]? = some (.cells #[.bool false, .int .i64 0, .int .i64 0, .int .i64 k, .int .i64 0, .int .i64 0, .int .i64 x] 40 (0, 0)) from hW4 ▸ heap_alloc_new wr _)
      have H4 := hid (H.out.far X4.out)
      have p1 := X4.out.cell q1 (fun h => h)
      have p2 := X4.out.cell q2 (fun h => h)
      have OL := hid (fun b hb => (H.out.own.lt b hb).2)
      have hnbw := lt_of_blk H.out.node.blk
      clear hW4 q1 q2 H XR
      have c0 := cell_of O4.out 0
      have c1 := cell_of O4.out 1
      have c2 := cell_of O4.out 2
      have c3 := cell_of O4.out 3
      have c4 := cell_of O4.out 4
      have c5 := cell_of O4.out 5
      have c6 := cell_of O4.out 6
      have zo := lt_of_blk O4.out
      have zp1 := World.block_lt_of_cell? W4 _ p1
      have zp2 := World.block_lt_of_cell? W4 _ p2
      have P12 := hid (And.intro p1 p2)
      by_cases hx21 : x = 21 ∧ most ≤ t
      · obtain ⟨rfl, hmt⟩ := hx21
        go_region_held3 (fun w' => w'.cell? ⟨b1, o1 + k, none⟩ = some (.int .i64 t) ∧ w'.cell? ⟨wr.heap.size, 0, none⟩ = some (.bool false) ∧ w'.cell? ⟨wr.heap.size, 1, none⟩ = some (.int .i64 0) ∧ w'.cell? ⟨wr.heap.size, 2, none⟩ = some (.int .i64 0) ∧ w'.cell? ⟨wr.heap.size, 3, none⟩ = some (.int .i64 k) ∧ w'.cell? ⟨wr.heap.size, 4, none⟩ = some (.int .i64 0) ∧ w'.cell? ⟨wr.heap.size, 5, none⟩ = some (.int .i64 0) ∧ w'.cell? ⟨wr.heap.size, 6, none⟩ = some (.int .i64 21)) (go_keep)
          (first | (go_at_call 9; refine (handle_take _ nb sb mb ⟨D, 1, S, R, L, C, P, B, T, N⟩ 21 most (.slice A taken c) w3.heap.size taken (ords l) t false 0 0 k 0 0 (H4.out.node.grow (Ext.refl _ _).drew) (H4.out.own.ext ((Ext.refl (fun _ => False) W4).drew) (fun _ _ h => h)) (H4.out.ext.drew.size) (by omega) hmt (fun b hb => by have := (H4.out.own.lt b hb).1; have := GB.out; omega) (ords_one l) (fun Z hZ => contains_no Z (.slice A taken c) taken l k (H4.out.own.rd.ext ((Ext.refl (fun b => b = nb) W4).drew.trans hZ) (fun b hb h => by have := (H4.out.own.lt b hb).1; have := GB.out; omega)) H4.out.len (by omega) (fun y hy h => by have := H4.out.less y hy; omega))).mono ?_; rintro e w5 ⟨A5, cc5, rfl, hN5, hO5, hat5, hx5⟩; have H5 := hid (H4.out.took hN5 hO5 ((Ext.refl (fun b => b = nb ∨ At (.slice A taken c) b) W4).drew.trans hx5)); have Y5 := hid ((Ext.refl (fun b => b = nb ∨ w3.heap.size ≤ b) W4).drew.trans (hx5.mono (fun i hi hh => by rcases hh with hh | hh; exact .inl hh; exact .inr (H4.out.own.lt i hh).1))); have y1 := Y5.out.cell P12.out.1 (FAR.out b1 hb1); have y2 := Y5.out.cell P12.out.2 (FAR.out b2 hb2); have O5 := hid ((((Ext.refl (fun b => b = nb ∨ At (.slice A taken c) b) W4).drew.trans hx5)).blk O4.out (fun h => by rcases h with h | h; omega; have := OL.out _ h; omega)); have e0 := cell_of O5.out 0; have e1 := cell_of O5.out 1; have e2 := cell_of O5.out 2; have e3 := cell_of O5.out 3; have e4 := cell_of O5.out 4; have e5 := cell_of O5.out 5; have e6 := cell_of O5.out 6; have zo5 := lt_of_blk O5.out; have zy1 := World.block_lt_of_cell? w5 _ y1; have zy2 := World.block_lt_of_cell? w5 _ y2; clear hN5 hO5 hat5 hx5))
        clear c0 c1 c2 c3 c4 c5 c6 e0 e1 e2 e3 e4 e5 e6
        go_wp2_with (first | (go_at_call 10; refine (term_at _ nb sb mb _ 21 _ _ H5.out.node).mono ?_; rintro e w8 ⟨rfl, rfl⟩) | (go_at_call 11; refine (waiting_at _ nb sb mb _ 21 _ _ _ _ H5.out.node).mono ?_; rintro e w8 ⟨rfl, rfl⟩))
        go_roundw
        case measure => simp [intOf]; omega
        case rel => exact ⟨k + 1, taken + 1, t, A5, cc5, _, by omega, by omega, by omega, by omega, rfl, by go_num, by go_num, H5.out⟩
      · have HNO := hid (show t < most ∨ x ≠ 21 by omega)
        by_cases hxe : x = 21
        · have htm : t < most := by omega
          clear hx21
          subst hxe
          go_region_held3 (fun w' => w'.cell? ⟨b1, o1 + k, none⟩ = some (.int .i64 t) ∧ w'.cell? ⟨wr.heap.size, 0, none⟩ = some (.bool false) ∧ w'.cell? ⟨wr.heap.size, 1, none⟩ = some (.int .i64 0) ∧ w'.cell? ⟨wr.heap.size, 2, none⟩ = some (.int .i64 0) ∧ w'.cell? ⟨wr.heap.size, 3, none⟩ = some (.int .i64 k) ∧ w'.cell? ⟨wr.heap.size, 4, none⟩ = some (.int .i64 0) ∧ w'.cell? ⟨wr.heap.size, 5, none⟩ = some (.int .i64 0) ∧ w'.cell? ⟨wr.heap.size, 6, none⟩ = some (.int .i64 21)) (go_keep)
            (first | (go_at_call 9; refine (handle_skip _ nb sb mb ⟨D, 1, S, R, L, C, P, B, T, N⟩ 21 most (.slice A taken c) t false 0 0 k 0 0 21 (H4.out.node.grow (Ext.refl _ _).drew) HNO.out).mono ?_; rintro e w5 ⟨rfl, hx5⟩; have Y5 := hid ((Ext.refl (fun _ => False) W4).drew.trans hx5); have H5 := hid (H4.out.far Y5.out); have y1 := Y5.out.cell P12.out.1 (fun h => h); have y2 := Y5.out.cell P12.out.2 (fun h => h); have O5 := hid (Y5.out.blk O4.out (fun h => h)); have e0 := cell_of O5.out 0; have e1 := cell_of O5.out 1; have e2 := cell_of O5.out 2; have e3 := cell_of O5.out 3; have e4 := cell_of O5.out 4; have e5 := cell_of O5.out 5; have e6 := cell_of O5.out 6; have zo5 := lt_of_blk O5.out; have zy1 := World.block_lt_of_cell? w5 _ y1; have zy2 := World.block_lt_of_cell? w5 _ y2; clear hx5))
          clear c0 c1 c2 c3 c4 c5 c6 e0 e1 e2 e3 e4 e5 e6
          go_wp2_with (first | (go_at_call 10; refine (term_at _ nb sb mb _ 21 _ _ H5.out.node).mono ?_; rintro e w8 ⟨rfl, rfl⟩) | (go_at_call 11; refine (waiting_at _ nb sb mb _ 21 _ _ _ _ H5.out.node).mono ?_; rintro e w8 ⟨rfl, rfl⟩))
          go_roundw
          case measure => simp [intOf]; omega
          case rel => exact ⟨k + 1, taken, most, A, c, l, by omega, by omega, by omega, by omega, rfl, rfl, by go_num, H5.out.next⟩
        · have hxb : (x == 21) = false := by simp; exact hxe
          clear hx21 hxe
          go_region_held3 (fun w' => w'.cell? ⟨b1, o1 + k, none⟩ = some (.int .i64 t) ∧ w'.cell? ⟨wr.heap.size, 0, none⟩ = some (.bool false) ∧ w'.cell? ⟨wr.heap.size, 1, none⟩ = some (.int .i64 0) ∧ w'.cell? ⟨wr.heap.size, 2, none⟩ = some (.int .i64 0) ∧ w'.cell? ⟨wr.heap.size, 3, none⟩ = some (.int .i64 k) ∧ w'.cell? ⟨wr.heap.size, 4, none⟩ = some (.int .i64 0) ∧ w'.cell? ⟨wr.heap.size, 5, none⟩ = some (.int .i64 0) ∧ w'.cell? ⟨wr.heap.size, 6, none⟩ = some (.int .i64 x)) (go_keep)
            (first | (go_at_call 9; refine (handle_skip _ nb sb mb ⟨D, 1, S, R, L, C, P, B, T, N⟩ 21 most (.slice A taken c) t false 0 0 k 0 0 x (H4.out.node.grow (Ext.refl _ _).drew) HNO.out).mono ?_; rintro e w5 ⟨rfl, hx5⟩; have Y5 := hid ((Ext.refl (fun _ => False) W4).drew.trans hx5); have H5 := hid (H4.out.far Y5.out); have y1 := Y5.out.cell P12.out.1 (fun h => h); have y2 := Y5.out.cell P12.out.2 (fun h => h); have O5 := hid (Y5.out.blk O4.out (fun h => h)); have e0 := cell_of O5.out 0; have e1 := cell_of O5.out 1; have e2 := cell_of O5.out 2; have e3 := cell_of O5.out 3; have e4 := cell_of O5.out 4; have e5 := cell_of O5.out 5; have e6 := cell_of O5.out 6; have zo5 := lt_of_blk O5.out; have zy1 := World.block_lt_of_cell? w5 _ y1; have zy2 := World.block_lt_of_cell? w5 _ y2; clear hx5))
          clear c0 c1 c2 c3 c4 c5 c6 e0 e1 e2 e3 e4 e5 e6
          go_wp2_with (first | (go_at_call 10; refine (term_at _ nb sb mb _ 21 _ _ H5.out.node).mono ?_; rintro e w8 ⟨rfl, rfl⟩) | (go_at_call 11; refine (waiting_at _ nb sb mb _ 21 _ _ _ _ H5.out.node).mono ?_; rintro e w8 ⟨rfl, rfl⟩))
          go_roundw
          case measure => simp [intOf]; omega
          case rel => exact ⟨k + 1, taken, most, A, c, l, by omega, by omega, by omega, by omega, rfl, rfl, by go_num, H5.out.next⟩
    · have XE := hid (((XW.out.mono (S' := (w.heap.size ≤ ·)) (fun _ _ h => h.elim)).then_ H.out.ext (fun i hi h => by have := G.out; have := XW.out.size; omega)).below (Nat.le_refl _) (fun _ h => h))
      by_cases g1 : k < n1
      · by_cases g2 : k < n2
        · have g3 : ¬ k < 60 := by omega
          clear hlt
          go_wp2
          go_ret
          exact ⟨rfl, XE.out⟩
        · clear hlt
          go_wp2
          go_ret
          exact ⟨rfl, XE.out⟩
      · clear hlt
        go_wp2
        go_ret
        exact ⟨rfl, XE.out⟩
end Go.Proofs.YtdfmfjkcgbjgbaaGreatDoor
