/- Orders among orders. -/
import Derived.Test.YtdfmfjkcgbjgbaaGreatDoorProg
import Derived.Test.YtdfmfjkcgbjgbaaGreatDoorApp
import Derived.BigQuiet
namespace Go.Proofs.YtdfmfjkcgbjgbaaGreatDoor
open Go Go.RowKit
set_option linter.unusedVariables false
set_option linter.unusedSimpArgs false
set_option maxRecDepth 100000
/-- An order's cells. -/
def ordC (dr : Bool) (f t v p c x : Int) : List Value := [.bool dr, .int .i64 f, .int .i64 t, .int .i64 v, .int .i64 p, .int .i64 c, .int .i64 x]
/-- Orders that differ in their versions alone. -/
def ords (l : List Int) : List Value := l.flatMap fun v => ordC false 0 0 v 0 0 21
theorem ords_length (l : List Int) : (ords l).length = l.length * 7 := by
  induction l with
  | nil => rfl
  | cons v l ih =>
    have : ords (v :: l) = ordC false 0 0 v 0 0 21 ++ ords l := rfl
    rw [this, List.length_append, ih]
    simp [ordC]; omega
theorem ords_at (l : List Int) (k : Nat) (hk : k < l.length) (j : Nat) (hj : j < 7) : (ords l)[k * 7 + j]? = (ordC false 0 0 l[k] 0 0 21)[j]? := by
  induction l generalizing k with
  | nil => simp at hk
  | cons v l ih =>
    have e : ords (v :: l) = ordC false 0 0 v 0 0 21 ++ ords l := rfl
    rw [e]
    cases k with
    | zero =>
      rw [List.getElem?_append_left (by simp [ordC]; omega)]
      simp
    | succ k =>
      rw [List.getElem?_append_right (by simp [ordC]; omega)]
      have : (k + 1) * 7 + j - (ordC false 0 0 v 0 0 21).length = k * 7 + j := by simp [ordC]; omega
      rw [this, ih k (by simpa using hk)]
      simp
theorem ords_cells {w : World} {A : Option Addr} {n c : Nat} {l : List Int} (h : Rd w (.slice A n c) n 7 (ords l)) (hn : 0 < n) : ∃ b o, A = some ⟨b, o, none⟩ ∧ b < w.heap.size ∧ ∀ k (hk : k < l.length),
    w.cell? ⟨b, o + k * 7, none⟩ = some (.bool false) ∧ w.cell? ⟨b, o + k * 7 + 1, none⟩ = some (.int .i64 0) ∧ w.cell? ⟨b, o + k * 7 + 2, none⟩ = some (.int .i64 0) ∧ w.cell? ⟨b, o + k * 7 + 3, none⟩ = some (.int .i64 l[k]) ∧
    w.cell? ⟨b, o + k * 7 + 4, none⟩ = some (.int .i64 0) ∧ w.cell? ⟨b, o + k * 7 + 5, none⟩ = some (.int .i64 0) ∧ w.cell? ⟨b, o + k * 7 + 6, none⟩ = some (.int .i64 21) := by
  obtain ⟨_, A', c', he, _, _, h4⟩ := h
  injection he with e1 e2 e3
  subst e1
  obtain ⟨b, o, rfl, hb, hc⟩ := h4 hn
  refine ⟨b, o, rfl, hb, fun k hk => ?_⟩
  have g := fun j hj u (hu : (ordC false 0 0 l[k] 0 0 21)[j]? = some u) => hc (k * 7 + j) u ((ords_at l k hk j hj).trans hu)
  simp only [← Nat.add_assoc] at g
  exact ⟨g 0 (by omega) _ rfl, g 1 (by omega) _ rfl, g 2 (by omega) _ rfl, g 3 (by omega) _ rfl, g 4 (by omega) _ rfl, g 5 (by omega) _ rfl, g 6 (by omega) _ rfl⟩
theorem index_nil (w : World) (dr : Bool) (f t v p c x : Int) :
    Calls Tryz.prog 65 #[.slice none 0 0, .agg #[.bool dr, .int .i64 f, .int .i64 t, .int .i64 v, .int .i64 p, .int .i64 c, .int .i64 x]] w fun e w' => e = .returned (.int .i64 (-1)) ∧ Ext (fun _ => False) w w' := by
  go_enter Tryz.func65, Tryz.ntmps65
  go_wp2
  go_rounds 1
  go_ret
  exact ⟨rfl, (Ext.refl _ w).alloc _⟩
set_option maxHeartbeats 1000000 in
theorem index_no (w : World) (O : Value) (n : Nat) (l : List Int) (v : Int) (hR : Rd w O n 7 (ords l)) (hn : l.length = n) (hl : n ≤ 1000) (hv : ∀ u ∈ l, u ≠ v) :
    Calls Tryz.prog 65 #[O, .agg #[.bool false, .int .i64 0, .int .i64 0, .int .i64 v, .int .i64 0, .int .i64 0, .int .i64 21]] w fun e w' => e = .returned (.int .i64 (-1)) ∧ Ext (fun _ => False) w w' := by
  obtain ⟨_, A, cc, rfl, hnc, hcm, _⟩ := id hR
  have HR := hid hR
  have HV := hid hv
  have HN := hid hn
  clear hR hv hn
  go_enter Tryz.func65, Tryz.ntmps65
  go_wp2
  go_loopw [8] (fun i wr => ∃ k : Nat, k ≤ n ∧ i = .int .i64 k ∧ Hid (Ext (fun _ => False) (w.alloc (.cells #[.bool false, .int .i64 0, .int .i64 0, .int .i64 v, .int .i64 0, .int .i64 0, .int .i64 21] 40)) wr)) (fun i _ => n - (intOf i).toNat)
  case atStart => exact ⟨0, by omega, rfl, Ext.refl _ _⟩
  case round =>
    obtain ⟨k, hk, rfl, H⟩ := hrel
    have X := hid (((Ext.refl (fun _ => False) w).alloc (.cells #[.bool false, .int .i64 0, .int .i64 0, .int .i64 v, .int .i64 0, .int .i64 0, .int .i64 21] 40)).trans H.out)
    by_cases hlt : k < n
    · have hR1 := HR.out.ext X.out (fun _ _ h => h)
      obtain ⟨b, o, rfl, hb, hc⟩ := ords_cells hR1 (by omega)
      have hlk : k < l.length := by rw [HN.out]; exact hlt
      obtain ⟨d0, d1, d2, d3, d4, d5, d6⟩ := hc k hlk
      have hne : l[k] ≠ v := HV.out _ (List.getElem_mem hlk)
      generalize l[k] = y at *
      have hb1 := H.out.blk (alloc_at w (.cells #[.bool false, .int .i64 0, .int .i64 0, .int .i64 v, .int .i64 0, .int .i64 0, .int .i64 21] 40) rfl) (fun h => h)
      have e0 := cell_of hb1 0
      have e1 := cell_of hb1 1
      have e2 := cell_of hb1 2
      have e3 := cell_of hb1 3
      have e4 := cell_of hb1 4
      have e5 := cell_of hb1 5
      have e6 := cell_of hb1 6
      have hyv : (v == y) = false := by simp; exact fun h => hne h.symm
      have hws := lt_of_blk hb1
      clear hc hR1 hb1 hlk hne
      go_wp2
      go_quiet (fail)
      go_wp2
      go_roundw
      case measure => simp [intOf]; omega
      case rel => exact ⟨k + 1, by omega, by go_num, (H.out.drewN _)⟩
    · go_wp2
      go_ret
      exact ⟨rfl, X.out⟩
theorem contains_nil (w : World) (dr : Bool) (f t v p c x : Int) :
    Calls Tryz.prog 24 #[.slice none 0 0, .agg #[.bool dr, .int .i64 f, .int .i64 t, .int .i64 v, .int .i64 p, .int .i64 c, .int .i64 x]] w fun e w' => e = .returned (.bool false) ∧ Ext (fun _ => False) w w' := by
  go_enter Tryz.func24, Tryz.ntmps24
  go_wp2_with (go_at_call 65; refine (index_nil _ dr f t v p c x).mono ?_; rintro e w1 ⟨rfl, hx⟩)
  go_ret
  exact ⟨rfl, ((Ext.refl _ w).alloc _).trans hx⟩
theorem contains_no (w : World) (O : Value) (n : Nat) (l : List Int) (v : Int) (hR : Rd w O n 7 (ords l)) (hn : l.length = n) (hl : n ≤ 1000) (hv : ∀ u ∈ l, u ≠ v) :
    Calls Tryz.prog 24 #[O, .agg #[.bool false, .int .i64 0, .int .i64 0, .int .i64 v, .int .i64 0, .int .i64 0, .int .i64 21]] w fun e w' => e = .returned (.bool false) ∧ Ext (fun _ => False) w w' := by
  have HR := hid hR
  have HV := hid hv
  have HN := hid hn
  clear hR hv hn
  go_enter Tryz.func24, Tryz.ntmps24
  go_wp2_with (go_at_call 65; refine (index_no _ O n l v (HR.out.ext ((Ext.refl (fun _ => False) w).alloc _) (fun _ _ h => h)) HN.out hl HV.out).mono ?_; rintro e w1 ⟨rfl, hx⟩)
  go_ret
  exact ⟨rfl, ((Ext.refl _ w).alloc _).trans hx⟩
end Go.Proofs.YtdfmfjkcgbjgbaaGreatDoor
