/- A small setup out of raw numbers. -/
import Derived.Test.YtcljpmknandlhaaGreatDoorProg
import Derived.Test.YtcljpmknandlhaaGreatDoorBase
import Derived.WalkSpells
import Derived.Deep.RegionHeld3
namespace Go.Proofs.YtcljpmknandlhaaGreatDoor
open Go Go.RowKit
set_option linter.unusedVariables false

def ab (n : Int) : Int := if n < 0 then wrap64 (-wrap64 (n + 1)) else n
theorem ab_ge (n : Int) (h0 : -9223372036854775808 ≤ n) (h1 : n ≤ 9223372036854775807) : 0 ≤ ab n ∧ ab n ≤ 9223372036854775807 := by
  unfold ab wrap64; split <;> omega
theorem abs_any (w : World) (n : Int) : Calls Tryz.prog 17 #[.int .i64 n] w fun e w' => e = .returned (.int .i64 (ab n)) ∧ w = w' := by
  by_cases h : n < 0
  · go_enter Tryz.func17, Tryz.ntmps17
    go_wp2
    go_ret
    exact ⟨ret_eq (int_eq (by rw [ab, if_pos h])), rfl⟩
  · go_enter Tryz.func17, Tryz.ntmps17
    go_wp2
    go_ret
    exact ⟨ret_eq (int_eq (by unfold ab; rw [if_neg (by omega)])), rfl⟩

/-- A setup that Setup makes. -/
structure Small (D S R L C P B T N : Int) : Prop where
  D1 : 1 ≤ D
  D2 : D ≤ 2
  S1 : 1 ≤ S
  S2 : S ≤ 2
  R1 : 1 ≤ R
  R2 : R ≤ 3
  L1 : 1 ≤ L
  L2 : L ≤ 2
  C1 : 10 ≤ C
  C2 : C ≤ 29
  P1 : 1 ≤ P
  P2 : P ≤ 2
  B1 : 2 ≤ B
  B2 : B ≤ 7
  T1 : 1 ≤ T
  T2 : T ≤ 3
  N1 : 3 ≤ N
  N2 : N ≤ 8
def sval (D S R L C P B T N : Int) : Value := .agg #[.int .i64 D, .int .i64 1, .int .i64 S, .int .i64 R, .int .i64 L, .int .i64 C, .int .i64 P, .int .i64 B, .int .i64 T, .int .i64 N]
def I64 (n : Int) : Prop := -9223372036854775808 ≤ n ∧ n ≤ 9223372036854775807
theorem part {n k c : Int} (h : I64 n) (hk : 0 < k) (hk2 : k ≤ 1000) (hc : 0 ≤ c) (hc2 : c ≤ 1000) : ∃ r, IntKind.i64.wrap (c + (ab n).tmod k) = r ∧ c ≤ r ∧ r ≤ c + k - 1 ∧ r = c + ab n % k := by
  have h0 := ab_ge n h.1 h.2
  have e : (ab n).tmod k = ab n % k := Int.tmod_eq_emod_of_nonneg h0.1
  have h1 := Int.emod_nonneg (ab n) (show k ≠ 0 by omega)
  have h2 := Int.emod_lt_of_pos (ab n) hk
  refine ⟨c + ab n % k, ?_, by omega, by omega, rfl⟩
  rw [e, IntWalk.i64_in _ (by omega)]
/-- What Setup answers. -/
def SetupPost (le : Int) (w : World) (e : Ending) (w' : World) : Prop :=
  ∃ D S R L C P B T N, e = .returned (sval D S R L C P B T N) ∧ Small D S R L C P B T N ∧ L = 1 + ab le % 2 ∧ Below w.heap.size w w'
set_option maxRecDepth 100000 in
set_option maxHeartbeats 4000000 in
theorem setup_any (w : World) (d m st so le ch re ba rt rn : Int) (h : I64 d ∧ I64 st ∧ I64 so ∧ I64 le ∧ I64 ch ∧ I64 re ∧ I64 ba ∧ I64 rt ∧ I64 rn) :
    Calls Tryz.prog 14 #[.agg #[.int .i64 d, .int .i64 m, .int .i64 st, .int .i64 so, .int .i64 le, .int .i64 ch, .int .i64 re, .int .i64 ba, .int .i64 rt, .int .i64 rn]] w
      (SetupPost le w) := by
  have HI := hid h
  clear h
  go_enter Tryz.func14, Tryz.ntmps14
  go_wp2_with fail
  go_region_held3 (fun w' => w'.cell? ⟨w.heap.size, 0, none⟩ = some (.int .i64 d) ∧ w'.cell? ⟨w.heap.size, 2, none⟩ = some (.int .i64 st) ∧ w'.cell? ⟨w.heap.size, 3, none⟩ = some (.int .i64 so) ∧ w'.cell? ⟨w.heap.size, 4, none⟩ = some (.int .i64 le) ∧ w'.cell? ⟨w.heap.size, 5, none⟩ = some (.int .i64 ch) ∧ w'.cell? ⟨w.heap.size, 6, none⟩ = some (.int .i64 re) ∧ w'.cell? ⟨w.heap.size, 7, none⟩ = some (.int .i64 ba) ∧ w'.cell? ⟨w.heap.size, 8, none⟩ = some (.int .i64 rt) ∧ w'.cell? ⟨w.heap.size, 9, none⟩ = some (.int .i64 rn)) (go_keep)
    (first | (go_at_call 17; refine (abs_any _ _).mono ?_; rintro e w' ⟨rfl, rfl⟩))
  go_wp2
  go_returns
  obtain ⟨i1, i2, i3, i4, i5, i6, i7, i8, i9⟩ := HI.out
  have hch : I64 (ch.tmod 1000) := by
    rcases Int.le_total 0 ch with h | h
    · rw [Int.tmod_eq_emod_of_nonneg h]; unfold I64; omega
    · have : ch = -(-ch) := by omega
      rw [this, Int.neg_tmod, Int.tmod_eq_emod_of_nonneg (by omega)]; unfold I64; omega
  obtain ⟨D, d1, d2, d3, _⟩ := part (k := 2) (c := 1) i1 (by omega) (by omega) (by omega) (by omega)
  obtain ⟨S, s1, s2, s3, _⟩ := part (k := 2) (c := 1) i2 (by omega) (by omega) (by omega) (by omega)
  obtain ⟨R, r1, r2, r3, _⟩ := part (k := 3) (c := 1) i3 (by omega) (by omega) (by omega) (by omega)
  obtain ⟨L, l1, l2, l3, l4⟩ := part (k := 2) (c := 1) i4 (by omega) (by omega) (by omega) (by omega)
  obtain ⟨C, c1, c2, c3, _⟩ := part (k := 20) (c := 10) hch (by omega) (by omega) (by omega) (by omega)
  obtain ⟨P, p1, p2, p3, _⟩ := part (k := 2) (c := 1) i6 (by omega) (by omega) (by omega) (by omega)
  obtain ⟨B, b1, b2, b3, _⟩ := part (k := 6) (c := 2) i7 (by omega) (by omega) (by omega) (by omega)
  obtain ⟨T, t1, t2, t3, _⟩ := part (k := 3) (c := 1) i8 (by omega) (by omega) (by omega) (by omega)
  obtain ⟨N, n1, n2, n3, _⟩ := part (k := 6) (c := 3) i9 (by omega) (by omega) (by omega) (by omega)
  refine ⟨D, S, R, L, C, P, B, T, N, ?_, ⟨by omega, by omega, by omega, by omega, by omega, by omega, by omega, by omega, by omega, by omega, by omega, by omega, by omega, by omega, by omega, by omega, by omega, by omega⟩, l4, ?_⟩
  · unfold sval; rw [← d1, ← s1, ← r1, ← l1, ← c1, ← p1, ← b1, ← t1, ← n1]
  · go_grown
end Go.Proofs.YtcljpmknandlhaaGreatDoor
