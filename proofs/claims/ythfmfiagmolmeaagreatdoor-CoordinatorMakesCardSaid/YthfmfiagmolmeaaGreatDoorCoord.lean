/- The coordinator's small calls. -/
import Derived.Test.YthfmfiagmolmeaaGreatDoorProg
import Derived.Test.YthfmfiagmolmeaaGreatDoorFits
namespace Go.Proofs.YthfmfiagmolmeaaGreatDoor
open Go Go.RowKit
set_option linter.unusedVariables false
set_option linter.unusedSimpArgs false

/-- A setup's ten numbers. -/
structure Su where
  d : Int
  m : Int
  st : Int
  so : Int
  le : Int
  ch : Int
  re : Int
  ba : Int
  rt : Int
  rn : Int
abbrev Su.val (s : Su) : Value := .agg #[.int .i64 s.d, .int .i64 s.m, .int .i64 s.st, .int .i64 s.so, .int .i64 s.le, .int .i64 s.ch, .int .i64 s.re, .int .i64 s.ba, .int .i64 s.rt, .int .i64 s.rn]
def Su.fit (s : Su) : Bool := fitB s.d s.m s.st s.so s.le s.ch s.re s.ba s.rt s.rn
/-- A node in memory: its block, its maps' blocks (both empty). -/
structure NodeAt (w : World) (nb vb ub : Nat) (s : Su) (id term : Int) : Prop where
  blk : w.heap[nb]? = some (.cells #[.int .i64 s.d, .int .i64 s.m, .int .i64 s.st, .int .i64 s.so, .int .i64 s.le, .int .i64 s.ch, .int .i64 s.re, .int .i64 s.ba, .int .i64 s.rt, .int .i64 s.rn, .int .i64 id, .int .i64 term, .map (some vb), .map (some ub), .slice none 0 0] 82 (0, 0))
  views : w.heap[vb]? = some (.map #[] 0)
  unnamed : w.heap[ub]? = some (.map #[] 0)
  ne1 : nb ≠ vb
  ne2 : nb ≠ ub
  ne3 : vb ≠ ub

def NewPost (s : Su) (id : Int) (w : World) (e : Ending) (w' : World) : Prop :=
  ∃ nb vb ub, e = .returned (.tuple #[.pointer (some ⟨nb, 0, none⟩), .int .i64 0]) ∧ NodeAt w' nb vb ub s id 0 ∧ w.heap.size ≤ nb ∧ w.heap.size ≤ vb ∧ w.heap.size ≤ ub ∧ Below w.heap.size w w'

set_option maxRecDepth 100000 in
set_option maxHeartbeats 2000000 in
theorem new_yes (w : World) (id : Int) (s : Su) (hf : s.fit = true) (h0 : 41 ≤ id) (h1 : id < 41 + s.le) :
    Calls Tryz.prog 5 #[.int .i64 id, s.val] w (NewPost s id w) := by
  obtain ⟨d, m, st, so, le, ch, re, ba, rt, rn⟩ := s
  unfold Su.fit at hf
  unfold Su.val
  dsimp only at hf h1 ⊢
  have hmm := @run_makeMap Tryz.prog
  have HF := (fit_iff ..).1 hf
  have hle : 1 ≤ le ∧ le ≤ 16 := ⟨HF.2.2.2.2.2.1, HF.2.2.2.2.2.2.1⟩
  have HH := hid hf
  clear HF hf
  go_enter Tryz.func5, Tryz.ntmps5
  go_wp2_with (go_at_call 15; refine (fits_any _ d m st so le ch re ba rt rn).mono ?_; rintro e w1 ⟨rfl, hB1⟩; rw [HH.out]; obtain ⟨hc1, hf1⟩ := bcell hB1; have hz1 := hB1.size)
  go_ret2
  have hz2 : w.heap.size ≤ w1.heap.size := by simp at hz1; omega
  have hB : Below w.heap.size w w1 := ((Below.refl w.heap.size w).alloc (Nat.le_refl _) _).trans (hB1.mono (by simp))
  refine ⟨w1.heap.size + 1 + 1, w1.heap.size, w1.heap.size + 1, rfl, ⟨?_, ?_, ?_, by omega, by omega, by omega⟩, by omega, by omega, by omega, ?_⟩
  · exact alloc_at _ _ (by simp)
  · exact blk_alloc (blk_alloc (heap_alloc_new w1 _) _) _
  · exact blk_alloc (alloc_at _ _ (by simp)) _
  · exact ((hB.alloc hz2 _).alloc (by simp; omega) _).alloc (by simp; omega) _
set_option maxRecDepth 100000 in
set_option maxHeartbeats 2000000 in
theorem new_no (w : World) (id : Int) (s : Su) (hs : I64 id ∧ I64 s.le) (hf : ¬ (s.fit = true ∧ 41 ≤ id ∧ id < 41 + s.le)) :
    Calls Tryz.prog 5 #[.int .i64 id, s.val] w fun e w' => e = .returned (.tuple #[.pointer none, .int .i64 1]) ∧ Below w.heap.size w w' := by
  obtain ⟨d, m, st, so, le, ch, re, ba, rt, rn⟩ := s
  unfold Su.fit at hf
  unfold Su.val
  dsimp only at hf hs ⊢
  obtain ⟨x, hx⟩ : ∃ x, x = fitB d m st so le ch re ba rt rn := ⟨_, rfl⟩
  rw [← hx] at hf
  have HH := hid hx
  cases x
  · clear hf hx
    go_enter Tryz.func5, Tryz.ntmps5
    go_wp2_with (go_at_call 15; refine (fits_any _ d m st so le ch re ba rt rn).mono ?_; rintro e w1 ⟨rfl, hB1⟩; rw [← HH.out]; obtain ⟨hc1, hf1⟩ := bcell hB1; have hz1 := hB1.size)
    go_ret2
    exact ⟨rfl, ((Below.refl w.heap.size w).alloc (Nat.le_refl _) _).trans (hB1.mono (by simp))⟩
  · have HF := (fit_iff ..).1 hx.symm
    have hle : 1 ≤ le ∧ le ≤ 16 := ⟨HF.2.2.2.2.2.1, HF.2.2.2.2.2.2.1⟩
    have hf' : id < 41 ∨ 41 + le ≤ id := by
      rcases Classical.em (id < 41) with h | h
      · exact .inl h
      · exact .inr (by have := hf; simp at this; omega)
    clear HF hf hx
    have hor : (decide (id < 41) || decide (41 + le ≤ id)) = true := by simpa using hf'
    have HO := hid hor
    clear hor
    by_cases h41 : id < 41
    · go_enter Tryz.func5, Tryz.ntmps5
      go_wp2_with (go_at_call 15; refine (fits_any _ d m st so le ch re ba rt rn).mono ?_; rintro e w1 ⟨rfl, hB1⟩; rw [← HH.out]; obtain ⟨hc1, hf1⟩ := bcell hB1; have hz1 := hB1.size)
      all_goals go_ret2
      exact ⟨rfl, ((Below.refl w.heap.size w).alloc (Nat.le_refl _) _).trans (hB1.mono (by simp))⟩
    · have h41' : 41 + le ≤ id := by omega
      go_enter Tryz.func5, Tryz.ntmps5
      go_wp2_with (go_at_call 15; refine (fits_any _ d m st so le ch re ba rt rn).mono ?_; rintro e w1 ⟨rfl, hB1⟩; rw [← HH.out]; obtain ⟨hc1, hf1⟩ := bcell hB1; have hz1 := hB1.size)
      all_goals go_ret2
      exact ⟨rfl, ((Below.refl w.heap.size w).alloc (Nat.le_refl _) _).trans (hB1.mono (by simp))⟩
end Go.Proofs.YthfmfiagmolmeaaGreatDoor
