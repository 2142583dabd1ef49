/- A realtime node: made, or not; its small calls. -/
import Derived.Test.YtcljpmknandlhaaGreatDoorProg
import Derived.Test.YtcljpmknandlhaaGreatDoorRBook
import Derived.Test.YtcljpmknandlhaaGreatDoorRFits
namespace Go.Proofs.YtcljpmknandlhaaGreatDoor
open Go Go.RowKit
set_option linter.unusedVariables false
set_option linter.unusedSimpArgs false
set_option maxRecDepth 100000
/-- A setup's ten numbers. -/
structure Su where
  d : Int
  m : Int
  st : Int
  so : Int
  le : Int
  ch : Int
  re : Int
  ba : Int
  rt : Int
  rn : Int
abbrev Su.val (s : Su) : Value := .agg #[.int .i64 s.d, .int .i64 s.m, .int .i64 s.st, .int .i64 s.so, .int .i64 s.le, .int .i64 s.ch, .int .i64 s.re, .int .i64 s.ba, .int .i64 s.rt, .int .i64 s.rn]
def Su.fit (s : Su) : Bool := fitB s.d s.m s.st s.so s.le s.ch s.re s.ba s.rt s.rn
theorem cells10 {w : World} {b : Nat} {a0 a1 a2 a3 a4 a5 a6 a7 a8 a9 : Value} {T : TypeId} (h : w.heap[b]? = some (.cells #[a0, a1, a2, a3, a4, a5, a6, a7, a8, a9] T (0, 0))) :
    w.cell? ⟨b, 0, none⟩ = some a0 ∧ w.cell? ⟨b, 1, none⟩ = some a1 ∧ w.cell? ⟨b, 2, none⟩ = some a2 ∧ w.cell? ⟨b, 3, none⟩ = some a3 ∧ w.cell? ⟨b, 4, none⟩ = some a4 ∧ w.cell? ⟨b, 5, none⟩ = some a5 ∧ w.cell? ⟨b, 6, none⟩ = some a6 ∧ w.cell? ⟨b, 7, none⟩ = some a7 ∧ w.cell? ⟨b, 8, none⟩ = some a8 ∧ w.cell? ⟨b, 9, none⟩ = some a9 :=
  ⟨cell_of h 0, cell_of h 1, cell_of h 2, cell_of h 3, cell_of h 4, cell_of h 5, cell_of h 6, cell_of h 7, cell_of h 8, cell_of h 9⟩
/-- An intake in memory. -/
structure InAt (w : World) (ib : Nat) (D m ch : Int) (nx : Int) (F : Value) (op : Int) : Prop where
  blk : w.heap[ib]? = some (.cells #[.int .i64 D, .int .i64 m, .int .i64 ch, .int .u64 nx, F, .int .i64 op, .slice none 0 0, .int .i64 0] 117 (0, 0))
/-- A node in memory. -/
structure NodeR (w : World) (nb ib : Nat) (s : Su) (stream : Int) (at_ : Nat) : Prop where
  blk : w.heap[nb]? = some (.cells #[.int .i64 s.d, .int .i64 s.m, .int .i64 s.st, .int .i64 s.so, .int .i64 s.le, .int .i64 s.ch, .int .i64 s.re, .int .i64 s.ba, .int .i64 s.rt, .int .i64 s.rn, .int .i64 (1 + stream), .int .i64 stream, .pointer (some ⟨ib, 0, none⟩), .int .u64 at_, .bool false, .slice none 0 0, .int .i64 0, .bool false] 90 (0, 0))
theorem InAt.ext {w w' : World} {ib : Nat} {D m ch : Int} {nx : Int} {F : Value} {op : Int} (h : InAt w ib D m ch nx F op) {S : Nat → Prop} (hE : Ext S w w') (h1 : ¬ S ib) : InAt w' ib D m ch nx F op := ⟨hE.blk h.blk h1⟩
theorem NodeR.ext {w w' : World} {nb ib : Nat} {s : Su} {stream : Int} {at_ : Nat} (h : NodeR w nb ib s stream at_) {S : Nat → Prop} (hE : Ext S w w') (h1 : ¬ S nb) : NodeR w' nb ib s stream at_ := ⟨hE.blk h.blk h1⟩
set_option maxHeartbeats 1000000 in
theorem intake_new (w : World) (D m ch : Int) (nx : Int) (hf : fineB D m = true) (h0 : 1 ≤ ch) (h1 : ch ≤ 1099511627776) (h2 : 1 ≤ nx) (h3 : nx ≤ 1099511627777) :
    Calls Tryz.prog 20 #[.agg #[.int .i64 D, .int .i64 m], .int .i64 ch, .int .u64 nx] w fun e w' => ∃ ib, e = .returned (.tuple #[.pointer (some ⟨ib, 0, none⟩), .int .i64 0]) ∧ InAt w' ib D m ch nx (.slice none 0 0) 0 ∧ w.heap.size ≤ ib ∧ Below w.heap.size w w' := by
  have HF := hid (show errB (fineB D m) = 0 by rw [hf]; rfl)
  clear hf
  go_enter Tryz.func20, Tryz.ntmps20
  go_wp2_with (go_at_call 33; refine (fine_any _ D m).mono ?_; rintro e w1 ⟨rfl, hb⟩; rw [HF.out]; have r1 := (Ext.of_below (S := fun _ => False) hb).blk (heap_alloc_new w (.cells #[.int .i64 D, .int .i64 m] 23)) (fun h => h); have s0 := cell_of r1 0; have s1 := cell_of r1 1; have X1 := hid (((Ext.refl (fun _ => False) w).alloc (.cells #[.int .i64 D, .int .i64 m] 23)).trans (Ext.of_below hb)); clear hb r1)
  go_ret2
  exact ⟨w1.heap.size, rfl, ⟨heap_alloc_new w1 _⟩, X1.out.size, (X1.out.alloc _).below (Nat.le_refl _) (fun _ h => h.elim)⟩
/-- offsets as cells -/
def zo (l : List Nat) : List Value := l.map fun (x : Nat) => .int .u64 (x : Int)
theorem zo_one (l : List Nat) : Ones (zo l) := by
  intro u hu
  simp only [zo, List.mem_map] at hu
  obtain ⟨x, _, rfl⟩ := hu
  rfl
theorem zo_cell {w : World} {A : Option Addr} {k c : Nat} {l : List Nat} (h : Rd w (.slice A k c) k 1 (zo l)) (j : Nat) (hj : j < k) (hl : l.length = k) : ∃ b o, A = some ⟨b, o, none⟩ ∧ b < w.heap.size ∧ ∃ x, l[j]? = some x ∧ w.cell? ⟨b, o + j, none⟩ = some (.int .u64 (x : Int)) := by
  obtain ⟨_, A', c', he, _, _, h4⟩ := h
  injection he with e1 e2 e3
  subst e1
  obtain ⟨b, o, rfl, hb, hc⟩ := h4 (by omega)
  exact ⟨b, o, rfl, hb, l[j]'(by omega), List.getElem?_eq_getElem (by omega), hc j _ (by simp [zo, List.getElem?_eq_getElem (show j < l.length by omega)])⟩
def NewPost (s : Su) (stream : Int) (x bb : Nat) (M O : Value) (k : Nat) (xs : List Nat) (w : World) (e : Ending) (w' : World) : Prop :=
  ∃ nb ib, e = .returned (.tuple #[.pointer (some ⟨nb, 0, none⟩), .int .i64 0]) ∧ NodeR w' nb ib s stream x ∧ InAt w' ib s.d s.m s.ch ((x : Int) + 1) (.slice none 0 0) 0 ∧ w.heap.size ≤ nb ∧ w.heap.size ≤ ib ∧ nb ≠ ib ∧ Ext (· = bb) w w' ∧ BookAt w' bb 0 0 0 M O 1 0 k [] (zo xs)
set_option maxHeartbeats 2000000 in
theorem new_yes (w : World) (bb : Nat) (s : Su) (j : Nat) (M O : Value) (k : Nat) (xs : List Nat) (x : Nat) (hB : BookAt w bb 0 0 0 M O 0 0 k [] (zo xs)) (hl : xs.length = k) (hk : k ≤ 1000) (hf : s.fit = true) (h1 : (j : Int) < s.st) (h2 : j < k) (hx : xs[j]? = some x) (hx2 : x ≤ 1099511627776) :
    Calls Tryz.prog 7 #[.int .i64 j, s.val, .iface 28 (.pointer (some ⟨bb, 0, none⟩))] w (NewPost s j x bb M O k xs w) := by
  obtain ⟨d, m, st, so, le, ch, re, ba, rt, rn⟩ := s
  unfold Su.fit at hf
  unfold Su.val
  dsimp only at hf h1 ⊢
  have HF := (fit_iff ..).1 hf
  have hst : 1 ≤ st ∧ st ≤ 8 ∧ 1 ≤ ch ∧ ch ≤ 1099511627776 := by omega
  have FN := hid HF.1
  have HH := hid hf
  have HB := hid hB
  have HX := hid (And.intro hl hx)
  clear HF hf hB hl hx
  go_enter Tryz.func7, Tryz.ntmps7
  go_wp2_with (first | (go_at_call 19; refine (fits_any _ d m st so le ch re ba rt rn).mono ?_; rintro e w1 ⟨rfl, hb⟩; rw [HH.out]; have X1 := hid (((Ext.refl (fun _ => False) w).alloc _).trans (Ext.of_below hb)); have R1 := hid ((Ext.of_below (S := fun _ => False) hb).blk (heap_alloc_new w _) (fun h => h)); obtain ⟨a0, a1, a2, a3, a4, a5, a6, a7, a8, a9⟩ := cells10 R1.out; have hz1 := lt_of_blk R1.out; clear hb) | (go_at_call 362; refine (state_any _ bb 0 0 0 M O 0 0 k [] (zo xs) (HB.out.ext X1.out (fun h => h) (fun _ _ h => h) (fun _ _ h => h)) (by omega) (by omega) (by intro u hu; cases hu) (zo_one xs) (by omega) (by omega)).mono ?_; rintro e w2 ⟨A1, c1, A2, c2, rfl, hm, ho, hb, hx⟩; have X2 := hid ((X1.out.mono (S' := (· = bb)) (fun _ _ h => h.elim)).trans hx); have O2 := hid ho; have R2 := hid (hx.blk R1.out (show ¬ w.heap.size = bb by have := lt_of_blk HB.out.blk; omega)); obtain ⟨b0, b1, b2, b3, b4, b5, b6, b7, b8, b9⟩ := cells10 R2.out; have hz2 := lt_of_blk R2.out; obtain ⟨ob, oo, rfl, hob, y, hy, hcy⟩ := zo_cell ho.rd j h2 HX.out.1; (have hyx : y = x := Option.some.inj (hy.symm.trans HX.out.2)); subst hyx; have K2 := hid hb; clear hm ho hb hx hy) | (go_at_call 20; refine (intake_new _ d m ch _ FN.out hst.2.2.1 hst.2.2.2 (by omega) (by omega)).mono ?_; rintro e w3 ⟨ib, rfl, hI, hib, hb⟩; have X3 := hid ((X2.out.alloc _).then_ (Ext.of_below (S := fun _ => False) hb) (fun _ _ h => h.elim)); have I3 := hid hI; have R3 := hid ((Ext.of_below (S := fun _ => False) hb).blk (blk_alloc R2.out _) (fun h => h)); obtain ⟨e0, e1, e2, e3, e4, e5, e6, e7, e8, e9⟩ := cells10 R3.out; have hz3 := lt_of_blk R3.out; have B3 := hid hib; have K3 := hid (K2.out.ext (((Ext.refl (fun _ => False) w2).alloc _).trans (Ext.of_below (S := fun _ => False) hb)) (fun h => h) (fun _ _ h => h) (fun _ _ h => h)); clear hb hI hib))
  go_ret2
  have z2 := X2.out.size
  have z3 := B3.out
  have zi := lt_of_blk I3.out.blk
  simp at z3
  exact ⟨w3.heap.size, ib, rfl, ⟨heap_alloc_new w3 _⟩, ⟨blk_alloc I3.out.blk _⟩, X3.out.size, by omega, by omega, X3.out.alloc _, K3.out.ext ((Ext.refl (fun _ => False) w3).alloc _) (fun h => h) (fun _ _ h => h) (fun _ _ h => h)⟩
end Go.Proofs.YtcljpmknandlhaaGreatDoor
