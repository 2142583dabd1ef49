/- A query that may be: what the look at it answers. -/
import Derived.Test.YtdfmfjkcgbjgbaaGreatDoorProg
import Derived.Test.YtdfmfjkcgbjgbaaGreatDoorHFits
import Derived.BigQuiet
namespace Go.Proofs.YtdfmfjkcgbjgbaaGreatDoor
open Go Go.RowKit
set_option linter.unusedVariables false
set_option linter.unusedSimpArgs false
set_option maxRecDepth 100000
theorem cells13 {w : World} {b : Nat} {a0 a1 a2 a3 a4 a5 a6 a7 a8 a9 a10 a11 a12 : Value} {T : TypeId} (h : w.heap[b]? = some (.cells #[a0, a1, a2, a3, a4, a5, a6, a7, a8, a9, a10, a11, a12] T (0, 0))) :
    w.cell? ⟨b, 0, none⟩ = some a0 ∧ w.cell? ⟨b, 1, none⟩ = some a1 ∧ w.cell? ⟨b, 2, none⟩ = some a2 ∧ w.cell? ⟨b, 3, none⟩ = some a3 ∧ w.cell? ⟨b, 4, none⟩ = some a4 ∧ w.cell? ⟨b, 5, none⟩ = some a5 ∧ w.cell? ⟨b, 6, none⟩ = some a6 ∧ w.cell? ⟨b, 7, none⟩ = some a7 ∧ w.cell? ⟨b, 8, none⟩ = some a8 ∧ w.cell? ⟨b, 9, none⟩ = some a9 ∧ w.cell? ⟨b, 10, none⟩ = some a10 ∧ w.cell? ⟨b, 11, none⟩ = some a11 ∧ w.cell? ⟨b, 12, none⟩ = some a12 :=
  ⟨cell_of h 0, cell_of h 1, cell_of h 2, cell_of h 3, cell_of h 4, cell_of h 5, cell_of h 6, cell_of h 7, cell_of h 8, cell_of h 9, cell_of h 10, cell_of h 11, cell_of h 12⟩
theorem none_no (w : World) : Calls Tryz.prog 67 #[.bool false] w fun e w' => e = .returned (.int .i64 (-1)) ∧ w' = w := by
  go_enter Tryz.func67, Tryz.ntmps67
  go_wp2
  go_ret
  exact ⟨rfl, rfl⟩
theorem within_yes (w : World) (n lo hi : Int) (h0 : lo ≤ n) (h1 : n ≤ hi) : Calls Tryz.prog 69 #[.int .i64 n, .int .i64 lo, .int .i64 hi] w fun e w' => e = .returned (.bool true) ∧ w' = w := by
  go_enter Tryz.func69, Tryz.ntmps69
  go_wp2
  go_ret
  exact ⟨rfl, rfl⟩
theorem may_all (w : World) (D m : Int) : Calls Tryz.prog 137 #[.agg #[.int .i64 D, .int .i64 m], .agg #[.int .i64 1, .int .i64 0, .slice none 0 0, .int .i64 0, .int .i64 0, .slice none 0 0]] w fun e w' => e = .returned (.bool true) ∧ Ext (fun _ => False) w w' := by
  go_enter Tryz.func137, Tryz.ntmps137
  go_wp2
  go_ret
  exact ⟨rfl, ((Ext.refl _ w).alloc _).alloc _⟩
theorem kids_all (w : World) : Calls Tryz.prog 220 #[.agg #[.int .i64 1, .int .i64 0, .slice none 0 0, .int .i64 0, .int .i64 0, .slice none 0 0]] w fun e w' => e = .returned (.slice none 0 0) ∧ Ext (fun _ => False) w w' := by
  go_enter Tryz.func220, Tryz.ntmps220
  go_wp2
  go_ret
  exact ⟨rfl, (Ext.refl _ w).alloc _⟩
theorem fine_all (w : World) (sb : Nat) (D m : Int) (hs : w.heap[sb]? = some (.cells #[.int .i64 D, .int .i64 m] 23 (0, 0))) :
    Calls Tryz.prog 136 #[.agg #[.int .i64 1, .int .i64 0, .slice none 0 0, .int .i64 0, .int .i64 0, .slice none 0 0], .int .i64 1, .pointer (some ⟨sb, 0, none⟩)] w fun e w' => e = .returned (.bool true) ∧ Ext (fun _ => False) w w' := by
  have s0 := cell_of hs 0
  have s1 := cell_of hs 1
  have hsb := lt_of_blk hs
  clear hs
  go_enter Tryz.func136, Tryz.ntmps136
  go_wp2_with (go_at_call 137; refine (may_all _ D m).mono ?_; rintro e w1 ⟨rfl, hx⟩)
  go_ret
  exact ⟨rfl, ((Ext.refl _ w).alloc _).trans hx⟩
theorem count_all (w : World) (sb lb : Nat) (D m : Int) (hs : w.heap[sb]? = some (.cells #[.int .i64 D, .int .i64 m] 23 (0, 0))) (hl : w.cell? ⟨lb, 0, none⟩ = some (.int .i64 200)) (hf : w.frozen? ⟨lb, 0, none⟩ = false) (hne : sb ≠ lb) :
    Calls Tryz.prog 135 #[.agg #[.int .i64 1, .int .i64 0, .slice none 0 0, .int .i64 0, .int .i64 0, .slice none 0 0], .int .i64 1, .pointer (some ⟨lb, 0, none⟩), .func (.func 136) #[] #[.pointer (some ⟨sb, 0, none⟩)]] w fun e w' => e = .returned (.bool true) ∧ Ext (· = lb) w w' := by
  have HS := hid hs
  have hlb := World.block_lt_of_cell? w _ hl
  clear hs
  go_enter Tryz.func135, Tryz.ntmps135
  go_wp2_with (first | (go_at_call 136; refine (fine_all _ sb D m ?hs).mono ?_; (case hs => first | exact blk_alloc (blk_set_other HS.out hne _) _ | exact blk_set_other (a := ⟨lb, 0, none⟩) (blk_alloc HS.out _) hne _); rintro e w1 ⟨rfl, hx⟩; have X1 := hid hx; have b1 := hx.blk (alloc_at (w.setCell ⟨lb, 0, none⟩ (.int .i64 199)) (.cells #[.int .i64 1, .int .i64 0, .slice none 0 0, .int .i64 0, .int .i64 0, .slice none 0 0] 50) (show w.heap.size = _ by simp)) (fun h => h); have c0 := cell_of b1 0; have c1 := cell_of b1 1; have c2 := cell_of b1 2; have c3 := cell_of b1 3; have c4 := cell_of b1 4; have c5 := cell_of b1 5; have hz1 := lt_of_blk b1; clear hx b1) | (go_at_call 220; refine (kids_all _).mono ?_; rintro e w2 ⟨rfl, hx⟩; have X2 := hid hx; clear hx))
  go_rounds 1
  go_ret
  exact ⟨rfl, (((((Ext.refl (· = lb) w).setCell (p := ⟨lb, 0, none⟩) (fun _ => rfl) _).alloc _).then_ X1.out (fun _ _ h => h.elim))).then_ X2.out (fun _ _ h => h.elim)⟩
theorem filter_all (w : World) (D m : Int) : Calls Tryz.prog 71 #[.agg #[.int .i64 D, .int .i64 m], .agg #[.int .i64 1, .int .i64 0, .slice none 0 0, .int .i64 0, .int .i64 0, .slice none 0 0]] w fun e w' => e = .returned (.int .i64 0) ∧ Ext (fun _ => False) w w' := by
  have hmf : ∀ (fn : Fn) (first cap : Array Value) (w : World), (Instr.makeFunc fn first cap).run Tryz.prog w = .ok (.func fn first cap) w := fun _ _ _ _ => rfl
  go_enter Tryz.func71, Tryz.ntmps71
  go_wp2_with (go_at_call 135; refine (count_all _ w.heap.size (w.heap.size + 1 + 1) D m (blk_alloc (blk_alloc (heap_alloc_new w _) _) _) (cell_of (alloc_at _ _ (by simp)) 0) (free_of (alloc_at _ _ (by simp)) 0) (by omega)).mono ?_; rintro e w1 ⟨rfl, hx⟩)
  go_ret
  exact ⟨rfl, ((((Ext.refl (fun _ => False) w).alloc _).alloc _).alloc _).then_ hx (fun i hi h => by omega)⟩
/-- A schema, a query and its one set in memory. -/
structure Asked (w : World) (sb qb g : Nat) (D m : Int) : Prop where
  sch : w.heap[sb]? = some (.cells #[.int .i64 D, .int .i64 m] 23 (0, 0))
  qry : w.heap[qb]? = some (.cells #[.int .i64 0, .int .i64 0, .int .i64 1, .int .i64 0, .slice none 0 0, .int .i64 0, .int .i64 0, .slice none 0 0, .int .i64 0, .slice (some ⟨g, 0, none⟩) 1 1, .slice none 0 0, .int .i64 1, .int .i64 0] 54 (0, 0))
  set : ∃ y, w.cell? ⟨g, 0, none⟩ = some (.slice y 0 0)
  fine : fineB D m = true
theorem Asked.grow {w w' : World} {sb qb g : Nat} {D m : Int} (h : Asked w sb qb g D m) (hE : Ext (fun _ => False) w w') : Asked w' sb qb g D m :=
  ⟨hE.blk h.sch (fun h => h), hE.blk h.qry (fun h => h), h.set.imp fun _ hy => hE.cell hy (fun h => h), h.fine⟩
theorem chk1 (w : World) (sb qb g : Nat) (D m : Int) (h : Asked w sb qb g D m) :
    Calls Tryz.prog 66 #[.pointer (some ⟨sb, 0, none⟩)] w fun e w' => e = .returned (.int .i64 (-1)) ∧ Ext (fun _ => False) w w' := by
  obtain ⟨q0, q1, q2, q3, q4, q5, q6, q7, q8, q9, q10, q11, q12⟩ := cells13 h.qry
  have s0 := cell_of h.sch 0
  have s1 := cell_of h.sch 1
  have hg := h.set
  have hsb := lt_of_blk h.sch
  have hqb := lt_of_blk h.qry
  have H := hid h
  clear h
  have HF := hid (show errB (fineB D m) = 0 by rw [H.out.fine]; rfl)
  go_enter Tryz.func66, Tryz.ntmps66
  go_wp2_with (first | (go_at_call 39; refine (fine_any _ D m).mono ?_; rintro e w1 ⟨rfl, hb⟩; rw [HF.out]) | (go_at_call 67; refine (none_no _).mono ?_; rintro e w2 ⟨rfl, rfl⟩))
  go_ret
  exact ⟨rfl, Ext.of_below hb⟩
theorem chk2 (w : World) (sb qb g : Nat) (D m : Int) (h : Asked w sb qb g D m) :
    Calls Tryz.prog 68 #[.pointer (some ⟨qb, 0, none⟩)] w fun e w' => e = .returned (.int .i64 (-1)) ∧ Ext (fun _ => False) w w' := by
  obtain ⟨q0, q1, q2, q3, q4, q5, q6, q7, q8, q9, q10, q11, q12⟩ := cells13 h.qry
  have s0 := cell_of h.sch 0
  have s1 := cell_of h.sch 1
  have hg := h.set
  have hsb := lt_of_blk h.sch
  have hqb := lt_of_blk h.qry
  have H := hid h
  clear h
  go_enter Tryz.func68, Tryz.ntmps68
  go_wp2_with (first | (go_at_call 69; refine (within_yes _ _ _ _ (by omega) (by omega)).mono ?_; rintro e w1 ⟨rfl, rfl⟩) | (go_at_call 67; refine (none_no _).mono ?_; rintro e w2 ⟨rfl, rfl⟩))
  go_ret
  exact ⟨rfl, Ext.refl _ _⟩
theorem chk3 (w : World) (sb qb g : Nat) (D m : Int) (h : Asked w sb qb g D m) :
    Calls Tryz.prog 70 #[.pointer (some ⟨sb, 0, none⟩), .pointer (some ⟨qb, 0, none⟩)] w fun e w' => e = .returned (.int .i64 (-1)) ∧ Ext (fun _ => False) w w' := by
  obtain ⟨q0, q1, q2, q3, q4, q5, q6, q7, q8, q9, q10, q11, q12⟩ := cells13 h.qry
  have s0 := cell_of h.sch 0
  have s1 := cell_of h.sch 1
  have hg := h.set
  have hsb := lt_of_blk h.sch
  have hqb := lt_of_blk h.qry
  have H := hid h
  clear h
  go_enter Tryz.func70, Tryz.ntmps70
  go_wp2_with (first | (go_at_call 71; refine (filter_all _ D m).mono ?_; rintro e w1 ⟨rfl, hx⟩) | (go_at_call 67; refine (none_no _).mono ?_; rintro e w2 ⟨rfl, rfl⟩))
  go_ret
  exact ⟨rfl, hx⟩
theorem chk4 (w : World) (sb qb g : Nat) (D m : Int) (h : Asked w sb qb g D m) :
    Calls Tryz.prog 72 #[.pointer (some ⟨qb, 0, none⟩)] w fun e w' => e = .returned (.int .i64 (-1)) ∧ Ext (fun _ => False) w w' := by
  obtain ⟨q0, q1, q2, q3, q4, q5, q6, q7, q8, q9, q10, q11, q12⟩ := cells13 h.qry
  have s0 := cell_of h.sch 0
  have s1 := cell_of h.sch 1
  have hg := h.set
  have hsb := lt_of_blk h.sch
  have hqb := lt_of_blk h.qry
  have H := hid h
  clear h
  go_enter Tryz.func72, Tryz.ntmps72
  go_wp2_with (first | (go_at_call 69; refine (within_yes _ _ _ _ (by omega) (by omega)).mono ?_; rintro e w1 ⟨rfl, rfl⟩) | (go_at_call 67; refine (none_no _).mono ?_; rintro e w2 ⟨rfl, rfl⟩))
  go_ret
  exact ⟨rfl, Ext.refl _ _⟩
theorem chk5 (w : World) (sb qb g : Nat) (D m : Int) (h : Asked w sb qb g D m) :
    Calls Tryz.prog 73 #[.pointer (some ⟨qb, 0, none⟩)] w fun e w' => e = .returned (.int .i64 (-1)) ∧ Ext (fun _ => False) w w' := by
  obtain ⟨q0, q1, q2, q3, q4, q5, q6, q7, q8, q9, q10, q11, q12⟩ := cells13 h.qry
  have s0 := cell_of h.sch 0
  have s1 := cell_of h.sch 1
  have hg := h.set
  have hsb := lt_of_blk h.sch
  have hqb := lt_of_blk h.qry
  have H := hid h
  clear h
  go_enter Tryz.func73, Tryz.ntmps73
  go_wp2_with (first | (go_at_call 67; refine (none_no _).mono ?_; rintro e w2 ⟨rfl, rfl⟩))
  go_ret
  exact ⟨rfl, Ext.refl _ _⟩
theorem chk7 (w : World) (sb qb g : Nat) (D m : Int) (h : Asked w sb qb g D m) :
    Calls Tryz.prog 78 #[.pointer (some ⟨qb, 0, none⟩)] w fun e w' => e = .returned (.int .i64 (-1)) ∧ Ext (fun _ => False) w w' := by
  obtain ⟨q0, q1, q2, q3, q4, q5, q6, q7, q8, q9, q10, q11, q12⟩ := cells13 h.qry
  have s0 := cell_of h.sch 0
  have s1 := cell_of h.sch 1
  have hg := h.set
  have hsb := lt_of_blk h.sch
  have hqb := lt_of_blk h.qry
  have H := hid h
  clear h
  go_enter Tryz.func78, Tryz.ntmps78
  go_wp2_with (first | (go_at_call 67; refine (none_no _).mono ?_; rintro e w2 ⟨rfl, rfl⟩))
  go_ret
  exact ⟨rfl, Ext.refl _ _⟩
theorem chk9 (w : World) (sb qb g : Nat) (D m : Int) (h : Asked w sb qb g D m) :
    Calls Tryz.prog 83 #[.pointer (some ⟨qb, 0, none⟩)] w fun e w' => e = .returned (.int .i64 (-1)) ∧ Ext (fun _ => False) w w' := by
  obtain ⟨q0, q1, q2, q3, q4, q5, q6, q7, q8, q9, q10, q11, q12⟩ := cells13 h.qry
  have s0 := cell_of h.sch 0
  have s1 := cell_of h.sch 1
  have hg := h.set
  have hsb := lt_of_blk h.sch
  have hqb := lt_of_blk h.qry
  have H := hid h
  clear h
  go_enter Tryz.func83, Tryz.ntmps83
  go_wp2_with (first | (go_at_call 69; refine (within_yes _ _ _ _ (by omega) (by omega)).mono ?_; rintro e w1 ⟨rfl, rfl⟩) | (go_at_call 67; refine (none_no _).mono ?_; rintro e w2 ⟨rfl, rfl⟩))
  go_ret
  exact ⟨rfl, Ext.refl _ _⟩
theorem chk10 (w : World) (sb qb g : Nat) (D m : Int) (h : Asked w sb qb g D m) :
    Calls Tryz.prog 84 #[.pointer (some ⟨qb, 0, none⟩)] w fun e w' => e = .returned (.int .i64 (-1)) ∧ Ext (fun _ => False) w w' := by
  obtain ⟨q0, q1, q2, q3, q4, q5, q6, q7, q8, q9, q10, q11, q12⟩ := cells13 h.qry
  have s0 := cell_of h.sch 0
  have s1 := cell_of h.sch 1
  have hg := h.set
  have hsb := lt_of_blk h.sch
  have hqb := lt_of_blk h.qry
  have H := hid h
  clear h
  go_enter Tryz.func84, Tryz.ntmps84
  go_wp2_with (first | (go_at_call 69; refine (within_yes _ _ _ _ (by omega) (by omega)).mono ?_; rintro e w1 ⟨rfl, rfl⟩) | (go_at_call 67; refine (none_no _).mono ?_; rintro e w2 ⟨rfl, rfl⟩))
  go_ret
  exact ⟨rfl, Ext.refl _ _⟩
theorem rising_nil (w : World) (D m : Int) (y : Option Addr) : Calls Tryz.prog 77 #[.agg #[.int .i64 D, .int .i64 m], .slice y 0 0] w fun e w' => e = .returned (.bool true) ∧ Ext (fun _ => False) w w' := by
  go_enter Tryz.func77, Tryz.ntmps77
  go_wp2
  go_rounds 1
  go_ret
  exact ⟨rfl, (Ext.refl _ w).alloc _⟩
theorem rises (w : World) (sb : Nat) (D m : Int) (y : Option Addr) (hs : w.heap[sb]? = some (.cells #[.int .i64 D, .int .i64 m] 23 (0, 0))) :
    Calls Tryz.prog 76 #[.slice y 0 0, .pointer (some ⟨sb, 0, none⟩)] w fun e w' => e = .returned (.bool false) ∧ Ext (fun _ => False) w w' := by
  have s0 := cell_of hs 0
  have s1 := cell_of hs 1
  clear hs
  go_enter Tryz.func76, Tryz.ntmps76
  go_wp2_with (go_at_call 77; refine (rising_nil _ D m y).mono ?_; rintro e w1 ⟨rfl, hx⟩)
  go_ret
  exact ⟨rfl, hx⟩
theorem index_sets (w : World) (sb qb g : Nat) (D m : Int) (h : Asked w sb qb g D m) :
    Calls Tryz.prog 75 #[.slice (some ⟨g, 0, none⟩) 1 1, .func (.func 76) #[] #[.pointer (some ⟨sb, 0, none⟩)]] w fun e w' => e = .returned (.int .i64 (-1)) ∧ Ext (fun _ => False) w w' := by
  obtain ⟨y, hy⟩ := h.set
  have HS := hid h.sch
  clear h
  go_enter Tryz.func75, Tryz.ntmps75
  go_wp2
  refine wp_loop_rounds 2 ?_
  rw [rounds_succ]
  go_wp2_with (go_at_call 76; refine (rises _ sb D m y HS.out).mono ?_; rintro e w1 ⟨rfl, hx⟩)
  rw [rounds_succ]
  go_wp2
  go_ret
  exact ⟨rfl, hx⟩
theorem index_aggs (w : World) (fv : Value) :
    Calls Tryz.prog 80 #[.slice none 0 0, fv] w fun e w' => e = .returned (.int .i64 (-1)) ∧ w' = w := by
  go_enter Tryz.func80, Tryz.ntmps80
  go_wp2
  go_rounds 1
  go_ret
  exact ⟨rfl, rfl⟩
theorem chk6 (w : World) (sb qb g : Nat) (D m : Int) (h : Asked w sb qb g D m) :
    Calls Tryz.prog 74 #[.pointer (some ⟨qb, 0, none⟩), .pointer (some ⟨sb, 0, none⟩)] w fun e w' => e = .returned (.int .i64 (-1)) ∧ Ext (fun _ => False) w w' := by
  obtain ⟨q0, q1, q2, q3, q4, q5, q6, q7, q8, q9, q10, q11, q12⟩ := cells13 h.qry
  have s0 := cell_of h.sch 0
  have s1 := cell_of h.sch 1
  have hg := h.set
  have hsb := lt_of_blk h.sch
  have hqb := lt_of_blk h.qry
  have H := hid h
  clear h
  have hmf : ∀ (fn : Fn) (first cap : Array Value) (w : World), (Instr.makeFunc fn first cap).run Tryz.prog w = .ok (.func fn first cap) w := fun _ _ _ _ => rfl
  go_enter Tryz.func74, Tryz.ntmps74
  go_wp2_with (first | (go_at_call 75; refine (index_sets _ sb qb g D m H.out).mono ?_; rintro e w1 ⟨rfl, hx⟩) | (go_at_call 67; refine (none_no _).mono ?_; rintro e w2 ⟨rfl, rfl⟩))
  go_ret
  exact ⟨rfl, hx⟩
theorem chk8 (w : World) (sb qb g : Nat) (D m : Int) (h : Asked w sb qb g D m) :
    Calls Tryz.prog 79 #[.pointer (some ⟨qb, 0, none⟩), .pointer (some ⟨sb, 0, none⟩)] w fun e w' => e = .returned (.int .i64 (-1)) ∧ Ext (fun _ => False) w w' := by
  obtain ⟨q0, q1, q2, q3, q4, q5, q6, q7, q8, q9, q10, q11, q12⟩ := cells13 h.qry
  have s0 := cell_of h.sch 0
  have s1 := cell_of h.sch 1
  have hg := h.set
  have hsb := lt_of_blk h.sch
  have hqb := lt_of_blk h.qry
  have H := hid h
  clear h
  have hmf : ∀ (fn : Fn) (first cap : Array Value) (w : World), (Instr.makeFunc fn first cap).run Tryz.prog w = .ok (.func fn first cap) w := fun _ _ _ _ => rfl
  go_enter Tryz.func79, Tryz.ntmps79
  go_wp2_with (first | (go_at_call 80; refine (index_aggs _ _).mono ?_; rintro e w1 ⟨rfl, rfl⟩) | (go_at_call 67; refine (none_no _).mono ?_; rintro e w2 ⟨rfl, rfl⟩))
  go_ret
  exact ⟨rfl, Ext.refl _ _⟩
end Go.Proofs.YtdfmfjkcgbjgbaaGreatDoor
