/- A disk without files: what it answers. -/
import Derived.Test.YtdfmfjkcgbjgbaaGreatDoorProg
import Derived.Test.YtdfmfjkcgbjgbaaGreatDoorBase
import Derived.WalkSpells
import Derived.MapKept
import Derived.Laws.IdiomRangeMap
import Derived.RangeFuncNested
import Derived.RangeFuncBound
import Derived.RangeFuncCalls
import Derived.RangeFuncLeaves
import Derived.RangeFuncFrom
import Derived.Shelf.Abstract
import Derived.Shelf.RegionOpen
import Derived.WalkKit
import Derived.OwnWalkIn
import Derived.TacticsInMore
import Derived.LoopNIn
import Derived.LoopIn
import Derived.BigQuiet
namespace Go.Proofs.YtdfmfjkcgbjgbaaGreatDoor
open Go Go.RowKit Go.Shelf
attribute [local go_sem] Oper.semAt_some
set_option linter.unusedVariables false
set_option linter.unusedSimpArgs false
set_option maxRecDepth 100000
theorem next_empty (P : Program) (w : World) (ty : TypeId) (bm c : Nat) (hb : w.heap[bm]? = some (.map #[] c)) :
    (Instr.next (.pointer (some ⟨w.heap.size, 0, none⟩)) false ty).run P (w.alloc (.mapIter (some bm) c #[] c)) = .ok (.tuple #[.bool false]) (w.alloc (.mapIter (some bm) c #[] c)) := by
  rcases run_next_map (P := P) w ty bm c c #[] #[] c hb (by simp) (Nat.le_refl _) with h | ⟨e, he, _⟩
  · exact h.2
  · simp [leftOf] at he
/-- A disk in memory, without files. -/
structure DiskAt (w : World) (db fb : Nat) (off : Bool) : Prop where
  blk : w.heap[db]? = some (.cells #[.map (some fb), .bool off, .int .i64 0, .int .i64 (-1), .int .i64 0] 100 (0, 0))
  files : w.heap[fb]? = some (.map #[] 0)
  ne : db ≠ fb
theorem DiskAt.ext {w w' : World} {db fb : Nat} {off : Bool} (h : DiskAt w db fb off) {S : Nat → Prop} (hE : Ext S w w') (h1 : ¬ S db) (h2 : ¬ S fb) : DiskAt w' db fb off :=
  ⟨hE.blk h.blk h1, hE.blk h.files h2, h.ne⟩
theorem DiskAt.grow {w w' : World} {db fb : Nat} {off : Bool} (h : DiskAt w db fb off) (hE : Ext (fun _ => False) w w') : DiskAt w' db fb off := h.ext hE (fun h => h) (fun h => h)
theorem disk_new (w : World) :
    Calls Tryz.prog 8 #[] w fun e w' => e = .returned (.pointer (some ⟨w.heap.size + 1, 0, none⟩)) ∧ w' = (w.alloc (.map #[] 0)).alloc (.cells #[.map (some w.heap.size), .bool false, .int .i64 0, .int .i64 (-1), .int .i64 0] 100) := by
  have hmm := @run_makeMap Tryz.prog
  go_enter Tryz.func8, Tryz.ntmps8
  go_wp2
  go_ret
  exact ⟨rfl, rfl⟩
theorem disk_made {w : World} : DiskAt ((w.alloc (.map #[] 0)).alloc (.cells #[.map (some w.heap.size), .bool false, .int .i64 0, .int .i64 (-1), .int .i64 0] 100)) (w.heap.size + 1) w.heap.size false :=
  ⟨alloc_at _ _ (by simp), blk_alloc (heap_alloc_new w _) _, by omega⟩
theorem disk_off (w : World) (db fb : Nat) (off : Bool) (h : DiskAt w db fb off) :
    Calls Tryz.prog 40 #[.pointer (some ⟨db, 0, none⟩)] w fun e w' => e = .returned (.bool off) ∧ w' = w := by
  have q1 := cell_of h.blk 1
  clear h
  go_enter Tryz.func40, Tryz.ntmps40
  go_wp2
  go_ret
  exact ⟨rfl, rfl⟩
theorem keys_anyS (w : World) (mb : Nat) :
    Calls Tryz.prog 109 #[.map (some mb)] w fun e w' => e = .returned (.func (.func 193) #[] #[.pointer (some ⟨w.heap.size, 0, none⟩)]) ∧ w' = w.alloc (.cells #[.map (some mb)] 98) := by
  go_enter Tryz.func109, Tryz.ntmps109
  go_wp2
  go_ret
  exact ⟨rfl, rfl⟩
set_option maxHeartbeats 1000000 in
theorem keys_stopS (n : Nat) (mb Bm : Nat) (w : World) (hBm : w.cell? ⟨Bm, 0, none⟩ = some (.map (some mb))) (hmb : w.heap[mb]? = some (.map #[] 0)) (Kp : World → World → Prop) (encs : Empty → Array Value) :
    SeqStopsK Fence.wide n Tryz.prog 193 #[.pointer (some ⟨Bm, 0, none⟩)] encs Kp (fun _ => True) (fun _ => False) 0 w := by
  intro l J Jx W hW hJ hJx hY h0
  have hb : W.cell? ⟨Bm, 0, none⟩ = some (.map (some mb)) := (hW.cell (p := ⟨Bm, 0, none⟩) (World.block_lt_of_cell? w _ hBm)).trans hBm
  have hm : W.heap[mb]? = some (.map #[] 0) := (hW.block mb (lt_of_blk hmb)).trans hmb
  have hrg := run_range_map (P := Tryz.prog) W _ _ _ mb #[] 0 Tryz.underlying98 hm
  have hnx := fun ty => next_empty Tryz.prog W ty mb 0 hm
  refine callsIn_of_wp Tryz.func193 rfl trivial ?_ rfl
  simp only [Tryz.ntmps193, List.size_toArray, List.length_cons, List.length_nil, Nat.reduceAdd, Nat.reduceSub, Array.replicate_succ, Array.replicate_zero, List.push_toArray, List.append_toArray, List.nil_append, List.cons_append]
  gi_wp2
  refine wpIn_loop_rounds 1 ?_
  rw [roundsIn_succ]
  gi_wp2
  go_end0
  exact ⟨⟨_, rfl⟩, .inl ⟨[], trivial, hJ [] W _ none h0 (World.grownBy_alloc W _ none) (fun r e => by cases e)⟩⟩
set_option maxHeartbeats 1000000 in
theorem appendseq_nilS (w : World) (kb mb : Nat) (hk : w.cell? ⟨kb, 0, none⟩ = some (.map (some mb))) (hm : w.heap[mb]? = some (.map #[] 0)) :
    Calls Tryz.prog 256 #[.slice none 0 0, .func (.func 193) #[] #[.pointer (some ⟨kb, 0, none⟩)]] w fun e w' => e = .returned (.slice none 0 0) ∧ Below w.heap.size w w' := by
  have hr4 := alloc_at w (.cells #[.slice none 0 0] 44) rfl
  have hc4 := cell_of hr4 0
  have hf4 := free_of hr4 0
  have hck := ((Ext.refl (fun _ => False) w).alloc (.cells #[.slice none 0 0] 44)).cell hk (fun h => h)
  have hm0 := blk_alloc hm (.cells #[.slice none 0 0] 44)
  have HB0 := hid ((Below.refl w.heap.size w).alloc (Nat.le_refl _) (.cells #[.slice none 0 0] 44))
  have H4 := hid (And.intro hc4 hf4)
  have HK := hid (And.intro hck hm0)
  clear hr4 hck hm0 hk hm
  refine (callsIn_wide (n := 3)).1 ?_
  refine callsIn_of_wp_marks Tryz.func256 rfl trivial ?_ rfl
  simp only [Tryz.ntmps256, List.size_toArray, List.length_cons, List.length_nil, Nat.reduceAdd, Nat.reduceSub, Array.replicate_succ, Array.replicate_zero, List.push_toArray, List.append_toArray, List.nil_append, List.cons_append]
  gi_wp2
  refine wpIn_rangeFunc_ownF (α := Empty) rfl (by omega) (gf := 193) (lb := #[.pointer (some ⟨kb, 0, none⟩)]) rfl trivial (enters_of Tryz.func193 (by kernel_rfl) rfl)
    (keys_stopS 2 mb kb _ HK.out.1 HK.out.2 (fun _ _ => True) (fun _ => #[])) (fun _ _ => trivial) (fun _ _ _ _ _ _ _ _ => trivial) (Below.refl _ _) (fun x => x.elim)
    (fun _ W => (W.cell? ⟨w.heap.size, 0, none⟩ = some (.slice none 0 0) ∧ W.frozen? ⟨w.heap.size, 0, none⟩ = false) ∧ Below w.heap.size w W) (fun _ _ _ => False)
    (OwnFrom.and (Own.from (fun s A B row hs hg hr => ⟨cell_kept hs.1 hg hr, (frozen_kept hs.1 hg hr).trans hs.2⟩) _) (ownFrom_below (Nat.le_refl _) (by simp)))
    (fun _ _ _ _ _ hs _ _ => hs) ⟨H4.out, HB0.out⟩ (fun x => x.elim) (fun _ x => x.elim) (fun _ _ x => x.elim) ?done (fun _ _ _ _ _ _ h => h.elim)
  case done =>
    rintro D xs W hD _ ⟨⟨hc, hf⟩, hBW⟩ hK
    gi_wp2
    have hzz : w.heap.size ≤ D := by simp at hD; omega
    refine ⟨by simp, .inl ⟨_, _, rfl, run_takeDeferred hK, ?_⟩⟩
    exact ⟨_, results_tmp rfl _ _ _, rfl, hBW.trans (belowK_b (w := w) (Nat.le_refl _) _ D _ _ hzz hK rfl rfl)⟩
theorem collect_nilS (w : World) (kb mb : Nat) (hk : w.cell? ⟨kb, 0, none⟩ = some (.map (some mb))) (hm : w.heap[mb]? = some (.map #[] 0)) :
    Calls Tryz.prog 191 #[.func (.func 193) #[] #[.pointer (some ⟨kb, 0, none⟩)]] w fun e w' => e = .returned (.slice none 0 0) ∧ Below w.heap.size w w' := by
  have HK := hid (And.intro hk hm)
  clear hk hm
  go_enter Tryz.func191, Tryz.ntmps191
  go_wp2_with (go_at_call 256; refine (appendseq_nilS _ kb mb HK.out.1 HK.out.2).mono ?_; rintro e w1 ⟨rfl, hb⟩)
  go_ret
  exact ⟨rfl, hb⟩
theorem keys_anyG (w : World) (mb : Nat) :
    Calls Tryz.prog 32 #[.map (some mb)] w fun e w' => e = .returned (.func (.func 104) #[] #[.pointer (some ⟨w.heap.size, 0, none⟩)]) ∧ w' = w.alloc (.cells #[.map (some mb)] 84) := by
  go_enter Tryz.func32, Tryz.ntmps32
  go_wp2
  go_ret
  exact ⟨rfl, rfl⟩
set_option maxHeartbeats 1000000 in
theorem keys_stopG (n : Nat) (mb Bm : Nat) (w : World) (hBm : w.cell? ⟨Bm, 0, none⟩ = some (.map (some mb))) (hmb : w.heap[mb]? = some (.map #[] 0)) (Kp : World → World → Prop) (encs : Empty → Array Value) :
    SeqStopsK Fence.wide n Tryz.prog 104 #[.pointer (some ⟨Bm, 0, none⟩)] encs Kp (fun _ => True) (fun _ => False) 0 w := by
  intro l J Jx W hW hJ hJx hY h0
  have hb : W.cell? ⟨Bm, 0, none⟩ = some (.map (some mb)) := (hW.cell (p := ⟨Bm, 0, none⟩) (World.block_lt_of_cell? w _ hBm)).trans hBm
  have hm : W.heap[mb]? = some (.map #[] 0) := (hW.block mb (lt_of_blk hmb)).trans hmb
  have hrg := run_range_map (P := Tryz.prog) W _ _ _ mb #[] 0 Tryz.underlying84 hm
  have hnx := fun ty => next_empty Tryz.prog W ty mb 0 hm
  refine callsIn_of_wp Tryz.func104 rfl trivial ?_ rfl
  simp only [Tryz.ntmps104, List.size_toArray, List.length_cons, List.length_nil, Nat.reduceAdd, Nat.reduceSub, Array.replicate_succ, Array.replicate_zero, List.push_toArray, List.append_toArray, List.nil_append, List.cons_append]
  gi_wp2
  refine wpIn_loop_rounds 1 ?_
  rw [roundsIn_succ]
  gi_wp2
  go_end0
  exact ⟨⟨_, rfl⟩, .inl ⟨[], trivial, hJ [] W _ none h0 (World.grownBy_alloc W _ none) (fun r e => by cases e)⟩⟩
set_option maxHeartbeats 1000000 in
theorem appendseq_nilG (w : World) (kb mb : Nat) (hk : w.cell? ⟨kb, 0, none⟩ = some (.map (some mb))) (hm : w.heap[mb]? = some (.map #[] 0)) :
    Calls Tryz.prog 189 #[.slice none 0 0, .func (.func 104) #[] #[.pointer (some ⟨kb, 0, none⟩)]] w fun e w' => e = .returned (.slice none 0 0) ∧ Below w.heap.size w w' := by
  have hr4 := alloc_at w (.cells #[.slice none 0 0] 57) rfl
  have hc4 := cell_of hr4 0
  have hf4 := free_of hr4 0
  have hck := ((Ext.refl (fun _ => False) w).alloc (.cells #[.slice none 0 0] 57)).cell hk (fun h => h)
  have hm0 := blk_alloc hm (.cells #[.slice none 0 0] 57)
  have HB0 := hid ((Below.refl w.heap.size w).alloc (Nat.le_refl _) (.cells #[.slice none 0 0] 57))
  have H4 := hid (And.intro hc4 hf4)
  have HK := hid (And.intro hck hm0)
  clear hr4 hck hm0 hk hm
  refine (callsIn_wide (n := 3)).1 ?_
  refine callsIn_of_wp_marks Tryz.func189 rfl trivial ?_ rfl
  simp only [Tryz.ntmps189, List.size_toArray, List.length_cons, List.length_nil, Nat.reduceAdd, Nat.reduceSub, Array.replicate_succ, Array.replicate_zero, List.push_toArray, List.append_toArray, List.nil_append, List.cons_append]
  gi_wp2
  refine wpIn_rangeFunc_ownF (α := Empty) rfl (by omega) (gf := 104) (lb := #[.pointer (some ⟨kb, 0, none⟩)]) rfl trivial (enters_of Tryz.func104 (by kernel_rfl) rfl)
    (keys_stopG 2 mb kb _ HK.out.1 HK.out.2 (fun _ _ => True) (fun _ => #[])) (fun _ _ => trivial) (fun _ _ _ _ _ _ _ _ => trivial) (Below.refl _ _) (fun x => x.elim)
    (fun _ W => (W.cell? ⟨w.heap.size, 0, none⟩ = some (.slice none 0 0) ∧ W.frozen? ⟨w.heap.size, 0, none⟩ = false) ∧ Below w.heap.size w W) (fun _ _ _ => False)
    (OwnFrom.and (Own.from (fun s A B row hs hg hr => ⟨cell_kept hs.1 hg hr, (frozen_kept hs.1 hg hr).trans hs.2⟩) _) (ownFrom_below (Nat.le_refl _) (by simp)))
    (fun _ _ _ _ _ hs _ _ => hs) ⟨H4.out, HB0.out⟩ (fun x => x.elim) (fun _ x => x.elim) (fun _ _ x => x.elim) ?done (fun _ _ _ _ _ _ h => h.elim)
  case done =>
    rintro D xs W hD _ ⟨⟨hc, hf⟩, hBW⟩ hK
    gi_wp2
    have hzz : w.heap.size ≤ D := by simp at hD; omega
    refine ⟨by simp, .inl ⟨_, _, rfl, run_takeDeferred hK, ?_⟩⟩
    exact ⟨_, results_tmp rfl _ _ _, rfl, hBW.trans (belowK_b (w := w) (Nat.le_refl _) _ D _ _ hzz hK rfl rfl)⟩
theorem collect_nilG (w : World) (kb mb : Nat) (hk : w.cell? ⟨kb, 0, none⟩ = some (.map (some mb))) (hm : w.heap[mb]? = some (.map #[] 0)) :
    Calls Tryz.prog 102 #[.func (.func 104) #[] #[.pointer (some ⟨kb, 0, none⟩)]] w fun e w' => e = .returned (.slice none 0 0) ∧ Below w.heap.size w w' := by
  have HK := hid (And.intro hk hm)
  clear hk hm
  go_enter Tryz.func102, Tryz.ntmps102
  go_wp2_with (go_at_call 189; refine (appendseq_nilG _ kb mb HK.out.1 HK.out.2).mono ?_; rintro e w1 ⟨rfl, hb⟩)
  go_ret
  exact ⟨rfl, hb⟩
set_option maxHeartbeats 1000000 in
theorem sort_nilS (w : World) :
    Calls Tryz.prog 192 #[.slice none 0 0] w fun e w' => e = .returned (.tuple #[]) ∧ w' = w := by
  go_enter Tryz.func192, Tryz.ntmps192
  go_wp2
  go_rounds 1
  go_rounds 1
  go_returns
  exact ⟨rfl, rfl⟩
set_option maxHeartbeats 1000000 in
theorem sort_nilG (w : World) (fv : Value) :
    Calls Tryz.prog 103 #[.slice none 0 0, fv] w fun e w' => e = .returned (.tuple #[]) ∧ w' = w := by
  go_enter Tryz.func103, Tryz.ntmps103
  go_wp2
  go_rounds 1
  go_rounds 1
  go_returns
  exact ⟨rfl, rfl⟩
theorem sorted_nilS (w : World) (kb mb : Nat) (hk : w.cell? ⟨kb, 0, none⟩ = some (.map (some mb))) (hm : w.heap[mb]? = some (.map #[] 0)) :
    Calls Tryz.prog 108 #[.func (.func 193) #[] #[.pointer (some ⟨kb, 0, none⟩)]] w fun e w' => e = .returned (.slice none 0 0) ∧ Below w.heap.size w w' := by
  have HK := hid (And.intro hk hm)
  clear hk hm
  go_enter Tryz.func108, Tryz.ntmps108
  go_wp2_with (first | (go_at_call 191; refine (collect_nilS _ kb mb HK.out.1 HK.out.2).mono ?_; rintro e w1 ⟨rfl, hb⟩) | (go_at_call 192; refine (sort_nilS _).mono ?_; rintro e w2 ⟨rfl, rfl⟩))
  go_ret
  exact ⟨rfl, hb⟩
theorem sorted_nilG (w : World) (fv : Value) (kb mb : Nat) (hk : w.cell? ⟨kb, 0, none⟩ = some (.map (some mb))) (hm : w.heap[mb]? = some (.map #[] 0)) :
    Calls Tryz.prog 31 #[.func (.func 104) #[] #[.pointer (some ⟨kb, 0, none⟩)], fv] w fun e w' => e = .returned (.slice none 0 0) ∧ Below w.heap.size w w' := by
  have HK := hid (And.intro hk hm)
  clear hk hm
  go_enter Tryz.func31, Tryz.ntmps31
  go_wp2_with (first | (go_at_call 102; refine (collect_nilG _ kb mb HK.out.1 HK.out.2).mono ?_; rintro e w1 ⟨rfl, hb⟩) | (go_at_call 103; refine (sort_nilG _ _).mono ?_; rintro e w2 ⟨rfl, rfl⟩))
  go_ret
  exact ⟨rfl, hb⟩
theorem deletefunc_nil (w : World) (fv : Value) :
    Calls Tryz.prog 46 #[.slice none 0 0, fv] w fun e w' => e = .returned (.slice none 0 0) ∧ w' = w := by
  go_enter Tryz.func46, Tryz.ntmps46
  go_wp2
  go_rounds 1
  go_ret
  exact ⟨rfl, rfl⟩
set_option maxHeartbeats 1000000 in
theorem list_nil (w : World) (db fb : Nat) (s : ByteArray) (h : DiskAt w db fb false) :
    Calls Tryz.prog 43 #[.pointer (some ⟨db, 0, none⟩), .string s] w fun e w' => e = .returned (.slice none 0 0) ∧ Below w.heap.size w w' := by
  have H := hid h
  have q0 := cell_of h.blk 0
  have q1 := cell_of h.blk 1
  have hdb := lt_of_blk h.blk
  clear h
  have hmf : ∀ (fn : Fn) (first cap : Array Value) (w : World), (Instr.makeFunc fn first cap).run Tryz.prog w = .ok (.func fn first cap) w := fun _ _ _ _ => rfl
  go_enter Tryz.func43, Tryz.ntmps43
  go_wp2_with (first | (go_at_call 109; refine (keys_anyS _ fb).mono ?_; rintro e w1 ⟨rfl, rfl⟩) | (go_at_call 108; refine (sorted_nilS _ _ fb ?hk ?hm).mono ?_; (case hk => exact cell_of (alloc_at _ _ (by simp)) 0); (case hm => exact blk_alloc (blk_alloc H.out.files _) _); rintro e w2 ⟨rfl, hb⟩; have X2 := hid ((((Ext.refl (fun _ => False) w).alloc _).alloc _).trans (Ext.of_below hb)); clear hb) | (go_at_call 46; refine (deletefunc_nil _ _).mono ?_; rintro e w3 ⟨rfl, rfl⟩))
  go_ret
  exact ⟨rfl, X2.out.below (Nat.le_refl _) (fun _ h => h.elim)⟩
set_option maxHeartbeats 1000000 in
theorem disk_cut (w : World) (db fb : Nat) (h : DiskAt w db fb false) :
    Calls Tryz.prog 12 #[.pointer (some ⟨db, 0, none⟩), .int .i64 0] w fun e w' => e = .returned (.tuple #[]) ∧ DiskAt w' db fb true ∧ Ext (· = db) w w' := by
  have H := hid h
  have q0 := cell_of h.blk 0
  have q1 := cell_of h.blk 1
  have qf := free_of h.blk
  have hdb := lt_of_blk h.blk
  have hrg := run_range_map (P := Tryz.prog) w _ _ _ fb #[] 0 Tryz.underlying98 h.files
  have hnx := fun ty => next_empty Tryz.prog w ty fb 0 h.files
  clear h
  go_enter Tryz.func12, Tryz.ntmps12
  go_wp2
  refine wp_loop_rounds 1 ?_
  rw [rounds_succ]
  go_wp2
  go_returns
  refine ⟨rfl, ⟨blk_alloc (blk_set H.out.blk 1 _) _, blk_alloc (blk_set_other (a := ⟨db, 1, none⟩) H.out.files H.out.ne.symm _) _, H.out.ne⟩, ((Ext.refl (· = db) w).setCell (p := ⟨db, 1, none⟩) (fun _ => rfl) _).alloc _⟩
end Go.Proofs.YtdfmfjkcgbjgbaaGreatDoor
