/- The store of blobs on a disk without files. -/
import Derived.Test.YtdfmfjkcgbjgbaaGreatDoorProg
import Derived.Test.YtdfmfjkcgbjgbaaGreatDoorHDisk
import Derived.Defers
import Derived.Recover
import Derived.Laws.Pointers
namespace Go.Proofs.YtdfmfjkcgbjgbaaGreatDoor
open Go Go.RowKit
set_option linter.unusedVariables false
set_option linter.unusedSimpArgs false
set_option maxRecDepth 100000
theorem catch_idle (p : Addr) (w : World) :
    CallsD Tryz.prog 107 #[.pointer (some p)] .returning w fun e u' w' => e = .returned (.tuple #[]) ∧ u' = .returning ∧ w' = w := by
  refine callsD_of_wpS Tryz.func107 rfl fun c₀ cs hu => ?_
  apply wpS_seq
  apply wpS_region
  simp [wpOpsS, go_sem, recoverD, hu, Tryz.ntmps107, Exit.thenS]
  refine wpS_of_wp ?_
  simp only [Array.replicate_succ, Array.replicate_zero, List.push_toArray, List.append_toArray, List.nil_append, List.cons_append, List.setIfInBounds_toArray, List.set_cons_succ, List.set_cons_zero]
  go_wp2
  cases c₀
  simp_all [bodyPostS, results, Tryz.results107]
theorem open1_any (w : World) (pb db fb : Nat) (hp : w.cell? ⟨pb, 0, none⟩ = some (.pointer (some ⟨db, 0, none⟩))) (h : DiskAt w db fb false) :
    Calls Tryz.prog 42 #[.pointer (some ⟨pb, 0, none⟩)] w fun e w' => e = .returned (.tuple #[]) ∧ Below w.heap.size w w' := by
  have H := hid h
  clear h
  go_enter Tryz.func42, Tryz.ntmps42
  go_wp2_with (go_at_call 43; refine (list_nil _ db fb _ H.out).mono ?_; rintro e w1 ⟨rfl, hb⟩)
  go_rounds 1
  go_returns
  exact ⟨rfl, hb⟩
theorem tried_open (w : World) (pb db fb : Nat) (hp : w.cell? ⟨pb, 0, none⟩ = some (.pointer (some ⟨db, 0, none⟩))) (h : DiskAt w db fb false) :
    Calls Tryz.prog 41 #[.func (.func 42) #[] #[.pointer (some ⟨pb, 0, none⟩)]] w fun e w' => e = .returned (.int .i64 0) ∧ Below w.heap.size w w' := by
  have hmf : ∀ (fn : Fn) (first cap : Array Value) (w : World), (Instr.makeFunc fn first cap).run Tryz.prog w = .ok (.func fn first cap) w := fun _ _ _ _ => rfl
  have H := hid h
  have HP := hid hp
  clear h hp
  go_enter_defers Tryz.func41, Tryz.ntmps41
  go_wp2_with (go_at_call 42; refine (open1_any _ pb db fb (((Ext.refl (fun _ => False) w).alloc _).cell HP.out (fun h => h)) (H.out.grow ((Ext.refl (fun _ => False) w).alloc _))).mono ?_; rintro e w1 ⟨rfl, hb⟩; have HB := hid hb; have r1 := (Ext.of_below (S := fun _ => False) hb).blk (alloc_at w (.cells #[.int .i64 0] 30) rfl) (fun h => h); have c1 := cell_of r1 0; have cf := free_of r1 0; have hz1 := lt_of_blk r1; clear hb r1)
  refine leaves_cons (f := 107) (args := #[.pointer (some ⟨w.heap.size, 0, none⟩)]) (by simp) (by simp [go_sem]) ?_
  refine (catch_idle ⟨w.heap.size, 0, none⟩ _).mono ?_
  rintro e u' w'' ⟨rfl, rfl, rfl⟩
  simp [Leaves, settle, results, Tryz.results41, go_sem, c1, hz1]
  exact (((Below.refl w.heap.size w).alloc (Nat.le_refl _) _).trans (HB.out.mono (by simp))).setCell (Nat.le_refl _) _
theorem store_open (w : World) (db fb : Nat) (h : DiskAt w db fb false) :
    Calls Tryz.prog 18 #[.pointer (some ⟨db, 0, none⟩)] w fun e w' => ∃ sb, e = .returned (.tuple #[.pointer (some ⟨sb, 0, none⟩), .int .i64 0]) ∧ w'.heap[sb]? = some (.cells #[.pointer (some ⟨db, 0, none⟩)] 130 (0, 0)) ∧ w.heap.size ≤ sb ∧ Below w.heap.size w w' := by
  have hmf : ∀ (fn : Fn) (first cap : Array Value) (w : World), (Instr.makeFunc fn first cap).run Tryz.prog w = .ok (.func fn first cap) w := fun _ _ _ _ => rfl
  have H := hid h
  clear h
  go_enter Tryz.func18, Tryz.ntmps18
  go_wp2_with (first | (go_at_call 40; refine (disk_off _ db fb false (H.out.grow ((Ext.refl (fun _ => False) w).alloc _))).mono ?_; rintro e w1 ⟨rfl, rfl⟩) | (go_at_call 41; refine (tried_open _ _ db fb (cell_of (heap_alloc_new w _) 0) (H.out.grow ((Ext.refl (fun _ => False) w).alloc _))).mono ?_; rintro e w2 ⟨rfl, hb⟩; have r2 := (Ext.of_below (S := fun _ => False) hb).blk (alloc_at w (.cells #[.pointer (some ⟨db, 0, none⟩)] 33) rfl) (fun h => h); have c2 := cell_of r2 0; have hz2 := lt_of_blk r2; have X2 := hid (((Ext.refl (fun _ => False) w).alloc _).trans (Ext.of_below hb)); clear hb r2))
  go_ret2
  exact ⟨w2.heap.size, rfl, heap_alloc_new w2 _, by omega, (X2.out.alloc _).below (Nat.le_refl _) (fun _ h => h.elim)⟩
theorem store_off (w : World) (db fb : Nat) (h : DiskAt w db fb true) :
    Calls Tryz.prog 18 #[.pointer (some ⟨db, 0, none⟩)] w fun e w' => e = .returned (.tuple #[.pointer none, .int .i64 122]) ∧ Below w.heap.size w w' := by
  have H := hid h
  clear h
  go_enter Tryz.func18, Tryz.ntmps18
  go_wp2_with (go_at_call 40; refine (disk_off _ db fb true (H.out.grow ((Ext.refl (fun _ => False) w).alloc _))).mono ?_; rintro e w1 ⟨rfl, rfl⟩)
  go_ret2
  exact ⟨rfl, (Below.refl _ _).alloc (Nat.le_refl _) _⟩
theorem store_list (w : World) (sb db fb : Nat) (hs : w.heap[sb]? = some (.cells #[.pointer (some ⟨db, 0, none⟩)] 130 (0, 0))) (h : DiskAt w db fb false) :
    Calls Tryz.prog 19 #[.pointer (some ⟨sb, 0, none⟩)] w fun e w' => e = .returned (.slice none 0 0) ∧ Below w.heap.size w w' := by
  have H := hid h
  have c0 := cell_of hs 0
  clear h hs
  go_enter Tryz.func19, Tryz.ntmps19
  go_wp2_with (go_at_call 43; refine (list_nil _ db fb _ H.out).mono ?_; rintro e w1 ⟨rfl, hb⟩)
  refine wp_loop_rounds 1 ?_
  rw [rounds_succ]
  go_wp2_with (go_at_call 46; refine (deletefunc_nil _ _).mono ?_; rintro e w3 ⟨rfl, rfl⟩)
  go_ret
  exact ⟨rfl, hb⟩
end Go.Proofs.YtdfmfjkcgbjgbaaGreatDoor
