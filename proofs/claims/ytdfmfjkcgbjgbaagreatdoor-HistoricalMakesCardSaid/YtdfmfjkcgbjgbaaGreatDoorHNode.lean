/- A historical node in memory. -/
import Derived.Test.YtdfmfjkcgbjgbaaGreatDoorProg
import Derived.Test.YtdfmfjkcgbjgbaaGreatDoorBase
namespace Go.Proofs.YtdfmfjkcgbjgbaaGreatDoor
open Go Go.RowKit
set_option linter.unusedVariables false
set_option linter.unusedSimpArgs false
set_option maxRecDepth 100000
/-- A setup's ten numbers. -/
structure Su where
  d : Int
  m : Int
  st : Int
  so : Int
  le : Int
  ch : Int
  re : Int
  ba : Int
  rt : Int
  rn : Int
abbrev Su.val (s : Su) : Value := .agg #[.int .i64 s.d, .int .i64 s.m, .int .i64 s.st, .int .i64 s.so, .int .i64 s.le, .int .i64 s.ch, .int .i64 s.re, .int .i64 s.ba, .int .i64 s.rt, .int .i64 s.rn]
/-- A node in memory: its block, its map's block (empty). -/
structure NodeH (w : World) (nb sb mb : Nat) (s : Su) (id term : Int) (O : Value) : Prop where
  blk : w.heap[nb]? = some (.cells #[.int .i64 s.d, .int .i64 s.m, .int .i64 s.st, .int .i64 s.so, .int .i64 s.le, .int .i64 s.ch, .int .i64 s.re, .int .i64 s.ba, .int .i64 s.rt, .int .i64 s.rn, .int .i64 id, .pointer (some ⟨sb, 0, none⟩), .map (some mb), O, .int .i64 term, .int .i64 0, .bool true, .bool false] 87 (0, 0))
  map : w.heap[mb]? = some (.map #[] 0)
  ne : nb ≠ mb
theorem NodeH.ext {w w' : World} {nb sb mb : Nat} {s : Su} {id term : Int} {O : Value} (h : NodeH w nb sb mb s id term O) {S : Nat → Prop} (hE : Ext S w w') (h1 : ¬ S nb) (h2 : ¬ S mb) : NodeH w' nb sb mb s id term O :=
  ⟨hE.blk h.blk h1, hE.blk h.map h2, h.ne⟩
theorem NodeH.grow {w w' : World} {nb sb mb : Nat} {s : Su} {id term : Int} {O : Value} (h : NodeH w nb sb mb s id term O) (hE : Ext (fun _ => False) w w') : NodeH w' nb sb mb s id term O := h.ext hE (fun h => h) (fun h => h)
theorem cells18 {w : World} {nb sb mb : Nat} {s : Su} {id term : Int} {O : Value} (h : NodeH w nb sb mb s id term O) :
    w.cell? ⟨nb, 10, none⟩ = some (.int .i64 id) ∧ w.cell? ⟨nb, 12, none⟩ = some (.map (some mb)) ∧ w.cell? ⟨nb, 13, none⟩ = some O ∧ w.cell? ⟨nb, 14, none⟩ = some (.int .i64 term) ∧ w.cell? ⟨nb, 17, none⟩ = some (.bool false) ∧ (∀ i, w.frozen? ⟨nb, i, none⟩ = false) ∧ nb < w.heap.size :=
  ⟨cell_of h.blk 10, cell_of h.blk 12, cell_of h.blk 13, cell_of h.blk 14, cell_of h.blk 17, free_of h.blk, lt_of_blk h.blk⟩
end Go.Proofs.YtdfmfjkcgbjgbaaGreatDoor
