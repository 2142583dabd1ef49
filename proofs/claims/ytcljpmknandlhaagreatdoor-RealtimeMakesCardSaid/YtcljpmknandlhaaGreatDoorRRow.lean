/- The law on a realtime node, as the row says it. -/
import Derived.Test.YtcljpmknandlhaaGreatDoorRArgs
import Derived.Test.YtcljpmknandlhaaGreatDoorCards
import Derived.Test.YtcljpmknandlhaaGreatDoorTie
import Derived.WalkKit
import Derived.ProofKit
import Derived.OpenShut
import Derived.Deep.DeepHandedRow
import Derived.Lib.LaidTab
namespace Go.Proofs.YtcljpmknandlhaaGreatDoor
open Go Go.ChangeShapes Go.WideShapes Go.ChangeAt Go.RowKit
set_option linter.unusedVariables false
set_option linter.unusedSimpArgs false
set_option maxRecDepth 100000
/-- A variable's block with these cells. -/
def fill (cs : Array Value) : Obj → Obj
  | .cells _ t frozen => .cells cs t frozen
  | o => o
/-- A world for the witness: the settled one, the listed variables holding what their initialisers lay. -/
noncomputable def laidWorld (os : Os) : World :=
  { World.holding Tryz.prog os ⟨#[], #[], []⟩ with heap := ((((World.holding Tryz.prog os ⟨#[], #[], []⟩).heap.modify 0 (fill #[.int .u8 0, .int .u8 1, .int .u8 56, .int .u8 2, .int .u8 57, .int .u8 49, .int .u8 28, .int .u8 3, .int .u8 61, .int .u8 58, .int .u8 42, .int .u8 50, .int .u8 38, .int .u8 29, .int .u8 17, .int .u8 4, .int .u8 62, .int .u8 47, .int .u8 59, .int .u8 36, .int .u8 45, .int .u8 43, .int .u8 51, .int .u8 22, .int .u8 53, .int .u8 39, .int .u8 33, .int .u8 30, .int .u8 24, .int .u8 18, .int .u8 12, .int .u8 5, .int .u8 63, .int .u8 55, .int .u8 48, .int .u8 27, .int .u8 60, .int .u8 41, .int .u8 37, .int .u8 16, .int .u8 46, .int .u8 35, .int .u8 44, .int .u8 21, .int .u8 52, .int .u8 32, .int .u8 23, .int .u8 11, .int .u8 54, .int .u8 26, .int .u8 40, .int .u8 15, .int .u8 34, .int .u8 20, .int .u8 31, .int .u8 10, .int .u8 25, .int .u8 14, .int .u8 19, .int .u8 9, .int .u8 13, .int .u8 8, .int .u8 7, .int .u8 6])).modify 1 (fill #[.int .u64 1, .int .u64 10, .int .u64 100, .int .u64 1000, .int .u64 10000, .int .u64 100000, .int .u64 1000000, .int .u64 10000000, .int .u64 100000000, .int .u64 1000000000, .int .u64 10000000000, .int .u64 100000000000, .int .u64 1000000000000, .int .u64 10000000000000, .int .u64 100000000000000, .int .u64 1000000000000000, .int .u64 10000000000000000, .int .u64 100000000000000000, .int .u64 1000000000000000000, .int .u64 10000000000000000000])).modify 2 (fill #[.int .u8 0, .int .u8 1, .int .u8 28, .int .u8 2, .int .u8 29, .int .u8 14, .int .u8 24, .int .u8 3, .int .u8 30, .int .u8 22, .int .u8 20, .int .u8 15, .int .u8 25, .int .u8 17, .int .u8 4, .int .u8 8, .int .u8 31, .int .u8 27, .int .u8 13, .int .u8 23, .int .u8 21, .int .u8 19, .int .u8 16, .int .u8 7, .int .u8 26, .int .u8 12, .int .u8 18, .int .u8 6, .int .u8 11, .int .u8 5, .int .u8 10, .int .u8 9])) }
/-- The law at every input, as the row speaks of it. -/
theorem contractR (H : Type) (enc : TypeId × Value → H) (W : World) (base : Nat) (args : Array Value) (ds gs : List (DataW H)) (before : List MemPlace)
    (hval : ∀ (j : Nat) t v, Tryz.f3.params[j]? = some t → args[j]? = some v → Value.okWide Tryz.prog W .any base t v)
    (hW : DataW.Whole enc Tryz.prog Tryz.f3.params.toList Rows.realtimeMakesSpec.vars false W args.toList ds gs before) :
    Calls Tryz.prog 3 args W fun e W' => ∃ v, e = .returned v ∧ Rows.realtimeMakesSpec.post enc Tryz.prog Tryz.f3 false true false false W args v W' := by
  have hW' := hW
  obtain ⟨p, q, hA0, hV, rfl, hfz, hnd⟩ := hW
  have hA : DataW.TrodAll enc Tryz.prog W 0 (fun _ => true) true Tryz.f3.params.toList args.toList ds p := hA0
  rw [Tryz.params3] at hA hval
  obtain ⟨v0, vs0, d0, ds0, p0, q0, hargs, rfl, rfl, h0, r0⟩ := trodAll_cons hA
  obtain ⟨v1, vs1, d1, ds1, p1, q1, rfl, rfl, rfl, h1, r1⟩ := trodAll_cons r0
  obtain ⟨v2, vs2, d2, ds2, p2, q2, rfl, rfl, rfl, h2, r2⟩ := trodAll_cons r1
  obtain ⟨v3, vs3, d3, ds3, p3, q3, rfl, rfl, rfl, h3, r3⟩ := trodAll_cons r2
  obtain ⟨rfl, rfl, rfl⟩ := trodAll_nil r3
  obtain rfl : args = #[v0, v1, v2, v3] := by cases args; simp_all
  obtain ⟨rfl, rfl⟩ := trodVars_none hV
  obtain ⟨s, rfl, hs⟩ := open_setup (hval 0 25 v0 rfl rfl) h0
  obtain ⟨j, rfl, rfl, rfl, wj⟩ := open_int Tryz.underlying3 (hval 1 3 v1 rfl rfl) h1
  obtain ⟨n, zs, hr2, hl2, again2⟩ := u64s_arg (hval 2 26 v2 rfl rfl) h2
  obtain ⟨a, rfl, rfl, rfl, wa⟩ := open_int Tryz.underlying3 (hval 3 3 v3 rfl rfl) h3
  obtain rfl := no_places setup_t h0
  clear hA0
  simp only [List.append_nil, List.nil_append] at hW'
  have hj := bounds_i64 wj
  have ha := bounds_i64 wa
  have walk : Calls Tryz.prog 3 #[s.val, .int .i64 j, v2, .int .i64 a] W fun e w' => e = .returned (.bool true) ∧ Below W.heap.size W w' := by
    have hab := ab_ge a ha.1 ha.2
    have hsj : I64 j ∧ I64 s.st := ⟨hj, hs.2.1⟩
    rcases (show ab a % 2 = 0 ∨ ab a % 2 = 1 by omega) with ho | ho
    · by_cases hf : s.fit = true
      · by_cases h0 : j < 0
        · exact makes_noBF W s j a v2 n zs hsj ha hr2 hl2 ho hf h0
        · by_cases h1 : j < s.st
          · by_cases h2 : j < (min n 10 : Nat)
            · exact makes_yes W s j a v2 n zs hsj ha hr2 hl2 ho hf (by omega) h1 h2
            · exact makes_gone W s j a v2 n zs hsj ha hr2 hl2 ho hf (by omega) h1 (by omega)
          · exact makes_noCF W s j a v2 n zs hsj ha hr2 hl2 ho hf (by omega) (by omega)
      · exact makes_noAF W s j a v2 n zs hsj ha hr2 hl2 ho (by simpa using hf)
    · by_cases hf : s.fit = true
      · by_cases h0 : j < 0
        · exact makes_noBT W s j a v2 n zs hsj ha hr2 hl2 ho hf h0
        · by_cases h1 : j < s.st
          · exact makes_off W s j a v2 n zs hsj ha hr2 hl2 ho hf (by omega) h1
          · exact makes_noCT W s j a v2 n zs hsj ha hr2 hl2 ho hf (by omega) (by omega)
      · exact makes_noAT W s j a v2 n zs hsj ha hr2 hl2 ho (by simpa using hf)
  refine walk.mono fun e W' ⟨he, hB⟩ => ?_
  subst he
  exact ⟨_, rfl, post_of_below (pa := p2) (pv := []) hW' (fun _ _ _ => trodAll_cons_mk (shut_bool Tryz.underlying4 _) trodAll_mk0)
    (fun sp hsp => (show ([] : List MemPlace) ++ ([] ++ (p2 ++ ([] ++ []))) = p2 by simp) ▸ trodAll_cons_mk (reread setup_t h0) (trodAll_cons_mk (reread int_t h1) (trodAll_cons_mk (again2 W' hB sp (fun q hq => hsp q (by simp [hq]))) (trodAll_cons_mk (reread int_t h3) trodAll_mk0))))
    (fun _ _ => rfl) (by simp) hB (ok_one (by kernel_rfl) rfl (okWide_bool_mk Tryz.underlying4 _))⟩
abbrev startR : Array Value := #[.agg #[.int .i64 0, .int .i64 0, .int .i64 0, .int .i64 0, .int .i64 0, .int .i64 0, .int .i64 0, .int .i64 0, .int .i64 0, .int .i64 0], .int .i64 0, .slice none 0 0, .int .i64 0]
theorem laid_metR (os : Os) : laidMet Tryz.prog Rows.realtimeMakesRow.laid ((laidWorld os).forCall (fun _ _ => 0) ⟨#[], startR, []⟩).memory :=
  laidMet_of_run' 8 (by kernel_rfl) (by kernel_rfl)
theorem readsR (os : Os) {H : Type} (enc : TypeId × Value → H) : ∃ places, DataW.whole enc Tryz.prog ((laidWorld os).forCall (fun _ _ => 0) ⟨#[], startR, []⟩).memory Tryz.f3.params.toList Rows.realtimeMakesSpec.vars false startR.toList 8 = some ([.agg [.agg [.lit (.int .i64 0), .lit (.int .i64 0)], .lit (.int .i64 0), .lit (.int .i64 0), .lit (.int .i64 0), .lit (.int .i64 0), .lit (.int .i64 0), .lit (.int .i64 0), .lit (.int .i64 0), .lit (.int .i64 0)], .lit (.int .i64 0), .nil, .lit (.int .i64 0)], [], places) :=
  ⟨[], by kernel_rfl⟩
theorem liftedR (os : Os) (started : os.Started) (H : Type) (enc : TypeId × Value → H) (F : Stop.Interp) :
    ReturnsInHanded {} Tryz.checked os 3 .any ((OpenSpec.ofChange Rows.realtimeMakesSpec).preRow enc Tryz.prog Tryz.f3 Rows.realtimeMakesRow.domain false Rows.realtimeMakesRow.laid) (((OpenSpec.ofChange Rows.realtimeMakesSpec).at F).post enc Tryz.prog Tryz.f3 false true false false) := by
  obtain ⟨places, hx⟩ := readsR os enc
  refine returnsInHanded_of_row (C := Tryz.checked) (s := OpenSpec.ofChange Rows.realtimeMakesSpec) own started (by kernel_rfl) Tryz.func3
    (witness_row_at (enc := enc) (C := Tryz.checked) false (laidWorld os) startR rfl (by kernel_rfl) (by kernel_rfl) (by kernel_rfl)
      (OpenSpec.preRow_of_cond 8 hx (by kernel_rfl) (fun k hk => by cases hk) (by kernel_rfl) (laid_metR os))) ?_
  intro W base args ds gs before hval hW _ _ _ hL _ _
  exact contractR H enc W base args ds gs before hval hW
end Go.Proofs.YtcljpmknandlhaaGreatDoor
