/- The law on a node, as the row says it. -/
import Derived.Test.YtdfmfjkcgbjgbaaGreatDoorHRowT
import Derived.Test.YtdfmfjkcgbjgbaaGreatDoorHMakes
import Derived.Test.YtdfmfjkcgbjgbaaGreatDoorCards
import Derived.Test.YtdfmfjkcgbjgbaaGreatDoorTie
import Derived.WalkKit
import Derived.ProofKit
import Derived.OpenShut
import Derived.Deep.DeepHandedRow
import Derived.Lib.LaidTab
namespace Go.Proofs.YtdfmfjkcgbjgbaaGreatDoor
open Go Go.ChangeShapes Go.WideShapes Go.ChangeAt Go.RowKit
set_option linter.unusedVariables false
set_option linter.unusedSimpArgs false
set_option maxRecDepth 100000
/-- The law at every input, as the row speaks of it. -/
theorem contractMakes (H : Type) (enc : TypeId × Value → H) (W : World) (base : Nat) (args : Array Value) (ds gs : List (DataW H)) (before : List MemPlace)
    (hval : ∀ (j : Nat) t v, Tryz.f4.params[j]? = some t → args[j]? = some v → Value.okWide Tryz.prog W .any base t v)
    (hW : DataW.Whole enc Tryz.prog Tryz.f4.params.toList Rows.historicalMakesSpec.vars false W args.toList ds gs before) :
    Calls Tryz.prog 4 args W fun e W' => ∃ v, e = .returned v ∧ Rows.historicalMakesSpec.post enc Tryz.prog Tryz.f4 false true false false W args v W' := by
  have hW' := hW
  obtain ⟨p, q, hA0, hV, rfl, hfz, hnd⟩ := hW
  have hA : DataW.TrodAll enc Tryz.prog W 0 (fun _ => true) true Tryz.f4.params.toList args.toList ds p := hA0
  rw [Tryz.params4] at hA hval
  obtain ⟨v0, vs0, d0, ds0, p0, q0, hargs, rfl, rfl, h0, r0⟩ := trodAll_cons hA
  obtain ⟨v1, vs1, d1, ds1, p1, q1, rfl, rfl, rfl, h1, r1⟩ := trodAll_cons r0
  obtain ⟨v2, vs2, d2, ds2, p2, q2, rfl, rfl, rfl, h2, r2⟩ := trodAll_cons r1
  obtain ⟨rfl, rfl, rfl⟩ := trodAll_nil r2
  obtain rfl : args = #[v0, v1, v2] := by cases args; simp_all
  obtain ⟨rfl, rfl⟩ := trodVars_none hV
  obtain ⟨s, rfl, hs⟩ := open_setup (hval 0 25 v0 rfl rfl) h0
  obtain ⟨id, rfl, rfl, rfl, wid⟩ := open_int Tryz.underlying3 (hval 1 3 v1 rfl rfl) h1
  obtain ⟨off, rfl, rfl, rfl⟩ := open_bool Tryz.underlying4 (hval 2 4 v2 rfl rfl) h2
  obtain rfl := no_places setup_t h0
  clear hA0
  simp only [List.append_nil, List.nil_append] at hW'
  have hid' := bounds_i64 wid
  have walk : Calls Tryz.prog 4 #[s.val, .int .i64 id, .bool off] W fun e w' => e = .returned (.bool true) ∧ Below W.heap.size W w' := by
    by_cases hf : s.fit = true ∧ 21 ≤ id ∧ id < 21 + s.so
    · cases off
      · exact makes_yes W s id ⟨hid', hs.2.2.1⟩ hf
      · exact makes_off W s id ⟨hid', hs.2.2.1⟩ hf
    · cases off
      · exact makes_no W s id ⟨hid', hs.2.2.1⟩ hf
      · exact makes_nooff W s id ⟨hid', hs.2.2.1⟩ hf
  refine walk.mono fun e W' ⟨he, hB⟩ => ?_
  subst he
  exact ⟨_, rfl, post_of_below (pa := []) (pv := []) hW' (fun _ _ _ => trodAll_cons_mk (shut_bool Tryz.underlying4 _) trodAll_mk0)
    (fun sp hsp => trodAll_cons_mk (reread setup_t h0) (trodAll_cons_mk (reread int_t h1) (trodAll_cons_mk (shut_bool Tryz.underlying4 _) trodAll_mk0)))
    (fun _ _ => rfl) rfl hB (ok_one (by kernel_rfl) rfl (okWide_bool_mk Tryz.underlying4 _))⟩
abbrev startMakes : Array Value := #[.agg #[.int .i64 0, .int .i64 0, .int .i64 0, .int .i64 0, .int .i64 0, .int .i64 0, .int .i64 0, .int .i64 0, .int .i64 0, .int .i64 0], .int .i64 0, .bool false]
theorem laid_metMakes (os : Os) : laidMet Tryz.prog Rows.historicalMakesRow.laid ((laidWorld os).forCall (fun _ _ => 0) ⟨#[], startMakes, []⟩).memory :=
  laidMet_of_run' 8 (by kernel_rfl) (by kernel_rfl)
theorem readsMakes (os : Os) {H : Type} (enc : TypeId × Value → H) : ∃ places, DataW.whole enc Tryz.prog ((laidWorld os).forCall (fun _ _ => 0) ⟨#[], startMakes, []⟩).memory Tryz.f4.params.toList Rows.historicalMakesSpec.vars false startMakes.toList 8 = some ([.agg [.agg [.lit (.int .i64 0), .lit (.int .i64 0)], .lit (.int .i64 0), .lit (.int .i64 0), .lit (.int .i64 0), .lit (.int .i64 0), .lit (.int .i64 0), .lit (.int .i64 0), .lit (.int .i64 0), .lit (.int .i64 0)], .lit (.int .i64 0), .lit (.bool false)], [], places) :=
  ⟨[], by kernel_rfl⟩
theorem liftedMakes (os : Os) (started : os.Started) (H : Type) (enc : TypeId × Value → H) (F : Stop.Interp) :
    ReturnsInHanded {} Tryz.checked os 4 .any ((OpenSpec.ofChange Rows.historicalMakesSpec).preRow enc Tryz.prog Tryz.f4 Rows.historicalMakesRow.domain false Rows.historicalMakesRow.laid) (((OpenSpec.ofChange Rows.historicalMakesSpec).at F).post enc Tryz.prog Tryz.f4 false true false false) := by
  obtain ⟨places, hx⟩ := readsMakes os enc
  refine returnsInHanded_of_row (C := Tryz.checked) (s := OpenSpec.ofChange Rows.historicalMakesSpec) own started (by kernel_rfl) Tryz.func4
    (witness_row_at (enc := enc) (C := Tryz.checked) false (laidWorld os) startMakes rfl (by kernel_rfl) (by kernel_rfl) (by kernel_rfl)
      (OpenSpec.preRow_of_cond 8 hx (by kernel_rfl) (fun k hk => by cases hk) (by kernel_rfl) (laid_metMakes os))) ?_
  intro W base args ds gs before hval hW _ _ _ hL _ _
  exact contractMakes H enc W base args ds gs before hval hW
end Go.Proofs.YtdfmfjkcgbjgbaaGreatDoor
