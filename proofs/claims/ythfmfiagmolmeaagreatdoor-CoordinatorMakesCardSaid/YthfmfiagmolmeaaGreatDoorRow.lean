/- The law, as the seat's row and card say it. -/
import Derived.Test.YthfmfiagmolmeaaGreatDoorOpen
import Derived.WalkKit
import Derived.ProofKit
import Derived.OpenShut
import Derived.Deep.DeepHandedRow
import Derived.Lib.LaidTab
namespace Go.Proofs.YthfmfiagmolmeaaGreatDoor
open Go Go.ChangeShapes Go.WideShapes Go.ChangeAt Go.RowKit
set_option linter.unusedVariables false
set_option linter.unusedSimpArgs false
set_option maxRecDepth 100000
theorem own : ownKnob Tryz.prog.godebug = none := by kernel_rfl
theorem c2 : Tryz.prog.cellsOf 2 = 1 := by kernel_rfl
theorem c3 : Tryz.prog.cellsOf 3 = 1 := by kernel_rfl
theorem c23 : Tryz.prog.cellsOf 23 = 2 := by kernel_rfl
theorem c25 : Tryz.prog.cellsOf 25 = 10 := by kernel_rfl
theorem c27 : Tryz.prog.cellsOf 27 = 2 := by kernel_rfl
theorem int_t : IntT Tryz.prog 1 3 := .inl ⟨_, Tryz.underlying3⟩
theorem int64_t : IntT Tryz.prog 1 2 := .inl ⟨_, Tryz.underlying2⟩
theorem int64_t2 : IntT Tryz.prog 2 2 := .inl ⟨_, Tryz.underlying2⟩
theorem int_t2 : IntT Tryz.prog 2 3 := .inl ⟨_, Tryz.underlying3⟩
theorem schema_t : IntT Tryz.prog 2 23 := .inr ⟨_, Tryz.underlying23, by simp [int_t]⟩
theorem setup_t : IntT Tryz.prog 3 25 := .inr ⟨_, Tryz.underlying25, by simp [int_t2, int64_t2, schema_t]⟩
theorem span_t : IntT Tryz.prog 2 27 := .inr ⟨_, Tryz.underlying27, by simp [int64_t]⟩
section
variable {H : Type} {enc : TypeId × Value → H}
theorem reread {w w' : World} {b b' : Nat} {sp sp' : Nat → Bool} {hl hl' : Bool} {n : Nat} {t : TypeId} {v : Value} {d : DataW H} {p : List MemPlace} (hT : IntT Tryz.prog n t) (h : DataW.Trod enc Tryz.prog w b sp hl t v d p) :
    DataW.Trod enc Tryz.prog w' b' sp' hl' t v d [] := by
  obtain ⟨fuel, h⟩ := h
  obtain rfl : p = [] := trod_empty fuel n t _ _ hT h
  exact ⟨fuel, (trod_same fuel n t _ hT).symm.trans h⟩
theorem no_places {w : World} {b : Nat} {sp : Nat → Bool} {hl : Bool} {n : Nat} {t : TypeId} {v : Value} {d : DataW H} {p : List MemPlace} (hT : IntT Tryz.prog n t) (h : DataW.Trod enc Tryz.prog w b sp hl t v d p) : p = [] := by
  obtain ⟨fuel, h⟩ := h
  exact trod_empty fuel n t _ _ hT h
theorem open_span {w : World} {b b0 : Nat} {r : Reach} {sp : Nat → Bool} {hl : Bool} {v : Value} {d : DataW H} {p : List MemPlace} (hval : Value.okWide Tryz.prog w r b0 27 v) (h : DataW.Trod enc Tryz.prog w b sp hl 27 v d p) :
    ∃ f t, v = .agg #[.int .i64 f, .int .i64 t] := by
  obtain ⟨cs, rfl, hsz⟩ := okWide_struct Tryz.underlying27 hval
  rw [c27] at hsz
  obtain ⟨l⟩ := cs
  match l, hsz with
  | [c0, c1], _ =>
  obtain ⟨fuel, hf⟩ := h
  obtain ⟨m0, y0, h0⟩ := field_at Tryz.underlying27 hf 0 _ rfl
  obtain ⟨m1, y1, h1⟩ := field_at Tryz.underlying27 hf 1 _ rfl
  obtain ⟨f, e0, _, _⟩ := DataW.trod_int Tryz.underlying2 h0
  obtain ⟨t, e1, _, _⟩ := DataW.trod_int Tryz.underlying2 h1
  simp [Value.cells, c2] at e0 e1
  subst e0 e1
  exact ⟨f, t, rfl⟩
theorem open_setup {w : World} {b b0 : Nat} {r : Reach} {sp : Nat → Bool} {hl : Bool} {v : Value} {d : DataW H} {p : List MemPlace} (hval : Value.okWide Tryz.prog w r b0 25 v) (h : DataW.Trod enc Tryz.prog w b sp hl 25 v d p) :
    ∃ s : Su, v = s.val ∧ I64 s.le := by
  obtain ⟨cs, rfl, hsz⟩ := okWide_struct Tryz.underlying25 hval
  rw [c25] at hsz
  obtain ⟨l⟩ := cs
  match l, hsz with
  | [k0, k1, k2, k3, k4, k5, k6, k7, k8, k9], _ =>
  obtain ⟨fuel, hf⟩ := h
  obtain ⟨m0, y0, h0⟩ := field_at Tryz.underlying25 hf 0 _ rfl
  obtain ⟨n0, z0, g0⟩ := field_at Tryz.underlying23 h0 0 _ rfl
  obtain ⟨n1, z1, g1⟩ := field_at Tryz.underlying23 h0 1 _ rfl
  obtain ⟨m1, y1, h1⟩ := field_at Tryz.underlying25 hf 1 _ rfl
  obtain ⟨m2, y2, h2⟩ := field_at Tryz.underlying25 hf 2 _ rfl
  obtain ⟨m3, y3, h3⟩ := field_at Tryz.underlying25 hf 3 _ rfl
  obtain ⟨m4, y4, h4⟩ := field_at Tryz.underlying25 hf 4 _ rfl
  obtain ⟨m5, y5, h5⟩ := field_at Tryz.underlying25 hf 5 _ rfl
  obtain ⟨m6, y6, h6⟩ := field_at Tryz.underlying25 hf 6 _ rfl
  obtain ⟨m7, y7, h7⟩ := field_at Tryz.underlying25 hf 7 _ rfl
  obtain ⟨m8, y8, h8⟩ := field_at Tryz.underlying25 hf 8 _ rfl
  obtain ⟨a0, e0, _, _⟩ := DataW.trod_int Tryz.underlying3 g0
  obtain ⟨a1, e1, _, _⟩ := DataW.trod_int Tryz.underlying3 g1
  obtain ⟨a2, e2, _, _⟩ := DataW.trod_int Tryz.underlying3 h1
  obtain ⟨a3, e3, _, _⟩ := DataW.trod_int Tryz.underlying3 h2
  obtain ⟨a4, e4, _, wl⟩ := DataW.trod_int Tryz.underlying3 h3
  obtain ⟨a5, e5, _, _⟩ := DataW.trod_int Tryz.underlying2 h4
  obtain ⟨a6, e6, _, _⟩ := DataW.trod_int Tryz.underlying3 h5
  obtain ⟨a7, e7, _, _⟩ := DataW.trod_int Tryz.underlying3 h6
  obtain ⟨a8, e8, _, _⟩ := DataW.trod_int Tryz.underlying3 h7
  obtain ⟨a9, e9, _, _⟩ := DataW.trod_int Tryz.underlying3 h8
  simp [Value.cells, c2, c3, c23] at e0 e1 e2 e3 e4 e5 e6 e7 e8 e9
  subst e0 e1 e2 e3 e4 e5 e6 e7 e8 e9
  exact ⟨⟨a0, a1, a2, a3, a4, a5, a6, a7, a8, a9⟩, rfl, bounds_i64 wl⟩
theorem post_of_none {f : Func} {s : ChangeSpec} {apart fresh handsOn again : Bool} {W W' : World} {args : Array Value} {v : Value} {ds gs : List (DataW H)}
    (hW : DataW.Whole enc Tryz.prog f.params.toList s.vars apart W args.toList ds gs [])
    (hres : ∀ (b : Nat) (sp : Nat → Bool) (hd : Bool), DataW.TrodAll enc Tryz.prog W' b sp hd f.resultTypes.toList (v.resultList f.resultTypes.size) (s.fn H (ds ++ gs)).results [])
    (hargs : ∀ sp : Nat → Bool, DataW.TrodAll enc Tryz.prog W' 0 sp true f.params.toList args.toList (s.fn H (ds ++ gs)).args [])
    (hvars : ∀ sp : Nat → Bool, DataW.TrodVars enc Tryz.prog W' sp s.vars (s.fn H (ds ++ gs)).vars [])
    (hk : Below W.heap.size W W')
    (hok : ∀ (j : Nat) (t : TypeId) (r : Value), f.resultTypes[j]? = some t → (v.resultList f.resultTypes.size)[j]? = some r → Value.okWide Tryz.prog W' .any 0 t r) :
    s.post enc Tryz.prog f apart fresh handsOn again W args v W' := by
  refine ⟨ds, gs, [], [], [], [], hW, hres _ _ _, hargs _, hvars _, hk.frame _, fun _ => ?_⟩
  refine ⟨hok, _, _, ([] ++ []) ++ [], ⟨[] ++ [], [], trodAll_append (hargs _) (hres _ _ _), hvars _, rfl, ?_, ?_⟩, ?_⟩
  · intro b off hp
    simp at hp
  · intro ha
    simp
  · intro p hp _
    simp at hp
/-- The law at every input, as the row speaks of it. -/
theorem contract (H : Type) (enc : TypeId × Value → H) (W : World) (base : Nat) (args : Array Value) (ds gs : List (DataW H)) (before : List MemPlace)
    (hval : ∀ (j : Nat) t v, Tryz.f3.params[j]? = some t → args[j]? = some v → Value.okWide Tryz.prog W .any base t v)
    (hW : DataW.Whole enc Tryz.prog Tryz.f3.params.toList Rows.coordinatorMakesSpec.vars false W args.toList ds gs before) :
    Calls Tryz.prog 3 args W fun e W' => ∃ v, e = .returned v ∧ Rows.coordinatorMakesSpec.post enc Tryz.prog Tryz.f3 false true false false W args v W' := by
  have hW' := hW
  obtain ⟨p, q, hA0, hV, rfl, hfz, hnd⟩ := hW
  have hA : DataW.TrodAll enc Tryz.prog W 0 (fun _ => true) true Tryz.f3.params.toList args.toList ds p := hA0
  rw [Tryz.params3] at hA hval
  obtain ⟨v0, vs0, d0, ds0, p0, q0, hargs, rfl, rfl, h0, r0⟩ := trodAll_cons hA
  obtain ⟨v1, vs1, d1, ds1, p1, q1, rfl, rfl, rfl, h1, r1⟩ := trodAll_cons r0
  obtain ⟨v2, vs2, d2, ds2, p2, q2, rfl, rfl, rfl, h2, r2⟩ := trodAll_cons r1
  obtain ⟨rfl, rfl, rfl⟩ := trodAll_nil r2
  obtain rfl : args = #[v0, v1, v2] := by cases args; simp_all
  obtain ⟨rfl, rfl⟩ := trodVars_none hV
  obtain ⟨s, rfl, hle⟩ := open_setup (hval 0 25 v0 rfl rfl) h0
  obtain ⟨id, rfl, rfl, rfl, wid⟩ := open_int Tryz.underlying3 (hval 1 3 v1 rfl rfl) h1
  obtain ⟨f, t, rfl⟩ := open_span (hval 2 27 v2 rfl rfl) h2
  obtain rfl := no_places setup_t h0
  obtain rfl := no_places span_t h2
  clear hA0
  simp only [List.append_nil] at hW'
  have hid' := bounds_i64 wid
  have walk : Calls Tryz.prog 3 #[s.val, .int .i64 id, .agg #[.int .i64 f, .int .i64 t]] W fun e w' => e = .returned (.bool true) ∧ Below W.heap.size W w' := by
    by_cases hf : s.fit = true ∧ 41 ≤ id ∧ id < 41 + s.le
    · exact law_yes W s id f t hf
    · exact law_no W s id f t ⟨hid', hle⟩ hf
  refine walk.mono fun e W' ⟨he, hB⟩ => ?_
  subst he
  exact ⟨_, rfl, post_of_none hW' (fun _ _ _ => trodAll_cons_mk (shut_bool Tryz.underlying4 _) trodAll_mk0) (fun _ => trodAll_cons_mk (reread setup_t h0) (trodAll_cons_mk (reread int_t h1) (trodAll_cons_mk (reread span_t h2) trodAll_mk0))) (fun _ => rfl)
    hB (ok_one (by kernel_rfl) rfl (okWide_bool_mk Tryz.underlying4 _))⟩
end
/-- A variable's block with these cells. -/
def fill (cs : Array Value) : Obj → Obj
  | .cells _ t frozen => .cells cs t frozen
  | o => o
/-- A world for the witness: the settled one, the three tables holding what their initialisers lay. -/
noncomputable def laidWorld (os : Os) : World :=
  { World.holding Tryz.prog os ⟨#[], #[], []⟩ with heap := (((World.holding Tryz.prog os ⟨#[], #[], []⟩).heap.modify 0 (fill #[.int .u64 1, .int .u64 10, .int .u64 100, .int .u64 1000, .int .u64 10000, .int .u64 100000, .int .u64 1000000, .int .u64 10000000, .int .u64 100000000, .int .u64 1000000000, .int .u64 10000000000, .int .u64 100000000000, .int .u64 1000000000000, .int .u64 10000000000000, .int .u64 100000000000000, .int .u64 1000000000000000, .int .u64 10000000000000000, .int .u64 100000000000000000, .int .u64 1000000000000000000, .int .u64 10000000000000000000])).modify 1 (fill #[.int .u8 0, .int .u8 1, .int .u8 28, .int .u8 2, .int .u8 29, .int .u8 14, .int .u8 24, .int .u8 3, .int .u8 30, .int .u8 22, .int .u8 20, .int .u8 15, .int .u8 25, .int .u8 17, .int .u8 4, .int .u8 8, .int .u8 31, .int .u8 27, .int .u8 13, .int .u8 23, .int .u8 21, .int .u8 19, .int .u8 16, .int .u8 7, .int .u8 26, .int .u8 12, .int .u8 18, .int .u8 6, .int .u8 11, .int .u8 5, .int .u8 10, .int .u8 9])).modify 2 (fill #[.int .u8 0, .int .u8 1, .int .u8 56, .int .u8 2, .int .u8 57, .int .u8 49, .int .u8 28, .int .u8 3, .int .u8 61, .int .u8 58, .int .u8 42, .int .u8 50, .int .u8 38, .int .u8 29, .int .u8 17, .int .u8 4, .int .u8 62, .int .u8 47, .int .u8 59, .int .u8 36, .int .u8 45, .int .u8 43, .int .u8 51, .int .u8 22, .int .u8 53, .int .u8 39, .int .u8 33, .int .u8 30, .int .u8 24, .int .u8 18, .int .u8 12, .int .u8 5, .int .u8 63, .int .u8 55, .int .u8 48, .int .u8 27, .int .u8 60, .int .u8 41, .int .u8 37, .int .u8 16, .int .u8 46, .int .u8 35, .int .u8 44, .int .u8 21, .int .u8 52, .int .u8 32, .int .u8 23, .int .u8 11, .int .u8 54, .int .u8 26, .int .u8 40, .int .u8 15, .int .u8 34, .int .u8 20, .int .u8 31, .int .u8 10, .int .u8 25, .int .u8 14, .int .u8 19, .int .u8 9, .int .u8 13, .int .u8 8, .int .u8 7, .int .u8 6]) }
abbrev start : Array Value := #[.agg #[.int .i64 0, .int .i64 0, .int .i64 0, .int .i64 0, .int .i64 0, .int .i64 0, .int .i64 0, .int .i64 0, .int .i64 0, .int .i64 0], .int .i64 0, .agg #[.int .i64 0, .int .i64 0]]
theorem laid_met (os : Os) : laidMet Tryz.prog Rows.coordinatorMakesRow.laid ((laidWorld os).forCall (fun _ _ => 0) ⟨#[], start, []⟩).memory :=
  laidMet_of_run' 8 (by kernel_rfl) (by kernel_rfl)
theorem reads (os : Os) {H : Type} (enc : TypeId × Value → H) : ∃ places, DataW.whole enc Tryz.prog ((laidWorld os).forCall (fun _ _ => 0) ⟨#[], start, []⟩).memory Tryz.f3.params.toList Rows.coordinatorMakesSpec.vars false start.toList 8 = some ([.agg [.agg [.lit (.int .i64 0), .lit (.int .i64 0)], .lit (.int .i64 0), .lit (.int .i64 0), .lit (.int .i64 0), .lit (.int .i64 0), .lit (.int .i64 0), .lit (.int .i64 0), .lit (.int .i64 0), .lit (.int .i64 0)], .lit (.int .i64 0), .agg [.lit (.int .i64 0), .lit (.int .i64 0)]], [], places) :=
  ⟨[], by kernel_rfl⟩
theorem lifted (os : Os) (started : os.Started) (H : Type) (enc : TypeId × Value → H) (F : Stop.Interp) :
    ReturnsInHanded {} Tryz.checked os 3 .any ((OpenSpec.ofChange Rows.coordinatorMakesSpec).preRow enc Tryz.prog Tryz.f3 Rows.coordinatorMakesRow.domain false Rows.coordinatorMakesRow.laid) (((OpenSpec.ofChange Rows.coordinatorMakesSpec).at F).post enc Tryz.prog Tryz.f3 false true false false) := by
  obtain ⟨places, hx⟩ := reads os enc
  refine returnsInHanded_of_row (C := Tryz.checked) (s := OpenSpec.ofChange Rows.coordinatorMakesSpec) own started (by kernel_rfl) Tryz.func3
    (witness_row_at (enc := enc) (C := Tryz.checked) false (laidWorld os) start rfl (by kernel_rfl) (by kernel_rfl) (by kernel_rfl)
      (OpenSpec.preRow_of_cond 8 hx (by kernel_rfl) (fun k hk => by cases hk) (by kernel_rfl) (laid_met os))) ?_
  intro W base args ds gs before hval hW _ _ _ hL _ _
  exact contract H enc W base args ds gs before hval hW
end Go.Proofs.YthfmfiagmolmeaaGreatDoor
