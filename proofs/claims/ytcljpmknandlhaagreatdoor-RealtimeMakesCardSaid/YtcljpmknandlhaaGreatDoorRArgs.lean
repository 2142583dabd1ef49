/- The arguments opened, and read again. -/
import Derived.Test.YtcljpmknandlhaaGreatDoorROpen
import Derived.Test.YtcljpmknandlhaaGreatDoorRLaw
import Derived.Test.YtcljpmknandlhaaGreatDoorRLawNo
import Derived.Test.YtcljpmknandlhaaGreatDoorRLawGone
import Derived.Test.YtcljpmknandlhaaGreatDoorRLawYes
import Derived.ChangeSlices
import Derived.Below
import Derived.ChangeSame
import Derived.WalkKit
import Derived.ProofKit
import Derived.OpenShut
import Derived.Deep.DeepHandedRow
import Derived.Lib.LaidTab
namespace Go.Proofs.YtcljpmknandlhaaGreatDoor
open Go Go.ChangeShapes Go.WideShapes Go.ChangeAt Go.RowKit
set_option linter.unusedVariables false
set_option linter.unusedSimpArgs false
set_option maxRecDepth 100000
theorem own : ownKnob Tryz.prog.godebug = none := by kernel_rfl
theorem c2 : Tryz.prog.cellsOf 2 = 1 := by kernel_rfl
theorem c3 : Tryz.prog.cellsOf 3 = 1 := by kernel_rfl
theorem c23 : Tryz.prog.cellsOf 23 = 2 := by kernel_rfl
theorem c25 : Tryz.prog.cellsOf 25 = 10 := by kernel_rfl
theorem int_t : IntT Tryz.prog 1 3 := .inl ⟨_, Tryz.underlying3⟩
theorem int64_t : IntT Tryz.prog 1 2 := .inl ⟨_, Tryz.underlying2⟩
theorem int64_t2 : IntT Tryz.prog 2 2 := .inl ⟨_, Tryz.underlying2⟩
theorem int_t2 : IntT Tryz.prog 2 3 := .inl ⟨_, Tryz.underlying3⟩
theorem schema_t : IntT Tryz.prog 2 23 := .inr ⟨_, Tryz.underlying23, by simp [int_t]⟩
theorem setup_t : IntT Tryz.prog 3 25 := .inr ⟨_, Tryz.underlying25, by simp [int_t2, int64_t2, schema_t]⟩
section
variable {H : Type} {enc : TypeId × Value → H}
theorem reread {w w' : World} {b b' : Nat} {sp sp' : Nat → Bool} {hl hl' : Bool} {n : Nat} {t : TypeId} {v : Value} {d : DataW H} {p : List MemPlace} (hT : IntT Tryz.prog n t) (h : DataW.Trod enc Tryz.prog w b sp hl t v d p) :
    DataW.Trod enc Tryz.prog w' b' sp' hl' t v d [] := by
  obtain ⟨fuel, h⟩ := h
  obtain rfl : p = [] := trod_empty fuel n t _ _ hT h
  exact ⟨fuel, (trod_same fuel n t _ hT).symm.trans h⟩
theorem no_places {w : World} {b : Nat} {sp : Nat → Bool} {hl : Bool} {n : Nat} {t : TypeId} {v : Value} {d : DataW H} {p : List MemPlace} (hT : IntT Tryz.prog n t) (h : DataW.Trod enc Tryz.prog w b sp hl t v d p) : p = [] := by
  obtain ⟨fuel, h⟩ := h
  exact trod_empty fuel n t _ _ hT h
theorem open_setup {w : World} {b b0 : Nat} {r : Reach} {sp : Nat → Bool} {hl : Bool} {v : Value} {d : DataW H} {p : List MemPlace} (hval : Value.okWide Tryz.prog w r b0 25 v) (h : DataW.Trod enc Tryz.prog w b sp hl 25 v d p) :
    ∃ s : Su, v = s.val ∧ I64 s.d ∧ I64 s.st ∧ I64 s.so ∧ I64 s.le ∧ I64 s.ch ∧ I64 s.re ∧ I64 s.ba ∧ I64 s.rt ∧ I64 s.rn := by
  obtain ⟨cs, rfl, hsz⟩ := okWide_struct Tryz.underlying25 hval
  rw [c25] at hsz
  obtain ⟨l⟩ := cs
  match l, hsz with
  | [k0, k1, k2, k3, k4, k5, k6, k7, k8, k9], _ =>
  obtain ⟨fuel, hf⟩ := h
  obtain ⟨m0, y0, h0⟩ := field_at Tryz.underlying25 hf 0 _ rfl
  obtain ⟨n0, z0, g0⟩ := field_at Tryz.underlying23 h0 0 _ rfl
  obtain ⟨n1, z1, g1⟩ := field_at Tryz.underlying23 h0 1 _ rfl
  obtain ⟨m1, y1, h1⟩ := field_at Tryz.underlying25 hf 1 _ rfl
  obtain ⟨m2, y2, h2⟩ := field_at Tryz.underlying25 hf 2 _ rfl
  obtain ⟨m3, y3, h3⟩ := field_at Tryz.underlying25 hf 3 _ rfl
  obtain ⟨m4, y4, h4⟩ := field_at Tryz.underlying25 hf 4 _ rfl
  obtain ⟨m5, y5, h5⟩ := field_at Tryz.underlying25 hf 5 _ rfl
  obtain ⟨m6, y6, h6⟩ := field_at Tryz.underlying25 hf 6 _ rfl
  obtain ⟨m7, y7, h7⟩ := field_at Tryz.underlying25 hf 7 _ rfl
  obtain ⟨m8, y8, h8⟩ := field_at Tryz.underlying25 hf 8 _ rfl
  obtain ⟨a0, e0, _, w0⟩ := DataW.trod_int Tryz.underlying3 g0
  obtain ⟨a1, e1, _, w1⟩ := DataW.trod_int Tryz.underlying3 g1
  obtain ⟨a2, e2, _, w2⟩ := DataW.trod_int Tryz.underlying3 h1
  obtain ⟨a3, e3, _, w3⟩ := DataW.trod_int Tryz.underlying3 h2
  obtain ⟨a4, e4, _, w4⟩ := DataW.trod_int Tryz.underlying3 h3
  obtain ⟨a5, e5, _, w5⟩ := DataW.trod_int Tryz.underlying2 h4
  obtain ⟨a6, e6, _, w6⟩ := DataW.trod_int Tryz.underlying3 h5
  obtain ⟨a7, e7, _, w7⟩ := DataW.trod_int Tryz.underlying3 h6
  obtain ⟨a8, e8, _, w8⟩ := DataW.trod_int Tryz.underlying3 h7
  obtain ⟨a9, e9, _, w9⟩ := DataW.trod_int Tryz.underlying3 h8
  simp [Value.cells, c2, c3, c23] at e0 e1 e2 e3 e4 e5 e6 e7 e8 e9
  subst e0 e1 e2 e3 e4 e5 e6 e7 e8 e9
  exact ⟨⟨a0, a1, a2, a3, a4, a5, a6, a7, a8, a9⟩, rfl, bounds_i64 w0, bounds_i64 w2, bounds_i64 w3, bounds_i64 w4, bounds_i64 w5, bounds_i64 w6, bounds_i64 w7, bounds_i64 w8, bounds_i64 w9⟩
theorem post_of_none {f : Func} {s : ChangeSpec} {apart fresh handsOn again : Bool} {W W' : World} {args : Array Value} {v : Value} {ds gs : List (DataW H)}
    (hW : DataW.Whole enc Tryz.prog f.params.toList s.vars apart W args.toList ds gs [])
    (hres : ∀ (b : Nat) (sp : Nat → Bool) (hd : Bool), DataW.TrodAll enc Tryz.prog W' b sp hd f.resultTypes.toList (v.resultList f.resultTypes.size) (s.fn H (ds ++ gs)).results [])
    (hargs : ∀ sp : Nat → Bool, DataW.TrodAll enc Tryz.prog W' 0 sp true f.params.toList args.toList (s.fn H (ds ++ gs)).args [])
    (hvars : ∀ sp : Nat → Bool, DataW.TrodVars enc Tryz.prog W' sp s.vars (s.fn H (ds ++ gs)).vars [])
    (hk : Below W.heap.size W W')
    (hok : ∀ (j : Nat) (t : TypeId) (r : Value), f.resultTypes[j]? = some t → (v.resultList f.resultTypes.size)[j]? = some r → Value.okWide Tryz.prog W' .any 0 t r) :
    s.post enc Tryz.prog f apart fresh handsOn again W args v W' := by
  refine ⟨ds, gs, [], [], [], [], hW, hres _ _ _, hargs _, hvars _, hk.frame _, fun _ => ?_⟩
  refine ⟨hok, _, _, ([] ++ []) ++ [], ⟨[] ++ [], [], trodAll_append (hargs _) (hres _ _ _), hvars _, rfl, ?_, ?_⟩, ?_⟩
  · intro b off hp
    simp at hp
  · intro ha
    simp
  · intro p hp _
    simp at hp
theorem c_u64 : Tryz.prog.cellsOf 37 = 1 := by kernel_rfl
/-- A slice of numbers from 0 on that came in: what the walk wants of it; it reads the same in any later world. -/
theorem u64s_arg {W : World} {v : Value} {d : DataW H} {p : List MemPlace} {r : Reach} {b0 : Nat} (hval : Value.okWide Tryz.prog W r b0 26 v) (h : DataW.Trod enc Tryz.prog W 0 (fun _ => true) true 26 v d p) :
    ∃ (n : Nat) (zs : List Nat), Rd W v n 1 (zo zs) ∧ zs.length = n ∧ ∀ W', Below W.heap.size W W' → ∀ sp : Nat → Bool, (∀ q ∈ p, sp q.block = true) → DataW.Trod enc Tryz.prog W' 0 sp true 26 v d p := by
  obtain ⟨a0, len, cap, rfl⟩ := okWide_slice Tryz.underlying26 hval
  obtain ⟨fuel, hf⟩ := h
  rcases open_ints Tryz.underlying26 Tryz.underlying37 c_u64 hf with ⟨hcs, hx⟩ | ⟨a, len', cap', zs, hcs, _, hl, hm, hz, hx, hcell, hwz⟩
  · simp [Value.cells] at hcs
    obtain ⟨rfl, rfl, rfl⟩ := hcs
    simp only [Prod.mk.injEq] at hx
    obtain ⟨rfl, rfl⟩ := hx
    exact ⟨0, [], Rd.nil _ _, rfl, fun W' _ sp _ => shut_slice_nil Tryz.underlying26⟩
  · simp [Value.cells] at hcs
    obtain ⟨rfl, rfl, rfl⟩ := hcs
    simp only [Prod.mk.injEq] at hx
    obtain ⟨rfl, rfl⟩ := hx
    simp only [if_true] at hz
    refine ⟨len, (zs.take len).map Int.toNat, ⟨by simp [zo]; omega, some a, cap, rfl, hl, by unfold maxLen at hm; omega, fun hn => ?_⟩, by simp; omega, fun W' hB sp hsp => ?_⟩
    · obtain ⟨b, off, spot⟩ := a
      have hspot : spot = none := by simpa [Addr.add] using World.cell?_spot (hcell 0 (by omega))
      subst hspot
      have h0 := hcell 0 (by omega)
      rw [add_plain] at h0
      refine ⟨b, off, rfl, World.block_lt_of_cell? W _ h0, fun j u hj => ?_⟩
      simp only [zo, List.map_map, List.getElem?_map, Option.map_eq_some_iff] at hj
      obtain ⟨x, hx, rfl⟩ := hj
      rw [List.getElem?_take] at hx
      split at hx
      · have hj := (List.getElem?_eq_some_iff.1 hx).1
        have := hcell j hj
        rw [add_plain] at this
        rw [this]
        have hw := (bounds_u64 (hwz x (List.mem_of_getElem? hx))).1
        simp [List.getD, hx]
        omega
      · cases hx
    · have hcell' : ∀ i, i < zs.length → W'.cell? (a.add i) = some (.int .u64 (zs.getD i 0)) := fun i hi => (hB.cell (World.block_lt_of_cell? W _ (hcell i hi))).trans (hcell i hi)
      by_cases hz0 : zs.length = 0
      · have hc0 : cap = 0 := by omega
        have hl0 : len = 0 := by omega
        subst hc0; subst hl0
        have t0 := shut_ints (enc := enc) (w := W') (base := 0) (spare := sp) (held := true) (a := a) (len := 0) (cap := 0) (zs := zs) 0 Tryz.underlying26 Tryz.underlying37 c_u64 (Nat.zero_le _) (Nat.le_refl _) hm (by simp [hz0]) hcell' hwz
        exact ⟨2, by simpa [Value.cells] using t0⟩
      · have hspb : sp a.block = true := by
          have := hsp (.cell a.block a.off) (MemPlace.mem_row.2 ⟨0, by omega, by simp⟩)
          exact this
        have t0 := shut_ints (enc := enc) (w := W') (base := 0) (spare := sp) (held := true) (a := a) (len := len) (cap := cap) (zs := zs) 0 Tryz.underlying26 Tryz.underlying37 c_u64 (Nat.zero_le _) hl hm (by simp [hspb, hz]) hcell' hwz
        exact ⟨2, by simpa [Value.cells] using t0⟩
theorem post_of_below {f : Func} {s : ChangeSpec} {apart fresh handsOn again : Bool} {W W' : World} {args : Array Value} {v : Value} {ds gs : List (DataW H)} {before pa pv : List MemPlace}
    (hW : DataW.Whole enc Tryz.prog f.params.toList s.vars apart W args.toList ds gs before)
    (hres : ∀ (b : Nat) (sp : Nat → Bool) (hd : Bool), DataW.TrodAll enc Tryz.prog W' b sp hd f.resultTypes.toList (v.resultList f.resultTypes.size) (s.fn H (ds ++ gs)).results [])
    (hargs : ∀ sp : Nat → Bool, (∀ p ∈ before, sp p.block = true) → DataW.TrodAll enc Tryz.prog W' 0 sp true f.params.toList args.toList (s.fn H (ds ++ gs)).args pa)
    (hvars : ∀ sp : Nat → Bool, (∀ p ∈ before, sp p.block = true) → DataW.TrodVars enc Tryz.prog W' sp s.vars (s.fn H (ds ++ gs)).vars pv)
    (hps : before = pa ++ pv) (hb : Below W.heap.size W W')
    (hok : ∀ (j : Nat) (t : TypeId) (r : Value), f.resultTypes[j]? = some t → (v.resultList f.resultTypes.size)[j]? = some r → Value.okWide Tryz.prog W' .any 0 t r) :
    s.post enc Tryz.prog f apart fresh handsOn again W args v W' := by
  have hlt : ∀ p ∈ before, p.block < W.heap.size := fun p hp => hW.lt p hp
  have hold : ∀ p ∈ before, (fun b => decide (b < W.heap.size)) p.block = true := fun p hp => by simpa using hlt p hp
  refine ⟨ds, gs, before, [], pa, pv, hW, hres _ _ _, hargs _ hold, hvars _ hold, World.keptBut_mono (fun p hp => ⟨hp, ?_⟩) (hb.frame (· ∈ before)), fun _ => ?_⟩
  · rw [hps, List.mem_append] at hp
    exact Or.inr hp
  · obtain ⟨_, _, _, _, _, hz, hn⟩ := hW
    refine ⟨hok, _, _, ([] ++ pa) ++ pv, ⟨[] ++ pa, pv, trodAll_append (hargs _ (fun _ _ => rfl)) (hres _ _ _), hvars _ (fun _ _ => rfl), rfl, ?_, ?_⟩, ?_⟩
    · intro b off hp
      have hin : MemPlace.cell b off ∈ before := by rw [hps]; simpa using hp
      rw [hb.frozen (hlt _ hin)]
      exact hz b off hin
    · intro ha
      have := hn ha
      rw [hps] at this
      simpa using this
    · intro p hp _
      rw [hps]
      simpa using hp
end
end Go.Proofs.YtcljpmknandlhaaGreatDoor
