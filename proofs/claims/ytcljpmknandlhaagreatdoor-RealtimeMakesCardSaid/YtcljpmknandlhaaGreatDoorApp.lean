/- append on a slice of the call's own: what it comes to, and as one step of a region that draws. -/
import Derived.Test.YtcljpmknandlhaaGreatDoorBase
import Derived.Deep.RegionHeld3
import Derived.Deep.AppendLies
namespace Go.Proofs.YtcljpmknandlhaaGreatDoor
open Go Go.RowKit
set_option linter.unusedVariables false
set_option linter.unusedSimpArgs false
section
variable {P : Program} {ops : Array Oper} {rest : List Oper} {o : Oper} {a : Act} {Q : Exit → Act → World → Prop}
theorem app_run {W : World} (base : Nat) (t e ty : TypeId) (z : Value) (size bytes : Nat)
    (ht : P.underlying t = some (.slice e)) (hinfo : (P.info? e).map (fun i => (i.zero, i.size, i.bytes)) = some (some z, size, bytes)) (hzs : z.cells.size = size) (hb0 : 0 < bytes)
    (v : Value) (n : Nat) (xs : List Value) (src : Value) (m : Nat) (ys : List Value)
    (HO : Own W base e size v n xs) (HR : Rd W src m size ys) (h1 : ∀ u ∈ ys, u.oneCell' = true) (hbase : base ≤ W.heap.size) (hl : (n + m) * bytes ≤ 140737488355328) :
    ∃ v1 w1, (Builtin.append_ #[t, t] ty #[v, src]).run P W = .ok v1 w1 ∧ Own w1 base e size v1 (n + m) (xs ++ ys) ∧ W.grownBy w1 v.ownBlock ∧ (v1.ownBlock = v.ownBlock ∨ v1.ownBlock = some W.heap.size) := by
  obtain ⟨i0, hi, hzz⟩ := Option.map_eq_some_iff.1 hinfo
  simp only [Prod.mk.injEq] at hzz
  obtain ⟨hz0, hz1, hz2⟩ := hzz
  have hlen : n + m ≤ 140737488355328 := Nat.le_trans (Nat.le_mul_of_pos_right _ hb0) hl
  obtain ⟨hys, A, c, rfl, hmc, hcm, hcell⟩ := HR
  rcases A with _ | ad
  · have h0 : m = 0 := by
      rcases Nat.eq_zero_or_pos m with h0 | h0
      · exact h0
      · obtain ⟨b, o, h, _⟩ := hcell h0
        cases h
    subst h0
    obtain rfl : ys = [] := List.eq_nil_of_length_eq_zero (by simpa using hys)
    refine ⟨v, W, ?_, by simpa using HO, World.grownBy.refl W _, .inl rfl⟩
    rcases HO.2 with ⟨rfl, hn⟩ | ⟨g, cap, cur, rfl, _, _, hnc, _⟩
    · simp [Builtin.append_, run_underlying ht, sizeOf, typeInfo, hi, Builtin.lenOf, Builtin.firstCells]
    · simp [Builtin.append_, run_underlying ht, sizeOf, typeInfo, hi, Builtin.lenOf, Builtin.firstCells, hnc, storeCells]
  · have hcells : ∀ j u, ys[j]? = some u → W.cell? (ad.add j) = some u := by
      intro j u hu
      have hj : j < ys.length := (List.getElem?_eq_some_iff.1 hu).1
      have hm0 : 0 < m := by
        rcases Nat.eq_zero_or_pos m with h0 | h0
        · rw [h0] at hys; omega
        · exact h0
      obtain ⟨b, o, h', _, hc⟩ := hcell hm0
      injection h' with h'
      subst h'
      have := hc j u hu
      have ha : (⟨b, o, none⟩ : Addr).add j = ⟨b, o + j, none⟩ := by unfold Addr.add; split <;> simp_all
      rwa [ha]
    subst hz1 hz2
    exact run_app (P := P) W base t ty e i0 z ht hi hz0 hzs v n xs HO ad m c ys hys hcells h1 (by omega) hl hbase
/-- append(v, src...) as one step of a region that draws. -/
theorem step_app {W : World} {K : Act → World → Prop} {E : Prop} (base : Nat) (hgd : o.guard = none) (s x : Operand) (t e : TypeId) (z : Value) (size bytes : Nat)
    (ho : o.op = .call { callee := .builtin .append, args := #[s, x], argTypes := #[t, t] })
    (ht : P.underlying t = some (.slice e)) (hinfo : (P.info? e).map (fun i => (i.zero, i.size, i.bytes)) = some (some z, size, bytes)) (hzs : z.cells.size = size) (hb0 : 0 < bytes)
    (v : Value) (n : Nat) (xs : List Value) (src : Value) (m : Nat) (ys : List Value) (hs : a.eval s = v) (hx : a.eval x = src)
    (HO : Own W base e size v n xs) (HR : Rd W src m size ys) (h1 : ∀ u ∈ ys, u.oneCell' = true) (hbase : base ≤ W.heap.size) (hl : (n + m) * bytes ≤ 140737488355328)
    (h : ∀ v1 w1, Own w1 base e size v1 (n + m) (xs ++ ys) → W.grownBy w1 v.ownBlock → (v1.ownBlock = v.ownBlock ∨ v1.ownBlock = some W.heap.size) → K (a.put o.dst v1) w1) :
    if Region.wanted o (yielded ops a.tmps) = true then Oper.wp P o a W K Q else E := by
  have hw : Region.wanted o (yielded ops a.tmps) = true := by simp [Region.wanted, hgd]
  rw [if_pos hw]
  obtain ⟨v1, w1, hr, hown, hg, hat⟩ := app_run (P := P) base t e o.type z size bytes ht hinfo hzs hb0 v n xs src m ys HO HR h1 hbase hl
  unfold Oper.wp
  simp [execOp, ho, resolve, invoke, builtin, hs, hx, hr, Result.andThen]
  exact h v1 w1 hown hg hat
end
theorem Rd_blk {w : World} {b : Nat} {cs : Array Value} {T : TypeId} {fr : Nat × Nat} (h : w.heap[b]? = some (.cells cs T fr)) (k : Nat) (hk : cs.size = k) : Rd w (.slice (some ⟨b, 0, none⟩) 1 1) 1 k cs.toList :=
  ⟨by simp [hk], _, 1, rfl, Nat.le_refl _, by omega, fun _ => ⟨b, 0, rfl, lt_of_blk h, fun j u hj => by rw [cell_of h, Nat.zero_add, ← hj]; simp⟩⟩
end Go.Proofs.YtcljpmknandlhaaGreatDoor
