/- Words on worlds and byte rows that the walks of this claim share: nothing here speaks of the program. -/
import Derived.Handy
import Derived.Deep.Draws
import Derived.Maps.AppendAt
import Derived.Lib.AppendStr
namespace Go.Proofs.YtcljpmknandlhaaGreatDoor
open Go Go.RowKit
set_option linter.unusedVariables false

theorem hid {p : Prop} (h : p) : Hid p := h

/-- But for the blocks of S nothing that was there has turned. -/
structure Ext (S : Nat → Prop) (w w' : World) : Prop where
  os : w'.os = w.os
  tape : w'.tape = w.tape
  output : w'.output = w.output
  size : w.heap.size ≤ w'.heap.size
  block : ∀ k, k < w.heap.size → ¬ S k → w'.heap[k]? = w.heap[k]?

namespace Ext
variable {S S' : Nat → Prop} {w w' w'' : World}
theorem refl (S : Nat → Prop) (w : World) : Ext S w w := ⟨rfl, rfl, rfl, Nat.le_refl _, fun _ _ _ => rfl⟩
theorem trans (h : Ext S w w') (k : Ext S w' w'') : Ext S w w'' :=
  ⟨k.os.trans h.os, k.tape.trans h.tape, k.output.trans h.output, Nat.le_trans h.size k.size, fun i hi hs => (k.block i (Nat.lt_of_lt_of_le hi h.size) hs).trans (h.block i hi hs)⟩
theorem mono (h : Ext S w w') (hs : ∀ k, k < w.heap.size → S k → S' k) : Ext S' w w' := ⟨h.os, h.tape, h.output, h.size, fun k hk hn => h.block k hk fun hS => hn (hs k hk hS)⟩
theorem then_ (h : Ext S w w') (k : Ext S' w' w'') (hs : ∀ i, i < w.heap.size → S' i → S i) : Ext S w w'' :=
  ⟨k.os.trans h.os, k.tape.trans h.tape, k.output.trans h.output, Nat.le_trans h.size k.size, fun i hi hn => (k.block i (Nat.lt_of_lt_of_le hi h.size) (fun h' => hn (hs i hi h'))).trans (h.block i hi hn)⟩
theorem drew (h : Ext S w w') : Ext S w w'.drew := ⟨h.os, h.tape, h.output, h.size, h.block⟩
theorem drewN (h : Ext S w w') (n : Nat) : Ext S w (w'.drewN n) := ⟨h.os, h.tape, h.output, h.size, h.block⟩
theorem alloc (h : Ext S w w') (o : Obj) : Ext S w (w'.alloc o) :=
  ⟨h.os, h.tape, h.output, by have := h.size; simp; omega, fun k hk hn => by rw [Below.heap_alloc _ _ _ (Nat.lt_of_lt_of_le hk h.size)]; exact h.block k hk hn⟩
theorem setCell (h : Ext S w w') {p : Addr} (hp : p.block < w.heap.size → S p.block) (u : Value) : Ext S w (w'.setCell p u) :=
  ⟨h.os, h.tape, h.output, by have := h.size; simpa [World.setCell] using this, fun k hk hn => by
    rw [Below.heap_setCell _ _ _ _ (fun e => hn (by subst e; exact hp hk))]; exact h.block k hk hn⟩
theorem of_below (h : Below w.heap.size w w') : Ext S w w' := ⟨h.os, h.tape, h.output, h.size, fun k hk _ => h.block k hk⟩
theorem of_grown {row : Option Nat} (h : w.grownBy w' row) (hr : ∀ k, row = some k → k < w.heap.size → S k) : Ext S w w' :=
  ⟨h.os, h.tape, h.output, h.size, fun k hk hn => h.block k hk (fun e => hn (hr k e.symm hk))⟩
theorem below {B : Nat} (h : Ext S w w') (hB : B ≤ w.heap.size) (hs : ∀ k, S k → B ≤ k) : Below B w w' :=
  ⟨h.os, h.tape, h.output, h.size, fun k hk => h.block k (Nat.lt_of_lt_of_le hk hB) (fun hS => by have := hs k hS; omega)⟩
theorem cell (h : Ext S w w') {a : Addr} {v : Value} (hc : w.cell? a = some v) (hn : ¬ S a.block) : w'.cell? a = some v :=
  (World.cell?_of_block (w := w) (h.block _ (World.block_lt_of_cell? w a hc) hn)).trans hc
theorem frozen (h : Ext S w w') {a : Addr} (hl : a.block < w.heap.size) (hn : ¬ S a.block) : w'.frozen? a = w.frozen? a :=
  World.frozen?_of_block (w := w) (h.block _ hl hn)
theorem blk (h : Ext S w w') {b : Nat} {o : Obj} (hc : w.heap[b]? = some o) (hn : ¬ S b) : w'.heap[b]? = some o :=
  (h.block _ (Array.getElem?_eq_some_iff.1 hc).1 hn).trans hc
end Ext

theorem bcell {W w1 : World} (hb : Below W.heap.size W w1) : (∀ b o, b < W.heap.size → w1.cell? ⟨b, o, none⟩ = W.cell? ⟨b, o, none⟩) ∧ (∀ b o, b < W.heap.size → w1.frozen? ⟨b, o, none⟩ = W.frozen? ⟨b, o, none⟩) :=
  ⟨fun b o h => hb.cell (p := ⟨b, o, none⟩) h, fun b o h => hb.frozen (p := ⟨b, o, none⟩) h⟩
theorem lt_of_blk {w : World} {b : Nat} {o : Obj} (hc : w.heap[b]? = some o) : b < w.heap.size := (Array.getElem?_eq_some_iff.1 hc).1
/-- A block known whole: its cells, its marks, behind a store. -/
theorem cell_of {w : World} {b : Nat} {cs : Array Value} {T : TypeId} {fr : Nat × Nat} (h : w.heap[b]? = some (.cells cs T fr)) (i : Nat) : w.cell? ⟨b, i, none⟩ = cs[i]? := by
  simp [World.cell?, h]
theorem free_of {w : World} {b : Nat} {cs : Array Value} {T : TypeId} (h : w.heap[b]? = some (.cells cs T (0, 0))) (i : Nat) : w.frozen? ⟨b, i, none⟩ = false := by
  simp [World.frozen?, h]
theorem blk_set {w : World} {b : Nat} {cs : Array Value} {T : TypeId} {fr : Nat × Nat} (h : w.heap[b]? = some (.cells cs T fr)) (i : Nat) (v : Value) :
    (w.setCell ⟨b, i, none⟩ v).heap[b]? = some (.cells (cs.setIfInBounds i v) T fr) := by
  simp [World.setCell, Array.getElem?_modify, h]
theorem blk_set_other {w : World} {b : Nat} {o : Obj} (h : w.heap[b]? = some o) {a : Addr} (hne : b ≠ a.block) (v : Value) : (w.setCell a v).heap[b]? = some o := by
  rw [Below.heap_setCell _ _ _ _ hne]; exact h
theorem blk_alloc {w : World} {b : Nat} {o : Obj} (h : w.heap[b]? = some o) (o' : Obj) : (w.alloc o').heap[b]? = some o := by
  rw [Below.heap_alloc _ _ _ (lt_of_blk h)]; exact h

theorem alloc_at (w : World) (o : Obj) {n : Nat} (h : n = w.heap.size) : (w.alloc o).heap[n]? = some o := by subst h; exact heap_alloc_new w o
/-- A slice value over n elements of k cells each, whose cells are cs. Nothing is said of its spare. -/
def Rd (w : World) (v : Value) (n k : Nat) (cs : List Value) : Prop :=
  cs.length = n * k ∧ ∃ A c, v = .slice A n c ∧ n ≤ c ∧ c ≤ 9223372036854775807 ∧
    (0 < n → ∃ b o, A = some ⟨b, o, none⟩ ∧ b < w.heap.size ∧ ∀ j u, cs[j]? = some u → w.cell? ⟨b, o + j, none⟩ = some u)
/-- The blocks that a slice value leads to. -/
def At (v : Value) (k : Nat) : Prop := v.ownBlock = some k
theorem Rd.ext {S : Nat → Prop} {w w' : World} {v : Value} {n k : Nat} {cs : List Value} (h : Rd w v n k cs) (e : Ext S w w') (hs : ∀ b, At v b → ¬ S b) : Rd w' v n k cs := by
  obtain ⟨h1, A, c, rfl, h2, h3, h4⟩ := h
  refine ⟨h1, A, c, rfl, h2, h3, fun hn => ?_⟩
  obtain ⟨b, o, rfl, hb, hc⟩ := h4 hn
  exact ⟨b, o, rfl, Nat.lt_of_lt_of_le hb e.size, fun j u hj => e.cell (hc j u hj) (hs b rfl)⟩
theorem Rd.nil (w : World) (k : Nat) : Rd w (.slice none 0 0) 0 k [] := ⟨by simp, none, 0, rfl, Nat.le_refl _, by omega, fun h => absurd h (by omega)⟩

theorem ret_eq {u v : Value} (h : u = v) : Ending.returned u = .returned v := by rw [h]
theorem int_eq {k : IntKind} {a b : Int} (h : a = b) : Value.int k a = .int k b := by rw [h]
/-- A slice value of the call's own (its block from base on): n elements of type e, k cells each; the block may be longer than the capacity. -/
def Own (w : World) (base : Nat) (e : TypeId) (k : Nat) (v : Value) (n : Nat) (cs : List Value) : Prop :=
  cs.length = n * k ∧ ((v = .slice none 0 0 ∧ n = 0) ∨
    ∃ g cap cur, v = .slice (some ⟨g, 0, none⟩) n cap ∧ base ≤ g ∧ w.heap[g]? = some (.cells cur e (0, 0)) ∧ n ≤ cap ∧ cap ≤ maxLen ∧ cap * k ≤ cur.size ∧ cur.toList.take (n * k) = cs)
section
variable {w w' : World} {base : Nat} {e : TypeId} {k n : Nat} {v : Value} {cs : List Value}
theorem Own.nil (w : World) (base : Nat) (e : TypeId) (k : Nat) : Own w base e k (.slice none 0 0) 0 [] := ⟨by simp, .inl ⟨rfl, rfl⟩⟩
theorem Own.empty (w : World) (e : TypeId) (k : Nat) : Own (w.alloc (.cells #[] e)) w.heap.size e k (.slice (some ⟨w.heap.size, 0, none⟩) 0 0) 0 [] :=
  ⟨by simp, .inr ⟨w.heap.size, 0, #[], rfl, Nat.le_refl _, heap_alloc_new w _, Nat.le_refl _, by simp [maxLen], by simp, by simp⟩⟩
theorem Own.of_row (h : w.ownsRow base e k v n cs) : Own w base e k v n cs := by
  refine ⟨h.1, ?_⟩
  rcases h.2 with h2 | ⟨g, cap, cur, rfl, hb, hh, h1, h2, h3, h4⟩
  · exact .inl h2
  · exact .inr ⟨g, cap, cur, rfl, hb, hh, h1, h2, Nat.le_of_eq h3.symm, h4⟩
theorem Own.lt (h : Own w base e k v n cs) : ∀ b, At v b → base ≤ b ∧ b < w.heap.size := by
  intro b hb
  rcases h.2 with ⟨rfl, _⟩ | ⟨g, cap, cur, rfl, h1, hh, _⟩
  · simp [At, Value.ownBlock] at hb
  · have : g = b := by simpa [At, Value.ownBlock] using hb
    subst this
    exact ⟨h1, lt_of_blk hh⟩
theorem Own.ext {S : Nat → Prop} (h : Own w base e k v n cs) (hE : Ext S w w') (hs : ∀ b, At v b → ¬ S b) : Own w' base e k v n cs := by
  refine ⟨h.1, ?_⟩
  rcases h.2 with h2 | ⟨g, cap, cur, rfl, hb, hh, r⟩
  · exact .inl h2
  · exact .inr ⟨g, cap, cur, rfl, hb, hE.blk hh (hs g rfl), r⟩
theorem Own.below (h : Own w base e k v n cs) (hE : Below w.heap.size w w') : Own w' base e k v n cs := h.ext (Ext.of_below (S := fun _ => False) hE) (fun _ _ h => h)
theorem Own.alloc (h : Own w base e k v n cs) (o : Obj) : Own (w.alloc o) base e k v n cs := h.ext ((Ext.refl (fun _ => False) w).alloc o) (fun _ _ h => h)
theorem Own.mono (h : Own w base e k v n cs) {b' : Nat} (hb : b' ≤ base) : Own w b' e k v n cs := by
  refine ⟨h.1, ?_⟩
  rcases h.2 with h2 | ⟨g, cap, cur, rfl, h1, r⟩
  · exact .inl h2
  · exact .inr ⟨g, cap, cur, rfl, Nat.le_trans hb h1, r⟩
theorem Own.clip {A : Option Addr} {c : Nat} (h : Own w base e k (.slice A n c) n cs) : Own w base e k (.slice A n n) n cs := by
  refine ⟨h.1, ?_⟩
  rcases h.2 with ⟨h1, rfl⟩ | ⟨g, cap, cur, h1, hb, hh, h2, h3, h4, h5⟩
  · injection h1 with e1 e2 e3
    subst e1
    exact .inl ⟨rfl, rfl⟩
  · injection h1 with e1 e2 e3
    subst e1 e3
    exact .inr ⟨g, n, cur, rfl, hb, hh, Nat.le_refl _, Nat.le_trans h2 h3, Nat.le_trans (Nat.mul_le_mul_right _ h2) h4, h5⟩
theorem Own.form (h : Own w base e k v n cs) : ∃ A c, v = .slice A n c ∧ n ≤ c ∧ c ≤ 9223372036854775807 := by
  rcases h.2 with ⟨rfl, rfl⟩ | ⟨g, cap, cur, rfl, hb, hh, h2, h3, h4, h5⟩
  · exact ⟨_, _, rfl, Nat.le_refl _, by omega⟩
  · exact ⟨_, _, rfl, h2, by simpa [maxLen] using h3⟩
/-- What is owned can be read. -/
theorem Own.rd (h : Own w base e k v n cs) : Rd w v n k cs := by
  refine ⟨h.1, ?_⟩
  rcases h.2 with ⟨rfl, rfl⟩ | ⟨g, cap, cur, rfl, hb, hh, h1, h2, h3, h4⟩
  · exact ⟨none, 0, rfl, Nat.le_refl _, by omega, fun h => absurd h (by omega)⟩
  · refine ⟨_, cap, rfl, h1, by simpa [maxLen] using h2, fun _ => ⟨g, 0, rfl, lt_of_blk hh, fun j u hj => ?_⟩⟩
    rw [cell_of hh, Nat.zero_add]
    rw [← h4] at hj
    have := (List.getElem?_eq_some_iff.1 hj).1
    rw [List.getElem?_take] at hj
    split at hj
    · simpa using hj
    · cases hj
theorem Own.cells_ (h : Own w base e k v n cs) {g : Nat} {c : Nat} (hv : v = .slice (some ⟨g, 0, none⟩) n c) : ∀ j u, cs[j]? = some u → w.cell? ((⟨g, 0, none⟩ : Addr).add j) = some u := by
  intro j u hj
  rcases h.2 with ⟨h', _⟩ | ⟨g', cap, cur, h', hb, hh, h1, h2, h3, h4⟩
  · rw [hv] at h'; cases h'
  · rw [hv] at h'
    injection h' with e1 e2 e3
    injection e1 with e1
    injection e1 with e1
    subst e1
    have ha : (⟨g, 0, none⟩ : Addr).add j = ⟨g, j, none⟩ := by unfold Addr.add; split <;> simp_all
    rw [ha, cell_of hh]
    rw [← h4, List.getElem?_take] at hj
    split at hj
    · simpa using hj
    · cases hj
end

/-- bytes as cells -/
def bv (l : List UInt8) : List Value := l.map fun c => .int .u8 c.toNat
theorem bv_length (l : List UInt8) : (bv l).length = l.length := by simp [bv]
theorem bv_one (l : List UInt8) : ∀ u ∈ bv l, u.oneCell' = true := by intro u hu; simp only [bv, List.mem_map] at hu; obtain ⟨q, _, rfl⟩ := hu; rfl
theorem bv_snoc (l : List UInt8) (q : Nat) (hq : q < 256) : bv l ++ [.int .u8 (q : Int)] = bv (l ++ [UInt8.ofNat q]) := by
  simp [bv, UInt8.toNat_ofNat']; omega
theorem bv_append (l r : List UInt8) : bv (l ++ r) = bv l ++ bv r := by simp [bv]

section
variable {P : Program} {ops : Array Oper} {rest : List Oper} {o : Oper} {a : Act} {Q : Exit → Act → World → Prop}
/-- What append comes to, on a slice of the call's own. -/
theorem run_app (w : World) (base : Nat) (t ty e : TypeId) (i : TypeInfo) (z : Value) (ht : P.underlying t = some (.slice e)) (hi : P.info? e = some i) (hz : i.zero = some z)
    (hzs : z.cells.size = i.size) (v : Value) (n : Nat) (xs : List Value) (hown : Own w base e i.size v n xs)
    (a : Addr) (m c : Nat) (news : List Value) (hl : news.length = m * i.size) (hnews : ∀ j u, news[j]? = some u → w.cell? (a.add j) = some u) (h1 : ∀ u ∈ news, u.oneCell' = true)
    (h63 : n + m ≤ 9223372036854775807) (hbytes : (n + m) * i.bytes ≤ 140737488355328) (hbase : base ≤ w.heap.size) :
    ∃ v' w', (Builtin.append_ #[t, t] ty #[v, .slice (some a) m c]).run P w = .ok v' w' ∧ Own w' base e i.size v' (n + m) (xs ++ news) ∧ w.grownBy w' v.ownBlock ∧
      (v'.ownBlock = v.ownBlock ∨ v'.ownBlock = some w.heap.size) := by
  have hlen : (xs ++ news).length = (n + m) * i.size := by rw [List.length_append, hown.1, hl, Nat.add_mul]
  have grown : ∀ (old : Nat), old < n + m → ∀ (row : Option Nat),
      Own (w.drew.alloc (.cells (xs.toArray ++ news.toArray ++ Builtin.zeroCells z.cells (grownCap w (n + m) old e - (n + m))) e)) base e i.size
        (.slice (some ⟨w.heap.size, 0, none⟩) (n + m) (grownCap w (n + m) old e)) (n + m) (xs ++ news) ∧
      w.grownBy (w.drew.alloc (.cells (xs.toArray ++ news.toArray ++ Builtin.zeroCells z.cells (grownCap w (n + m) old e - (n + m))) e)) row := by
    intro old ho row
    have hge := grownCap_ge w (n + m) old e
    have hcm : grownCap w (n + m) old e ≤ maxLen := grownCap_le_maxLen w (n + m) old e (by simpa [maxLen] using h63)
    refine ⟨⟨hlen, .inr ⟨w.heap.size, _, _, rfl, hbase, heap_alloc_new w.drew _, hge, hcm, Nat.le_of_eq (Eq.symm ?_), ?_⟩⟩, ⟨rfl, rfl, rfl, by simp, fun k hk _ => Below.heap_alloc w.drew _ k hk⟩⟩
    · simp only [Array.size_append, List.size_toArray, size_zeroCells, hzs, hown.1, hl, ← Nat.add_mul]
      congr 1
      omega
    · simp only [Array.toList_append, List.append_assoc]
      rw [← List.append_assoc, ← hlen]
      exact List.take_left
  rcases hown.2 with ⟨rfl, rfl⟩ | ⟨g, cap, cur, rfl, hbg, hg, hnc, hcm, hcs, htake⟩
  · have hx : xs = [] := List.eq_nil_of_length_eq_zero (by simpa using hown.1)
    subst hx
    by_cases hm : m = 0
    · subst hm
      have hn : news = [] := List.eq_nil_of_length_eq_zero (by simpa using hl)
      subst hn
      refine ⟨.slice none 0 0, w, ?_, Own.nil w base e i.size, ⟨rfl, rfl, rfl, Nat.le_refl _, fun _ _ _ => rfl⟩, Or.inl rfl⟩
      simp [Builtin.append_, run_underlying ht, sizeOf, typeInfo, hi, Builtin.lenOf, Builtin.firstCells, loadCells, loadCellsFrom]
    · have hr := run_append_nil (P := P) w t ty e i z ht hi hz a m c news hl hnews (by omega) (by omega) (by have hb := hbytes; simp only [Nat.zero_add] at hb; omega)
      have hgr := grown 0 (by omega) (Value.ownBlock (.slice none 0 0))
      simp only [Nat.zero_add, List.nil_append, Array.empty_append] at hgr ⊢
      exact ⟨_, _, hr, hgr.1, hgr.2, Or.inr rfl⟩
  · by_cases hroom : n + m ≤ cap
    · have hfit : n * i.size + news.length ≤ cur.size := by rw [hl, ← Nat.add_mul]; exact Nat.le_trans (Nat.mul_le_mul_right _ hroom) hcs
      have hr := run_append_room (P := P) w t ty e i ht hi g n cap cur hg a m c news hl hnews h1 hroom hfit
      refine ⟨_, _, hr, ⟨hlen, .inr ⟨g, cap, _, rfl, hbg, setRow_heap w g cur _ e _ hg, hroom, hcm, ?_, ?_⟩⟩, ⟨rfl, rfl, rfl, by simp, fun k _ hk => setRow_other w g k _ (fun e => hk (by simp [Value.ownBlock, e]))⟩, Or.inl rfl⟩
      · simp only [List.size_toArray, List.length_append, List.length_take, List.length_drop, Array.length_toList]
        omega
      · rw [htake, ← hlen]
        exact List.take_left
    · have holds : ∀ j u, xs[j]? = some u → w.cell? ((⟨g, 0, none⟩ : Addr).add j) = some u := hown.cells_ rfl
      have hr := run_append_grow (P := P) w t ty e i z ht hi hz ⟨g, 0, none⟩ n cap xs hown.1 holds a m c news hl hnews (by omega) (by omega) (growslice_fits (by omega) hbytes)
      have hgr := grown cap (by omega) (Value.ownBlock (.slice (some ⟨g, 0, none⟩) n cap))
      exact ⟨_, _, hr, hgr.1, hgr.2, Or.inr rfl⟩

/-- append(v, src...): v of the call's own (nil let in), src whatever is read (nil let in). -/
theorem wpList_app {W : World} (base : Nat) (hgd : o.guard = none) (s x : Operand) (t e : TypeId) (z : Value) (size bytes : Nat)
    (ho : o.op = .call { callee := .builtin .append, args := #[s, x], argTypes := #[t, t] })
    (ht : P.underlying t = some (.slice e)) (hinfo : (P.info? e).map (fun i => (i.zero, i.size, i.bytes)) = some (some z, size, bytes)) (hzs : z.cells.size = size) (hb0 : 0 < bytes)
    (v : Value) (n : Nat) (xs : List Value) (src : Value) (m : Nat) (ys : List Value) (hs : a.eval s = v) (hx : a.eval x = src)
    (HO : Own W base e size v n xs) (HR : Rd W src m size ys) (h1 : ∀ u ∈ ys, u.oneCell' = true) (hbase : base ≤ W.heap.size) (hl : (n + m) * bytes ≤ 140737488355328)
    (h : ∀ v1 w1, Own w1 base e size v1 (n + m) (xs ++ ys) → W.grownBy w1 v.ownBlock → (v1.ownBlock = v.ownBlock ∨ v1.ownBlock = some W.heap.size) → wpList P ops Q rest (a.put o.dst v1) w1) :
    wpList P ops Q (o :: rest) a W := by
  obtain ⟨i0, hi, hzz⟩ := Option.map_eq_some_iff.1 hinfo
  simp only [Prod.mk.injEq] at hzz
  obtain ⟨hz0, hz1, hz2⟩ := hzz
  have hlen : n + m ≤ 140737488355328 := Nat.le_trans (Nat.le_mul_of_pos_right _ hb0) hl
  obtain ⟨hys, A, c, rfl, hmc, hcm, hcell⟩ := HR
  have hrun : ∃ v1 w1, (Builtin.append_ #[t, t] o.type #[v, .slice A m c]).run P W = .ok v1 w1 ∧ Own w1 base e size v1 (n + m) (xs ++ ys) ∧ W.grownBy w1 v.ownBlock ∧ (v1.ownBlock = v.ownBlock ∨ v1.ownBlock = some W.heap.size) := by
    rcases A with _ | ad
    · have h0 : m = 0 := by
        rcases Nat.eq_zero_or_pos m with h0 | h0
        · exact h0
        · obtain ⟨b, o, h, _⟩ := hcell h0
          cases h
      subst h0
      obtain rfl : ys = [] := List.eq_nil_of_length_eq_zero (by simpa using hys)
      refine ⟨v, W, ?_, by simpa using HO, World.grownBy.refl W _, .inl rfl⟩
      rcases HO.2 with ⟨rfl, hn⟩ | ⟨g, cap, cur, rfl, _, _, hnc, _⟩
      · simp [Builtin.append_, run_underlying ht, sizeOf, typeInfo, hi, Builtin.lenOf, Builtin.firstCells]
      · simp [Builtin.append_, run_underlying ht, sizeOf, typeInfo, hi, Builtin.lenOf, Builtin.firstCells, hnc, storeCells]
    · have hcells : ∀ j u, ys[j]? = some u → W.cell? (ad.add j) = some u := by
        intro j u hu
        have hj : j < ys.length := (List.getElem?_eq_some_iff.1 hu).1
        have hm0 : 0 < m := by
          rcases Nat.eq_zero_or_pos m with h0 | h0
          · rw [h0] at hys; omega
          · exact h0
        obtain ⟨b, o, h', _, hc⟩ := hcell hm0
        injection h' with h'
        subst h'
        have := hc j u hu
        have ha : (⟨b, o, none⟩ : Addr).add j = ⟨b, o + j, none⟩ := by unfold Addr.add; split <;> simp_all
        rwa [ha]
      subst hz1 hz2
      exact run_app (P := P) W base t o.type e i0 z ht hi hz0 hzs v n xs HO ad m c ys hys hcells h1 (by omega) hl hbase
  obtain ⟨v1, w1, hr, hown, hg, hat⟩ := hrun
  refine wpList_plain hgd fun K hK => ?_
  unfold Oper.wp execOp
  simp only [ho, resolve, invoke, builtin, Sem.run_bind, Sem.run_pure, Result.andThen_ok, List.map_toArray, List.map_cons, List.map_nil, hs, hx, hr]
  exact hK _ _ (h v1 w1 hown hg hat)
end
theorem Own.fresh {w : World} {base : Nat} {e : TypeId} {k n cap : Nat} {cells : Array Value} {cs : List Value} (hb : base ≤ w.heap.size) (h1 : n ≤ cap) (h2 : cap ≤ maxLen) (h3 : cap * k ≤ cells.size) (h4 : cells.toList.take (n * k) = cs) (h5 : cs.length = n * k) :
    Own (w.alloc (.cells cells e)) base e k (.slice (some ⟨w.heap.size, 0, none⟩) n cap) n cs :=
  ⟨h5, .inr ⟨w.heap.size, cap, cells, rfl, hb, heap_alloc_new w _, h1, h2, h3, h4⟩⟩
theorem strCells_bv (s : ByteArray) : Lib.strCells s = bv s.data.toList := rfl
section
variable {P : Program} {ops : Array Oper} {rest : List Oper} {o : Oper} {a : Act} {Q : Exit → Act → World → Prop}
/-- append(v, s...), s a string, v bytes of the call's own. -/
theorem wpList_app_string {W : World} (base : Nat) (hgd : o.guard = none) (s x : Operand) (t u e : TypeId)
    (ho : o.op = .call { callee := .builtin .append, args := #[s, x], argTypes := #[t, u] })
    (ht : P.underlying t = some (.slice e)) (hu : P.underlying u = some .string) (hinfo : (P.info? e).map (fun i => (i.zero, i.size, i.bytes)) = some (some (.int .u8 0), 1, 1))
    (v : Value) (n : Nat) (xs : List Value) (st : ByteArray) (hs : a.eval s = v) (hx : a.eval x = .string st)
    (HO : Own W base e 1 v n xs) (hbase : base ≤ W.heap.size) (hl : n + st.size ≤ 140737488355328)
    (h : ∀ v1 w1, Own w1 base e 1 v1 (n + st.size) (xs ++ bv st.data.toList) → W.grownBy w1 v.ownBlock → (v1.ownBlock = v.ownBlock ∨ v1.ownBlock = some W.heap.size) → wpList P ops Q rest (a.put o.dst v1) w1) :
    wpList P ops Q (o :: rest) a W := by
  obtain ⟨i0, hi, hzz⟩ := Option.map_eq_some_iff.1 hinfo
  simp only [Prod.mk.injEq] at hzz
  obtain ⟨hz0, hz1, hz2⟩ := hzz
  have hsl : (Lib.strCells st).length = st.size := Lib.strCells_length st
  have hxl : xs.length = n := by simpa using HO.1
  have hrun : ∃ v1 w1, (Builtin.append_ #[t, u] o.type #[v, .string st]).run P W = .ok v1 w1 ∧ Own w1 base e 1 v1 (n + st.size) (xs ++ Lib.strCells st) ∧ W.grownBy w1 v.ownBlock ∧ (v1.ownBlock = v.ownBlock ∨ v1.ownBlock = some W.heap.size) := by
    have fresh : ∀ cap, n + st.size ≤ cap → cap ≤ maxLen → Own (W.drew.alloc (.cells (xs.toArray ++ (Lib.strCells st).toArray ++ Builtin.zeroCells (Value.int .u8 0).cells (cap - (n + st.size))) e)) base e 1 (.slice (some ⟨W.heap.size, 0, none⟩) (n + st.size) cap) (n + st.size) (xs ++ Lib.strCells st) := by
      intro cap h1 h2
      have hz : (Builtin.zeroCells (Value.int .u8 0).cells (cap - (n + st.size))).size = cap - (n + st.size) := by rw [size_zeroCells]; exact Nat.mul_one _
      refine Own.fresh (w := W.drew) (by simpa using hbase) h1 h2 ?_ ?_ (by simp [hxl, hsl])
      · simp only [Array.size_append, List.size_toArray, hxl, hsl, hz]; omega
      · have hlen : (n + st.size) * 1 = (xs ++ Lib.strCells st).length := by simp [hxl, hsl]
        simp only [Array.toList_append, List.append_assoc]
        rw [← List.append_assoc, hlen]
        exact List.take_left
    rcases HO.2 with ⟨rfl, rfl⟩ | ⟨g, cap, cur, rfl, hbg, hg, hnc, hcm, hcs, htake⟩
    · by_cases hm : st.size = 0
      · obtain ⟨v1, w1, r, ro, rg, rn⟩ := Lib.run_append_own_string (P := P) W base t u o.type e i0 ht hu hi hz0 hz1 hz2 (.slice none 0 0) 0 [] (World.ownsRow_nil _ _ _ _) st (by simp only [maxLen]; omega) (by omega) hbase
        obtain rfl : xs = [] := List.eq_nil_of_length_eq_zero hxl
        have hv1 := rn.2 ⟨rfl, hm⟩
        subst hv1
        exact ⟨_, w1, r, Own.of_row ro, rg, .inl rfl⟩
      · obtain rfl : xs = [] := List.eq_nil_of_length_eq_zero hxl
        have hr := run_append_nil_string (P := P) W t u o.type e i0 (.int .u8 0) ht hu hi hz0 st (by omega) (by omega) (by rw [hz2]; omega)
        have e1 : (st.data.map fun b => Value.int .u8 b.toNat) = (Lib.strCells st).toArray := by
          apply Array.ext'
          simp [Lib.strCells]
        rw [e1] at hr
        have hf := fresh (grownCap W st.size 0 e) (by simpa using grownCap_ge W st.size 0 e) (grownCap_le_maxLen W st.size 0 e (by simp only [maxLen]; omega))
        simp only [Nat.zero_add, List.nil_append, Array.empty_append] at hf ⊢
        exact ⟨_, _, hr, hf, ⟨rfl, rfl, rfl, by simp, fun k hk _ => Below.heap_alloc W.drew _ k hk⟩, .inr rfl⟩
    · by_cases hroom : n + st.size ≤ cap
      · have hr := Lib.run_append_room_string (P := P) W t u o.type e i0 ht hu hi hz1 g n cap cur hg st hroom (by omega)
        refine ⟨_, _, hr, ⟨by simp [hxl, hsl], .inr ⟨g, cap, _, rfl, hbg, setRow_heap W g cur _ e _ hg, hroom, hcm, ?_, ?_⟩⟩, ⟨rfl, rfl, rfl, by simp, fun k _ hk => setRow_other W g k _ (fun e => hk (by simp [Value.ownBlock, e]))⟩, .inl rfl⟩
        · simp only [List.size_toArray, List.length_append, List.length_take, List.length_drop, Array.length_toList, hsl]
          omega
        · have ht' : cur.toList.take n = xs := by simpa using htake
          have hlen : (n + st.size) * 1 = (xs ++ Lib.strCells st).length := by simp [hxl, hsl]
          rw [ht', hlen]
          exact List.take_left
      · have hr := Lib.run_append_grow_string (P := P) W t u o.type e i0 (.int .u8 0) ht hu hi hz0 ⟨g, 0, none⟩ n cap xs (by rw [hz1]; simpa using hxl) (HO.cells_ rfl) st (by omega) (by omega) (by rw [hz2]; exact growslice_fits (by omega) (by omega))
        exact ⟨_, _, hr, fresh _ (grownCap_ge W (n + st.size) cap e) (grownCap_le_maxLen W (n + st.size) cap e (by simp only [maxLen]; omega)), ⟨rfl, rfl, rfl, by simp, fun k hk _ => Below.heap_alloc W.drew _ k hk⟩, .inr rfl⟩
  obtain ⟨v1, w1, hr, hown, hg, hat⟩ := hrun
  refine wpList_plain hgd fun K hK => ?_
  unfold Oper.wp execOp
  simp only [ho, resolve, invoke, builtin, Sem.run_bind, Sem.run_pure, Result.andThen_ok, List.map_toArray, List.map_cons, List.map_nil, hs, hx, hr]
  exact hK _ _ (h v1 w1 hown hg hat)
end
theorem app_step {w W w1 : World} {v u v1 : Value} (hE : Ext (At v) w W) (hat : ∀ b, At u b → At v b ∨ w.heap.size ≤ b) (hg : W.grownBy w1 u.ownBlock) (hat1 : v1.ownBlock = u.ownBlock ∨ v1.ownBlock = some W.heap.size) :
    Ext (At v) w w1 ∧ (∀ b, At v1 b → At v b ∨ w.heap.size ≤ b) := by
  refine ⟨hE.then_ (Ext.of_grown (S := At u) hg (fun k hk _ => hk)) (fun i hi hu => ?_), fun b hb => ?_⟩
  · rcases hat i hu with h | h
    · exact h
    · omega
  · rcases hat1 with h | h
    · exact hat b (by unfold At at *; rw [← h]; exact hb)
    · unfold At at hb
      rw [h] at hb
      injection hb with hb
      have := hE.size
      exact .inr (by omega)
theorem Rd_one {w : World} {y : Value} {b : Nat} (h : w.cell? ⟨b, 0, none⟩ = some y) : Rd w (.slice (some ⟨b, 0, none⟩) 1 1) 1 1 [y] :=
  ⟨rfl, _, 1, rfl, Nat.le_refl _, by omega, fun _ => ⟨b, 0, rfl, World.block_lt_of_cell? w _ h, fun j u hj => by
    match j, hj with
    | 0, hj => simp at hj; subst hj; exact h⟩⟩
theorem Rd_box (w : World) (y : Value) (e : TypeId) : Rd (w.alloc (.cells #[y] e)) (.slice (some ⟨w.heap.size, 0, none⟩) 1 1) 1 1 [y] :=
  Rd_one (by rw [cell_of (heap_alloc_new w (.cells #[y] e))]; rfl)

end Go.Proofs.YtcljpmknandlhaaGreatDoor
