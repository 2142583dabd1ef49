/- A struct of integers by value: opened, read again in any world. -/
import Derived.Test.YtcljpmknandlhaaGreatDoorCards
import Derived.Test.YtcljpmknandlhaaGreatDoorTie
import Derived.Test.YtcljpmknandlhaaGreatDoorRNew
import Derived.ProofKit
import Derived.ChangeArms
namespace Go.Proofs.YtcljpmknandlhaaGreatDoor
open Go Go.ChangeShapes Go.WideShapes Go.ChangeAt Go.RowKit
set_option linter.unusedVariables false
set_option linter.unusedSimpArgs false
/-- A type of integers and structs of them. -/
def IntT (P : Program) : Nat → TypeId → Prop
  | 0, _ => False
  | n + 1, t => (∃ k, P.underlying t = some (.int k)) ∨ ∃ fs, P.underlying t = some (.struct fs) ∧ ∀ f ∈ fs.toList, IntT P n f.type
section
variable {H : Type} {enc : TypeId × Value → H} {P : Program}
theorem mapM_same {α β : Type} {f g : α → Option β} : ∀ {l : List α}, (∀ a ∈ l, f a = g a) → l.mapM f = l.mapM g
  | [], _ => rfl
  | a :: l, h => by
    rw [List.mapM_cons, List.mapM_cons, h a (by simp), mapM_same (fun b hb => h b (by simp [hb]))]
theorem trod_same {w w' : World} {b b' : Nat} {sp sp' : Nat → Bool} {hl hl' : Bool} : ∀ (fuel n : Nat) (t : TypeId) (cs : List Value), IntT P n t → DataW.trod enc P w b sp hl fuel t cs = DataW.trod enc P w' b' sp' hl' fuel t cs
  | 0, _, _, _, _ => rfl
  | fuel + 1, 0, _, _, h => h.elim
  | fuel + 1, n + 1, t, cs, h => by
    rcases h with ⟨k, hk⟩ | ⟨fs, hf, hs⟩
    · unfold DataW.trod
      rw [hk]
      split <;> simp_all
    · unfold DataW.trod
      rw [hf]
      have : (fs.toList.mapM fun f => DataW.trod enc P w b sp hl fuel f.type ((cs.drop f.offset).take (P.cellsOf f.type))) = fs.toList.mapM fun f => DataW.trod enc P w' b' sp' hl' fuel f.type ((cs.drop f.offset).take (P.cellsOf f.type)) :=
        mapM_same (fun f hfm => trod_same fuel n f.type _ (hs f hfm))
      simp only [this]
theorem field_at {w : World} {b : Nat} {sp : Nat → Bool} {hl : Bool} {fuel : Nat} {t : TypeId} {cs : List Value} {x : DataW H × List MemPlace} {fs : Array Field} (ht : P.underlying t = some (.struct fs))
    (h : DataW.trod enc P w b sp hl fuel t cs = some x) (i : Nat) (f : Field) (hf : fs[i]? = some f) : ∃ m y, DataW.trod enc P w b sp hl m f.type ((cs.drop f.offset).take (P.cellsOf f.type)) = some y := by
  obtain ⟨xs, n, _, _, _, hl, hi⟩ := DataW.trod_struct ht h
  have hlt : i < xs.length := by rw [hl]; exact (Array.getElem?_eq_some_iff.1 hf).1
  exact ⟨n, xs[i], by rw [hi i f hf]; exact List.getElem?_eq_getElem hlt⟩
theorem trod_empty {w : World} {b : Nat} {sp : Nat → Bool} {hl : Bool} : ∀ (fuel n : Nat) (t : TypeId) (cs : List Value) (x : DataW H × List MemPlace), IntT P n t → DataW.trod enc P w b sp hl fuel t cs = some x → x.2 = []
  | 0, _, _, _, _, _, h => by simp [DataW.trod] at h
  | fuel + 1, 0, _, _, _, h, _ => h.elim
  | fuel + 1, n + 1, t, cs, x, h, hx => by
    rcases h with ⟨k, hk⟩ | ⟨fs, hf, hs⟩
    · obtain ⟨_, _, rfl, _⟩ := DataW.trod_int hk hx
      rfl
    · obtain ⟨xs, m, e, rfl, _, hl, hi⟩ := DataW.trod_struct hf hx
      obtain rfl : fuel = m := by omega
      simp only [List.flatMap_eq_nil_iff]
      intro y hy
      obtain ⟨i, hlt, rfl⟩ := List.getElem_of_mem hy
      have hif : i < fs.size := by omega
      have h1 := hi i fs[i] (Array.getElem?_eq_getElem hif)
      rw [List.getElem?_eq_getElem hlt] at h1
      exact trod_empty fuel n _ _ _ (hs _ (by simp)) h1
end
end Go.Proofs.YtcljpmknandlhaaGreatDoor
