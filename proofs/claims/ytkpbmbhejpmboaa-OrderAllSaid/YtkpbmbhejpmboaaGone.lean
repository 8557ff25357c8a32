/- Which are gone, as a row of bools. -/
import Derived.Test.YtkpbmbhejpmboaaPlainCount
import Derived.Test.YtkpbmbhejpmboaaPlainDep
namespace Go.Proofs.Ytkpbmbhejpmboaa
open Go.RowKit
set_option linter.unusedVariables false

def gonesL (n g : Nat) : List Bool := (List.range n).map fun i => g.testBit i
/-- Block gb tells which are in g. -/
def GoneAt (w : World) (gb n g : Nat) : Prop := w.heap[gb]? = some (.cells ((gonesL n g).map Value.bool).toArray 4 (0, 0))
theorem GoneAt.cell {w : World} {gb n g i : Nat} (h : GoneAt w gb n g) (hi : i < n) : w.cell? ⟨gb, i, none⟩ = some (.bool (g.testBit i)) := by
  simp [World.cell?, show w.heap[gb]? = _ from h, gonesL, hi]
theorem GoneAt.open {w : World} {gb n g : Nat} (h : GoneAt w gb n g) (i : Nat) : w.frozen? ⟨gb, i, none⟩ = false := by
  simp [World.frozen?, show w.heap[gb]? = _ from h]
theorem GoneAt.lt {w : World} {gb n g : Nat} (h : GoneAt w gb n g) : gb < w.heap.size := (Array.getElem?_eq_some_iff.1 h).1
theorem GoneAt.keep {w w' : World} {gb n g : Nat} (h : GoneAt w gb n g) (s : Since w w') : GoneAt w' gb n g := (Below.block s gb h.lt).trans h
theorem GoneAt.set {w : World} {gb n g : Nat} (h : GoneAt w gb n g) (i : Nat) (hi : i < n) : GoneAt (w.setCell ⟨gb, i, none⟩ (.bool true)) gb n (g ||| 2 ^ i) := by
  unfold GoneAt at h ⊢
  have e : gonesL n (g ||| 2 ^ i) = (gonesL n g).set i true := by
    apply List.ext_getElem?; intro t
    simp only [gonesL, List.getElem?_map, List.getElem?_set, List.length_map, List.length_range, Nat.testBit_or, Nat.testBit_two_pow]
    by_cases ht : t < n
    · by_cases hti : i = t
      · subst hti; simp [ht]
      · simp [ht, hti]
    · by_cases hti : i = t
      · subst hti; simp [ht]
      · simp [ht, hti]
  rw [e]
  simp [World.setCell, Array.getElem?_modify, h, List.map_set]
/-- What is set and unset again is as it was. -/
theorem gone_back {w w2 : World} {gb n g i : Nat} (h : GoneAt w gb n g) (hi : i < n) (hb : g.testBit i = false) (s : Since (w.setCell ⟨gb, i, none⟩ (.bool true)) w2) : Since w (w2.setCell ⟨gb, i, none⟩ (.bool false)) := by
  have h1 := (h.set i hi).keep s
  have hsz : (w.setCell ⟨gb, i, none⟩ (.bool true)).heap.size = w.heap.size := by simp [World.setCell]
  refine ⟨s.os, s.tape, s.output, ?_, ?_⟩
  · have := s.size
    simp only [World.setCell, Array.size_modify] at this ⊢
    exact this
  · intro k hk
    by_cases hkb : k = gb
    · subst hkb
      have e : gonesL n g = (gonesL n (g ||| 2 ^ i)).set i false := by
        apply List.ext_getElem?; intro t
        simp only [gonesL, List.getElem?_map, List.getElem?_set, List.length_map, List.length_range, Nat.testBit_or, Nat.testBit_two_pow]
        by_cases ht : t < n
        · by_cases hti : i = t
          · subst hti; simp [ht, hb]
          · simp [ht, hti]
        · by_cases hti : i = t
          · subst hti; simp [ht]
          · simp [ht, hti]
      rw [show w.heap[k]? = _ from h, e]
      have h1' : w2.heap[k]? = _ := h1
      simp [World.setCell, Array.getElem?_modify, h1', List.map_set]
    · rw [Below.heap_setCell _ _ _ _ hkb]
      have := Below.block s k (by rw [hsz]; exact hk)
      rw [this, Below.heap_setCell _ _ _ _ hkb]
end Go.Proofs.Ytkpbmbhejpmboaa
