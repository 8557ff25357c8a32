/- jacquardlaw12.swapped, jacquardlaw12.nums. -/
import Derived.Test.YtkpbmbhejpmboaaRun
namespace Go.Proofs.Ytkpbmbhejpmboaa
open Go.RowKit
set_option linter.unusedVariables false

def nilS : Value := .slice none 0 0
def swapP (x y : Value) : PrgV := ⟨2, 4, 0, [⟨[⟨⟨2, 0, 0, 0, 1, 0, 0, []⟩, .slice none 0 0, 0⟩, ⟨⟨6, 0, 0, 0, 1, 0, 0, []⟩, .slice none 0 0, 0⟩], x, ⟨7, 0, 0, [], .slice none 0 0, 0⟩⟩], y⟩
/-- A row of new data. -/
theorem row_new {α : Type} {f : α → List Value} {sz : Nat} {p : World → α → Prop} (hf : ∀ x, (f x).length = sz) {w : World} {b : Nat} {l : List α} {T : TypeId} (hb : HeapIs w b (l.flatMap f).toArray T) (hm : l.length ≤ maxLen) (hp : ∀ x ∈ l, p w x) : RowIn f sz p w (.slice (some ⟨b, 0, none⟩) l.length l.length) l := by
  refine .inr ⟨b, 0, l.length, rfl, Nat.le_refl _, hm, hb.lt, fun j x hj => ⟨fun t ht => ?_, hp x (List.mem_of_getElem? hj)⟩⟩
  rw [Nat.zero_add, hb.cell]
  simp only [List.getElem?_toArray]
  exact flat_at f sz hf l j t x hj ht
def SwapQ (w : World) (e : Ending) (w' : World) : Prop := ∃ x y, e = .returned (pv (swapP x y)) ∧ PrgOk w' (swapP x y) ∧ Since w w' ∧ ∃ b, y = .slice (some ⟨b, 0, none⟩) 1 1

set_option maxHeartbeats 1000000 in
set_option maxRecDepth 100000 in
theorem swapped_any (w : World) : Calls Try.prog 39 #[] w (SwapQ w) := by
  go_enter Try.func39, Try.ntmps39
  go_wp2
  have h1 : HeapIs ((w.alloc (.cells #[.int .i64 2, .int .i64 4, .int .i64 0, .slice (some ⟨w.heap.size + 1 + 1, 0, none⟩) 1 1] 24)).alloc (.cells #[.int .i64 2, .int .i64 0, .int .i64 0, .int .i64 0, .int .i64 1, .int .i64 0, .int .i32 0, .slice none 0 0, .int .i64 0, .int .i64 6, .int .i64 0, .int .i64 0, .int .i64 0, .int .i64 1, .int .i64 0, .int .i32 0, .slice none 0 0, .int .i64 0] 58)) (w.heap.size + 1) #[.int .i64 2, .int .i64 0, .int .i64 0, .int .i64 0, .int .i64 1, .int .i64 0, .int .i32 0, .slice none 0 0, .int .i64 0, .int .i64 6, .int .i64 0, .int .i64 0, .int .i64 0, .int .i64 1, .int .i64 0, .int .i32 0, .slice none 0 0, .int .i64 0] 58 := by
    have := HeapIs.new (w.alloc (.cells #[.int .i64 2, .int .i64 4, .int .i64 0, .slice (some ⟨w.heap.size + 1 + 1, 0, none⟩) 1 1] 24)) #[.int .i64 2, .int .i64 0, .int .i64 0, .int .i64 0, .int .i64 1, .int .i64 0, .int .i32 0, .slice none 0 0, .int .i64 0, .int .i64 6, .int .i64 0, .int .i64 0, .int .i64 0, .int .i64 1, .int .i64 0, .int .i32 0, .slice none 0 0, .int .i64 0] 58
    rwa [show (w.alloc (.cells #[.int .i64 2, .int .i64 4, .int .i64 0, .slice (some ⟨w.heap.size + 1 + 1, 0, none⟩) 1 1] 24)).heap.size = w.heap.size + 1 from by simp] at this
  have h2 : HeapIs (((w.alloc (.cells #[.int .i64 2, .int .i64 4, .int .i64 0, .slice (some ⟨w.heap.size + 1 + 1, 0, none⟩) 1 1] 24)).alloc (.cells #[.int .i64 2, .int .i64 0, .int .i64 0, .int .i64 0, .int .i64 1, .int .i64 0, .int .i32 0, .slice none 0 0, .int .i64 0, .int .i64 6, .int .i64 0, .int .i64 0, .int .i64 0, .int .i64 1, .int .i64 0, .int .i32 0, .slice none 0 0, .int .i64 0] 58)).alloc (.cells #[.slice (some ⟨w.heap.size + 1, 0, none⟩) 2 2, .int .i64 7, .int .i64 0, .int .i64 0, .slice none 0 0, .int .i32 0] 56)) (w.heap.size + 1 + 1) #[.slice (some ⟨w.heap.size + 1, 0, none⟩) 2 2, .int .i64 7, .int .i64 0, .int .i64 0, .slice none 0 0, .int .i32 0] 56 := by
    have := HeapIs.new ((w.alloc (.cells #[.int .i64 2, .int .i64 4, .int .i64 0, .slice (some ⟨w.heap.size + 1 + 1, 0, none⟩) 1 1] 24)).alloc (.cells #[.int .i64 2, .int .i64 0, .int .i64 0, .int .i64 0, .int .i64 1, .int .i64 0, .int .i32 0, .slice none 0 0, .int .i64 0, .int .i64 6, .int .i64 0, .int .i64 0, .int .i64 0, .int .i64 1, .int .i64 0, .int .i32 0, .slice none 0 0, .int .i64 0] 58)) #[.slice (some ⟨w.heap.size + 1, 0, none⟩) 2 2, .int .i64 7, .int .i64 0, .int .i64 0, .slice none 0 0, .int .i32 0] 56
    rwa [show ((w.alloc (.cells #[.int .i64 2, .int .i64 4, .int .i64 0, .slice (some ⟨w.heap.size + 1 + 1, 0, none⟩) 1 1] 24)).alloc (.cells #[.int .i64 2, .int .i64 0, .int .i64 0, .int .i64 0, .int .i64 1, .int .i64 0, .int .i32 0, .slice none 0 0, .int .i64 0, .int .i64 6, .int .i64 0, .int .i64 0, .int .i64 0, .int .i64 1, .int .i64 0, .int .i32 0, .slice none 0 0, .int .i64 0] 58)).heap.size = w.heap.size + 1 + 1 from by simp] at this
  have hs : Since w (((w.alloc (.cells #[.int .i64 2, .int .i64 4, .int .i64 0, .slice (some ⟨w.heap.size + 1 + 1, 0, none⟩) 1 1] 24)).alloc (.cells #[.int .i64 2, .int .i64 0, .int .i64 0, .int .i64 0, .int .i64 1, .int .i64 0, .int .i32 0, .slice none 0 0, .int .i64 0, .int .i64 6, .int .i64 0, .int .i64 0, .int .i64 0, .int .i64 1, .int .i64 0, .int .i32 0, .slice none 0 0, .int .i64 0] 58)).alloc (.cells #[.slice (some ⟨w.heap.size + 1, 0, none⟩) 2 2, .int .i64 7, .int .i64 0, .int .i64 0, .slice none 0 0, .int .i32 0] 56)) := (((Since.refl w).alloc _).alloc _).alloc _
  have hP : PrgOk (((w.alloc (.cells #[.int .i64 2, .int .i64 4, .int .i64 0, .slice (some ⟨w.heap.size + 1 + 1, 0, none⟩) 1 1] 24)).alloc (.cells #[.int .i64 2, .int .i64 0, .int .i64 0, .int .i64 0, .int .i64 1, .int .i64 0, .int .i32 0, .slice none 0 0, .int .i64 0, .int .i64 6, .int .i64 0, .int .i64 0, .int .i64 0, .int .i64 1, .int .i64 0, .int .i32 0, .slice none 0 0, .int .i64 0] 58)).alloc (.cells #[.slice (some ⟨w.heap.size + 1, 0, none⟩) 2 2, .int .i64 7, .int .i64 0, .int .i64 0, .slice none 0 0, .int .i32 0] 56)) (swapP (.slice (some ⟨w.heap.size + 1, 0, none⟩) 2 2) (.slice (some ⟨w.heap.size + 1 + 1, 0, none⟩) 1 1)) := by
    refine ⟨row_new (l := (swapP (.slice (some ⟨w.heap.size + 1, 0, none⟩) 2 2) (.slice (some ⟨w.heap.size + 1 + 1, 0, none⟩) 1 1)).blocks) blcells_len (T := 56) h2 (show 1 ≤ maxLen by decide) fun b hb => ?_, show 1 ≤ 100000 by decide⟩
    obtain rfl := List.mem_singleton.1 hb
    refine ⟨row_new (l := [⟨⟨2, 0, 0, 0, 1, 0, 0, []⟩, .slice none 0 0, 0⟩, ⟨⟨6, 0, 0, 0, 1, 0, 0, []⟩, .slice none 0 0, 0⟩]) plcells_len (T := 58) (h1.keep ((Since.refl _).alloc _)) (by decide) fun x hx => ?_, .nil _ _, show 2 ≤ 100000 by decide⟩
    simp only [List.mem_cons, List.not_mem_nil, or_false] at hx
    rcases hx with rfl | rfl
    · exact ⟨.nil _ _, ⟨by decide, by decide, by decide⟩, fun q (hq : none = some q) => (nomatch hq)⟩
    · exact ⟨.nil _ _, ⟨by decide, by decide, by decide⟩, fun q (hq : none = some q) => (nomatch hq)⟩
  exact bodyPost_ret (v := pv (swapP (.slice (some ⟨w.heap.size + 1, 0, none⟩) 2 2) (.slice (some ⟨w.heap.size + 1 + 1, 0, none⟩) 1 1))) (by simp [results, Try.results39, go_sem, pv, swapP]) rfl ⟨_, _, rfl, hP, hs, _, rfl⟩

set_option maxHeartbeats 1000000 in
set_option maxRecDepth 100000 in
theorem nums_same (va vb : Value) (l : List Int) (w : World) (ha : Ints w va l) (hb : Ints w vb l) (hl : l.length ≤ 1000) : Calls Try.prog 41 #[va, vb] w (TellsS true w) := by
  obtain ⟨aa, ac, rfl⟩ := nums_lenI ha
  obtain ⟨ba, bc, rfl⟩ := nums_lenI hb
  have HA := Lib.hid ha; clear ha
  have HB := Lib.hid hb; clear hb
  generalize hn : l.length = n at *
  have HN := Lib.hid hn; clear hn
  go_enter Try.func41, Try.ntmps41
  go_wp2
  go_loopw [5] (fun i wr => ∃ k : Nat, k ≤ n ∧ i = .int .i64 k ∧ Since w wr) (fun i _ => n - (intOf i).toNat)
  case atStart => exact ⟨0, Nat.zero_le _, rfl, Since.refl _⟩
  case round =>
    obtain ⟨k, hk, rfl, hs⟩ := hrel
    have HS := Lib.hid hs
    by_cases hlt : k < n
    · have hne : l ≠ [] := by intro e; have := HN.out; rw [e] at this; simp at this; omega
      obtain ⟨_, h1⟩ := nums_cell (HN.out ▸ HA.out.keep hs)
      obtain ⟨B, off, rfl, hB, hcell⟩ := h1 hne
      obtain ⟨_, h2⟩ := nums_cell (HN.out ▸ HB.out.keep hs)
      obtain ⟨B2, off2, rfl, hB2, hcell2⟩ := h2 hne
      obtain ⟨x, hx⟩ : ∃ x, l[k]? = some x := ⟨_, List.getElem?_eq_getElem (by have := HN.out; omega)⟩
      have c1 := hcell k x hx
      have c2 := hcell2 k x hx
      have hxx : (x != x) = false := by simp
      clear hcell hcell2 h1 h2 hs hB hB2 hx
      go_wp2_with fail
      go_quiet (fail)
      go_wp2
      go_roundw
      case rel => exact ⟨k + 1, by omega, by go_num, HS.out.trans (Since.drewN (Since.refl _) _)⟩
      case measure => simp [intOf]; omega
    · obtain rfl : k = n := by omega
      go_wp2
      go_ret
      exact ⟨rfl, HS.out⟩
end Go.Proofs.Ytkpbmbhejpmboaa
