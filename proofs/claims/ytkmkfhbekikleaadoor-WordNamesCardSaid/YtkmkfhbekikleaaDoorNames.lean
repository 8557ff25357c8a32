/- The operations' names: word.Name, word.Number, and the document's. -/
import Derived.Test.YtkmkfhbekikleaaDoorText
import Derived.Test.YtkmkfhbekikleaaDoorRegion
namespace Go.Proofs.YtkmkfhbekikleaaDoor
open Go.RowKit
set_option linter.unusedVariables false

def opNames : List ByteArray := [⟨#[99, 111, 110, 115, 116]⟩, ⟨#[97, 100, 100]⟩, ⟨#[115, 117, 98]⟩, ⟨#[109, 117, 108]⟩, ⟨#[97, 110, 100]⟩, ⟨#[111, 114]⟩, ⟨#[120, 111, 114]⟩, ⟨#[115, 104, 108]⟩, ⟨#[115, 104, 114]⟩, ⟨#[115, 97, 114]⟩, ⟨#[101, 113]⟩, ⟨#[108, 116]⟩, ⟨#[108, 116, 117]⟩, ⟨#[100, 105, 118]⟩, ⟨#[108, 111, 97, 100]⟩, ⟨#[115, 116, 111, 114, 101]⟩, ⟨#[99, 97, 108, 108]⟩, ⟨#[109, 117, 108, 119]⟩]
def namesText : ByteArray := ⟨#[99, 111, 110, 115, 116, 32, 97, 100, 100, 32, 115, 117, 98, 32, 109, 117, 108, 32, 97, 110, 100, 32, 111, 114, 32, 120, 111, 114, 32, 115, 104, 108, 32, 115, 104, 114, 32, 115, 97, 114, 32, 101, 113, 32, 108, 116, 32, 108, 116, 117, 32, 100, 105, 118, 32, 108, 111, 97, 100, 32, 115, 116, 111, 114, 101, 32, 99, 97, 108, 108, 32, 109, 117, 108, 119]⟩
theorem fields_names0 : Lib.fields namesText.data.toList = opNames.map fun s => s.data.toList := by decide +kernel
theorem fields_names : ((Lib.fields namesText.data.toList).map fun l => Value.string ⟨l.toArray⟩) = opNames.map Value.string := by
  rw [fields_names0, List.map_map]
  refine List.map_congr_left fun s _ => ?_
  obtain ⟨⟨l⟩⟩ := s
  rfl
theorem names_ascii : ∀ (j : Nat) b, namesText.data.toList[j]? = some b → b.toNat < 128 := by
  have h : namesText.data.toList.all (fun b => decide (b.toNat < 128)) = true := by decide +kernel
  intro j b hb
  have := List.all_eq_true.1 h b (List.mem_of_getElem? hb)
  simpa using this
/-- The n-th name, from 1 on. -/
def nameF (op : Int) : ByteArray := if op < 1 ∨ 18 < op then ByteArray.empty else opNames.getD (op - 1).toNat ByteArray.empty
def numberF (s : ByteArray) : Int := 1 + Lib.idxOfS opNames s
/-- What lies in the block of names. -/
def NamesAt (w : World) (b : Nat) : Prop := b < w.heap.size ∧ ∀ j, j < 18 → w.cell? ⟨b, 0 + j, none⟩ = some (.string (opNames.getD j ByteArray.empty))
theorem names_block (w : World) (T : TypeId) : NamesAt (w.alloc (.cells (opNames.map Value.string).toArray T)) w.heap.size := by
  refine ⟨by simp, fun j hj => ?_⟩
  have h : (opNames.map Value.string)[j]? = some (.string (opNames.getD j ByteArray.empty)) := by
    have hl : j < opNames.length := hj
    rw [List.getElem?_map, List.getElem?_eq_getElem hl, List.getD_eq_getElem?_getD, List.getElem?_eq_getElem hl]
    rfl
  simp only [World.cell?, heap_last, Nat.zero_add]
  simpa using h
/-- The names, by the library. -/
def NamesQ (w : World) (e : Ending) (w' : World) : Prop := e = .returned (.slice (some ⟨w.heap.size, 0, none⟩) 18 18) ∧ NamesAt w' w.heap.size ∧ Below w.heap.size w w'
theorem fields_any (w : World) (htab : Lib.TabIs Tryd.prog w "strings.asciiSpace" .u8 Lib.asciiSpaceTab) : Calls Tryd.prog 18 #[.string namesText] w (NamesQ w) := by
  refine (Tryd.strings_Fields namesText w (by decide +kernel) names_ascii htab).mono ?_
  rintro e w' ⟨rfl, rfl⟩
  have hl : (Lib.fields namesText.data.toList).length = 18 := by decide +kernel
  rw [hl, fields_names]
  exact ⟨rfl, names_block w _, (Below.refl _ _).alloc (Nat.le_refl _) _⟩
theorem rnames_any (w : World) : Calls Tryd.prog 19 #[] w (NamesQ w) := by
  go_enter Tryd.func19, Tryd.ntmps19
  go_wp2
  go_ret
  exact ⟨rfl, names_block w _, (Below.refl _ _).alloc (Nat.le_refl _) _⟩
def StrQ (s : ByteArray) (w : World) (e : Ending) (w' : World) : Prop := e = .returned (.string s) ∧ Below w.heap.size w w'

set_option maxHeartbeats 1000000 in
set_option maxRecDepth 100000 in
theorem name_any (op : Int) (w : World) (ho : -9223372036854775808 ≤ op ∧ op ≤ 9223372036854775807) (htab : Lib.TabIs Tryd.prog w "strings.asciiSpace" .u8 Lib.asciiSpaceTab) :
    Calls Tryd.prog 8 #[.int .i64 op] w (StrQ (nameF op) w) := by
  have hf := fields_any w htab
  obtain ⟨y, hy⟩ : ∃ y, nameF op = y := ⟨_, rfl⟩
  have HF := Lib.hid hf
  have HY := Lib.hid hy
  rw [hy]
  clear hf hy htab
  by_cases h1 : op < 1
  · obtain rfl : ByteArray.empty = y := by rw [← HY.out]; unfold nameF; rw [if_pos (.inl h1)]
    go_enter Tryd.func8, Tryd.ntmps8
    go_wp2_with fail
    refine HF.out.mono ?_
    rintro e w1 ⟨rfl, hn, hb⟩
    have HB := Lib.hid hb
    clear hn hb
    go_wp2
    go_ret
    exact ⟨rfl, HB.out⟩
  · by_cases h2 : 18 < op
    · obtain rfl : ByteArray.empty = y := by rw [← HY.out]; unfold nameF; rw [if_pos (.inr h2)]
      go_enter Tryd.func8, Tryd.ntmps8
      go_wp2_with fail
      refine HF.out.mono ?_
      rintro e w1 ⟨rfl, hn, hb⟩
      have HB := Lib.hid hb
      clear hn hb
      go_wp2
      go_ret
      exact ⟨rfl, HB.out⟩
    · obtain ⟨k, rfl⟩ : ∃ k : Nat, op = (k : Int) + 1 := ⟨(op - 1).toNat, by omega⟩
      have hk : k < 18 := by omega
      have he : nameF ((k : Int) + 1) = opNames.getD k ByteArray.empty := by unfold nameF; rw [if_neg (by omega), show ((k : Int) + 1 - 1).toNat = k from by omega]
      rw [he] at HY
      clear he
      go_enter Tryd.func8, Tryd.ntmps8
      go_wp2_with fail
      refine HF.out.mono ?_
      rintro e w1 ⟨rfl, hn, hb⟩
      have hc : w1.cell? ⟨w.heap.size, 0 + k, none⟩ = some (.string y) := by rw [← HY.out]; exact hn.2 k hk
      rw [Nat.zero_add] at hc
      have hl := hn.1
      have HB := Lib.hid hb
      clear hn hb
      go_wp2
      go_ret
      exact ⟨rfl, HB.out⟩
end Go.Proofs.YtkmkfhbekikleaaDoor
