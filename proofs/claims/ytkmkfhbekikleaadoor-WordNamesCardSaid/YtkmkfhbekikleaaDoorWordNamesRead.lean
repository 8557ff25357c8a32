/- How the library's variables read in WordNames' row; the walk of all inputs. -/
import Derived.Test.YtkmkfhbekikleaaDoorWalkNames
import Derived.Test.YtkmkfhbekikleaaDoorWordTextsRead
namespace Go.Proofs.YtkmkfhbekikleaaDoor
open Go.RowKit
set_option linter.unusedVariables false

structure LaidN (w : World) : Prop where
  base : LaidS w
  space : Lib.TabIs Tryd.prog w "strings.asciiSpace" .u8 Lib.asciiSpaceTab
theorem gSpace : Tryd.prog.globalNamed "strings.asciiSpace" = some 0 := by kernel_rfl
theorem gSpaceT : (Tryd.prog.globals[(0 : Nat)]?).map (·.type) = some 48 := by kernel_rfl
theorem spaceData : (Rows.laid_strings_asciiSpace : DataW Unit) = Lib.tabData .u8 Lib.asciiSpaceTab := by kernel_rfl
theorem tab_space {W : World} {r : List (String × DataW Unit)} (h : laidMet Tryd.prog (("strings.asciiSpace", Rows.laid_strings_asciiSpace) :: r) W) : Lib.TabIs Tryd.prog W "strings.asciiSpace" .u8 Lib.asciiSpaceTab := by
  rw [spaceData] at h
  exact Lib.tabIs_of_head gSpace gSpaceT Tryd.underlying48 Tryd.underlying5 (by kernel_rfl) (by kernel_rfl) h
theorem laidN_of {W : World} (hL : laidMet Tryd.prog Rows.wordNamesRow.laid W) : LaidN W := by
  have h2 := laidMet.tail (laidMet.tail hL)
  have h3 := laidMet.tail h2
  have h4 := laidMet.tail h3
  exact ⟨⟨tab_pow h2, err_syn h4, err_ran h3⟩, tab_space (laidMet.tail (laidMet.tail h4))⟩
theorem law_names (op : Int) (s : ByteArray) (n : Int) (wo : (Lit.int .i64 op).wf = true) (ws : s.size ≤ maxLen) (wn : (Lit.int .i32 n).wf = true) (w : World) (hL : LaidN w) :
    Calls Tryd.prog 4 #[.int .i64 op, .string s, .int .i32 n] w (AllTrue w) := walk_names op s n wo ws wn w hL.base hL.space
end Go.Proofs.YtkmkfhbekikleaaDoor
