/- jacquardlaw25.TextTables, of all values that may come in. -/
import Derived.Test.YtmhojfpidedjeaaDoorTxTables
import Derived.Test.YtmhojfpidedjeaaDoorTxCardD
namespace Go.Proofs.YtmhojfpidedjeaaDoor
open Go.RowKit Go.ChangeShapes Go.WideShapes
set_option linter.unusedVariables false
set_option maxRecDepth 100000 in
theorem law_tables {H : Type} {enc : TypeId × Value → H} {W : World} {base : Nat} {held : Bool} {r : Reach} {b0 : Nat} {d0 d1 : DataW H} {p0 p1 : List MemPlace} (v0 v1 : Value)
    (k0 : Value.okWide Tryd.prog W r b0 32 v0) (h0 : DataW.Trod enc Tryd.prog W base (fun _ => true) held 32 v0 d0 p0)
    (k1 : Value.okWide Tryd.prog W r b0 33 v1) (h1 : DataW.Trod enc Tryd.prog W base (fun _ => true) held 33 v1 d1 p1) (hL : LaidT W) :
    Calls Tryd.prog 4 #[v0, v1] W fun e w' => e = .returned (.bool true) ∧ Below W.heap.size W w' := by
  obtain ⟨l, hl⟩ := tiles_open k0 h0
  obtain ⟨a, len, cap, rfl⟩ := okWide_slice Tryd.underlying33 k1
  obtain ⟨fuel, hf⟩ := h1
  obtain ⟨ns, hn, _⟩ := ints_trod (by simpa [Value.cells] using hf)
  exact walk_tables v0 _ l ns W hl hn hL
end Go.Proofs.YtmhojfpidedjeaaDoor
