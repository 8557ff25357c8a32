/- A row of numbers that came in. -/
import Derived.Test.YtkpbmbhejpmboaaOpen
namespace Go.Proofs.Ytkpbmbhejpmboaa
open Go.RowKit Go.ChangeShapes Go.WideShapes
set_option linter.unusedVariables false

set_option maxRecDepth 100000 in
theorem ints_open {H : Type} {enc : TypeId × Value → H} {w : World} {base : Nat} {held : Bool} {v : Value} {d : DataW H} {p : List MemPlace} {r : Reach} {b0 : Nat} (hv : Value.okWide Try.prog w r b0 25 v)
    (h : DataW.Trod enc Try.prog w base (fun _ => true) held 25 v d p) : ∃ l : List Int, Ints w v l ∧ ∀ n ∈ l, (Lit.int .i64 n).wf = true := by
  obtain ⟨a, len, cap, rfl⟩ := okWide_slice Try.underlying25 hv
  obtain ⟨fuel, hf⟩ := h
  exact nums_trod Try.underlying25 Try.underlying3 Try.cellsInt (by simpa [Value.cells] using hf)
end Go.Proofs.Ytkpbmbhejpmboaa
