/- jacquardlaw12.PhysCalls, of whatever values came in. -/
import Derived.Test.YtkpbmbhejpmboaaWalkCalls
import Derived.Test.YtkpbmbhejpmboaaOpen
namespace Go.Proofs.Ytkpbmbhejpmboaa
open Go.RowKit Go.ChangeShapes Go.WideShapes
set_option linter.unusedVariables false

theorem wf_32 {n : Int} (h : (Lit.int .i32 n).wf = true) : In32 n := by
  have e : IntKind.i32.min = -2147483648 := by decide
  have e2 : IntKind.i32.max = 2147483647 := by decide
  simp only [Lit.wf, Bool.and_eq_true, decide_eq_true_eq, e, e2] at h
  exact h
set_option maxRecDepth 100000 in
theorem words_open {H : Type} {enc : TypeId × Value → H} {w : World} {base : Nat} {held : Bool} {v : Value} {d : DataW H} {p : List MemPlace} {r : Reach} {b0 : Nat} (hv : Value.okWide Try.prog w r b0 34 v)
    (h : DataW.Trod enc Try.prog w base (fun _ => true) held 34 v d p) : ∃ l : List Int, Nums .i32 w v l ∧ ∀ n ∈ l, In32 n := by
  obtain ⟨a, len, cap, rfl⟩ := okWide_slice Try.underlying34 hv
  obtain ⟨fuel, hf⟩ := h
  obtain ⟨l, h1, h2⟩ := nums_trod Try.underlying34 Try.underlying21 Try.cellsInt32 (by simpa [Value.cells] using hf)
  exact ⟨l, h1, fun n hn => wf_32 (h2 n hn)⟩
set_option maxRecDepth 100000 in
theorem law_calls {H : Type} {enc : TypeId × Value → H} {W : World} {base : Nat} {held : Bool} {r r2 : Reach} {b0 b2 : Nat} {d d2 : DataW H} {p p2 : List MemPlace} (n : Int) (v0 v1 : Value) (hn : (Lit.int .i64 n).wf = true)
    (k0 : Value.okWide Try.prog W r b0 34 v0) (h0 : DataW.Trod enc Try.prog W base (fun _ => true) held 34 v0 d p)
    (k1 : Value.okWide Try.prog W r2 b2 34 v1) (h1 : DataW.Trod enc Try.prog W base (fun _ => true) held 34 v1 d2 p2) :
    Calls Try.prog 5 #[.int .i64 n, v0, v1] W (TellsS true W) := by
  obtain ⟨l0, h0', w0⟩ := words_open k0 h0
  obtain ⟨l1, h1', w1⟩ := words_open k1 h1
  exact walk_calls n v0 v1 l0 l1 W h0' h1' w0 w1
end Go.Proofs.Ytkpbmbhejpmboaa
