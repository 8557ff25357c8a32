/- jacquardlaw12.PhysBounds, of all values that may come in. -/
import Derived.Test.YtkpbmbhejpmboaaWalkBounds
import Derived.Test.YtkpbmbhejpmboaaOpen
import Derived.OpenShut
namespace Go.Proofs.Ytkpbmbhejpmboaa
open Go.RowKit Go.ChangeShapes Go.WideShapes
set_option linter.unusedVariables false

theorem list3 {α : Type} {l : List α} (h : l.length = 3) : ∃ a b c, l = [a, b, c] := by
  match l, h with
  | [a, b, c], _ => exact ⟨a, b, c, rfl⟩
theorem Try.cells3 : Try.prog.cellsOf 63 = 3 := by kernel_rfl
set_option maxRecDepth 100000 in
/-- An array of three numbers that came in. -/
theorem three_open {H : Type} {enc : TypeId × Value → H} {w : World} {base : Nat} {held : Bool} {r : Reach} {b0 : Nat} {v : Value} {d : DataW H} {p : List MemPlace} (hv : Value.okWide Try.prog w r b0 63 v)
    (h : DataW.Trod enc Try.prog w base (fun _ => true) held 63 v d p) : ∃ x0 x1 x2 : Int, v = .agg #[.int .i64 x0, .int .i64 x1, .int .i64 x2] := by
  have hv' := hv
  simp only [Value.okWide, Try.underlying63] at hv'
  obtain ⟨cs, rfl, hsz, _⟩ := hv'
  obtain ⟨fuel, hf⟩ := h
  obtain ⟨xs, m, _, _, hlen, hxs, hel⟩ := DataW.trod_array Try.underlying63 hf
  rw [Try.cells3] at hlen
  obtain ⟨c0, c1, c2, hc⟩ := list3 hlen
  have h0 := hel 0 (by decide)
  have h1 := hel 1 (by decide)
  have h2 := hel 2 (by decide)
  rw [Try.cellsInt, hc] at h0 h1 h2
  simp only [Nat.mul_one, List.drop_succ_cons, List.drop_zero, List.take_succ_cons, List.take_zero] at h0 h1 h2
  obtain ⟨n0, rfl, _⟩ := int_field Try.underlying3 h0 (by simp [hxs])
  obtain ⟨n1, rfl, _⟩ := int_field Try.underlying3 h1 (by simp [hxs])
  obtain ⟨n2, rfl, _⟩ := int_field Try.underlying3 h2 (by simp [hxs])
  refine ⟨n0, n1, n2, ?_⟩
  have : cs = #[.int .i64 n0, .int .i64 n1, .int .i64 n2] := by
    apply Array.ext'
    simpa [Value.cells] using hc
  rw [this]
set_option maxRecDepth 100000 in
theorem law_bounds {H : Type} {enc : TypeId × Value → H} {W : World} {base : Nat} {held : Bool} {r : Reach} {b0 : Nat} {d : DataW H} {p : List MemPlace} (k slots : Int) (v0 : Value) (hk : (Lit.int .i64 k).wf = true) (hs : (Lit.int .i64 slots).wf = true)
    (k0 : Value.okWide Try.prog W r b0 63 v0) (h0 : DataW.Trod enc Try.prog W base (fun _ => true) held 63 v0 d p) :
    Calls Try.prog 6 #[.int .i64 k, .int .i64 slots, v0] W (TellsS true W) := by
  obtain ⟨x0, x1, x2, rfl⟩ := three_open k0 h0
  exact walk_bounds k slots x0 x1 x2 W
end Go.Proofs.Ytkpbmbhejpmboaa
