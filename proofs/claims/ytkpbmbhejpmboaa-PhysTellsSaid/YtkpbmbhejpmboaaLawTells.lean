/- How a program that came in is read. jacquardlaw12.PhysTells, of all values that may come in. -/
import Derived.Test.YtkpbmbhejpmboaaFew
import Derived.Test.YtkpbmbhejpmboaaOpen
import Derived.OpenShut
import Derived.Test.YtkpbmbhejpmboaaWalkTells
namespace Go.Proofs.Ytkpbmbhejpmboaa
open Go.RowKit Go.ChangeShapes Go.WideShapes
set_option linter.unusedVariables false

theorem Try.cellsPlaced : Try.prog.cellsOf 58 = 9 := by kernel_rfl
theorem Try.cellsEnd : Try.prog.cellsOf 53 = 5 := by kernel_rfl
theorem Try.cellsPBlock : Try.prog.cellsOf 56 = 6 := by kernel_rfl
theorem Try.cellsPFunc : Try.prog.cellsOf 24 = 4 := by kernel_rfl
theorem Try.cellsPlaceds : Try.prog.cellsOf 54 = 1 := by kernel_rfl
theorem Try.cellsPBlocks : Try.prog.cellsOf 22 = 1 := by kernel_rfl
instance : Inhabited PlV := ⟨⟨⟨0, 0, 0, 0, 0, 0, 0, []⟩, .slice none 0 0, 0⟩⟩
instance : Inhabited BlkV := ⟨⟨[], .slice none 0 0, ⟨0, 0, 0, [], .slice none 0 0, 0⟩⟩⟩
theorem list4 {α : Type} {l : List α} (h : l.length = 4) : ∃ a b c d, l = [a, b, c, d] := by
  match l, h with
  | [a, b, c, d], _ => exact ⟨a, b, c, d, rfl⟩
theorem list5 {α : Type} {l : List α} (h : l.length = 5) : ∃ a b c d e, l = [a, b, c, d, e] := by
  match l, h with
  | [a, b, c, d, e], _ => exact ⟨a, b, c, d, e, rfl⟩
theorem list6 {α : Type} {l : List α} (h : l.length = 6) : ∃ a b c d e f, l = [a, b, c, d, e, f] := by
  match l, h with
  | [a, b, c, d, e, f], _ => exact ⟨a, b, c, d, e, f, rfl⟩
theorem list9 {α : Type} {l : List α} (h : l.length = 9) : ∃ a b c d e f g i j, l = [a, b, c, d, e, f, g, i, j] := by
  match l, h with
  | [a, b, c, d, e, f, g, i, j], _ => exact ⟨a, b, c, d, e, f, g, i, j, rfl⟩
section
variable {H : Type} {enc : TypeId × Value → H} {w : World} {base : Nat} {held : Bool}

set_option maxRecDepth 100000 in
theorem placed_trod {fuel : Nat} {cs : List Value} {x : DataW H × List MemPlace} (h : DataW.trod enc Try.prog w base (fun _ => true) held fuel 58 cs = some x) : ∃ p : PlV, cs = plcells p ∧ PlIn w p := by
  obtain ⟨xs, n, _, _, hlen, hxs, hf⟩ := DataW.trod_struct Try.underlying58 h
  rw [Try.cellsPlaced] at hlen
  obtain ⟨c0, c1, c2, c3, c4, c5, c6, c7, c8, rfl⟩ := list9 hlen
  have h0 := fld hf 0 46 0 8 rfl Try.cellsMach
  have h1 := fld hf 1 3 8 1 rfl Try.cellsInt
  have hsz : xs.length = 2 := by simpa using hxs
  simp only [List.drop_succ_cons, List.drop_zero, List.take_succ_cons, List.take_zero] at h0 h1
  obtain ⟨n1, rfl, _⟩ := int_field Try.underlying3 h1 (by simp [hsz])
  obtain ⟨y, hy⟩ := Option.isSome_iff_exists.1 (show (xs[0]?).isSome = true by simp [hsz])
  rw [hy] at h0
  obtain ⟨m, av, h3, h4, h5⟩ := mach_trod h0
  simp only [List.cons.injEq, and_true] at h3
  obtain ⟨rfl, rfl, rfl, rfl, rfl, rfl, rfl, rfl⟩ := h3
  exact ⟨⟨m, c7, n1⟩, rfl, h4, imm_bounds h5⟩
set_option maxRecDepth 100000 in
theorem end_trod {fuel : Nat} {cs : List Value} {x : DataW H × List MemPlace} (h : DataW.trod enc Try.prog w base (fun _ => true) held fuel 53 cs = some x) : ∃ e : EndV, cs = [.int .i64 e.op, .int .i64 e.a, .int .i64 e.b, e.tov, .int .i32 e.imm] ∧ Ints w e.tov e.to := by
  obtain ⟨xs, n, _, _, hlen, hxs, hf⟩ := DataW.trod_struct Try.underlying53 h
  rw [Try.cellsEnd] at hlen
  obtain ⟨c0, c1, c2, c3, c4, rfl⟩ := list5 hlen
  have h0 := fld hf 0 3 0 1 rfl Try.cellsInt
  have h1 := fld hf 1 3 1 1 rfl Try.cellsInt
  have h2 := fld hf 2 3 2 1 rfl Try.cellsInt
  have h3 := fld hf 3 25 3 1 rfl Try.cellsInts
  have h4 := fld hf 4 21 4 1 rfl Try.cellsInt32
  have hsz : xs.length = 5 := by simpa using hxs
  simp only [List.drop_succ_cons, List.drop_zero, List.take_succ_cons, List.take_zero] at h0 h1 h2 h3 h4
  obtain ⟨n0, rfl, _⟩ := int_field Try.underlying3 h0 (by simp [hsz])
  obtain ⟨n1, rfl, _⟩ := int_field Try.underlying3 h1 (by simp [hsz])
  obtain ⟨n2, rfl, _⟩ := int_field Try.underlying3 h2 (by simp [hsz])
  obtain ⟨n4, rfl, _⟩ := int_field Try.underlying21 h4 (by simp [hsz])
  obtain ⟨y, hy⟩ := Option.isSome_iff_exists.1 (show (xs[3]?).isSome = true by simp [hsz])
  rw [hy] at h3
  obtain ⟨l, hl, _⟩ := nums_trod Try.underlying25 Try.underlying3 Try.cellsInt h3
  exact ⟨⟨n0, n1, n2, l, c3, n4⟩, rfl, hl⟩
set_option maxRecDepth 100000 in
theorem block_trod {fuel : Nat} {cs : List Value} {x : DataW H × List MemPlace} (h : DataW.trod enc Try.prog w base (fun _ => true) held fuel 56 cs = some x) : ∃ b : BlkV, cs = blcells b ∧ BlkIn w b := by
  obtain ⟨xs, n, _, _, hlen, hxs, hf⟩ := DataW.trod_struct Try.underlying56 h
  rw [Try.cellsPBlock] at hlen
  obtain ⟨c0, c1, c2, c3, c4, c5, rfl⟩ := list6 hlen
  have h0 := fld hf 0 54 0 1 rfl Try.cellsPlaceds
  have h1 := fld hf 1 53 1 5 rfl Try.cellsEnd
  have hsz : xs.length = 2 := by simpa using hxs
  simp only [List.drop_succ_cons, List.drop_zero, List.take_succ_cons, List.take_zero] at h0 h1
  obtain ⟨y0, hy0⟩ := Option.isSome_iff_exists.1 (show (xs[0]?).isSome = true by simp [hsz])
  obtain ⟨y1, hy1⟩ := Option.isSome_iff_exists.1 (show (xs[1]?).isSome = true by simp [hsz])
  rw [hy0] at h0
  rw [hy1] at h1
  obtain ⟨l, hl⟩ := row_trod Try.underlying54 Try.cellsPlaced (by decide) plcells_len (fun fuel cs y hy => placed_trod hy) h0
  obtain ⟨e, he, hto⟩ := end_trod h1
  simp only [List.cons.injEq, and_true] at he
  obtain ⟨rfl, rfl, rfl, rfl, rfl⟩ := he
  exact ⟨⟨l, c0, e⟩, rfl, hl, hto⟩
set_option maxRecDepth 100000 in
/-- A program by value. -/
theorem prg_open {r : Reach} {b0 : Nat} {v : Value} {d : DataW H} {p : List MemPlace} (hv : Value.okWide Try.prog w r b0 24 v) (h : DataW.Trod enc Try.prog w base (fun _ => true) held 24 v d p) : ∃ p : PrgV, v = pv p ∧ PrgIn w p := by
  obtain ⟨cs, rfl, hsz⟩ := okWide_struct Try.underlying24 hv
  obtain ⟨fuel, hf⟩ := h
  obtain ⟨xs, n, _, _, hlen, hxs, hf⟩ := DataW.trod_struct Try.underlying24 hf
  rw [Try.cellsPFunc] at hlen
  obtain ⟨c0, c1, c2, c3, hc⟩ := list4 hlen
  rw [hc] at hf
  have h0 := fld hf 0 3 0 1 rfl Try.cellsInt
  have h1 := fld hf 1 3 1 1 rfl Try.cellsInt
  have h2 := fld hf 2 3 2 1 rfl Try.cellsInt
  have h3 := fld hf 3 22 3 1 rfl Try.cellsPBlocks
  have hsz : xs.length = 4 := by simpa using hxs
  simp only [List.drop_succ_cons, List.drop_zero, List.take_succ_cons, List.take_zero] at h0 h1 h2 h3
  obtain ⟨n0, rfl, _⟩ := int_field Try.underlying3 h0 (by simp [hsz])
  obtain ⟨n1, rfl, _⟩ := int_field Try.underlying3 h1 (by simp [hsz])
  obtain ⟨n2, rfl, _⟩ := int_field Try.underlying3 h2 (by simp [hsz])
  obtain ⟨y, hy⟩ := Option.isSome_iff_exists.1 (show (xs[3]?).isSome = true by simp [hsz])
  rw [hy] at h3
  obtain ⟨l, hl⟩ := row_trod Try.underlying22 Try.cellsPBlock (by decide) blcells_len (fun fuel cs y hy => block_trod hy) h3
  refine ⟨⟨n0, n1, n2, l, c3⟩, ?_, hl⟩
  have : cs = #[.int .i64 n0, .int .i64 n1, .int .i64 n2, c3] := by
    apply Array.ext'
    simpa [Value.cells] using hc
  rw [this]; rfl
set_option maxRecDepth 100000 in
theorem numbers_open {r : Reach} {b0 : Nat} {v : Value} {d : DataW H} {p : List MemPlace} (hv : Value.okWide Try.prog w r b0 25 v) (h : DataW.Trod enc Try.prog w base (fun _ => true) held 25 v d p) : ∃ l : List Int, Ints w v l := by
  obtain ⟨a, len, cap, rfl⟩ := okWide_slice Try.underlying25 hv
  obtain ⟨fuel, hf⟩ := h
  obtain ⟨l, hl, _⟩ := nums_trod Try.underlying25 Try.underlying3 Try.cellsInt (by simpa [Value.cells] using hf)
  exact ⟨l, hl⟩
end
end Go.Proofs.Ytkpbmbhejpmboaa

namespace Go.Proofs.Ytkpbmbhejpmboaa
open Go.RowKit Go.ChangeShapes Go.WideShapes
set_option linter.unusedVariables false

set_option maxRecDepth 100000 in
theorem law_tells {H : Type} {enc : TypeId × Value → H} {W : World} {base : Nat} {held : Bool} {r : Reach} {b0 : Nat} {d0 d1 : DataW H} {p0 p1 : List MemPlace} (v0 v1 : Value)
    (k0 : Value.okWide Try.prog W r b0 24 v0) (h0 : DataW.Trod enc Try.prog W base (fun _ => true) held 24 v0 d0 p0)
    (k1 : Value.okWide Try.prog W r b0 25 v1) (h1 : DataW.Trod enc Try.prog W base (fun _ => true) held 25 v1 d1 p1) :
    Calls Try.prog 3 #[v0, v1] W (TellsS true W) := by
  obtain ⟨p, rfl, hp⟩ := prg_open k0 h0
  obtain ⟨l, hl⟩ := numbers_open k1 h1
  exact walk_tells p v1 l W hp hl
end Go.Proofs.Ytkpbmbhejpmboaa
