/- How what came in is read: numbers, instructions, rows of instructions. Rows of data that came in. -/
import Derived.Test.YtkpbmbhejpmboaaBase
import Derived.Deep.Slices
import Derived.WideShapes
import Derived.Test.YtkpbmbhejpmboaaRegion2
namespace Go.Proofs.Ytkpbmbhejpmboaa
open Go.RowKit Go.ChangeShapes Go.WideShapes
set_option linter.unusedVariables false

section
variable {H : Type} {enc : TypeId × Value → H} {P : Program} {w : World} {base : Nat} {held : Bool}

theorem spot_none {a : Addr} {v : Value} (h : w.cell? (a.add 0) = some v) : a = ⟨a.block, a.off, none⟩ := by
  obtain ⟨b, o, s⟩ := a
  have h' : w.cell? ⟨b, o, s⟩ = some v := by simpa [Addr.add] using h
  have := World.cell?_spot h'
  simp at this
  simp [this]
theorem add_at {b o i : Nat} : (⟨b, o, none⟩ : Addr).add i = ⟨b, o + i, none⟩ := by
  unfold Addr.add
  split
  · rename_i h; subst h; rfl
  · rfl
theorem cell_lt {a : Addr} {v : Value} (h : w.cell? a = some v) : a.block < w.heap.size := by
  by_cases hlt : a.block < w.heap.size
  · exact hlt
  · exfalso
    unfold World.cell? at h
    rw [Array.getElem?_eq_none (by omega)] at h
    cases a.spot <;> simp at h

/-- A slice of numbers. -/
theorem nums_trod {t e : TypeId} {k : IntKind} {fuel : Nat} {v : Value} {x : DataW H × List MemPlace} (ht : P.underlying t = some (.slice e)) (he : P.underlying e = some (.int k)) (hc : P.cellsOf e = 1)
    (h : DataW.trod enc P w base (fun _ => true) held fuel t [v] = some x) : ∃ l : List Int, Nums k w v l ∧ ∀ n ∈ l, (Lit.int k n).wf = true := by
  rcases Go.Deep.open_slice1 ht hc h with ⟨hv, _⟩ | ⟨a, len, cap, m, n, V, D, Pl, hv, _, hl, hm, hmm, _, hx⟩
  · exact ⟨[], .inl ⟨none, by simpa using hv, rfl⟩, fun n hn => by cases hn⟩
  · have hv : v = .slice (some a) len cap := by simpa using hv
    obtain rfl : m = cap := by simpa using hmm
    have hnum : ∀ i, i < m → ∃ z : Int, V i = .int k z ∧ (Lit.int k z).wf = true := fun i hi => by
      obtain ⟨z, h1, _, h2⟩ := DataW.trod_int he (hx i hi).2
      exact ⟨z, by simpa using h1, h2⟩
    obtain ⟨Z, hZ⟩ := Go.Deep.choose_lt hnum
    by_cases h0 : m = 0
    · have hl0 : len = 0 := by omega
      subst hl0; subst h0
      exact ⟨[], .inl ⟨some a, hv, rfl⟩, fun n hn => by cases hn⟩
    · have h1 := (hx 0 (by omega)).1
      have hs := spot_none h1
      have hb := cell_lt h1
      have hb' : a.block < w.heap.size := by
        unfold Addr.add at hb; simpa using hb
      refine ⟨(List.range len).map Z, .inr ⟨a.block, a.off, m, ?_, by simpa using hl, hm, hb', ?_⟩, ?_⟩
      · rw [hv, ← hs]; simp
      · intro j z hj
        have hjl : j < len := by
          have := (List.getElem?_eq_some_iff.1 hj).1; simpa using this
        have hz : Z j = z := by simpa [hjl] using hj
        have := (hx j (by omega)).1
        rw [hs, add_at] at this
        rw [this, (hZ j (by omega)).1, hz]
      · intro z hz
        obtain ⟨i, hi, rfl⟩ := List.mem_map.1 hz
        have := List.mem_range.1 hi
        exact (hZ i (by omega)).2
end

/-- The numbers of an instruction are words of their kinds. -/
structure Wf (m : Mach) : Prop where
  op : (Lit.int .i64 m.op).wf = true
  d : (Lit.int .i64 m.d).wf = true
  e : (Lit.int .i64 m.e).wf = true
  a : (Lit.int .i64 m.a).wf = true
  b : (Lit.int .i64 m.b).wf = true
  c : (Lit.int .i64 m.c).wf = true
  imm : (Lit.int .i32 m.imm).wf = true
  args : ∀ n ∈ m.args, (Lit.int .i64 n).wf = true
theorem imm_bounds {m : Mach} (h : Wf m) : -2147483648 ≤ m.imm ∧ m.imm ≤ 2147483647 := by
  have e : IntKind.i32.min = -2147483648 := by decide
  have e2 : IntKind.i32.max = 2147483647 := by decide
  have := h.imm
  simp only [Lit.wf, Bool.and_eq_true, decide_eq_true_eq, e, e2] at this
  exact this

theorem Try.cellsMach : Try.prog.cellsOf 46 = 8 := by kernel_rfl
theorem Try.cellsInt : Try.prog.cellsOf 3 = 1 := by kernel_rfl
theorem Try.cellsInt32 : Try.prog.cellsOf 21 = 1 := by kernel_rfl
theorem Try.cellsInts : Try.prog.cellsOf 25 = 1 := by kernel_rfl
section
variable {H : Type} {enc : TypeId × Value → H} {w : World} {base : Nat} {held : Bool}

theorem list8 {α : Type} {l : List α} (h : l.length = 8) : ∃ a b c d e f g i, l = [a, b, c, d, e, f, g, i] := by
  match l, h with
  | [a, b, c, d, e, f, g, i], _ => exact ⟨a, b, c, d, e, f, g, i, rfl⟩
theorem int_field {P : Program} {t : TypeId} {k : IntKind} {fuel : Nat} {v : Value} {x : Option (DataW H × List MemPlace)} (ht : P.underlying t = some (.int k)) (hx : DataW.trod enc P w base (fun _ => true) held fuel t [v] = x) (hs : x.isSome = true) :
    ∃ n, v = .int k n ∧ (Lit.int k n).wf = true := by
  obtain ⟨y, rfl⟩ := Option.isSome_iff_exists.1 hs
  obtain ⟨n, h1, _, h2⟩ := DataW.trod_int ht hx
  exact ⟨n, by simpa using h1, h2⟩

/-- One field of a struct. -/
theorem fld {P : Program} {fs : Array Field} {n : Nat} {cs : List Value} {xs : List (DataW H × List MemPlace)} (hf : ∀ (i : Nat) (f : Field), fs[i]? = some f → DataW.trod enc P w base (fun _ => true) held n f.type ((cs.drop f.offset).take (P.cellsOf f.type)) = xs[i]?)
    (i : Nat) (t : TypeId) (off c : Nat) (h : (fs[i]?).map (fun f => (f.type, f.offset)) = some (t, off)) (hc : P.cellsOf t = c) : DataW.trod enc P w base (fun _ => true) held n t ((cs.drop off).take c) = xs[i]? := by
  obtain ⟨f, h1, h2⟩ := Option.map_eq_some_iff.1 h
  simp only [Prod.mk.injEq] at h2
  obtain ⟨rfl, rfl⟩ := h2
  have := hf i f h1
  rwa [hc] at this

set_option maxRecDepth 100000 in
/-- An instruction's eight cells. -/
theorem mach_trod {fuel : Nat} {cs : List Value} {x : DataW H × List MemPlace} (h : DataW.trod enc Try.prog w base (fun _ => true) held fuel 46 cs = some x) :
    ∃ (m : Mach) (av : Value), cs = [.int .i64 m.op, .int .i64 m.d, .int .i64 m.e, .int .i64 m.a, .int .i64 m.b, .int .i64 m.c, .int .i32 m.imm, av] ∧ Ints w av m.args ∧ Wf m := by
  obtain ⟨xs, n, _, _, hlen, hxs, hf⟩ := DataW.trod_struct Try.underlying46 h
  rw [Try.cellsMach] at hlen
  obtain ⟨c0, c1, c2, c3, c4, c5, c6, c7, rfl⟩ := list8 hlen
  have h0 := fld hf 0 3 0 1 rfl Try.cellsInt
  have h1 := fld hf 1 3 1 1 rfl Try.cellsInt
  have h2 := fld hf 2 3 2 1 rfl Try.cellsInt
  have h3 := fld hf 3 3 3 1 rfl Try.cellsInt
  have h4 := fld hf 4 3 4 1 rfl Try.cellsInt
  have h5 := fld hf 5 3 5 1 rfl Try.cellsInt
  have h6 := fld hf 6 21 6 1 rfl Try.cellsInt32
  have h7 := fld hf 7 25 7 1 rfl Try.cellsInts
  have hsz : xs.length = 8 := by simpa using hxs
  simp only [List.drop_succ_cons, List.drop_zero, List.take_succ_cons, List.take_zero] at h0 h1 h2 h3 h4 h5 h6 h7
  obtain ⟨n0, rfl, w0⟩ := int_field Try.underlying3 h0 (by simp [hsz])
  obtain ⟨n1, rfl, w1⟩ := int_field Try.underlying3 h1 (by simp [hsz])
  obtain ⟨n2, rfl, w2⟩ := int_field Try.underlying3 h2 (by simp [hsz])
  obtain ⟨n3, rfl, w3⟩ := int_field Try.underlying3 h3 (by simp [hsz])
  obtain ⟨n4, rfl, w4⟩ := int_field Try.underlying3 h4 (by simp [hsz])
  obtain ⟨n5, rfl, w5⟩ := int_field Try.underlying3 h5 (by simp [hsz])
  obtain ⟨n6, rfl, w6⟩ := int_field Try.underlying21 h6 (by simp [hsz])
  obtain ⟨y, hy⟩ := Option.isSome_iff_exists.1 (show (xs[7]?).isSome = true by simp [hsz])
  rw [hy] at h7
  obtain ⟨l, hl, hw⟩ := nums_trod Try.underlying25 Try.underlying3 Try.cellsInt h7
  exact ⟨⟨n0, n1, n2, n3, n4, n5, n6, l⟩, c7, rfl, hl, w0, w1, w2, w3, w4, w5, w6, hw⟩

set_option maxRecDepth 100000 in
/-- An instruction by value. -/
theorem mach_open {r : Reach} {b0 : Nat} {v : Value} {d : DataW H} {p : List MemPlace} (hv : Value.okWide Try.prog w r b0 46 v) (h : DataW.Trod enc Try.prog w base (fun _ => true) held 46 v d p) :
    ∃ (m : Mach) (av : Value), v = mv m av ∧ Ints w av m.args ∧ Wf m := by
  obtain ⟨cs, rfl, hsz⟩ := okWide_struct Try.underlying46 hv
  obtain ⟨fuel, hf⟩ := h
  obtain ⟨m, av, h1, h2, h3⟩ := mach_trod hf
  refine ⟨m, av, ?_, h2, h3⟩
  have : cs = #[.int .i64 m.op, .int .i64 m.d, .int .i64 m.e, .int .i64 m.a, .int .i64 m.b, .int .i64 m.c, .int .i32 m.imm, av] := by
    apply Array.ext'
    simpa [Value.cells] using h1
  rw [this]; rfl
end
end Go.Proofs.Ytkpbmbhejpmboaa

namespace Go.Proofs.Ytkpbmbhejpmboaa
open Go.RowKit Go.ChangeShapes Go.WideShapes
set_option linter.unusedVariables false

/-- Data that take sz cells each, in a row: as they came in. -/
def RowIn {α : Type} (f : α → List Value) (sz : Nat) (p : World → α → Prop) (w : World) (v : Value) (l : List α) : Prop :=
  (∃ a, v = .slice a 0 0 ∧ l = []) ∨ ∃ b off cap, v = .slice (some ⟨b, off, none⟩) l.length cap ∧ l.length ≤ cap ∧ cap ≤ maxLen ∧ b < w.heap.size ∧ ∀ (j : Nat) (x : α), l[j]? = some x → (∀ t, t < sz → w.cell? ⟨b, off + j * sz + t, none⟩ = (f x)[t]?) ∧ p w x
theorem RowIn.keep {α : Type} {f : α → List Value} {sz : Nat} {p : World → α → Prop} (hp : ∀ w w' x, p w x → Since w w' → p w' x) {w w' : World} {v : Value} {l : List α} (h : RowIn f sz p w v l) (s : Since w w') : RowIn f sz p w' v l := by
  rcases h with h | ⟨b, off, cap, h1, h2, h3, h4, h5⟩
  · exact .inl h
  · exact .inr ⟨b, off, cap, h1, h2, h3, Nat.lt_of_lt_of_le h4 s.size, fun j x hj => ⟨fun t ht => by rw [s.cell (p := ⟨b, off + j * sz + t, none⟩) h4]; exact (h5 j x hj).1 t ht, hp _ _ _ (h5 j x hj).2 s⟩⟩
theorem RowIn.shape {α : Type} {f : α → List Value} {sz : Nat} {p : World → α → Prop} {w : World} {v : Value} {l : List α} (h : RowIn f sz p w v l) : ∃ a cap, v = .slice a l.length cap ∧ l.length ≤ maxLen := by
  rcases h with ⟨a, h1, h2⟩ | ⟨b, off, cap, h1, h2, h3, _⟩
  · subst h2; exact ⟨a, 0, h1, Nat.zero_le _⟩
  · exact ⟨_, cap, h1, by omega⟩
theorem RowIn.at {α : Type} {f : α → List Value} {sz : Nat} {p : World → α → Prop} {w : World} {a : Option Addr} {n cap : Nat} {l : List α} (h : RowIn f sz p w (.slice a n cap) l) {k : Nat} (hk : k < l.length) :
    ∃ b off x, a = some ⟨b, off, none⟩ ∧ b < w.heap.size ∧ l[k]? = some x ∧ (∀ t, t < sz → w.cell? ⟨b, off + k * sz + t, none⟩ = (f x)[t]?) ∧ p w x := by
  rcases h with ⟨_, _, h2⟩ | ⟨b, off, cap', h1, _, _, h4, h5⟩
  · subst h2; simp at hk
  · cases h1
    have hx : l[k]? = some l[k] := List.getElem?_eq_getElem hk
    exact ⟨b, off, _, rfl, h4, hx, h5 k _ hx⟩

section
variable {H : Type} {enc : TypeId × Value → H} {P : Program} {w : World} {base : Nat} {held : Bool}
/-- A slice of data, by how one of them is read. -/
theorem row_trod {α : Type} [Inhabited α] {f : α → List Value} {sz : Nat} {p : World → α → Prop} {t e : TypeId} {fuel : Nat} {v : Value} {x : DataW H × List MemPlace} (ht : P.underlying t = some (.slice e)) (hc : P.cellsOf e = sz) (hsz : 0 < sz) (hf : ∀ x, (f x).length = sz)
    (hone : ∀ (fuel : Nat) (cs : List Value) (y : DataW H × List MemPlace), DataW.trod enc P w base (fun _ => true) held fuel e cs = some y → ∃ x : α, cs = f x ∧ p w x)
    (h : DataW.trod enc P w base (fun _ => true) held fuel t [v] = some x) : ∃ l : List α, RowIn f sz p w v l := by
  rcases Go.Deep.open_slice ht h with ⟨hv, _⟩ | ⟨a, len, cap, m, n, D, Pl, hv, _, hl, hm, hmm, _, hx⟩
  · exact ⟨[], .inl ⟨none, by simpa using hv, rfl⟩⟩
  · have hv : v = .slice (some a) len cap := by simpa using hv
    obtain rfl : m = cap := by simpa using hmm
    rw [hc] at hx
    have hdat : ∀ i, i < m → ∃ y : α, (∀ t, t < sz → w.cell? ((a.add (i * sz)).add t) = (f y)[t]?) ∧ p w y := fun i hi => by
      obtain ⟨cs', h1, h2⟩ := hx i hi
      obtain ⟨y, rfl, hy⟩ := hone _ _ _ h2
      obtain ⟨_, _, hcell⟩ := World.cells?_some h1
      exact ⟨y, fun t ht => hcell t ht, hy⟩
    obtain ⟨Z, hZ⟩ := Go.Deep.choose_lt hdat
    by_cases h0 : m = 0
    · have hl0 : len = 0 := by omega
      subst hl0; subst h0
      exact ⟨[], .inl ⟨some a, hv, rfl⟩⟩
    · have h1 := (hZ 0 (by omega)).1 0 hsz
      rw [List.getElem?_eq_getElem (by rw [hf]; exact hsz)] at h1
      rw [Nat.zero_mul] at h1
      have h1' : w.cell? ((a.add 0).add 0) = some _ := h1
      have hs : a = ⟨a.block, a.off, none⟩ := by
        have : a.add 0 = a := by unfold Addr.add; simp
        rw [this] at h1'
        exact spot_none h1'
      have hb := cell_lt h1'
      have hb' : a.block < w.heap.size := by
        have e1 : ((a.add 0).add 0).block = a.block := by unfold Addr.add; simp
        rwa [e1] at hb
      refine ⟨(List.range len).map Z, .inr ⟨a.block, a.off, m, ?_, by simpa using hl, hm, hb', ?_⟩⟩
      · rw [hv, ← hs]; simp
      · intro j y hj
        have hjl : j < len := by
          have := (List.getElem?_eq_some_iff.1 hj).1; simpa using this
        have hz : Z j = y := by simpa [hjl] using hj
        obtain ⟨g1, g2⟩ := hZ j (by omega)
        rw [hz] at g1 g2
        refine ⟨fun t ht => ?_, g2⟩
        have := g1 t ht
        rw [hs, add_at, add_at] at this
        exact this
end

end Go.Proofs.Ytkpbmbhejpmboaa
