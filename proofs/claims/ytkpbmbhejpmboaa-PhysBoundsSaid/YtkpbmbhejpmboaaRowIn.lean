/- Rows of data that came in. -/
import Derived.Test.YtkpbmbhejpmboaaOpen
import Derived.Test.YtkpbmbhejpmboaaOwn
namespace Go.Proofs.Ytkpbmbhejpmboaa
open Go.RowKit Go.ChangeShapes Go.WideShapes
set_option linter.unusedVariables false

/-- Data that take sz cells each, in a row: as they came in. -/
def RowIn {α : Type} (f : α → List Value) (sz : Nat) (p : World → α → Prop) (w : World) (v : Value) (l : List α) : Prop :=
  (∃ a, v = .slice a 0 0 ∧ l = []) ∨ ∃ b off cap, v = .slice (some ⟨b, off, none⟩) l.length cap ∧ l.length ≤ cap ∧ cap ≤ maxLen ∧ b < w.heap.size ∧ ∀ (j : Nat) (x : α), l[j]? = some x → (∀ t, t < sz → w.cell? ⟨b, off + j * sz + t, none⟩ = (f x)[t]?) ∧ p w x
theorem RowIn.keep {α : Type} {f : α → List Value} {sz : Nat} {p : World → α → Prop} (hp : ∀ w w' x, p w x → Since w w' → p w' x) {w w' : World} {v : Value} {l : List α} (h : RowIn f sz p w v l) (s : Since w w') : RowIn f sz p w' v l := by
  rcases h with h | ⟨b, off, cap, h1, h2, h3, h4, h5⟩
  · exact .inl h
  · exact .inr ⟨b, off, cap, h1, h2, h3, Nat.lt_of_lt_of_le h4 s.size, fun j x hj => ⟨fun t ht => by rw [s.cell (p := ⟨b, off + j * sz + t, none⟩) h4]; exact (h5 j x hj).1 t ht, hp _ _ _ (h5 j x hj).2 s⟩⟩
theorem RowIn.shape {α : Type} {f : α → List Value} {sz : Nat} {p : World → α → Prop} {w : World} {v : Value} {l : List α} (h : RowIn f sz p w v l) : ∃ a cap, v = .slice a l.length cap ∧ l.length ≤ maxLen := by
  rcases h with ⟨a, h1, h2⟩ | ⟨b, off, cap, h1, h2, h3, _⟩
  · subst h2; exact ⟨a, 0, h1, Nat.zero_le _⟩
  · exact ⟨_, cap, h1, by omega⟩
theorem RowIn.at {α : Type} {f : α → List Value} {sz : Nat} {p : World → α → Prop} {w : World} {a : Option Addr} {n cap : Nat} {l : List α} (h : RowIn f sz p w (.slice a n cap) l) {k : Nat} (hk : k < l.length) :
    ∃ b off x, a = some ⟨b, off, none⟩ ∧ b < w.heap.size ∧ l[k]? = some x ∧ (∀ t, t < sz → w.cell? ⟨b, off + k * sz + t, none⟩ = (f x)[t]?) ∧ p w x := by
  rcases h with ⟨_, _, h2⟩ | ⟨b, off, cap', h1, _, _, h4, h5⟩
  · subst h2; simp at hk
  · cases h1
    have hx : l[k]? = some l[k] := List.getElem?_eq_getElem hk
    exact ⟨b, off, _, rfl, h4, hx, h5 k _ hx⟩

section
variable {H : Type} {enc : TypeId × Value → H} {P : Program} {w : World} {base : Nat} {held : Bool}
/-- A slice of data, by how one of them is read. -/
theorem row_trod {α : Type} [Inhabited α] {f : α → List Value} {sz : Nat} {p : World → α → Prop} {t e : TypeId} {fuel : Nat} {v : Value} {x : DataW H × List MemPlace} (ht : P.underlying t = some (.slice e)) (hc : P.cellsOf e = sz) (hsz : 0 < sz) (hf : ∀ x, (f x).length = sz)
    (hone : ∀ (fuel : Nat) (cs : List Value) (y : DataW H × List MemPlace), DataW.trod enc P w base (fun _ => true) held fuel e cs = some y → ∃ x : α, cs = f x ∧ p w x)
    (h : DataW.trod enc P w base (fun _ => true) held fuel t [v] = some x) : ∃ l : List α, RowIn f sz p w v l := by
  rcases Go.Deep.open_slice ht h with ⟨hv, _⟩ | ⟨a, len, cap, m, n, D, Pl, hv, _, hl, hm, hmm, _, hx⟩
  · exact ⟨[], .inl ⟨none, by simpa using hv, rfl⟩⟩
  · have hv : v = .slice (some a) len cap := by simpa using hv
    obtain rfl : m = cap := by simpa using hmm
    rw [hc] at hx
    have hdat : ∀ i, i < m → ∃ y : α, (∀ t, t < sz → w.cell? ((a.add (i * sz)).add t) = (f y)[t]?) ∧ p w y := fun i hi => by
      obtain ⟨cs', h1, h2⟩ := hx i hi
      obtain ⟨y, rfl, hy⟩ := hone _ _ _ h2
      obtain ⟨_, _, hcell⟩ := World.cells?_some h1
      exact ⟨y, fun t ht => hcell t ht, hy⟩
    obtain ⟨Z, hZ⟩ := Go.Deep.choose_lt hdat
    by_cases h0 : m = 0
    · have hl0 : len = 0 := by omega
      subst hl0; subst h0
      exact ⟨[], .inl ⟨some a, hv, rfl⟩⟩
    · have h1 := (hZ 0 (by omega)).1 0 hsz
      rw [List.getElem?_eq_getElem (by rw [hf]; exact hsz)] at h1
      rw [Nat.zero_mul] at h1
      have h1' : w.cell? ((a.add 0).add 0) = some _ := h1
      have hs : a = ⟨a.block, a.off, none⟩ := by
        have : a.add 0 = a := by unfold Addr.add; simp
        rw [this] at h1'
        exact spot_none h1'
      have hb := cell_lt h1'
      have hb' : a.block < w.heap.size := by
        have e1 : ((a.add 0).add 0).block = a.block := by unfold Addr.add; simp
        rwa [e1] at hb
      refine ⟨(List.range len).map Z, .inr ⟨a.block, a.off, m, ?_, by simpa using hl, hm, hb', ?_⟩⟩
      · rw [hv, ← hs]; simp
      · intro j y hj
        have hjl : j < len := by
          have := (List.getElem?_eq_some_iff.1 hj).1; simpa using this
        have hz : Z j = y := by simpa [hjl] using hj
        obtain ⟨g1, g2⟩ := hZ j (by omega)
        rw [hz] at g1 g2
        refine ⟨fun t ht => ?_, g2⟩
        have := g1 t ht
        rw [hs, add_at, add_at] at this
        exact this
end

end Go.Proofs.Ytkpbmbhejpmboaa
