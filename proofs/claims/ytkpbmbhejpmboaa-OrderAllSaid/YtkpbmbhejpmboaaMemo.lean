/- A map from int to int whose entries all say what f says; its block alone is written. -/
import Derived.Test.YtkpbmbhejpmboaaBase
namespace Go.Proofs.Ytkpbmbhejpmboaa
open Go.RowKit

/-- Every entry of the map in block mb is of a number, and holds what f says of it. -/
def Memo (f : Nat → Int) (w : World) (mb : Nat) : Prop :=
  ∃ es clock, w.heap[mb]? = some (.map es clock) ∧ ∀ e ∈ es.toList, ∃ g : Nat, e.key = .int .i64 g ∧ e.val = .int .i64 (f g)
/-- Is g among its numbers? -/
def HasKey (w : World) (mb : Nat) (g : Nat) : Prop := ∃ es clock, w.heap[mb]? = some (.map es clock) ∧ ∃ e ∈ es.toList, e.key = .int .i64 g

/-- Only block mb may have turned. -/
structure But (mb : Nat) (w w' : World) : Prop where
  os : w'.os = w.os
  tape : w'.tape = w.tape
  output : w'.output = w.output
  size : w'.heap.size = w.heap.size
  block : ∀ k, k ≠ mb → w'.heap[k]? = w.heap[k]?
theorem But.refl (mb : Nat) (w : World) : But mb w w := ⟨rfl, rfl, rfl, rfl, fun _ _ => rfl⟩
theorem But.trans {mb : Nat} {a b c : World} (h : But mb a b) (k : But mb b c) : But mb a c := ⟨k.os.trans h.os, k.tape.trans h.tape, k.output.trans h.output, k.size.trans h.size, fun i hi => (k.block i hi).trans (h.block i hi)⟩
theorem But.drewN {mb : Nat} {a b : World} (h : But mb a b) (n : Nat) : But mb a (b.drewN n) := ⟨h.os, h.tape, h.output, h.size, h.block⟩
theorem But.cell {mb : Nat} {a b : World} (h : But mb a b) {p : Addr} (hp : p.block ≠ mb) : b.cell? p = a.cell? p := World.cell?_of_block (h.block p.block hp)
theorem But.nums {mb : Nat} {a b : World} (h : But mb a b) {k : IntKind} {v : Value} {l : List Int} (hv : Nums k a v l) (hne : ∀ q, v.ownBlock = some q → q ≠ mb) : Nums k b v l := by
  rcases hv with hv | ⟨q, off, cap, h1, h2, h3, h4, h5⟩
  · exact .inl hv
  · subst h1
    have hq := hne q rfl
    exact .inr ⟨q, off, cap, rfl, h2, h3, by rw [h.size]; exact h4, fun j n hj => by rw [h.cell (p := ⟨q, off + j, none⟩) hq]; exact h5 j n hj⟩

section
variable {P : Program} {t K E : TypeId} {f : Nat → Int} {w : World} {mb : Nat}

/-- v, ok := m[g]. -/
theorem memo_lookup (ht : P.underlying t = some (.map K E)) (hK : P.underlying K = some (.int .i64)) (hz : ∀ w : World, (zeroValue E).run P w = .ok (.int .i64 0) w) (h : Memo f w mb) (g : Nat) :
    (Instr.lookup t (.map (some mb)) (.int .i64 g) true).run P w = .ok (.tuple #[.int .i64 (f g), .bool true]) w ∨
    ((Instr.lookup t (.map (some mb)) (.int .i64 g) true).run P w = .ok (.tuple #[.int .i64 0, .bool false]) w ∧ ¬ HasKey w mb g) := by
  obtain ⟨es, clock, hb, hall⟩ := h
  have hkey : MapKept.IsKey (.int .i64) (.int .i64 (g : Int)) := rfl
  have hks : ∀ x ∈ es.toList, MapKept.IsKey (.int .i64) x.key := fun x hx => by obtain ⟨g', hg', _⟩ := hall x hx; rw [hg']; rfl
  rcases MapKept.findNow_spec hkey es.toList 0 hks with ⟨h1, h2⟩ | ⟨j, e, h1, h2, h3⟩
  · right
    refine ⟨by simp [Instr.lookup, run_underlying ht, MapKept.run_getObj_map hb, MapKept.run_checkKey hK hkey, MapKept.run_findKey hK h1, hz, Result.andThen], ?_⟩
    rintro ⟨es', c', hb', e, he, hek⟩
    rw [hb] at hb'
    cases hb'
    exact h2 e he hek
  · left
    obtain ⟨g', hg', hv'⟩ := hall e (List.mem_of_getElem? h2)
    have : g' = g := by rw [hg'] at h3; injection h3 with _ h3; omega
    subst this
    simp [Instr.lookup, run_underlying ht, MapKept.run_getObj_map hb, MapKept.run_checkKey hK hkey, MapKept.run_findKey hK h1, hv', Result.andThen]

/-- m[g] = f(g). -/
theorem memo_update (ht : P.underlying t = some (.map K E)) (hK : P.underlying K = some (.int .i64)) (h : Memo f w mb) (g : Nat) :
    ∃ w', (Instr.mapUpdate t (.map (some mb)) (.int .i64 g) (.int .i64 (f g))).run P w = .ok () w' ∧ Memo f w' mb ∧ But mb w w' ∧ HasKey w' mb g ∧ ∀ k, HasKey w mb k → HasKey w' mb k := by
  obtain ⟨es, clock, hb, hall⟩ := h
  have hlt : mb < w.heap.size := (Array.getElem?_eq_some_iff.1 hb).1
  have hkey : MapKept.IsKey (.int .i64) (.int .i64 (g : Int)) := rfl
  have hks : ∀ x ∈ es.toList, MapKept.IsKey (.int .i64) x.key := fun x hx => by obtain ⟨g', hg', _⟩ := hall x hx; rw [hg']; rfl
  have hput : ∀ o, ({ w with heap := w.heap.setIfInBounds mb o } : World).heap[mb]? = some o := fun o => by simp [hlt]
  have hbut : ∀ o, But mb w { w with heap := w.heap.setIfInBounds mb o } := fun o => ⟨rfl, rfl, rfl, by simp, fun k hk => by simp [Ne.symm hk]⟩
  rcases MapKept.findNow_spec hkey es.toList 0 hks with ⟨h1, h2⟩ | ⟨j, e0, h1, h2, h3⟩
  · refine ⟨_, by simp [Instr.mapUpdate, run_underlying ht, MapKept.run_getObj_map hb, MapKept.run_checkKey hK hkey, MapKept.run_findKey hK h1, MapKept.run_setObj_map _ hb, Result.andThen]; rfl, ?_, hbut _, ?_, ?_⟩
    · refine ⟨_, _, hput _, fun x hx => ?_⟩
      simp only [Array.toList_push, List.mem_append, List.mem_singleton] at hx
      rcases hx with hx | rfl
      · exact hall x hx
      · exact ⟨g, rfl, rfl⟩
    · exact ⟨_, _, hput _, { key := .int .i64 g, val := .int .i64 (f g), born := clock }, by simp, rfl⟩
    · rintro k ⟨es', c', hb', e, he, hek⟩
      rw [hb] at hb'
      cases hb'
      exact ⟨_, _, hput _, e, by simp only [Array.toList_push, List.mem_append]; exact .inl he, hek⟩
  · have hj : es[j]? = some e0 := by simpa using h2
    rw [Nat.zero_add] at h1
    refine ⟨_, by simp [Instr.mapUpdate, run_underlying ht, MapKept.run_getObj_map hb, MapKept.run_checkKey hK hkey, MapKept.run_findKey hK h1, hj, h3, MapKept.run_keyThatStays hkey, MapKept.run_setObj_map _ hb, Result.andThen]; rfl, ?_, hbut _, ?_, ?_⟩
    · refine ⟨_, _, hput _, fun x hx => ?_⟩
      rcases MapFrom.mem_modify hx with hx | ⟨e', he', rfl⟩
      · exact hall x hx
      · exact ⟨g, rfl, rfl⟩
    · refine ⟨_, _, hput _, { e0 with key := .int .i64 g, val := .int .i64 (f g) }, ?_, rfl⟩
      rw [Array.mem_toList_iff, Array.mem_iff_getElem?]
      exact ⟨j, by rw [Array.getElem?_modify, if_pos rfl, hj]; rfl⟩
    · rintro k ⟨es', c', hb', e, he, hek⟩
      rw [hb] at hb'
      cases hb'
      rw [Array.mem_toList_iff, Array.mem_iff_getElem?] at he
      obtain ⟨i, hi⟩ := he
      refine ⟨_, _, hput _, ?_⟩
      by_cases hji : j = i
      · subst hji
        have : e0 = e := by rw [hj] at hi; simpa using hi
        subst this
        refine ⟨{ e0 with key := .int .i64 g, val := .int .i64 (f g) }, ?_, by rw [← hek, h3]⟩
        rw [Array.mem_toList_iff, Array.mem_iff_getElem?]
        exact ⟨j, by rw [Array.getElem?_modify, if_pos rfl, hj]; rfl⟩
      · refine ⟨e, ?_, hek⟩
        rw [Array.mem_toList_iff, Array.mem_iff_getElem?]
        exact ⟨i, by rw [Array.getElem?_modify, if_neg hji]; exact hi⟩
end
end Go.Proofs.Ytkpbmbhejpmboaa
