/- jacquardref06.Table: the table under way. -/
import Derived.Test.YtmhojfpidedjeaaDoorTxCosts
namespace Go.Proofs.YtmhojfpidedjeaaDoor
open Go.RowKit
set_option linter.unusedVariables false
/-- append(own row, another row...), of elements of several cells. -/
theorem wpList_append_rowN {α : Type} {P : Program} {w0 w : World} {ops : Array Oper} {rest : List Oper} {o : Oper} {a : Act} {Q : Exit → Act → World → Prop} (f : α → List Value) (sz : Nat) (hf : ∀ x, (f x).length = sz) (hsz : 0 < sz) (hone : ∀ x, ∀ u ∈ f x, u.oneCell' = true) (hgd : o.guard = none) (s x : Operand) (t : TypeId)
    (ho : o.op = .call { callee := .builtin .append, args := #[s, x], argTypes := #[t, t] })
    (e : TypeId) (z : Value) (bytes : Nat) (ht : P.underlying t = some (.slice e)) (hinfo : (P.info? e).map (fun i => (i.zero, i.size, i.bytes)) = some (some z, sz, bytes)) (hz : z.cells.size = sz) (hby : bytes ≤ 128)
    (v xv : Value) (l1 l2 : List α) (hs : a.eval s = v) (hx : a.eval x = xv) (hown : OwnRow f sz e w0.heap.size w v l1) {p : World → α → Prop} (hl2 : RowIn f sz p w xv l2)
    (hlen : l1.length + l2.length ≤ 1000000) (hsince : Since w0 w)
    (h : ∀ v' w', OwnRow f sz e w0.heap.size w' v' (l1 ++ l2) → Since w0 w' → wpList P ops Q rest (a.put o.dst v') w') : wpList P ops Q (o :: rest) a w := by
  obtain ⟨i, hi, hz0, hz1, hz2⟩ := info_parts hinfo
  have hgr : ∀ (w' : World), w.grownBy w' v.ownBlock → Since w0 w' := by
    intro w' hgrow
    refine Below.grown hsince hgrow hsince.size ?_
    intro r hr
    obtain ⟨_, ⟨hv, _⟩ | ⟨g, cap, cur, hv, hg, _⟩⟩ := hown
    · subst hv; cases hr
    · subst hv; cases hr; exact hg
  unfold OwnRow at hown
  rcases hl2 with ⟨ad, hv, rfl⟩ | ⟨b, off, cap, hv, hcap, _, hb, hcell⟩
  · subst hv
    cases ad with
    | none =>
      refine wpList_append_own_none hgd s x t ho w0.heap.size e i sz ht hi v _ _ hs hown hx (h v w ?_ hsince)
      unfold OwnRow; simpa using hown
    | some ad =>
      refine wpList_append_own _ hgd s x t ho w0.heap.size e i z sz bytes ht hi hz0 hz1 hz2 hz hsz v _ _ hs hown ad 0 0 [] hx (by simp) (fun j u hu => by cases hu) (fun u hu => by cases hu) (by unfold maxLen; simp at hlen; omega) ?_ hsince.size ?_
      · have : (l1.length + 0) * bytes ≤ 1000000 * 128 := Nat.mul_le_mul (by simpa using hlen) hby
        omega
      · intro v' w' hown' hgrow _
        exact h v' w' (by unfold OwnRow; simpa using hown') (hgr w' hgrow)
  · subst hv
    refine wpList_append_own _ hgd s x t ho w0.heap.size e i z sz bytes ht hi hz0 hz1 hz2 hz hsz v _ _ hs hown ⟨b, off, none⟩ l2.length cap (l2.flatMap f) hx (by rw [flat_len f sz hf]) ?_ ?_ (by unfold maxLen; omega) ?_ hsince.size ?_
    · intro j u hu
      have hj : j < l2.length * sz := by have := (List.getElem?_eq_some_iff.1 hu).1; rwa [flat_len f sz hf] at this
      have hq : j / sz < l2.length := (Nat.div_lt_iff_lt_mul hsz).2 hj
      obtain ⟨y, hy⟩ : ∃ y, l2[j / sz]? = some y := ⟨_, List.getElem?_eq_getElem hq⟩
      have hjs : j / sz * sz + j % sz = j := by rw [Nat.mul_comm]; exact Nat.div_add_mod j sz
      have h2 := (hcell (j / sz) y hy).1 (j % sz) (Nat.mod_lt _ hsz)
      have h3 := flat_at f sz hf l2 (j / sz) (j % sz) y hy (Nat.mod_lt _ hsz)
      rw [hjs, hu] at h3
      rw [← h3, Nat.add_assoc, hjs] at h2
      unfold Addr.add
      split
      · rename_i h0; subst h0; simpa using h2
      · exact h2
    · intro u hu
      obtain ⟨y, _, hy⟩ := List.mem_flatMap.1 hu
      exact hone y u hy
    · have : (l1.length + l2.length) * bytes ≤ 1000000 * 128 := Nat.mul_le_mul hlen hby
      omega
    · intro v' w' hown' hgrow _
      exact h v' w' (by unfold OwnRow; simpa using hown') (hgr w' hgrow)
def TabOk (t : DTile) : Prop := (1 ≤ t.pat ∧ t.pat ≤ 37) ∧ 0 ≤ t.cost ∧ t.cost ≤ 12
/-- The table under way. -/
structure TabSt (w0 : World) (cq : Nat) (v : Value) (l : List DTile) (i : Nat) (w : World) : Prop where
  own : OwnRow dtcells 2 37 w0.heap.size w v l
  len : l.length ≤ 2 * i
  ok : ∀ t ∈ l, TabOk t
  since : Since w0 w
  box : HeapIs w cq costA 61
section
variable {w0 w w' : World} {cq i : Nat} {v v' : Value} {l : List DTile}
theorem TabSt.keep (h : TabSt w0 cq v l i w) (s : Since w w') : TabSt w0 cq v l i w' := ⟨OwnRow.keep h.own s, h.len, h.ok, h.since.trans s, h.box.keep s⟩
theorem TabSt.more (h : TabSt w0 cq v l i w) : TabSt w0 cq v l (i + 1) w := ⟨h.own, by have := h.len; omega, h.ok, h.since, h.box⟩
theorem TabSt.app (h : TabSt w0 cq v l i w) {x : DTile} (ho : OwnRow dtcells 2 37 w0.heap.size w' v' (l ++ [x])) (t : Turn (fun q => v.ownBlock = some q) w w') (hx : TabOk x) {k : Nat} (hk : l.length + 1 ≤ 2 * k) : TabSt w0 cq v' (l ++ [x]) k w' := by
  refine ⟨ho, by rw [List.length_append]; exact hk, fun t ht => ?_, t.toSince h.since fun q hq e => ?_, h.box.turn t (own_not h.own h.box (by decide))⟩
  · rcases List.mem_append.1 ht with h1 | h1
    · exact h.ok t h1
    · rw [List.mem_singleton.1 h1]; exact hx
  · have := (World.ownsRow.lt h.own q e).1; omega
theorem TabSt.pre (h : TabSt w0 cq v l i w) {x : DTile} (ho : OwnRow dtcells 2 37 w.heap.size w' v' ([x] ++ l)) (s : Since w w') (hx : TabOk x) {k : Nat} (hk : l.length + 1 ≤ 2 * k) : TabSt w0 cq v' ([x] ++ l) k w' := by
  refine ⟨own_base ho h.since.size, by rw [List.length_append, List.length_singleton]; omega, fun t ht => ?_, h.since.trans s, h.box.keep s⟩
  rcases List.mem_append.1 ht with h1 | h1
  · rw [List.mem_singleton.1 h1]; exact hx
  · exact h.ok t h1
end
theorem cost_all : ∀ i, i < 37 → 1 ≤ costL.getD i 0 ∧ costL.getD i 0 ≤ 12 := by decide
theorem cost_cell {w : World} {cq i : Nat} (h : HeapIs w cq costA 61) (hi : i < 37) : w.cell? ⟨cq, i, none⟩ = some (.int .i64 (costL.getD i 0)) := by
  have hl : i < costL.length := hi
  rw [h.cell]
  unfold costA
  rw [List.getElem?_toArray, List.getElem?_map, List.getElem?_eq_getElem hl, List.getD_eq_getElem?_getD, List.getElem?_eq_getElem hl]; rfl
theorem rng12 {a : Int} (h : 0 ≤ a) : 0 ≤ a.tmod 12 ∧ a.tmod 12 ≤ 12 := ⟨Int.tmod_nonneg 12 h, by have := Int.tmod_lt_of_pos a (show (0 : Int) < 12 by decide); omega⟩
theorem rng7 {a : Int} (h : 0 ≤ a) : 0 ≤ a.tmod 7 ∧ a.tmod 7 ≤ 12 := ⟨Int.tmod_nonneg 7 h, by have := Int.tmod_lt_of_pos a (show (0 : Int) < 7 by decide); omega⟩
end Go.Proofs.YtmhojfpidedjeaaDoor
