/- Rows of structs of the call's own: each datum is a list of cells. -/
import Derived.Test.YtkpbmbhejpmboaaBase
namespace Go.Proofs.Ytkpbmbhejpmboaa
open Go.RowKit

theorem flat_at {α : Type} (f : α → List Value) (sz : Nat) (hf : ∀ x, (f x).length = sz) : ∀ (l : List α) (j t : Nat) (x : α), l[j]? = some x → t < sz → (l.flatMap f)[j * sz + t]? = (f x)[t]?
  | [], _, _, _, h, _ => by cases h
  | y :: r, 0, t, x, h, ht => by
    obtain rfl : y = x := by simpa using h
    rw [List.flatMap_cons, List.getElem?_append_left (by rw [hf]; omega)]
    simp
  | y :: r, j + 1, t, x, h, ht => by
    rw [List.flatMap_cons, List.getElem?_append_right (by rw [hf, Nat.succ_mul]; omega), hf, show (j + 1) * sz + t - sz = j * sz + t from by rw [Nat.succ_mul]; omega]
    exact flat_at f sz hf r j t x (by simpa using h) ht
theorem flat_len {α : Type} (f : α → List Value) (sz : Nat) (hf : ∀ x, (f x).length = sz) : ∀ (l : List α), (l.flatMap f).length = l.length * sz
  | [] => by simp
  | y :: r => by rw [List.flatMap_cons, List.length_append, hf, flat_len f sz hf r, List.length_cons, Nat.succ_mul]; omega

theorem own_keep {w w' : World} {base : Nat} {e : TypeId} {size n : Nat} {v : Value} {xs : List Value} (h : w.ownsRow base e size v n xs) (s : Since w w') : w'.ownsRow base e size v n xs := by
  obtain ⟨h0, h | ⟨g, cap, cur, h1, h2, h3, h4⟩⟩ := h
  · exact ⟨h0, .inl h⟩
  · exact ⟨h0, .inr ⟨g, cap, cur, h1, h2, (Below.block s g (Array.getElem?_eq_some_iff.1 h3).1).trans h3, h4⟩⟩

/-- A row of the call's own of data that take sz cells each. -/
def OwnRow {α : Type} (f : α → List Value) (sz : Nat) (e : TypeId) (base : Nat) (w : World) (v : Value) (l : List α) : Prop := w.ownsRow base e sz v l.length (l.flatMap f)
theorem OwnRow.keep {α : Type} {f : α → List Value} {sz : Nat} {e : TypeId} {base : Nat} {w w' : World} {v : Value} {l : List α} (h : OwnRow f sz e base w v l) (s : Since w w') : OwnRow f sz e base w' v l := own_keep h s
theorem OwnRow.nil {α : Type} (f : α → List Value) (sz : Nat) (e : TypeId) (base : Nat) (w : World) : OwnRow f sz e base w (.slice none 0 0) [] := ⟨by simp, .inl ⟨rfl, rfl⟩⟩
theorem OwnRow.shape {α : Type} {f : α → List Value} {sz : Nat} {e : TypeId} {base : Nat} {w : World} {v : Value} {l : List α} (h : OwnRow f sz e base w v l) : ∃ a cap, v = .slice a l.length cap := by
  obtain ⟨_, ⟨hv, hn⟩ | ⟨g, cap, cur, hv, _⟩⟩ := h
  · exact ⟨none, 0, by rw [hv, hn]⟩
  · exact ⟨_, cap, hv⟩
theorem OwnRow.cells {α : Type} {f : α → List Value} {sz : Nat} (hf : ∀ x, (f x).length = sz) {e : TypeId} {base : Nat} {w : World} {v : Value} {l : List α} (h : OwnRow f sz e base w v l) :
    (v = .slice none 0 0 ∧ l = []) ∨ ∃ g cap, v = .slice (some ⟨g, 0, none⟩) l.length cap ∧ l.length ≤ cap ∧ cap ≤ maxLen ∧ base ≤ g ∧ g < w.heap.size ∧ ∀ (j t : Nat) (x : α), l[j]? = some x → t < sz → w.cell? ⟨g, j * sz + t, none⟩ = (f x)[t]? := by
  obtain ⟨_, ⟨hv, hn⟩ | ⟨g, cap, cur, hv, hb, hg, hc, hm, hs, htake⟩⟩ := h
  · exact .inl ⟨hv, List.length_eq_zero_iff.1 hn⟩
  · refine .inr ⟨g, cap, hv, hc, hm, hb, (Array.getElem?_eq_some_iff.1 hg).1, fun j t x hj ht => ?_⟩
    have hlt : j < l.length := (List.getElem?_eq_some_iff.1 hj).1
    have hle : j * sz + t < l.length * sz := by
      have : (j + 1) * sz ≤ l.length * sz := Nat.mul_le_mul_right _ hlt
      rw [Nat.succ_mul] at this; omega
    have e1 := congrArg (fun x => x[j * sz + t]?) htake
    simp only [List.getElem?_take_of_lt hle, flat_at f sz hf l j t x hj ht] at e1
    simp only [World.cell?, hg]
    simpa using e1

/-- append(s, x) of one datum, by a new block of one, to a row of the call's own. -/
theorem wpList_append_one {α : Type} {P : Program} {w0 w : World} {ops : Array Oper} {rest : List Oper} {o : Oper} {a : Act} {Q : Exit → Act → World → Prop} (f : α → List Value) (sz : Nat) (hf : ∀ x, (f x).length = sz) (hsz : 0 < sz) (hgd : o.guard = none) (s x : Operand) (t : TypeId)
    (ho : o.op = .call { callee := .builtin .append, args := #[s, x], argTypes := #[t, t] })
    (e : TypeId) (z : Value) (bytes : Nat) (ht : P.underlying t = some (.slice e)) (hinfo : (P.info? e).map (fun i => (i.zero, i.size, i.bytes)) = some (some z, sz, bytes)) (hz : z.cells.size = sz)
    (v : Value) (l : List α) (y : α) (b cap : Nat) (t2 : TypeId) (hs : a.eval s = v) (hx : a.eval x = .slice (some ⟨b, 0, none⟩) 1 cap) (hown : OwnRow f sz e w0.heap.size w v l) (hb : w.heap[b]? = some (.cells (f y).toArray t2 (0, 0))) (h1 : ∀ u ∈ f y, u.oneCell' = true)
    (hm : l.length + 1 ≤ maxLen) (hlen : (l.length + 1) * bytes ≤ 140737488355328) (hsince : Since w0 w)
    (h : ∀ v' w', OwnRow f sz e w0.heap.size w' v' (l ++ [y]) → Since w0 w' → wpList P ops Q rest (a.put o.dst v') w') : wpList P ops Q (o :: rest) a w := by
  obtain ⟨i, hi, hz0, hz1, hz2⟩ := info_parts hinfo
  refine wpList_append_own _ hgd s x t ho w0.heap.size e i z sz bytes ht hi hz0 hz1 hz2 hz hsz v _ _ hs hown ⟨b, 0, none⟩ 1 cap (f y) hx (by rw [hf, Nat.one_mul]) ?_ h1 hm hlen hsince.size ?_
  · intro j u hu
    have e2 : (⟨b, 0, none⟩ : Addr).add j = ⟨b, j, none⟩ := by
      unfold Addr.add; split
      · rename_i h0; subst h0; rfl
      · simp
    rw [e2]
    simp [World.cell?, hb, hu]
  · intro v' w' hown' hgrow _
    have hg : ∀ r, v.ownBlock = some r → w0.heap.size ≤ r := by
      intro r hr
      obtain ⟨_, ⟨hv, _⟩ | ⟨g, cap, cur, hv, hg, _⟩⟩ := hown
      · subst hv; cases hr
      · subst hv; cases hr; exact hg
    refine h v' w' ?_ (Below.grown hsince hgrow hsince.size hg)
    unfold OwnRow
    rw [List.length_append, List.flatMap_append]
    simpa using hown'

/-- An instruction's cells. -/
def mcells (x : Mach × Value) : List Value := [.int .i64 x.1.op, .int .i64 x.1.d, .int .i64 x.1.e, .int .i64 x.1.a, .int .i64 x.1.b, .int .i64 x.1.c, .int .i32 x.1.imm, x.2]
theorem mcells_len (x : Mach × Value) : (mcells x).length = 8 := rfl
end Go.Proofs.Ytkpbmbhejpmboaa
