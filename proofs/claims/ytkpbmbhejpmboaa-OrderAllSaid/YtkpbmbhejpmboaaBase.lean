/- What the walks of the order layer speak of: old memory that stays; slices of integers as lists; instructions. -/
import Derived.Test.YtkpbmbhejpmboaaRows
import Derived.WalkKit
import Derived.WalkSpells
import Derived.WalkLawsBesides
import Derived.Lib.Hide
import Derived.Laws.AppendOwnNone
namespace Go.Proofs.Ytkpbmbhejpmboaa
open Go.RowKit

/-- Nothing that was there in w0 has turned. -/
def Since (w0 w : World) : Prop := Below w0.heap.size w0 w
theorem Since.refl (w : World) : Since w w := Below.refl _ _
theorem Since.trans {a b c : World} (h : Since a b) (k : Since b c) : Since a c := Below.trans h (Below.mono k h.size)
theorem Since.size {a b : World} (h : Since a b) : a.heap.size ≤ b.heap.size := Below.size h
theorem Since.alloc {a b : World} (h : Since a b) (o : Obj) : Since a (b.alloc o) := Below.alloc h h.size o
theorem Since.drew {a b : World} (h : Since a b) : Since a b.drew := Below.drew h
theorem Since.cell {a b : World} (h : Since a b) {p : Addr} (hp : p.block < a.heap.size) : b.cell? p = a.cell? p := Below.cell h hp

/-- v reads in w as the numbers l, of kind k. -/
def Nums (k : IntKind) (w : World) (v : Value) (l : List Int) : Prop :=
  (∃ a, v = .slice a 0 0 ∧ l = []) ∨
  ∃ b off cap, v = .slice (some ⟨b, off, none⟩) l.length cap ∧ l.length ≤ cap ∧ cap ≤ maxLen ∧ b < w.heap.size ∧ ∀ (j : Nat) (n : Int), l[j]? = some n → w.cell? ⟨b, off + j, none⟩ = some (.int k n)
abbrev Ints := Nums .i64
theorem Nums.nil (k : IntKind) (w : World) : Nums k w (.slice none 0 0) [] := .inl ⟨_, rfl, rfl⟩
theorem Nums.keep {k : IntKind} {w w' : World} {v : Value} {l : List Int} (h : Nums k w v l) (s : Since w w') : Nums k w' v l := by
  rcases h with h | ⟨b, off, cap, h1, h2, h3, h4, h5⟩
  · exact .inl h
  · exact .inr ⟨b, off, cap, h1, h2, h3, Nat.lt_of_lt_of_le h4 s.size, fun j n hj => by rw [s.cell h4]; exact h5 j n hj⟩
theorem Nums.len {k : IntKind} {w : World} {v : Value} {l : List Int} (h : Nums k w v l) : l.length ≤ maxLen := by
  rcases h with ⟨_, _, h⟩ | ⟨_, _, _, _, h2, h3, _⟩
  · rw [h]; exact Nat.zero_le _
  · omega

/-- A new block of numbers read whole. -/
theorem nums_new {k : IntKind} {w : World} {b : Nat} (l : List Int) (t : TypeId) (cap : Nat) (hc : l.length ≤ cap) (hm : cap ≤ maxLen) {cs : List Value} (hb : w.heap[b]? = some (.cells cs.toArray t (0, 0)))
    (hcs : ∀ (j : Nat) (n : Int), l[j]? = some n → cs[j]? = some (Value.int k n)) : Nums k w (.slice (some ⟨b, 0, none⟩) l.length cap) l := by
  refine .inr ⟨b, 0, cap, rfl, hc, hm, (Array.getElem?_eq_some_iff.1 hb).1, fun j n hj => ?_⟩
  simp [World.cell?, hb, hcs j n hj]

/-- What the call owns as a row of numbers reads as them. -/
theorem nums_of_own {k : IntKind} {w : World} {base : Nat} {e : TypeId} {v : Value} {l : List Int} (h : w.ownsRow base e 1 v l.length (l.map (Value.int k))) : Nums k w v l := by
  obtain ⟨_, ⟨hv, hn⟩ | ⟨g, cap, cur, hv, _, hg, hc, hm, hs, htake⟩⟩ := h
  · refine .inl ⟨_, hv, ?_⟩
    exact List.length_eq_zero_iff.1 hn
  · subst hv
    refine nums_new (cs := cur.toList) l e cap hc hm (by simpa using hg) fun j n hj => ?_
    have hlt : j < l.length := (List.getElem?_eq_some_iff.1 hj).1
    have := congrArg (fun x => x[j]?) htake
    simp only [Nat.mul_one, List.getElem?_map, hj, Option.map_some] at this
    rwa [List.getElem?_take_of_lt hlt] at this

theorem own_nil (w : World) (base : Nat) (e : TypeId) (k : IntKind) : w.ownsRow base e 1 (.slice none 0 0) ([] : List Int).length (([] : List Int).map (Value.int k)) := ⟨rfl, .inl ⟨rfl, rfl⟩⟩

/-- append(s, x...) of numbers to a row of the call's own. -/
theorem wpList_append_nums {P : Program} {w0 w : World} {ops : Array Oper} {rest : List Oper} {o : Oper} {a : Act} {Q : Exit → Act → World → Prop} (k : IntKind) (hgd : o.guard = none) (s x : Operand) (t : TypeId)
    (ho : o.op = .call { callee := .builtin .append, args := #[s, x], argTypes := #[t, t] })
    (e : TypeId) (z : Value) (bytes : Nat) (ht : P.underlying t = some (.slice e)) (hinfo : (P.info? e).map (fun i => (i.zero, i.size, i.bytes)) = some (some z, 1, bytes)) (hz : z.cells.size = 1) (hby : bytes ≤ 8)
    (v xv : Value) (l1 l2 : List Int) (hs : a.eval s = v) (hx : a.eval x = xv) (hown : w.ownsRow w0.heap.size e 1 v l1.length (l1.map (Value.int k))) (hl2 : Nums k w xv l2)
    (hlen : l1.length + l2.length ≤ 1000000) (hsince : Since w0 w)
    (h : ∀ v' w', w'.ownsRow w0.heap.size e 1 v' (l1 ++ l2).length ((l1 ++ l2).map (Value.int k)) → Since w0 w' → wpList P ops Q rest (a.put o.dst v') w') : wpList P ops Q (o :: rest) a w := by
  obtain ⟨i, hi, hz0, hz1, hz2⟩ := info_parts hinfo
  have hgr : ∀ (w' : World), w.grownBy w' v.ownBlock → Since w0 w' := by
    intro w' hgrow
    refine Below.grown hsince hgrow hsince.size ?_
    intro r hr
    obtain ⟨_, ⟨hv, _⟩ | ⟨g, cap, cur, hv, hg, _⟩⟩ := hown
    · subst hv; cases hr
    · subst hv; cases hr; exact hg
  rcases hl2 with ⟨ad, hv, rfl⟩ | ⟨b, off, cap, hv, hcap, _, hb, hcell⟩
  · subst hv
    cases ad with
    | none =>
      refine wpList_append_own_none hgd s x t ho w0.heap.size e i 1 ht hi v _ _ hs hown hx (h v w ?_ hsince)
      simpa using hown
    | some ad =>
      refine wpList_append_own _ hgd s x t ho w0.heap.size e i z 1 bytes ht hi hz0 hz1 hz2 hz (by decide) v _ _ hs hown ad 0 0 [] hx rfl (fun j u hu => by cases hu) (fun u hu => by cases hu) (by unfold maxLen; simp at hlen; omega) ?_ hsince.size ?_
      · have : (l1.length + 0) * bytes ≤ 1000000 * 8 := Nat.mul_le_mul (by simpa using hlen) hby
        omega
      · intro v' w' hown' hgrow _
        exact h v' w' (by simpa using hown') (hgr w' hgrow)
  · subst hv
    refine wpList_append_own _ hgd s x t ho w0.heap.size e i z 1 bytes ht hi hz0 hz1 hz2 hz (by decide) v _ _ hs hown ⟨b, off, none⟩ l2.length cap (l2.map (Value.int k)) hx (by simp) ?_ ?_ (by unfold maxLen; omega) ?_ hsince.size ?_
    · intro j u hu
      rw [List.getElem?_map] at hu
      obtain ⟨n, hn, rfl⟩ := Option.map_eq_some_iff.1 hu
      have := hcell j n hn
      unfold Addr.add
      split
      · rename_i h0; subst h0; simpa using this
      · exact this
    · intro u hu
      obtain ⟨n, _, rfl⟩ := List.mem_map.1 hu
      rfl
    · have : (l1.length + l2.length) * bytes ≤ 1000000 * 8 := Nat.mul_le_mul hlen hby
      omega
    · intro v' w' hown' hgrow _
      exact h v' w' (by simpa using hown') (hgr w' hgrow)

structure Mach where
  op : Int
  d : Int
  e : Int
  a : Int
  b : Int
  c : Int
  imm : Int
  args : List Int

/-- The instruction as a value, its Args given. -/
def mv (m : Mach) (av : Value) : Value := .agg #[.int .i64 m.op, .int .i64 m.d, .int .i64 m.e, .int .i64 m.a, .int .i64 m.b, .int .i64 m.c, .int .i32 m.imm, av]

/-- A call that hands back numbers, and leaves what was there. -/
def Gives (w : World) (l : List Int) (e : Ending) (w' : World) : Prop := ∃ v, e = .returned v ∧ Ints w' v l ∧ Since w w'

theorem heap_last (w : World) (o : Obj) : (w.alloc o).heap[w.heap.size]? = some o := (MapKept.heap_alloc w o).1

/-- The numbers lie in the block that was made last. -/
theorem gives_last {w0 w : World} (s : Since w0 w) {b n : Nat} (l : List Int) (t : TypeId) {cs : Array Value} (hb : b = w.heap.size) (hn : n = l.length) (hm : l.length ≤ maxLen) (hcs : cs = (l.map (Value.int .i64)).toArray) :
    Gives w0 l (.returned (.slice (some ⟨b, 0, none⟩) n n)) (w.alloc (.cells cs t)) := by
  subst hb; subst hn; subst hcs
  refine ⟨_, rfl, nums_new l t _ (Nat.le_refl _) hm (heap_last _ _) ?_, s.alloc _⟩
  intro j n hj
  simp [hj]
theorem gives_none {w0 w : World} (s : Since w0 w) : Gives w0 [] (.returned (.slice none 0 0)) w := ⟨_, rfl, .nil _ _, s⟩

end Go.Proofs.Ytkpbmbhejpmboaa
