/- Plain: what the program of PhysCalls does. -/
import Derived.Test.YtkpbmbhejpmboaaShown12
namespace Go.Proofs.Ytkpbmbhejpmboaa
open Go.RowKit
set_option linter.unusedVariables false

def lwAt (W : List Int) (r : Nat) : PlV := ⟨⟨4, (r : Int), 0, 0, 0, 0, W.getD r 0, []⟩, .slice none 0 0, 0⟩
def lw (W : List Int) (k : Nat) : List PlV := (List.range k).map (lwAt W)
def upTo (n : Nat) : List Int := (List.range n).map fun (x : Nat) => (x : Int)
def cM (n : Nat) (av : Value) : PlV := ⟨⟨28, 0, 0, 0, 0, 0, 9, upTo n⟩, av, 0⟩
def dM (dv : Value) : PlV := ⟨⟨28, 0, 0, 0, 0, 0, 10, [0, 1, 2, 3]⟩, dv, 0⟩
def mvAt (r : Nat) : PlV := ⟨⟨1, (r : Int), 0, 12 + (r : Int), 0, 0, 0, []⟩, .slice none 0 0, 0⟩
def mvs (k : Nat) : List PlV := (List.range k).map mvAt
def callsL (W : List Int) (n : Nat) (av dv : Value) : List PlV := ((lw W 16 ++ [cM n av, dM dv]) ++ mvs 4) ++ [dM dv]
def callsP (W : List Int) (n : Nat) (av dv x y : Value) : PrgV := ⟨0, 16, 0, [⟨callsL W n av dv, x, ⟨7, 0, 0, [], .slice none 0 0, 0⟩⟩], y⟩
def callsI (ans : List Int) (z : Value) : InV := ⟨[], .slice none 0 0, [], .slice none 0 0, ans, z, 100⟩
def callsO (W : List Int) (n : Nat) (ans : List Int) : OutP := ⟨1, ans.getD 2 0, [], [(9, (List.range n).map fun r => W.getD r 0), (10, [ans.getD 0 0, 24302, 24303, 24304]), (10, [W.getD 12 0, W.getD 13 0, W.getD 14 0, W.getD 15 0])], 24⟩
theorem run_calls (W ans : List Int) (n : Nat) (hn : n ≤ 4) (av dv x y z : Value) : runP (callsP W n av dv x y) (callsI ans z) = callsO W n ans := by
  obtain rfl | rfl | rfl | rfl | rfl : n = 0 ∨ n = 1 ∨ n = 2 ∨ n = 3 ∨ n = 4 := by omega
  all_goals kernel_rfl
theorem lw_succ (W : List Int) (k : Nat) : lw W (k + 1) = lw W k ++ [lwAt W k] := by unfold lw; rw [List.range_succ, List.map_append]; rfl
theorem mvs_succ (k : Nat) : mvs (k + 1) = mvs k ++ [mvAt k] := by unfold mvs; rw [List.range_succ, List.map_append]; rfl
theorem upTo_succ (k : Nat) : upTo (k + 1) = upTo k ++ [(k : Int)] := by unfold upTo; rw [List.range_succ, List.map_append]; rfl
theorem lw_len (W : List Int) (k : Nat) : (lw W k).length = k := by simp [lw]
theorem mvs_len (k : Nat) : (mvs k).length = k := by simp [mvs]
theorem upTo_len (k : Nat) : (upTo k).length = k := by simp [upTo]

/-- append(s, x...) of data, by a new block of them, to a row of the call's own: what may turn. -/
theorem wpList_append_list {α : Type} {P : Program} {base : Nat} {w : World} {ops : Array Oper} {rest : List Oper} {o : Oper} {a : Act} {Q : Exit → Act → World → Prop} (f : α → List Value) (sz : Nat) (hf : ∀ x, (f x).length = sz) (hsz : 0 < sz) (hgd : o.guard = none) (s x : Operand) (t : TypeId)
    (ho : o.op = .call { callee := .builtin .append, args := #[s, x], argTypes := #[t, t] })
    (e : TypeId) (z : Value) (bytes : Nat) (ht : P.underlying t = some (.slice e)) (hinfo : (P.info? e).map (fun i => (i.zero, i.size, i.bytes)) = some (some z, sz, bytes)) (hz : z.cells.size = sz)
    (v : Value) (l l2 : List α) (b cap : Nat) (t2 : TypeId) (hs : a.eval s = v) (hx : a.eval x = .slice (some ⟨b, 0, none⟩) l2.length cap) (hown : OwnRow f sz e base w v l) (hb : HeapIs w b (l2.flatMap f).toArray t2) (h1 : ∀ u ∈ l2.flatMap f, u.oneCell' = true)
    (hm : l.length + l2.length ≤ maxLen) (hlen : (l.length + l2.length) * bytes ≤ 140737488355328) (hbase : base ≤ w.heap.size)
    (h : ∀ v' w', OwnRow f sz e base w' v' (l ++ l2) → Turn (fun k => v.ownBlock = some k) w w' → wpList P ops Q rest (a.put o.dst v') w') : wpList P ops Q (o :: rest) a w := by
  obtain ⟨i, hi, hz0, hz1, hz2⟩ := info_parts hinfo
  refine wpList_append_own _ hgd s x t ho base e i z sz bytes ht hi hz0 hz1 hz2 hz hsz v _ _ hs hown ⟨b, 0, none⟩ l2.length cap (l2.flatMap f) hx (flat_len f sz hf l2) ?_ h1 hm hlen hbase ?_
  · intro j u hu
    have e2 : (⟨b, 0, none⟩ : Addr).add j = ⟨b, j, none⟩ := by
      unfold Addr.add; split
      · rename_i h0; subst h0; rfl
      · simp
    rw [e2, hb.cell]
    simpa using hu
  · intro v' w' hown' hgrow _
    refine h v' w' ?_ (turn_grown hgrow)
    unfold OwnRow
    rw [List.length_append, List.flatMap_append]
    exact hown'
theorem own_not {w : World} {b : Nat} {e : TypeId} {size n : Nat} {v : Value} {xs : List Value} (h : w.ownsRow b e size v n xs) {q : Nat} {cs : Array Value} {T : TypeId} (hb : HeapIs w q cs T) (hT : e ≠ T) : ¬ v.ownBlock = some q := by
  intro hq
  obtain ⟨cur, hc⟩ := own_heap h hq
  rw [show w.heap[q]? = _ from hb] at hc
  simp only [Option.some.injEq, Obj.cells.injEq] at hc
  exact hT hc.2.1.symm
theorem HeapIs.set {w : World} {q : Nat} {cs : Array Value} {T : TypeId} (h : HeapIs w q cs T) (i : Nat) (x : Value) : HeapIs (w.setCell ⟨q, i, none⟩ x) q (cs.setIfInBounds i x) T := by
  unfold HeapIs at h ⊢
  simp [World.setCell, Array.getElem?_modify, h]
theorem HeapIs.frozen {w : World} {q : Nat} {cs : Array Value} {T : TypeId} (h : HeapIs w q cs T) (i : Nat) : w.frozen? ⟨q, i, none⟩ = false := by
  simp [World.frozen?, show w.heap[q]? = _ from h]

set_option maxHeartbeats 1000000 in
set_option maxRecDepth 100000 in
theorem words_same (va vb : Value) (l : List Int) (w : World) (ha : Nums .i32 w va l) (hb : Nums .i32 w vb l) (hl : l.length ≤ 100000) : Calls Try.prog 26 #[va, vb] w (TellsS true w) := by
  obtain ⟨aa, ac, rfl⟩ := nums_lenI ha
  obtain ⟨ba, bc, rfl⟩ := nums_lenI hb
  have HA := Lib.hid ha; clear ha
  have HB := Lib.hid hb; clear hb
  generalize hn : l.length = n at *
  have HN := Lib.hid hn; clear hn
  go_enter Try.func26, Try.ntmps26
  go_wp2
  go_loopw [5] (fun i wr => ∃ k : Nat, k ≤ n ∧ i = .int .i64 k ∧ Since w wr) (fun i _ => n - (intOf i).toNat)
  case atStart => exact ⟨0, Nat.zero_le _, rfl, Since.refl _⟩
  case round =>
    obtain ⟨k, hk, rfl, hs⟩ := hrel
    have HS := Lib.hid hs
    by_cases hlt : k < n
    · have hne : l ≠ [] := by intro e; have := HN.out; rw [e] at this; simp at this; omega
      obtain ⟨_, h1⟩ := nums_cell (HN.out ▸ HA.out.keep hs)
      obtain ⟨B, off, rfl, hB, hcell⟩ := h1 hne
      obtain ⟨_, h2⟩ := nums_cell (HN.out ▸ HB.out.keep hs)
      obtain ⟨B2, off2, rfl, hB2, hcell2⟩ := h2 hne
      obtain ⟨x, hx⟩ : ∃ x, l[k]? = some x := ⟨_, List.getElem?_eq_getElem (by have := HN.out; omega)⟩
      have c1 := hcell k x hx
      have c2 := hcell2 k x hx
      have hxx : (x != x) = false := by simp
      clear hcell hcell2 h1 h2 hs hB hB2 hx
      go_wp2_with fail
      go_quiet (fail)
      go_wp2
      go_roundw
      case rel => exact ⟨k + 1, by omega, by go_num, HS.out.trans (Since.drewN (Since.refl _) _)⟩
      case measure => simp [intOf]; omega
    · obtain rfl : k = n := by omega
      go_wp2
      go_ret
      exact ⟨rfl, HS.out⟩
end Go.Proofs.Ytkpbmbhejpmboaa
