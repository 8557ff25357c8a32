/- Plain: what the program of PhysCalls does. What the end of PhysCalls speaks of. -/
import Derived.Test.YtkpbmbhejpmboaaShown12
import Derived.Laws.BitsLemmas
namespace Go.Proofs.Ytkpbmbhejpmboaa
open Go.RowKit
set_option linter.unusedVariables false

def lwAt (W : List Int) (r : Nat) : PlV := ⟨⟨4, (r : Int), 0, 0, 0, 0, W.getD r 0, []⟩, .slice none 0 0, 0⟩
def lw (W : List Int) (k : Nat) : List PlV := (List.range k).map (lwAt W)
def upTo (n : Nat) : List Int := (List.range n).map fun (x : Nat) => (x : Int)
def cM (n : Nat) (av : Value) : PlV := ⟨⟨28, 0, 0, 0, 0, 0, 9, upTo n⟩, av, 0⟩
def dM (dv : Value) : PlV := ⟨⟨28, 0, 0, 0, 0, 0, 10, [0, 1, 2, 3]⟩, dv, 0⟩
def mvAt (r : Nat) : PlV := ⟨⟨1, (r : Int), 0, 12 + (r : Int), 0, 0, 0, []⟩, .slice none 0 0, 0⟩
def mvs (k : Nat) : List PlV := (List.range k).map mvAt
def callsL (W : List Int) (n : Nat) (av dv : Value) : List PlV := ((lw W 16 ++ [cM n av, dM dv]) ++ mvs 4) ++ [dM dv]
def callsP (W : List Int) (n : Nat) (av dv x y : Value) : PrgV := ⟨0, 16, 0, [⟨callsL W n av dv, x, ⟨7, 0, 0, [], .slice none 0 0, 0⟩⟩], y⟩
def callsI (ans : List Int) (z : Value) : InV := ⟨[], .slice none 0 0, [], .slice none 0 0, ans, z, 100⟩
def callsO (W : List Int) (n : Nat) (ans : List Int) : OutP := ⟨1, ans.getD 2 0, [], [(9, (List.range n).map fun r => W.getD r 0), (10, [ans.getD 0 0, 24302, 24303, 24304]), (10, [W.getD 12 0, W.getD 13 0, W.getD 14 0, W.getD 15 0])], 24⟩
theorem run_calls (W ans : List Int) (n : Nat) (hn : n ≤ 4) (av dv x y z : Value) : runP (callsP W n av dv x y) (callsI ans z) = callsO W n ans := by
  obtain rfl | rfl | rfl | rfl | rfl : n = 0 ∨ n = 1 ∨ n = 2 ∨ n = 3 ∨ n = 4 := by omega
  all_goals kernel_rfl
theorem lw_succ (W : List Int) (k : Nat) : lw W (k + 1) = lw W k ++ [lwAt W k] := by unfold lw; rw [List.range_succ, List.map_append]; rfl
theorem mvs_succ (k : Nat) : mvs (k + 1) = mvs k ++ [mvAt k] := by unfold mvs; rw [List.range_succ, List.map_append]; rfl
theorem upTo_succ (k : Nat) : upTo (k + 1) = upTo k ++ [(k : Int)] := by unfold upTo; rw [List.range_succ, List.map_append]; rfl
theorem lw_len (W : List Int) (k : Nat) : (lw W k).length = k := by simp [lw]
theorem mvs_len (k : Nat) : (mvs k).length = k := by simp [mvs]
theorem upTo_len (k : Nat) : (upTo k).length = k := by simp [upTo]

/-- append(s, x...) of data, by a new block of them, to a row of the call's own: what may turn. -/
theorem wpList_append_list {α : Type} {P : Program} {base : Nat} {w : World} {ops : Array Oper} {rest : List Oper} {o : Oper} {a : Act} {Q : Exit → Act → World → Prop} (f : α → List Value) (sz : Nat) (hf : ∀ x, (f x).length = sz) (hsz : 0 < sz) (hgd : o.guard = none) (s x : Operand) (t : TypeId)
    (ho : o.op = .call { callee := .builtin .append, args := #[s, x], argTypes := #[t, t] })
    (e : TypeId) (z : Value) (bytes : Nat) (ht : P.underlying t = some (.slice e)) (hinfo : (P.info? e).map (fun i => (i.zero, i.size, i.bytes)) = some (some z, sz, bytes)) (hz : z.cells.size = sz)
    (v : Value) (l l2 : List α) (b cap : Nat) (t2 : TypeId) (hs : a.eval s = v) (hx : a.eval x = .slice (some ⟨b, 0, none⟩) l2.length cap) (hown : OwnRow f sz e base w v l) (hb : HeapIs w b (l2.flatMap f).toArray t2) (h1 : ∀ u ∈ l2.flatMap f, u.oneCell' = true)
    (hm : l.length + l2.length ≤ maxLen) (hlen : (l.length + l2.length) * bytes ≤ 140737488355328) (hbase : base ≤ w.heap.size)
    (h : ∀ v' w', OwnRow f sz e base w' v' (l ++ l2) → Turn (fun k => v.ownBlock = some k) w w' → wpList P ops Q rest (a.put o.dst v') w') : wpList P ops Q (o :: rest) a w := by
  obtain ⟨i, hi, hz0, hz1, hz2⟩ := info_parts hinfo
  refine wpList_append_own _ hgd s x t ho base e i z sz bytes ht hi hz0 hz1 hz2 hz hsz v _ _ hs hown ⟨b, 0, none⟩ l2.length cap (l2.flatMap f) hx (flat_len f sz hf l2) ?_ h1 hm hlen hbase ?_
  · intro j u hu
    have e2 : (⟨b, 0, none⟩ : Addr).add j = ⟨b, j, none⟩ := by
      unfold Addr.add; split
      · rename_i h0; subst h0; rfl
      · simp
    rw [e2, hb.cell]
    simpa using hu
  · intro v' w' hown' hgrow _
    refine h v' w' ?_ (turn_grown hgrow)
    unfold OwnRow
    rw [List.length_append, List.flatMap_append]
    exact hown'
theorem own_not {w : World} {b : Nat} {e : TypeId} {size n : Nat} {v : Value} {xs : List Value} (h : w.ownsRow b e size v n xs) {q : Nat} {cs : Array Value} {T : TypeId} (hb : HeapIs w q cs T) (hT : e ≠ T) : ¬ v.ownBlock = some q := by
  intro hq
  obtain ⟨cur, hc⟩ := own_heap h hq
  rw [show w.heap[q]? = _ from hb] at hc
  simp only [Option.some.injEq, Obj.cells.injEq] at hc
  exact hT hc.2.1.symm
theorem HeapIs.set {w : World} {q : Nat} {cs : Array Value} {T : TypeId} (h : HeapIs w q cs T) (i : Nat) (x : Value) : HeapIs (w.setCell ⟨q, i, none⟩ x) q (cs.setIfInBounds i x) T := by
  unfold HeapIs at h ⊢
  simp [World.setCell, Array.getElem?_modify, h]
theorem HeapIs.frozen {w : World} {q : Nat} {cs : Array Value} {T : TypeId} (h : HeapIs w q cs T) (i : Nat) : w.frozen? ⟨q, i, none⟩ = false := by
  simp [World.frozen?, show w.heap[q]? = _ from h]

set_option maxHeartbeats 1000000 in
set_option maxRecDepth 100000 in
theorem words_same (va vb : Value) (l : List Int) (w : World) (ha : Nums .i32 w va l) (hb : Nums .i32 w vb l) (hl : l.length ≤ 100000) : Calls Try.prog 26 #[va, vb] w (TellsS true w) := by
  obtain ⟨aa, ac, rfl⟩ := nums_lenI ha
  obtain ⟨ba, bc, rfl⟩ := nums_lenI hb
  have HA := Lib.hid ha; clear ha
  have HB := Lib.hid hb; clear hb
  generalize hn : l.length = n at *
  have HN := Lib.hid hn; clear hn
  go_enter Try.func26, Try.ntmps26
  go_wp2
  go_loopw [5] (fun i wr => ∃ k : Nat, k ≤ n ∧ i = .int .i64 k ∧ Since w wr) (fun i _ => n - (intOf i).toNat)
  case atStart => exact ⟨0, Nat.zero_le _, rfl, Since.refl _⟩
  case round =>
    obtain ⟨k, hk, rfl, hs⟩ := hrel
    have HS := Lib.hid hs
    by_cases hlt : k < n
    · have hne : l ≠ [] := by intro e; have := HN.out; rw [e] at this; simp at this; omega
      obtain ⟨_, h1⟩ := nums_cell (HN.out ▸ HA.out.keep hs)
      obtain ⟨B, off, rfl, hB, hcell⟩ := h1 hne
      obtain ⟨_, h2⟩ := nums_cell (HN.out ▸ HB.out.keep hs)
      obtain ⟨B2, off2, rfl, hB2, hcell2⟩ := h2 hne
      obtain ⟨x, hx⟩ : ∃ x, l[k]? = some x := ⟨_, List.getElem?_eq_getElem (by have := HN.out; omega)⟩
      have c1 := hcell k x hx
      have c2 := hcell2 k x hx
      have hxx : (x != x) = false := by simp
      clear hcell hcell2 h1 h2 hs hB hB2 hx
      go_wp2_with fail
      go_quiet (fail)
      go_wp2
      go_roundw
      case rel => exact ⟨k + 1, by omega, by go_num, HS.out.trans (Since.drewN (Since.refl _) _)⟩
      case measure => simp [intOf]; omega
    · obtain rfl : k = n := by omega
      go_wp2
      go_ret
      exact ⟨rfl, HS.out⟩
end Go.Proofs.Ytkpbmbhejpmboaa

namespace Go.Proofs.Ytkpbmbhejpmboaa
open Go.RowKit
set_option linter.unusedVariables false

theorem row_of_own {α : Type} {f : α → List Value} {sz : Nat} {p : World → α → Prop} (hf : ∀ x, (f x).length = sz) {e : TypeId} {base : Nat} {w : World} {v : Value} {l : List α} (h : OwnRow f sz e base w v l) (hp : ∀ x ∈ l, p w x) : RowIn f sz p w v l := by
  rcases h.cells hf with ⟨h1, h2⟩ | ⟨g, cap, hv, hc, hm, _, hg, hcell⟩
  · exact .inl ⟨_, h1, h2⟩
  · exact .inr ⟨g, 0, cap, hv, hc, hm, hg, fun j x hj => ⟨fun t ht => by rw [Nat.zero_add]; exact hcell j t x hj ht, hp x (List.mem_of_getElem? hj)⟩⟩
def blkV (v : Value) : Array Value := #[v, .int .i64 7, .int .i64 0, .int .i64 0, .slice none 0 0, .int .i32 0]
def BlkS (v x : Value) (w : World) : Prop := ∃ b, x = .slice (some ⟨b, 0, none⟩) 1 1 ∧ HeapIs w b (blkV v) 56
theorem BlkS.stable (v : Value) : Stable (BlkS v) := fun x w w' ⟨b, h1, h2⟩ s => ⟨b, h1, h2.keep s⟩
def BlkP (v x : Value) (w : World) : Prop := ∃ b, x = .agg #[.int .i64 0, .int .i64 16, .int .i64 0, .slice (some ⟨b, 0, none⟩) 1 1] ∧ HeapIs w b (blkV v) 56
theorem BlkP.stable (v : Value) : Stable (BlkP v) := fun x w w' ⟨b, h1, h2⟩ s => ⟨b, h1, h2.keep s⟩
theorem EvRow.keep {base : Nat} {w w' : World} {cv : Value} {calls : List (Int × List Int)} (h : EvRow base w cv calls) (s : Since w w') : EvRow base w' cv calls := h.turn (S := fun _ => False) (Turn.since s) fun _ _ h => h
def outV (X : Int) (a : Option Addr) (n c g cap : Nat) : Array Value := #[.int .i64 1, .int .i32 X, .slice a n c, .slice (some ⟨g, 0, none⟩) 3 cap, .int .i64 24]
def OutV (X : Int) (calls : List (Int × List Int)) (v : Value) (w : World) : Prop := ∃ a n c g cap base, v = .agg (outV X a n c g cap) ∧ EvRow base w (.slice (some ⟨g, 0, none⟩) 3 cap) calls
theorem OutV.stable (X : Int) (calls : List (Int × List Int)) : Stable (OutV X calls) := fun v w w' ⟨a, n, c, g, cap, base, h1, h2⟩ s => ⟨a, n, c, g, cap, base, h1, h2.keep s⟩
def outZ : Array Value := #[.int .i64 0, .int .i32 0, .slice none 0 0, .slice none 0 0, .int .i64 0]
def OBox (w0 : World) (v : Value) (w : World) : Prop := ∃ b, v = .pointer (some ⟨b, 0, none⟩) ∧ HeapIs w b outZ 42 ∧ w0.heap.size ≤ b
theorem OBox.stable (w0 : World) : Stable (OBox w0) := fun v w w' ⟨b, h1, h2, h3⟩ s => ⟨b, h1, h2.keep s, h3⟩
theorem EvRow.setRow {base : Nat} {w : World} {cv : Value} {calls : List (Int × List Int)} (h : EvRow base w cv calls) {b : Nat} {cs : Array Value} (hb : HeapIs w b cs 42) (cs' : Array Value) : EvRow base (w.setRow b cs') cv calls := by
  obtain ⟨evs, h1, h2, h3⟩ := h
  have t : Turn (fun q => q = b) w (w.setRow b cs') := setRow_turn (S := fun q => q = b) rfl _
  exact ⟨evs, own_turn h1 t fun q hq e => by subst e; exact own_not h1 hb (by decide) hq, h2, fun e he => own_turn (h3 e he) t fun q hq e => by subst e; exact own_not (h3 _ he) hb (by decide) hq⟩

theorem nums_heap {k : IntKind} {w : World} {b : Nat} {l : List Int} {T : TypeId} (h : HeapIs w b (l.map (Value.int k)).toArray T) (hm : l.length ≤ maxLen) : Nums k w (.slice (some ⟨b, 0, none⟩) l.length l.length) l :=
  nums_new l T _ (Nat.le_refl _) hm h (by intro j n hj; simp [hj])
/-- The program that PhysCalls lays. -/
theorem callsP_ok {w : World} {base : Nat} {W : List Int} {n : Nat} {av dv x : Value} {b : Nat} (hW : ∀ y ∈ W, In32 y) (hn : n ≤ 4) (ha : Ints w av (upTo n)) (ha2 : ∀ q, av.ownBlock = some q → q < w.heap.size) (hd : Ints w dv [0, 1, 2, 3]) (hd2 : ∀ q, dv.ownBlock = some q → q < w.heap.size)
    (ho : OwnRow plcells 9 58 base w x (callsL W n av dv)) (hb : HeapIs w b (blkV x) 56) : PrgOk w (callsP W n av dv x (.slice (some ⟨b, 0, none⟩) 1 1)) := by
  have hlen : (callsL W n av dv).length = 23 := by simp [callsL, lw_len, mvs_len]
  refine ⟨row_new (l := (callsP W n av dv x (.slice (some ⟨b, 0, none⟩) 1 1)).blocks) blcells_len (T := 56) hb (show 1 ≤ maxLen by decide) fun y hy => ?_, show 1 ≤ 100000 by decide⟩
  obtain rfl := List.mem_singleton.1 hy
  refine ⟨row_of_own plcells_len ho fun z hz => ?_, .nil _ _, by rw [hlen]; decide⟩
  have hz' : z ∈ ((lw W 16 ++ [cM n av, dM dv]) ++ mvs 4) ++ [dM dv] := hz
  simp only [List.mem_append, List.mem_cons, List.not_mem_nil, or_false] at hz'
  have nb : ∀ q, Value.ownBlock (.slice none 0 0) = some q → q < w.heap.size := fun q hq => (nomatch (show none = some q from hq))
  have hdm : PlOk w (dM dv) := ⟨hd, ⟨show (-2147483648 : Int) ≤ 10 by decide, show (10 : Int) ≤ 2147483647 by decide, show 4 ≤ 1000 by decide⟩, hd2⟩
  rcases hz' with ((hz | rfl | rfl) | hz) | rfl
  · obtain ⟨r, hr, rfl⟩ := List.mem_map.1 hz
    refine ⟨.nil _ _, ⟨(in32_getD hW r).1, (in32_getD hW r).2, show 0 ≤ 1000 by decide⟩, nb⟩
  · exact ⟨ha, ⟨show (-2147483648 : Int) ≤ 9 by decide, show (9 : Int) ≤ 2147483647 by decide, by show (upTo n).length ≤ 1000; rw [upTo_len]; omega⟩, ha2⟩
  · exact hdm
  · obtain ⟨r, hr, rfl⟩ := List.mem_map.1 hz
    exact ⟨.nil _ _, ⟨by show -2147483648 ≤ (0 : Int); decide, by show (0 : Int) ≤ 2147483647; decide, show 0 ≤ 1000 by decide⟩, nb⟩
  · exact hdm

/-- Three events that were made. -/
theorem three_evs {base : Nat} {w : World} {g cap : Nat} {c0 c1 c2 : Int} {l0 l1 l2 : List Int} (h : EvRow base w (.slice (some ⟨g, 0, none⟩) 3 cap) [(c0, l0), (c1, l1), (c2, l2)]) :
    ∃ v0 v1 v2, (w.cell? ⟨g, 0, none⟩ = some (.int .i32 c0) ∧ w.cell? ⟨g, 1, none⟩ = some v0 ∧ w.cell? ⟨g, 2, none⟩ = some (.int .i32 c1) ∧ w.cell? ⟨g, 3, none⟩ = some v1 ∧ w.cell? ⟨g, 4, none⟩ = some (.int .i32 c2) ∧ w.cell? ⟨g, 5, none⟩ = some v2) ∧ Nums .i32 w v0 l0 ∧ Nums .i32 w v1 l1 ∧ Nums .i32 w v2 l2 ∧ g < w.heap.size := by
  obtain ⟨evs, h1, h2, h3⟩ := h
  match evs, h2 with
  | [], h2 => cases h2
  | [_], h2 => cases h2
  | [_, _], h2 => cases h2
  | _ :: _ :: _ :: _ :: _, h2 => cases h2
  | [e0, e1, e2], h2 =>
    simp only [List.map_cons, List.map_nil, List.cons.injEq, Prod.mk.injEq, and_true] at h2
    obtain ⟨⟨rfl, rfl⟩, ⟨rfl, rfl⟩, rfl, rfl⟩ := h2
    rcases h1.cells evcells_len with ⟨hn, _⟩ | ⟨g', cap', hv, _, _, _, hg, hc⟩
    · cases hn
    · cases hv
      exact ⟨e0.argv, e1.argv, e2.argv, ⟨hc 0 0 e0 rfl (by decide), hc 0 1 e0 rfl (by decide), hc 1 0 e1 rfl (by decide), hc 1 1 e1 rfl (by decide), hc 2 0 e2 rfl (by decide), hc 2 1 e2 rfl (by decide)⟩, nums_of_own (h3 e0 (by simp)), nums_of_own (h3 e1 (by simp)), nums_of_own (h3 e2 (by simp)), hg⟩
theorem outs_three {w : World} {base : Nat} {v : Value} {e x st : Int} {c0 c1 c2 : Int × List Int} (h : OutIs w base v ⟨e, x, [], [c0, c1, c2], st⟩) : ∃ a n c g cap, v = .agg #[.int .i64 e, .int .i32 x, .slice a n c, .slice (some ⟨g, 0, none⟩) 3 cap, .int .i64 st] ∧ EvRow base w (.slice (some ⟨g, 0, none⟩) 3 cap) [c0, c1, c2] := by
  obtain ⟨mv, cv, rfl, hm, hc, _⟩ := h
  obtain ⟨a, c, rfl, _⟩ := hm.shape
  obtain ⟨evs, h1, h2, h3⟩ := hc
  have hl : evs.length = 3 := by have := congrArg List.length h2; simpa using this
  rcases h1.cells evcells_len with ⟨hn, h0⟩ | ⟨g, cap, hv, _⟩
  · rw [h0] at hl; cases hl
  · rw [hl] at hv
    subst hv
    exact ⟨_, _, _, _, _, rfl, evs, h1, h2, h3⟩
theorem outs_calls {w : World} {base : Nat} {v : Value} {W A : List Int} {n : Nat} (h : OutIs w base v (callsO W n A)) : ∃ a m c g cap, v = .agg #[.int .i64 1, .int .i32 (A.getD 2 0), .slice a m c, .slice (some ⟨g, 0, none⟩) 3 cap, .int .i64 24] ∧ OutV (A.getD 2 0) (callsO W n A).calls v w := by
  unfold callsO at h ⊢
  obtain ⟨a, m, c, g, cap, hv, he⟩ := outs_three h
  exact ⟨a, m, c, g, cap, hv, a, m, c, g, cap, base, hv, he⟩
theorem range_take (W : List Int) : ∀ k, k ≤ W.length → (List.range k).map (fun r => W.getD r 0) = W.take k
  | 0, _ => by simp
  | k + 1, hk => by
    rw [List.range_succ, List.map_append, range_take W k (by omega), List.take_add_one]
    congr 1
    rw [List.getElem?_eq_getElem (by omega)]
    simp [List.getD_eq_getElem?_getD, List.getElem?_eq_getElem (show k < W.length by omega)]
theorem take_getD {l : List Int} {n i : Nat} (h : i < n ∨ l.length ≤ n) : (l.take n).getD i 0 = l.getD i 0 := by
  rcases h with h | h
  · rw [List.getD_eq_getElem?_getD, List.getD_eq_getElem?_getD, List.getElem?_take_of_lt h]
  · rw [List.take_of_length_le h]
theorem row_tail {w : World} {b : Nat} {W : List Int} (h : WAt w b W [] 21) (hl : W.length = 16) : Nums .i32 w (.slice (some ⟨b, 12, none⟩) 4 4) [W.getD 12 0, W.getD 13 0, W.getD 14 0, W.getD 15 0] := by
  refine .inr ⟨b, 12, 4, rfl, Nat.le_refl _, by decide, h.lt, fun j n hj => ?_⟩
  match j, hj with
  | 0, hj => cases hj; exact h.cell (i := 12) (by omega)
  | 1, hj => cases hj; exact h.cell (i := 13) (by omega)
  | 2, hj => cases hj; exact h.cell (i := 14) (by omega)
  | 3, hj => cases hj; exact h.cell (i := 15) (by omega)
  | j + 4, hj => simp at hj
theorem row_head {w : World} {b : Nat} {W : List Int} (h : WAt w b W [] 21) (hl : W.length = 16) {k : Nat} (hk : k ≤ 4) : Nums .i32 w (.slice (some ⟨b, 0, none⟩) k 16) ((List.range k).map (fun r => W.getD r 0)) := by
  rw [range_take W k (by omega)]
  have h1 : Nums .i32 w (.slice (some ⟨b, 0, none⟩) W.length 16) W := .inr ⟨b, 0, 16, rfl, by omega, by decide, h.lt, fun j n hj => by
    have hlt := (List.getElem?_eq_some_iff.1 hj).1
    have := h.cell hlt
    rw [List.getD_eq_getElem?_getD, hj] at this
    rw [Nat.zero_add]
    exact this⟩
  exact nums_take h1 k (by omega)
end Go.Proofs.Ytkpbmbhejpmboaa
