/- interp.Memory: a run's own memory. phys.Run. -/
import Derived.Test.YtkpbmbhejpmboaaBlock
import Derived.Test.YtkpbmbhejpmboaaKindOf
import Derived.Laws.CopyOwn
namespace Go.Proofs.Ytkpbmbhejpmboaa
open Go.RowKit
set_option linter.unusedVariables false

theorem nums_take {k : IntKind} {w : World} {a : Option Addr} {cap : Nat} {l : List Int} (h : Nums k w (.slice a l.length cap) l) (n : Nat) (hn : n ≤ l.length) : Nums k w (.slice a n cap) (l.take n) := by
  rcases h with ⟨_, h1, h2⟩ | ⟨b, off, cap', h1, h2, h3, hb, hc⟩
  · subst h2; obtain rfl : n = 0 := by simpa using hn
    cases h1
    exact .inl ⟨_, rfl, rfl⟩
  · cases h1
    have hl : (l.take n).length = n := by rw [List.length_take]; omega
    refine .inr ⟨b, off, cap, by rw [hl], by omega, h3, hb, fun j x hj => ?_⟩
    refine hc j x ?_
    rw [List.getElem?_take] at hj
    split at hj
    · exact hj
    · cases hj

theorem nums_own32 {base : Nat} {w : World} {v : Value} {l : List Int} (h : w.ownsRow base 21 1 v l.length (l.map (Value.int .i32))) (hl : l.length ≤ 1000000) : MemIs w v l ∧ ∀ q, v.ownBlock = some q → base ≤ q ∧ q < w.heap.size := by
  refine ⟨?_, fun q hq => World.ownsRow.lt h q hq⟩
  obtain ⟨_, ⟨hv, hn⟩ | ⟨g, cap, cur, hv, _, hg, hc, hm, hs, htake⟩⟩ := h
  · exact .inl ⟨hv, List.length_eq_zero_iff.1 hn⟩
  · refine .inr ⟨g, cap, cur.toList.drop l.length, 21, hv, ?_, hl⟩
    unfold WAt
    rw [hg]
    rw [Nat.mul_one] at htake
    rw [← htake, List.take_append_drop]

/-- What is handed back is a copy of its own. -/
def MemQ (w : World) (l : List Int) (e : Ending) (w' : World) : Prop := ∃ v, e = .returned v ∧ MemIs w' v l ∧ (∀ q, v.ownBlock = some q → w.heap.size ≤ q ∧ q < w'.heap.size) ∧ Since w w'

theorem Try.info32 : (Try.prog.info? 21).map (fun i => (i.zero, i.size, i.bytes)) = some (some (.int .i32 0), 1, 4) := by kernel_rfl
set_option maxHeartbeats 400000 in
set_option maxRecDepth 100000 in
theorem clone32_any (v : Value) (l : List Int) (w : World) (h : Nums .i32 w v l) (hl : l.length ≤ 4096) :
    Calls Try.prog 78 #[v] w (MemQ w l) := by
  have h' := h
  have he := fun w a l c => Lib.run_eql_slice_nil (P := Try.prog) w 34 _ a l c 0 0 Try.underlying34
  rcases h with ⟨ad, rfl, rfl⟩ | ⟨b, off, cap, rfl, hcap, hmax, hb, hcell⟩
  · rcases ad with _ | ad
    rotate_left
    · go_enter Try.func78, Try.ntmps78
      go_wp2_with (at_builtin; refine wpList_append_nums (w0 := w) .i32 rfl _ _ 34 rfl 21 (.int .i32 0) 4 Try.underlying34 Try.info32 rfl (by decide) _ _ [] [] rfl rfl (own_empty rfl (Nat.le_refl _) _ _) (h'.keep ((Since.refl _).alloc _)) (by simp) ((Since.refl _).alloc _) ?_; intro v' w' hown hs)
      go_ret
      have h2 := nums_own32 (l := []) hown (by simp)
      exact ⟨_, rfl, h2.1, h2.2, hs⟩
    go_enter Try.func78, Try.ntmps78
    go_wp2
    go_ret
    exact ⟨.slice none 0 0, rfl, .inl ⟨rfl, rfl⟩, fun q (hq : none = some q) => (nomatch hq), Since.refl _⟩
  · go_enter Try.func78, Try.ntmps78
    go_wp2_with (at_builtin; refine wpList_append_nums (w0 := w) .i32 rfl _ _ 34 rfl 21 (.int .i32 0) 4 Try.underlying34 Try.info32 rfl (by decide) _ _ [] l rfl rfl (own_empty rfl (Nat.le_refl _) _ _) (h'.keep ((Since.refl _).alloc _)) (by simp; omega) ((Since.refl _).alloc _) ?_; intro v' w' hown hs)
    go_ret
    have h2 := nums_own32 (l := l) hown (by omega)
    exact ⟨_, rfl, h2.1, h2.2, hs⟩

theorem nums_caps {k : IntKind} {w : World} {a : Option Addr} {cap n : Nat} {l : List Int} (h : Nums k w (.slice a n cap) l) : n = l.length ∧ n ≤ cap ∧ cap ≤ 9223372036854775807 := by
  rcases h with ⟨_, h1, h2⟩ | ⟨b, off, cap', h1, h2, h3, hb, hc⟩
  · cases h1; subst h2; exact ⟨rfl, Nat.le_refl _, by omega⟩
  · cases h1; unfold maxLen at h3; exact ⟨rfl, h2, by omega⟩

set_option maxHeartbeats 1000000 in
set_option maxRecDepth 100000 in
theorem memory_any (av mv0 nv : Value) (st : Int) (l : List Int) (w : World) (h : Nums .i32 w mv0 l) :
    Calls Try.prog 47 #[.agg #[av, mv0, nv, .int .i64 st]] w (MemQ w (l.take 4096)) := by
  obtain ⟨a, cap, rfl⟩ := nums_lenI h
  obtain ⟨_, hc1, hc2⟩ := nums_caps h
  by_cases h5 : 4096 < l.length
  · have h5' : (4096 : Int) < (l.length : Int) := by omega
    have H := Lib.hid (fun w' (hs : Since w w') => clone32_any (.slice a 4096 cap) (l.take 4096) w' ((nums_take h 4096 (by omega)).keep hs) (by simp; omega))
    go_enter Try.func47, Try.ntmps47
    go_wp2_with fail
    refine (H.out _ ((Since.refl _).alloc _)).mono ?_
    rintro e w2 ⟨v, rfl, hv1, hv2, hs⟩
    go_wp2
    go_ret
    exact ⟨_, rfl, hv1, fun q hq => ⟨by have := (hv2 q hq).1; simp at this; omega, (hv2 q hq).2⟩, ((Since.refl _).alloc _).trans hs⟩
  · have h5' : (l.length : Int) ≤ 4096 := by omega
    have H := Lib.hid (fun w' (hs : Since w w') => clone32_any (.slice a l.length cap) (l.take 4096) w' (by rw [List.take_of_length_le (by omega)]; exact h.keep hs) (by simp; omega))
    go_enter Try.func47, Try.ntmps47
    go_wp2_with fail
    refine (H.out _ ((Since.refl _).alloc _)).mono ?_
    rintro e w2 ⟨v, rfl, hv1, hv2, hs⟩
    go_wp2
    go_ret
    exact ⟨_, rfl, hv1, fun q hq => ⟨by have := (hv2 q hq).1; simp at this; omega, (hv2 q hq).2⟩, ((Since.refl _).alloc _).trans hs⟩
end Go.Proofs.Ytkpbmbhejpmboaa

namespace Go.Proofs.Ytkpbmbhejpmboaa
open Go.RowKit
set_option linter.unusedVariables false

def iv (i : InV) : Value := .agg #[i.argsv, i.memv, i.ansv, .int .i64 i.steps]
def InOk (w : World) (i : InV) : Prop := (Nums .i32 w i.argsv i.args ∧ Nums .i32 w i.memv i.mem ∧ Nums .i32 w i.ansv i.ans) ∧ ((∀ x ∈ i.args, In32 x) ∧ (∀ x ∈ i.mem, In32 x) ∧ (∀ x ∈ i.ans, In32 x)) ∧ i.steps ≤ 1000000
theorem InOk.keep {w w' : World} {i : InV} (h : InOk w i) (s : Since w w') : InOk w' i := ⟨⟨h.1.1.keep s, h.1.2.1.keep s, h.1.2.2.keep s⟩, h.2⟩
/-- An outcome that reads in w. -/
def OutIs (w : World) (base : Nat) (v : Value) (o : OutP) : Prop := ∃ mv cv, v = .agg #[.int .i64 o.e, .int .i32 o.v, mv, cv, .int .i64 o.steps] ∧ MemIs w mv o.mem ∧ EvRow base w cv o.calls ∧ ∀ q, mv.ownBlock = some q → base ≤ q
def RunQ (p : PrgV) (i : InV) (w : World) (e : Ending) (w' : World) : Prop := ∃ v, e = .returned v ∧ OutIs w' w.heap.size v (runP p i) ∧ Since w w'

/-! ### What a right program has -/
theorem insList_ne {k sl : Int} : ∀ {l : List PlV} {i : Nat} {x : Int × Nat}, insList k sl l i = some x → x.1 ≠ 0
  | [], _, _, h => by cases h
  | y :: r, i, x, h => by
    unfold insList at h
    by_cases c : insE y.m k sl = 0
    · rw [if_pos c] at h; exact insList_ne h
    · rw [if_neg c] at h; cases h; exact c
theorem insList_all {k sl : Int} : ∀ {l : List PlV} {i : Nat}, insList k sl l i = none → ∀ x ∈ l, insE x.m k sl = 0
  | [], _, _, _, h => by cases h
  | y :: r, i, h, x, hx => by
    unfold insList at h
    by_cases c : insE y.m k sl = 0
    · rw [if_pos c] at h
      rcases List.mem_cons.1 hx with rfl | hx
      · exact c
      · exact insList_all h x hx
    · rw [if_neg c] at h; cases h
theorem blkE_none {k sl n : Int} {b : BlkV} (h : blkE k sl n b = none) : (∀ x ∈ b.ins, insE x.m k sl = 0) ∧ endE b.fin k n = 0 := by
  unfold blkE at h
  cases hx : insList k sl b.ins 0 with
  | some x => rw [hx] at h; cases h
  | none =>
    rw [hx] at h
    dsimp only at h
    by_cases c : endE b.fin k n = 0
    · exact ⟨insList_all hx, c⟩
    · rw [if_neg c] at h; cases h
theorem blkE_ne {k sl n : Int} {b : BlkV} {x : Int × Nat} (h : blkE k sl n b = some x) : x.1 ≠ 0 := by
  unfold blkE at h
  cases hx : insList k sl b.ins 0 with
  | some y => rw [hx] at h; cases h; exact insList_ne hx
  | none =>
    rw [hx] at h
    dsimp only at h
    by_cases c : endE b.fin k n = 0
    · rw [if_pos c] at h; cases h
    · rw [if_neg c] at h; cases h; exact c
theorem blkList_ne {k sl n : Int} : ∀ {l : List BlkV} {i : Nat} {x : Int × Nat × Nat}, blkList k sl n l i = some x → x.1 ≠ 0
  | [], _, _, h => by cases h
  | b :: r, i, x, h => by
    unfold blkList at h
    cases hb : blkE k sl n b with
    | none => rw [hb] at h; exact blkList_ne h
    | some y => rw [hb] at h; cases h; exact blkE_ne hb
theorem blkList_all {k sl n : Int} : ∀ {l : List BlkV} {i : Nat}, blkList k sl n l i = none → ∀ b ∈ l, blkE k sl n b = none
  | [], _, _, _, h => by cases h
  | y :: r, i, h, b, hb => by
    unfold blkList at h
    cases hy : blkE k sl n y with
    | some x => rw [hy] at h; cases h
    | none =>
      rw [hy] at h
      rcases List.mem_cons.1 hb with rfl | hb
      · exact hy
      · exact blkList_all h b hb

theorem right_head {p : PrgV} (h : rightB p = true) : (0 ≤ p.params ∧ p.params ≤ 4) ∧ (4 ≤ p.k ∧ p.k ≤ 16) ∧ (0 ≤ p.slots ∧ p.slots ≤ 16384) ∧ p.blocks ≠ [] ∧ blkList p.k p.slots p.blocks.length p.blocks 0 = none := by
  unfold rightB funcE at h
  by_cases c : headE p = 0
  · rw [if_pos c] at h
    have hb : blkList p.k p.slots p.blocks.length p.blocks 0 = none := by
      cases hx : blkList p.k p.slots p.blocks.length p.blocks 0 with
      | none => rfl
      | some x =>
        exfalso
        rw [hx] at h
        have := blkList_ne hx
        simp at h
        exact this h
    unfold headE at c
    by_cases c1 : p.params < 0 ∨ 4 < p.params ∨ p.k < 4 ∨ 16 < p.k ∨ p.slots < 0 ∨ 16384 < p.slots
    · rw [if_pos c1] at c; omega
    rw [if_neg c1] at c
    by_cases c2 : p.blocks.length = 0
    · rw [if_pos c2] at c; omega
    refine ⟨by omega, by omega, by omega, fun e => c2 (by rw [e]; rfl), hb⟩
  · rw [if_neg c] at h
    simp at h
    exact absurd h c

/-! ### The machine as it begins -/
theorem setRow_block {w : World} {g : Nat} {old : Array Value} {t : TypeId} (h : w.heap[g]? = some (.cells old t (0, 0))) (cs : Array Value) : (w.setRow g cs).heap[g]? = some (.cells cs t (0, 0)) := by
  simp [World.setRow, Array.getElem?_modify, h]
theorem setRow_turn {S : Nat → Prop} {w : World} {g : Nat} (hg : S g) (cs : Array Value) : Turn S w (w.setRow g cs) := by
  refine ⟨rfl, rfl, rfl, by simp [World.setRow], fun k hk hs => ?_⟩
  have : g ≠ k := fun e => hs (e ▸ hg)
  simp [World.setRow, Array.getElem?_modify, this]
def zeros (n : Nat) : Array Value := (List.replicate n (Value.int .i32 0)).toArray
/-- A new row of zeros. -/
def ZeroRow (w0 : World) (n : Nat) (v : Value) (w : World) : Prop := ∃ b, v = .slice (some ⟨b, 0, none⟩) n n ∧ HeapIs w b (zeros n) 21 ∧ w0.heap.size ≤ b
theorem ZeroRow.stable (w0 : World) (n : Nat) : Stable (ZeroRow w0 n) := fun v w w' ⟨b, h1, h2, h3⟩ s => ⟨b, h1, h2.keep s, h3⟩
def mach0 (sl a m n : Value) (st : Int) (om : Value) : Array Value := (List.replicate 16 (Value.int .i32 0) ++ [sl, a, m, n, .int .i64 st, .int .i64 0, .int .i32 0, om, .slice none 0 0, .int .i64 0, .int .i64 0]).toArray
def MachV (w0 : World) (n : Nat) (a m ns : Value) (st : Int) (v : Value) (w : World) : Prop := ∃ b, v = .agg (mach0 (.slice (some ⟨b, 0, none⟩) n n) a m ns st (.slice none 0 0)) ∧ HeapIs w b (zeros n) 21 ∧ w0.heap.size ≤ b
theorem MachV.stable (w0 : World) (n : Nat) (a m ns : Value) (st : Int) : Stable (MachV w0 n a m ns st) := fun v w w' ⟨b, h1, h2, h3⟩ s => ⟨b, h1, h2.keep s, h3⟩
def MachP (w0 : World) (n : Nat) (a m ns : Value) (st : Int) (v : Value) (w : World) : Prop := ∃ b mb, v = .pointer (some ⟨mb, 0, none⟩) ∧ HeapIs w b (zeros n) 21 ∧ w0.heap.size ≤ b ∧ w0.heap.size ≤ mb ∧ HeapIs w mb (mach0 (.slice (some ⟨b, 0, none⟩) n n) a m ns st (.slice none 0 0)) 91
theorem MachP.stable (w0 : World) (n : Nat) (a m ns : Value) (st : Int) : Stable (MachP w0 n a m ns st) := fun v w w' ⟨b, mb, h1, h2, h3, h4, h5⟩ s => ⟨b, mb, h1, h2.keep s, h3, h4, h5.keep s⟩
theorem made_zeros {w w1 : World} {n : Nat} (hown : w1.ownsRow w.heap.size 21 1 (.slice (some ⟨w.heap.size, 0, none⟩) n n) n (madeCells (Value.int .i32 0).cells (n * 1)).toList) (hgrow : w.grownBy w1 none) : Since w w1 ∧ HeapIs w1 w.heap.size (zeros n) 21 := by
  have hs : Since w w1 := Below.grown (Since.refl w) hgrow (Nat.le_refl _) (fun _ h => by cases h)
  refine ⟨hs, ?_⟩
  obtain ⟨_, ⟨hv, _⟩ | ⟨g, cap, cur, hv, _, hg, _, _, hsz, htake⟩⟩ := hown
  · cases hv
  · injection hv with hv hv2 hv3
    injection hv with hv
    injection hv with hv
    subst hv; subst hv3
    unfold HeapIs zeros
    rw [hg]
    have h1 : cur.toList = List.replicate n (Value.int .i32 0) := by
      rw [List.take_of_length_le (by simp [hsz])] at htake
      rw [htake]
      show (madeCells #[Value.int .i32 0] (n * 1)).toList = _
      rw [toList_madeCells_one, Nat.mul_one]
    have h2 : cur = (List.replicate n (Value.int .i32 0)).toArray := by rw [← h1]
    rw [h2]
/-- How many steps a run's machine has counted. -/
def stOf (w : World) (mb : Nat) : Int := match w.cell? ⟨mb, 25, none⟩ with
  | some (.int _ x) => x
  | _ => 0
theorem MRun.stOf {c : Cfg} {w : World} {s : St} {cv : Value} {e v st : Int} (h : MRun c w s cv e v st) : stOf w c.mb = st := by
  unfold Go.Proofs.Ytkpbmbhejpmboaa.stOf
  rw [show w.cell? ⟨c.mb, 25, none⟩ = some (.int .i64 st) from h.cellr 9]

/-- copy(d, s) of words, into the beginning of a block of the call's own. -/
theorem wpList_copy_nums {P : Program} {w : World} {ops : Array Oper} {rest : List Oper} {o : Oper} {a : Act} {Q : Exit → Act → World → Prop} (hgd : o.guard = none) (d s : Operand) (dT sT : TypeId)
    (ho : o.op = .call { callee := .builtin .copy, args := #[d, s], argTypes := #[dT, sT] }) (elem : TypeId) (hu : P.underlying dT = some (.slice elem)) (hsz : (P.info? elem).map (·.size) = some 1)
    (g dLen dCap : Nat) (sa : Option Addr) (sLen sCap : Nat) (hd : a.eval d = .slice (some ⟨g, 0, none⟩) dLen dCap) (hs : a.eval s = .slice sa sLen sCap) (l : List Int) (hl : Nums .i32 w (.slice sa sLen sCap) l)
    (cur : List Value) (t : TypeId) (hg : HeapIs w g cur.toArray t) (hfit : dLen ≤ cur.length)
    (h : ∀ v w', HeapIs w' g ((l.take dLen).map (Value.int .i32) ++ cur.drop (min l.length dLen)).toArray t → Turn (fun q => q = g) w w' → wpList P ops Q rest (a.put o.dst v) w') : wpList P ops Q (o :: rest) a w := by
  obtain ⟨hlen, hc⟩ := nums_cell hl
  subst hlen
  by_cases h0 : Nat.min l.length dLen = 0
  · refine wpList_copy_nothing hgd d s dT sT ho elem hu hsz _ _ _ _ _ _ hd hs h0 (h _ w ?_ (Turn.refl _ w))
    have h1 : l.take dLen = [] := by
      have : min l.length dLen = 0 := h0
      rw [List.eq_nil_iff_length_eq_zero, List.length_take]; omega
    rw [h1, show min l.length dLen = 0 from h0]
    simpa using hg
  · have hp : 0 < l.length ∧ 0 < dLen := by
      have : min l.length dLen ≠ 0 := h0
      omega
    obtain ⟨b, off, rfl, hb, hcell⟩ := hc (by intro e; rw [e] at hp; simp at hp)
    have hcs : ((l.take dLen).map (Value.int .i32)).length = min l.length dLen := by rw [List.length_map, List.length_take]; omega
    refine wpList_copy_own hgd d s dT sT ho elem hu hsz g 0 dLen dCap ⟨b, off, none⟩ l.length sCap hd hs cur.toArray t hg ((l.take dLen).map (Value.int .i32)) hcs ?_ ?_ ?_ (h _ _ ?_ (setRow_turn (S := fun q => q = g) rfl _))
    · intro j v hj
      rw [List.getElem?_map] at hj
      obtain ⟨n, hn, rfl⟩ := Option.map_eq_some_iff.1 hj
      rw [List.getElem?_take] at hn
      split at hn
      · have := hcell j n hn
        unfold Addr.add
        split
        · rename_i e; subst e; simpa using this
        · exact this
      · cases hn
    · rw [hcs]; simp; omega
    · intro v hv
      obtain ⟨n, _, rfl⟩ := List.mem_map.1 hv
      rfl
    · have := setRow_block (w := w) (g := g) (old := cur.toArray) (t := t) hg (cur.toArray.toList.take 0 ++ ((l.take dLen).map (Value.int .i32) ++ cur.toArray.toList.drop (0 + ((l.take dLen).map (Value.int .i32)).length))).toArray
      rw [hcs] at this
      have e1 : cur.toArray.toList.take 0 ++ ((l.take dLen).map (Value.int .i32) ++ cur.toArray.toList.drop (0 + min l.length dLen)) = (l.take dLen).map (Value.int .i32) ++ cur.drop (min l.length dLen) := by rw [List.take_zero, List.nil_append, Nat.zero_add]
      rw [e1] at this
      rw [hcs, e1]
      exact this
theorem EvRow.base_le {b b' : Nat} {w : World} {cv : Value} {calls : List (Int × List Int)} (h : EvRow b w cv calls) (hb : b' ≤ b) : EvRow b' w cv calls := by
  obtain ⟨evs, h1, h2, h3⟩ := h
  exact ⟨evs, own_base h1 hb, h2, fun e he => own_base (h3 e he) hb⟩
def regsP (P : Nat) (args : List Int) : List Int := (List.range 16).map fun t => if t < P then args.getD t 0 else 0
theorem regsP_len (P : Nat) (args : List Int) : (regsP P args).length = 16 := by simp [regsP]
theorem regsP_eq (p : PrgV) (i : InV) (P : Nat) (h : p.params = P) : regs0 p i = regsP P i.args := by
  unfold regs0 regsP
  rw [h]
  refine List.map_congr_left fun t _ => ?_
  by_cases c : t < P
  · rw [if_pos c, if_pos (by omega)]
  · rw [if_neg c, if_neg (by omega)]
theorem regsP_32 {P : Nat} {args : List Int} (h : ∀ x ∈ args, In32 x) : ∀ x ∈ regsP P args, In32 x := by
  intro x hx
  obtain ⟨t, _, rfl⟩ := List.mem_map.1 hx
  split
  · exact in32_getD h t
  · exact ⟨by omega, by omega⟩
theorem regs_copy (P : Nat) (args : List Int) (rest : List Value) (hP : P ≤ 16) :
    (args.take P).map (Value.int .i32) ++ (List.replicate 16 (Value.int .i32 0) ++ rest).drop (min args.length P) = (regsP P args).map (Value.int .i32) ++ rest := by
  have hq : min args.length P ≤ 16 := by omega
  rw [List.drop_append_of_le_length (by simp; omega), List.drop_replicate, ← List.append_assoc]
  congr 1
  have e : (regsP P args) = args.take P ++ List.replicate (16 - min args.length P) 0 := by
    refine List.ext_getElem? fun i => ?_
    by_cases hi : i < 16
    · have h1 : (regsP P args)[i]? = some (if i < P then args.getD i 0 else 0) := by
        unfold regsP
        rw [List.getElem?_map, List.getElem?_range hi]; rfl
      have hlt : (args.take P).length = min args.length P := by rw [List.length_take]; omega
      rw [h1]
      by_cases hiq : i < min args.length P
      · have h2 : (args.take P ++ List.replicate (16 - min args.length P) 0)[i]? = args[i]? := by
          rw [List.getElem?_append_left (by rw [hlt]; exact hiq), List.getElem?_take_of_lt (by omega)]
        rw [h2, if_pos (by omega), List.getD_eq_getElem?_getD, List.getElem?_eq_getElem (by omega)]
        rfl
      · have h2 : (args.take P ++ List.replicate (16 - min args.length P) 0)[i]? = some 0 := by
          rw [List.getElem?_append_right (by rw [hlt]; omega), hlt, List.getElem?_replicate, if_pos (by omega)]
        rw [h2]
        by_cases c : i < P
        · rw [if_pos c, List.getD_eq_getElem?_getD, List.getElem?_eq_none (by omega)]; rfl
        · rw [if_neg c]
    · have hlt : (args.take P).length = min args.length P := by rw [List.length_take]; omega
      rw [List.getElem?_eq_none (by rw [regsP_len]; omega), List.getElem?_eq_none (by rw [List.length_append, hlt, List.length_replicate]; omega)]
  rw [e, List.map_append, List.map_replicate]
end Go.Proofs.Ytkpbmbhejpmboaa
