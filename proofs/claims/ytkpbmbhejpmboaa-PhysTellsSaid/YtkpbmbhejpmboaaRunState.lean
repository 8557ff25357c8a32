/- A run's state as it lies in memory. phys.machine.step, phys.who. -/
import Derived.Test.YtkpbmbhejpmboaaMachAll
import Derived.Test.YtkpbmbhejpmboaaPhysFunc
namespace Go.Proofs.Ytkpbmbhejpmboaa
open Go.RowKit
set_option linter.unusedVariables false

theorem turn_grown {w w' : World} {row : Option Nat} (h : w.grownBy w' row) : Turn (fun k => row = some k) w w' := ⟨h.os, h.tape, h.output, h.size, fun k hk hn => h.block k hk (fun e => hn e.symm)⟩
theorem own_turn {S : Nat → Prop} {w w' : World} {base : Nat} {e : TypeId} {size n : Nat} {v : Value} {xs : List Value} (h : w.ownsRow base e size v n xs) (t : Turn S w w') (hn : ∀ q, v.ownBlock = some q → ¬ S q) : w'.ownsRow base e size v n xs := by
  obtain ⟨h0, h | ⟨g, cap, cur, h1, h2, h3, h4⟩⟩ := h
  · exact ⟨h0, .inl h⟩
  · exact ⟨h0, .inr ⟨g, cap, cur, h1, h2, (t.block g (Array.getElem?_eq_some_iff.1 h3).1 (hn g (by rw [h1]; rfl))).trans h3, h4⟩⟩
/-- Rows of two types are two rows. -/
theorem own_ne {w : World} {b1 b2 : Nat} {e1 e2 : TypeId} {s1 s2 n1 n2 : Nat} {v1 v2 : Value} {x1 x2 : List Value} (h1 : w.ownsRow b1 e1 s1 v1 n1 x1) (h2 : w.ownsRow b2 e2 s2 v2 n2 x2) (hne : e1 ≠ e2) (q : Nat) (hq : v1.ownBlock = some q) : ¬ v2.ownBlock = some q := by
  intro hq2
  obtain ⟨_, ⟨h, _⟩ | ⟨g, _, _, hv, _, hg, _⟩⟩ := h1
  · rw [h] at hq; cases hq
  obtain ⟨_, ⟨h, _⟩ | ⟨g', _, _, hv', _, hg', _⟩⟩ := h2
  · rw [h] at hq2; cases hq2
  rw [hv] at hq; rw [hv'] at hq2
  have a : g = q := Option.some.inj hq
  have b : g' = q := Option.some.inj hq2
  rw [a] at hg; rw [b] at hg'; rw [hg] at hg'
  simp only [Option.some.injEq, Obj.cells.injEq] at hg'
  exact hne hg'.2.1

/-- append(s, x) of one datum, by a new block of one, to a row of the call's own: what may turn. -/
theorem wpList_append_turn {α : Type} {P : Program} {base : Nat} {w : World} {ops : Array Oper} {rest : List Oper} {o : Oper} {a : Act} {Q : Exit → Act → World → Prop} (f : α → List Value) (sz : Nat) (hf : ∀ x, (f x).length = sz) (hsz : 0 < sz) (hgd : o.guard = none) (s x : Operand) (t : TypeId)
    (ho : o.op = .call { callee := .builtin .append, args := #[s, x], argTypes := #[t, t] })
    (e : TypeId) (z : Value) (bytes : Nat) (ht : P.underlying t = some (.slice e)) (hinfo : (P.info? e).map (fun i => (i.zero, i.size, i.bytes)) = some (some z, sz, bytes)) (hz : z.cells.size = sz)
    (v : Value) (l : List α) (y : α) (b cap : Nat) (t2 : TypeId) (hs : a.eval s = v) (hx : a.eval x = .slice (some ⟨b, 0, none⟩) 1 cap) (hown : OwnRow f sz e base w v l) (hb : w.heap[b]? = some (.cells (f y).toArray t2 (0, 0))) (h1 : ∀ u ∈ f y, u.oneCell' = true)
    (hm : l.length + 1 ≤ maxLen) (hlen : (l.length + 1) * bytes ≤ 140737488355328) (hbase : base ≤ w.heap.size)
    (h : ∀ v' w', OwnRow f sz e base w' v' (l ++ [y]) → Turn (fun k => v.ownBlock = some k) w w' → wpList P ops Q rest (a.put o.dst v') w') : wpList P ops Q (o :: rest) a w := by
  obtain ⟨i, hi, hz0, hz1, hz2⟩ := info_parts hinfo
  refine wpList_append_own _ hgd s x t ho base e i z sz bytes ht hi hz0 hz1 hz2 hz hsz v _ _ hs hown ⟨b, 0, none⟩ 1 cap (f y) hx (by rw [hf, Nat.one_mul]) ?_ h1 hm hlen hbase ?_
  · intro j u hu
    have e2 : (⟨b, 0, none⟩ : Addr).add j = ⟨b, j, none⟩ := by
      unfold Addr.add; split
      · rename_i h0; subst h0; rfl
      · simp
    rw [e2]
    simp [World.cell?, hb, hu]
  · intro v' w' hown' hgrow _
    refine h v' w' ?_ (turn_grown hgrow)
    unfold OwnRow
    rw [List.length_append, List.flatMap_append]
    simpa using hown'

/-! ### Calls that were made -/
structure EvV where
  callee : Int
  argv : Value
  args : List Int
def evcells (x : EvV) : List Value := [.int .i32 x.callee, x.argv]
theorem evcells_len (x : EvV) : (evcells x).length = 2 := rfl
def Own32 (base : Nat) (w : World) (v : Value) (l : List Int) : Prop := w.ownsRow base 21 1 v l.length (l.map (Value.int .i32))
abbrev EvOwn (base : Nat) (w : World) (v : Value) (l : List EvV) : Prop := OwnRow evcells 2 61 base w v l
def EvRow (base : Nat) (w : World) (cv : Value) (calls : List (Int × List Int)) : Prop :=
  ∃ evs : List EvV, EvOwn base w cv evs ∧ (evs.map fun e => (e.callee, e.args)) = calls ∧ ∀ e ∈ evs, Own32 base w e.argv e.args
theorem EvRow.nil (base : Nat) (w : World) : EvRow base w (.slice none 0 0) [] := ⟨[], OwnRow.nil _ _ _ _ _, rfl, fun _ h => by cases h⟩
theorem EvRow.turn {S : Nat → Prop} {base : Nat} {w w' : World} {cv : Value} {calls : List (Int × List Int)} (h : EvRow base w cv calls) (t : Turn S w w') (hs : ∀ q, base ≤ q → ¬ S q) : EvRow base w' cv calls := by
  obtain ⟨evs, h1, h2, h3⟩ := h
  exact ⟨evs, own_turn h1 t fun q hq => hs q (h1.lt q hq).1, h2, fun e he => own_turn (h3 e he) t fun q hq => hs q ((h3 e he).lt q hq).1⟩
/-- One more. -/
theorem EvRow.snoc {base : Nat} {w w' : World} {cv cv' : Value} {evs : List EvV} {x : EvV} (h1 : EvOwn base w cv evs) (h3 : ∀ e ∈ evs, Own32 base w e.argv e.args) (hx : Own32 base w x.argv x.args) (hne : (21 : TypeId) ≠ 61) (hown : EvOwn base w' cv' (evs ++ [x])) (t : Turn (fun k => cv.ownBlock = some k) w w') :
    EvRow base w' cv' ((evs.map fun e => (e.callee, e.args)) ++ [(x.callee, x.args)]) := by
  refine ⟨_, hown, by simp, fun e he => ?_⟩
  rw [List.mem_append, List.mem_singleton] at he
  have hk : Own32 base w e.argv e.args := by
    rcases he with he | rfl
    · exact h3 e he
    · exact hx
  exact own_turn hk t fun q hq => own_ne hk h1 hne q hq

/-! ### The machine -/
structure Cfg where
  w0 : World
  mb : Nat
  base : Nat
  slv : Value
  av : Value
  memv : Value
  ansv : Value
  steps : Int
  outm : Value
  ans : List Int
def mrest (c : Cfg) (cv : Value) (e v st : Int) (n : Nat) : List Value := [c.slv, c.av, c.memv, c.ansv, .int .i64 c.steps, .int .i64 e, .int .i32 v, c.outm, cv, .int .i64 st, .int .i64 n]
structure MRun (c : Cfg) (w : World) (s : St) (cv : Value) (e v st : Int) : Prop where
  old : Since c.w0 w
  new : c.w0.heap.size ≤ c.mb
  lt : c.mb < c.base
  base : c.base ≤ w.heap.size
  mat : WAt w c.mb s.regs (mrest c cv e v st s.calls.length) 91
  len : s.regs.length = 16
  r32 : ∀ x ∈ s.regs, In32 x
  s32 : ∀ x ∈ s.slots, In32 x
  m32 : ∀ x ∈ s.mem, In32 x
  slots : MemIs w c.slv s.slots
  sown : ∀ q, c.slv.ownBlock = some q → c.w0.heap.size ≤ q ∧ q < c.base ∧ q ≠ c.mb
  mem : MemIs w c.outm s.mem
  mown : ∀ q, c.outm.ownBlock = some q → c.w0.heap.size ≤ q ∧ q < c.base ∧ q ≠ c.mb ∧ c.slv.ownBlock ≠ some q
  few : (s.calls.length : Int) ≤ st
  most : st ≤ 1000000
  ans : Nums .i32 c.w0 c.ansv c.ans
  a32 : ∀ x ∈ c.ans, In32 x
  calls : EvRow c.base w cv s.calls
/-- Blocks that may turn within a run. -/
def Busy (c : Cfg) (k : Nat) : Prop := k = c.mb ∨ c.slv.ownBlock = some k ∨ c.outm.ownBlock = some k

theorem WAt.rcell {w : World} {b : Nat} {R : List Int} {rest : List Value} {T : TypeId} (h : WAt w b R rest T) (i : Nat) : w.cell? ⟨b, R.length + i, none⟩ = rest[i]? := by
  simp only [World.cell?, show w.heap[b]? = _ from h]
  rw [List.getElem?_toArray, List.getElem?_append_right (by simp)]
  simp
theorem WAt.rset {w : World} {b : Nat} {R : List Int} {rest : List Value} {T : TypeId} (h : WAt w b R rest T) (i : Nat) (v : Value) : WAt (w.setCell ⟨b, R.length + i, none⟩ v) b R (rest.set i v) T := by
  unfold WAt at h ⊢
  have e : R.map (Value.int .i32) ++ rest.set i v = (R.map (Value.int .i32) ++ rest).set (R.length + i) v := by
    rw [List.set_append_right _ _ (by simp)]; simp
  rw [e]
  simp [World.setCell, Array.getElem?_modify, h]

theorem MRun.cellr {c : Cfg} {w : World} {s : St} {cv : Value} {e v st : Int} (h : MRun c w s cv e v st) (i : Nat) : w.cell? ⟨c.mb, 16 + i, none⟩ = (mrest c cv e v st s.calls.length)[i]? := by
  have := h.mat.rcell i
  rwa [h.len] at this
theorem MRun.reg {c : Cfg} {w : World} {s : St} {cv : Value} {e v st : Int} (h : MRun c w s cv e v st) {i : Nat} (hi : i < 16) : w.cell? ⟨c.mb, i, none⟩ = some (.int .i32 (s.regs.getD i 0)) := h.mat.cell (by rw [h.len]; exact hi)
theorem MRun.size {c : Cfg} {w : World} {s : St} {cv : Value} {e v st : Int} (h : MRun c w s cv e v st) : c.mb < w.heap.size := Nat.lt_of_lt_of_le h.lt h.base
/-- The machine's own block turns, and what else may. -/
theorem MRun.turn {S : Nat → Prop} {c : Cfg} {w w' : World} {s s' : St} {cv : Value} {e v st e' v' st' : Int} (h : MRun c w s cv e v st) (t : Turn S w w') (hS : ∀ q, S q → c.w0.heap.size ≤ q ∧ q < c.base)
    (hm : WAt w' c.mb s'.regs (mrest c cv e' v' st' s'.calls.length) 91) (hl : s'.regs.length = 16) (hr : ∀ x ∈ s'.regs, In32 x)
    (hs : MemIs w' c.slv s'.slots) (hs32 : ∀ x ∈ s'.slots, In32 x) (hmm : MemIs w' c.outm s'.mem) (hm32 : ∀ x ∈ s'.mem, In32 x) (hc : s'.calls = s.calls) (hst : (s'.calls.length : Int) ≤ st') (hst2 : st' ≤ 1000000) : MRun c w' s' cv e' v' st' := by
  have hsz : w.heap.size ≤ w'.heap.size := t.size
  refine ⟨t.toSince h.old fun k hk hs => ?_, h.new, h.lt, Nat.le_trans h.base hsz, hm, hl, hr, hs32, hm32, hs, h.sown, hmm, h.mown, hst, hst2, h.ans, h.a32, ?_⟩
  · have := (hS k hs).1; omega
  · rw [hc]; exact h.calls.turn t fun q hq hs => by have := (hS q hs).2; omega
theorem MRun.keep {c : Cfg} {w w' : World} {s : St} {cv : Value} {e v st : Int} (h : MRun c w s cv e v st) (t : Since w w') : MRun c w' s cv e v st :=
  h.turn (S := fun _ => False) (Turn.since t) (fun _ h => h.elim) (h.mat.keep t) h.len h.r32 (h.slots.keep t) h.s32 (h.mem.keep t) h.m32 rfl h.few h.most
/-- A cell behind the registers is set. -/
theorem MRun.set1 {c : Cfg} {w : World} {s : St} {cv : Value} {e v st e' v' st' : Int} (h : MRun c w s cv e v st) (i : Nat) (x : Value) (hx : (mrest c cv e v st s.calls.length).set i x = mrest c cv e' v' st' s.calls.length) (hst : (s.calls.length : Int) ≤ st') (hst2 : st' ≤ 1000000) :
    MRun c (w.setCell ⟨c.mb, 16 + i, none⟩ x) s cv e' v' st' := by
  have t : Turn (fun k => k = c.mb) w (w.setCell ⟨c.mb, 16 + i, none⟩ x) := (Turn.refl (fun k => k = c.mb) w).setCell (p := ⟨c.mb, 16 + i, none⟩) rfl x
  have hb : c.w0.heap.size ≤ c.mb ∧ c.mb < c.base := ⟨h.new, h.lt⟩
  refine h.turn t (fun q hq => by subst hq; exact hb) ?_ h.len h.r32 (h.slots.turn t fun q hq e => (h.sown q hq).2.2 e) h.s32 (h.mem.turn t fun q hq e => (h.mown q hq).2.2.1 e) h.m32 rfl hst hst2
  have := h.mat.rset i x
  rw [h.len, hx] at this
  exact this
/-- A register is set. -/
theorem MRun.setReg {c : Cfg} {w : World} {s : St} {cv : Value} {e v st : Int} (h : MRun c w s cv e v st) {i : Nat} (hi : i < 16) {x : Int} (hx : In32 x) :
    MRun c (w.setCell ⟨c.mb, i, none⟩ (.int .i32 x)) { s with regs := s.regs.set i x } cv e v st := by
  have t : Turn (fun k => k = c.mb) w (w.setCell ⟨c.mb, i, none⟩ (.int .i32 x)) := (Turn.refl (fun k => k = c.mb) w).setCell (p := ⟨c.mb, i, none⟩) rfl _
  refine h.turn t (fun q hq => by subst hq; exact ⟨h.new, h.lt⟩) (h.mat.set (by rw [h.len]; exact hi) x) (by rw [List.length_set]; exact h.len) (fun y hy => ?_) (h.slots.turn t fun q hq e => (h.sown q hq).2.2 e) h.s32 (h.mem.turn t fun q hq e => (h.mown q hq).2.2.1 e) h.m32 rfl h.few h.most
  rcases List.mem_or_eq_of_mem_set hy with hy | rfl
  · exact h.r32 y hy
  · exact hx
end Go.Proofs.Ytkpbmbhejpmboaa

namespace Go.Proofs.Ytkpbmbhejpmboaa
open Go.RowKit
set_option linter.unusedVariables false

def StepQ (c : Cfg) (w : World) (s : St) (cv : Value) (st : Int) (e : Ending) (w' : World) : Prop :=
  e = .returned (.bool (!decide (c.steps ≤ st))) ∧ MRun c w' s cv (if c.steps ≤ st then 3 else 0) 0 (if c.steps ≤ st then st else st + 1) ∧ Turn (fun q => q = c.mb) w w'

set_option maxHeartbeats 1000000 in
set_option maxRecDepth 100000 in
theorem step_any (c : Cfg) (s : St) (cv : Value) (st : Int) (w : World) (h : MRun c w s cv 0 0 st) (hst : c.steps ≤ 1000000) (h0 : 0 ≤ st) :
    Calls Try.prog 79 #[.pointer (some ⟨c.mb, 0, none⟩)] w (StepQ c w s cv st) := by
  have g4 : w.cell? ⟨c.mb, 20, none⟩ = some (.int .i64 c.steps) := h.cellr 4
  have g9 : w.cell? ⟨c.mb, 25, none⟩ = some (.int .i64 st) := h.cellr 9
  have g5 : w.cell? ⟨c.mb, 21, none⟩ = some (.int .i64 0) := h.cellr 5
  have fz := h.mat.frozen
  have hm := h.most
  have hf := h.few
  unfold StepQ
  by_cases hd0 : c.steps ≤ st
  · have hd : decide (c.steps ≤ st) = true := decide_eq_true hd0
    rw [if_pos hd0, if_pos hd0, hd]
    have H := Lib.hid h; clear h
    generalize c.steps = cs at *
    go_enter Try.func79, Try.ntmps79
    go_wp2_with fail
    go_quiet (fail)
    go_wp2
    go_ret
    exact ⟨rfl, (H.out.keep (Since.drewN (Since.refl _) _)).set1 5 _ rfl hf hm, (Turn.since (S := fun q => q = c.mb) (Since.drewN (Since.refl _) _)).setCell (p := ⟨c.mb, 21, none⟩) rfl _⟩
  · have hd : decide (c.steps ≤ st) = false := decide_eq_false hd0
    rw [if_neg hd0, if_neg hd0, hd]
    have H := Lib.hid h; clear h
    have HM := Lib.hid hm; clear hm
    have hst3 : st < 1000000 := by omega
    generalize c.steps = cs at *
    go_enter Try.func79, Try.ntmps79
    go_wp2_with fail
    go_quiet (fail)
    go_wp2
    go_ret
    exact ⟨rfl, (H.out.keep (Since.drewN (Since.refl _) _)).set1 9 _ rfl (by omega) (by omega), (Turn.since (S := fun q => q = c.mb) (Since.drewN (Since.refl _) _)).setCell (p := ⟨c.mb, 25, none⟩) rfl _⟩
end Go.Proofs.Ytkpbmbhejpmboaa
