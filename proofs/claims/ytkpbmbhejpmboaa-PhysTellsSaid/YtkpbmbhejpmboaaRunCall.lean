/- phys.call.do. -/
import Derived.Test.YtkpbmbhejpmboaaRunPlain
import Derived.Test.YtkpbmbhejpmboaaRegion4
namespace Go.Proofs.Ytkpbmbhejpmboaa
open Go.RowKit
set_option linter.unusedVariables false

/-- The machine, whatever was called. -/
structure MMid (c : Cfg) (w : World) (s : St) (cv : Value) (n : Nat) (e v st : Int) : Prop where
  old : Since c.w0 w
  new : c.w0.heap.size ≤ c.mb
  lt : c.mb < c.base
  base : c.base ≤ w.heap.size
  mat : WAt w c.mb s.regs (mrest c cv e v st n) 91
  len : s.regs.length = 16
  r32 : ∀ x ∈ s.regs, In32 x
  s32 : ∀ x ∈ s.slots, In32 x
  m32 : ∀ x ∈ s.mem, In32 x
  slots : MemIs w c.slv s.slots
  sown : ∀ q, c.slv.ownBlock = some q → c.w0.heap.size ≤ q ∧ q < c.base ∧ q ≠ c.mb
  mem : MemIs w c.outm s.mem
  mown : ∀ q, c.outm.ownBlock = some q → c.w0.heap.size ≤ q ∧ q < c.base ∧ q ≠ c.mb ∧ c.slv.ownBlock ≠ some q
  ans : Nums .i32 c.w0 c.ansv c.ans
  a32 : ∀ x ∈ c.ans, In32 x
theorem MRun.mid {c : Cfg} {w : World} {s : St} {cv : Value} {e v st : Int} (h : MRun c w s cv e v st) : MMid c w s cv s.calls.length e v st :=
  ⟨h.old, h.new, h.lt, h.base, h.mat, h.len, h.r32, h.s32, h.m32, h.slots, h.sown, h.mem, h.mown, h.ans, h.a32⟩
theorem MMid.run {c : Cfg} {w : World} {s : St} {cv : Value} {e v st : Int} (h : MMid c w s cv s.calls.length e v st) (hf : (s.calls.length : Int) ≤ st) (hm : st ≤ 1000000) (hc : EvRow c.base w cv s.calls) : MRun c w s cv e v st :=
  ⟨h.old, h.new, h.lt, h.base, h.mat, h.len, h.r32, h.s32, h.m32, h.slots, h.sown, h.mem, h.mown, hf, hm, h.ans, h.a32, hc⟩
theorem MMid.turn {S : Nat → Prop} {c : Cfg} {w w' : World} {s : St} {cv : Value} {n : Nat} {e v st : Int} (h : MMid c w s cv n e v st) (t : Turn S w w') (hS : ∀ q, S q → c.base ≤ q) : MMid c w' s cv n e v st :=
  ⟨t.toSince h.old fun k hk hs => (by have := hS k hs; have := h.new; have := h.lt; omega), h.new, h.lt, Nat.le_trans h.base t.size, h.mat.turn t (fun hs => by have := hS _ hs; have := h.lt; omega), h.len, h.r32, h.s32, h.m32,
    h.slots.turn t (fun q hq hs => by have := hS q hs; have := (h.sown q hq).2.1; omega), h.sown, h.mem.turn t (fun q hq hs => by have := hS q hs; have := (h.mown q hq).2.1; omega), h.mown, h.ans, h.a32⟩
theorem MMid.keep {c : Cfg} {w w' : World} {s : St} {cv : Value} {n : Nat} {e v st : Int} (h : MMid c w s cv n e v st) (t : Since w w') : MMid c w' s cv n e v st := h.turn (S := fun _ => False) (Turn.since t) (fun _ h => h.elim)
theorem MMid.cellr {c : Cfg} {w : World} {s : St} {cv : Value} {n : Nat} {e v st : Int} (h : MMid c w s cv n e v st) (i : Nat) : w.cell? ⟨c.mb, 16 + i, none⟩ = (mrest c cv e v st n)[i]? := by
  have := h.mat.rcell i
  rwa [h.len] at this
theorem MMid.own1 {c : Cfg} {w : World} {s s' : St} {cv cv' : Value} {n n' : Nat} {e v st e' v' st' : Int} (h : MMid c w s cv n e v st) (a : Addr) (x : Value) (ha : a.block = c.mb) (hm : WAt (w.setCell a x) c.mb s'.regs (mrest c cv' e' v' st' n') 91) (hl : s'.regs.length = 16) (hr : ∀ x ∈ s'.regs, In32 x) (hs : s'.slots = s.slots) (hme : s'.mem = s.mem) :
    MMid c (w.setCell a x) s' cv' n' e' v' st' := by
  have t : Turn (fun k => k = c.mb) w (w.setCell a x) := (Turn.refl (fun k => k = c.mb) w).setCell (p := a) ha x
  refine ⟨t.toSince h.old fun k hk hs => (by subst hs; have := h.new; omega), h.new, h.lt, Nat.le_trans h.base t.size, hm, hl, hr, by rw [hs]; exact h.s32, by rw [hme]; exact h.m32, ?_, h.sown, ?_, h.mown, h.ans, h.a32⟩
  · rw [hs]; exact h.slots.turn t fun q hq e => (h.sown q hq).2.2 e
  · rw [hme]; exact h.mem.turn t fun q hq e => (h.mown q hq).2.2.1 e
theorem MMid.set1 {c : Cfg} {w : World} {s : St} {cv cv' : Value} {n n' : Nat} {e v st e' v' st' : Int} (h : MMid c w s cv n e v st) (i : Nat) (x : Value) (hx : (mrest c cv e v st n).set i x = mrest c cv' e' v' st' n') : MMid c (w.setCell ⟨c.mb, 16 + i, none⟩ x) s cv' n' e' v' st' := by
  refine h.own1 _ x rfl ?_ h.len h.r32 rfl rfl
  have := h.mat.rset i x
  rwa [h.len, hx] at this
theorem MMid.setReg {c : Cfg} {w : World} {s : St} {cv : Value} {n : Nat} {e v st : Int} (h : MMid c w s cv n e v st) {i : Nat} (hi : i < 16) {x : Int} (hx : In32 x) : MMid c (w.setCell ⟨c.mb, i, none⟩ (.int .i32 x)) { s with regs := s.regs.set i x } cv n e v st := by
  refine h.own1 _ _ rfl (h.mat.set (by rw [h.len]; exact hi) x) (by rw [List.length_set]; exact h.len) (fun y hy => ?_) rfl rfl
  rcases List.mem_or_eq_of_mem_set hy with hy | rfl
  · exact h.r32 y hy
  · exact hx
theorem own_base {w : World} {b b' : Nat} {e : TypeId} {size n : Nat} {v : Value} {xs : List Value} (h : w.ownsRow b e size v n xs) (hb : b' ≤ b) : w.ownsRow b' e size v n xs := by
  obtain ⟨h0, h | ⟨g, cap, cur, h1, h2, h3⟩⟩ := h
  · exact ⟨h0, .inl h⟩
  · exact ⟨h0, .inr ⟨g, cap, cur, h1, Nat.le_trans hb h2, h3⟩⟩
/-- The event's box. -/
def EvBox (w : World) (b : Nat) (imm : Int) (v : Value) : Prop := w.heap[b]? = some (.cells #[.int .i32 imm, v] 61 (0, 0))
theorem EvBox.cell0 {w : World} {b : Nat} {imm : Int} {v : Value} (h : EvBox w b imm v) : w.cell? ⟨b, 0, none⟩ = some (.int .i32 imm) := by
  simp [World.cell?, show w.heap[b]? = _ from h]
theorem EvBox.cell1 {w : World} {b : Nat} {imm : Int} {v : Value} (h : EvBox w b imm v) : w.cell? ⟨b, 1, none⟩ = some v := by
  simp [World.cell?, show w.heap[b]? = _ from h]
theorem EvBox.frozen {w : World} {b : Nat} {imm : Int} {v : Value} (h : EvBox w b imm v) (i : Nat) : w.frozen? ⟨b, i, none⟩ = false := by
  simp [World.frozen?, show w.heap[b]? = _ from h]
theorem EvBox.set {w : World} {b : Nat} {imm : Int} {v : Value} (h : EvBox w b imm v) (x : Value) : EvBox (w.setCell ⟨b, 1, none⟩ x) b imm x := by
  unfold EvBox at h ⊢
  simp [World.setCell, Array.getElem?_modify, h]
theorem EvBox.keep {w w' : World} {b : Nat} {imm : Int} {v : Value} (h : EvBox w b imm v) (s : Since w w') : EvBox w' b imm v := (Below.block s b (Array.getElem?_eq_some_iff.1 h).1).trans h
theorem EvBox.lt {w : World} {b : Nat} {imm : Int} {v : Value} (h : EvBox w b imm v) : b < w.heap.size := (Array.getElem?_eq_some_iff.1 h).1
/-- The instruction's box. -/
def BoxH (w : World) (b : Nat) (m : Mach) (av : Value) : Prop := w.heap[b]? = some (.cells #[.int .i64 m.op, .int .i64 m.d, .int .i64 m.e, .int .i64 m.a, .int .i64 m.b, .int .i64 m.c, .int .i32 m.imm, av] 46 (0, 0))
theorem BoxH.keep {w w' : World} {b : Nat} {m : Mach} {av : Value} (h : BoxH w b m av) (s : Since w w') : BoxH w' b m av := (Below.block s b (Array.getElem?_eq_some_iff.1 h).1).trans h
theorem BoxH.lt {w : World} {b : Nat} {m : Mach} {av : Value} (h : BoxH w b m av) : b < w.heap.size := (Array.getElem?_eq_some_iff.1 h).1
theorem BoxH.cells {w : World} {b : Nat} {m : Mach} {av : Value} (h : BoxH w b m av) (i : Nat) : w.cell? ⟨b, i, none⟩ = (#[.int .i64 m.op, .int .i64 m.d, .int .i64 m.e, .int .i64 m.a, .int .i64 m.b, .int .i64 m.c, .int .i32 m.imm, av] : Array Value)[i]? := by
  simp [World.cell?, show w.heap[b]? = _ from h]
theorem own_shape {w : World} {b : Nat} {e : TypeId} {size n : Nat} {v : Value} {xs : List Value} (h : w.ownsRow b e size v n xs) : ∃ a cap, v = .slice a n cap := by
  obtain ⟨_, ⟨h1, h2⟩ | ⟨g, cap, cur, h1, _⟩⟩ := h
  · exact ⟨none, 0, by rw [h1, h2]⟩
  · exact ⟨_, cap, h1⟩

/-- append(s, x...) of numbers to a row of the call's own: what may turn. -/
theorem wpList_append_nums_turn {P : Program} {base : Nat} {w : World} {ops : Array Oper} {rest : List Oper} {o : Oper} {a : Act} {Q : Exit → Act → World → Prop} (k : IntKind) (hgd : o.guard = none) (s x : Operand) (t : TypeId)
    (ho : o.op = .call { callee := .builtin .append, args := #[s, x], argTypes := #[t, t] })
    (e : TypeId) (z : Value) (bytes : Nat) (ht : P.underlying t = some (.slice e)) (hinfo : (P.info? e).map (fun i => (i.zero, i.size, i.bytes)) = some (some z, 1, bytes)) (hz : z.cells.size = 1) (hby : bytes ≤ 8)
    (v xv : Value) (l1 l2 : List Int) (hs : a.eval s = v) (hx : a.eval x = xv) (hown : w.ownsRow base e 1 v l1.length (l1.map (Value.int k))) (hl2 : Nums k w xv l2)
    (hlen : l1.length + l2.length ≤ 1000000) (hbase : base ≤ w.heap.size)
    (h : ∀ v' w', w'.ownsRow base e 1 v' (l1 ++ l2).length ((l1 ++ l2).map (Value.int k)) → Turn (fun q => v.ownBlock = some q) w w' → wpList P ops Q rest (a.put o.dst v') w') : wpList P ops Q (o :: rest) a w := by
  obtain ⟨i, hi, hz0, hz1, hz2⟩ := info_parts hinfo
  rcases hl2 with ⟨ad, hv, rfl⟩ | ⟨b, off, cap, hv, hcap, _, hb, hcell⟩
  · subst hv
    cases ad with
    | none =>
      refine wpList_append_own_none hgd s x t ho base e i 1 ht hi v _ _ hs hown hx (h v w ?_ (Turn.refl _ _))
      simpa using hown
    | some ad =>
      refine wpList_append_own _ hgd s x t ho base e i z 1 bytes ht hi hz0 hz1 hz2 hz (by decide) v _ _ hs hown ad 0 0 [] hx rfl (fun j u hu => by cases hu) (fun u hu => by cases hu) (by unfold maxLen; simp at hlen; omega) ?_ hbase ?_
      · have : (l1.length + 0) * bytes ≤ 1000000 * 8 := Nat.mul_le_mul (by simpa using hlen) hby
        omega
      · intro v' w' hown' hgrow _
        exact h v' w' (by simpa using hown') (turn_grown hgrow)
  · subst hv
    refine wpList_append_own _ hgd s x t ho base e i z 1 bytes ht hi hz0 hz1 hz2 hz (by decide) v _ _ hs hown ⟨b, off, none⟩ l2.length cap (l2.map (Value.int k)) hx (by simp) ?_ ?_ (by unfold maxLen; omega) ?_ hbase ?_
    · intro j u hu
      rw [List.getElem?_map] at hu
      obtain ⟨n, hn, rfl⟩ := Option.map_eq_some_iff.1 hu
      have := hcell j n hn
      unfold Addr.add
      split
      · rename_i h0; subst h0; simpa using this
      · exact this
    · intro u hu
      obtain ⟨n, _, rfl⟩ := List.mem_map.1 hu
      rfl
    · have : (l1.length + l2.length) * bytes ≤ 1000000 * 8 := Nat.mul_le_mul hlen hby
      omega
    · intro v' w' hown' hgrow _
      exact h v' w' (by simpa using hown') (turn_grown hgrow)
theorem BoxH.turn {w w' : World} {b : Nat} {m : Mach} {av : Value} {base : Nat} {x : Value} {l : List Int} (h : BoxH w b m av) (hx : Own32 base w x l) (hne : (21 : TypeId) ≠ 46) (t : Turn (fun q => x.ownBlock = some q) w w') : BoxH w' b m av := by
  refine (t.block b h.lt fun hq => ?_).trans h
  obtain ⟨_, ⟨hv, _⟩ | ⟨g, _, _, hv, _, hg, _⟩⟩ := hx
  · rw [hv] at hq; cases hq
  · rw [hv] at hq
    obtain rfl : g = b := Option.some.inj hq
    rw [show w.heap[g]? = _ from h] at hg
    simp only [Option.some.injEq, Obj.cells.injEq] at hg
    exact hne hg.2.1.symm
/-- An event's box is no row of words. -/
theorem EvBox.ne {w : World} {b : Nat} {imm : Int} {v : Value} {base : Nat} {x : Value} {l : List Int} (h : EvBox w b imm v) (hx : Own32 base w x l) (hne : (21 : TypeId) ≠ 61) : ¬ x.ownBlock = some b := by
  intro hq
  obtain ⟨_, ⟨hv, _⟩ | ⟨g, _, _, hv, _, hg, _⟩⟩ := hx
  · rw [hv] at hq; cases hq
  · rw [hv] at hq
    obtain rfl : g = b := Option.some.inj hq
    rw [show w.heap[g]? = _ from h] at hg
    simp only [Option.some.injEq, Obj.cells.injEq] at hg
    exact hne hg.2.1.symm
theorem EvBox.turn {w w' : World} {b : Nat} {imm : Int} {v : Value} {base : Nat} {x : Value} {l : List Int} (h : EvBox w b imm v) (hx : Own32 base w x l) (hne : (21 : TypeId) ≠ 61) (t : Turn (fun q => x.ownBlock = some q) w w') : EvBox w' b imm v := by
  refine (t.block b h.lt fun hq => ?_).trans h
  obtain ⟨_, ⟨hv, _⟩ | ⟨g, _, _, hv, _, hg, _⟩⟩ := hx
  · rw [hv] at hq; cases hq
  · rw [hv] at hq
    obtain rfl : g = b := Option.some.inj hq
    rw [show w.heap[g]? = _ from h] at hg
    simp only [Option.some.injEq, Obj.cells.injEq] at hg
    exact hne hg.2.1.symm

theorem own_heap {w : World} {b : Nat} {e : TypeId} {size n : Nat} {v : Value} {xs : List Value} (h : w.ownsRow b e size v n xs) {q : Nat} (hq : v.ownBlock = some q) : ∃ cur, w.heap[q]? = some (.cells cur e (0, 0)) := by
  obtain ⟨_, ⟨hv, _⟩ | ⟨g, _, cur, hv, _, hg, _⟩⟩ := h
  · rw [hv] at hq; cases hq
  · rw [hv] at hq
    obtain rfl : g = q := Option.some.inj hq
    exact ⟨cur, hg⟩
/-- A slice of one event. -/
def OneEv (x : EvV) (v : Value) (w : World) : Prop := ∃ b, v = .slice (some ⟨b, 0, none⟩) 1 1 ∧ w.heap[b]? = some (.cells (evcells x).toArray 61 (0, 0))
theorem OneEv.stable (x : EvV) : Stable (OneEv x) := fun v w w' ⟨b, h1, h2⟩ s => ⟨b, h1, (Below.block s b (Array.getElem?_eq_some_iff.1 h2).1).trans h2⟩

def NewThree (w : World) (e : Ending) (w' : World) : Prop := ∃ b, e = .returned (.slice (some ⟨b, 0, none⟩) 3 3) ∧ w.heap.size ≤ b ∧ w'.heap[b]? = some (.cells #[.int .i64 1, .int .i64 2, .int .i64 3] 3 (0, 0)) ∧ Since w w'
set_option maxHeartbeats 400000 in
set_option maxRecDepth 100000 in
theorem spoils_new (d e a b cc imm : Int) (args : List Int) (av : Value) (w : World) : Calls Try.prog 23 #[mv ⟨28, d, e, a, b, cc, imm, args⟩ av] w (NewThree w) := by
  unfold mv
  go_enter Try.func23, Try.ntmps23
  go_wp2
  go_ret
  refine ⟨_, rfl, by simp, ?_, ((Since.refl _).alloc _).alloc _⟩
  have := heap_last (w.alloc (.cells #[.int .i64 28, .int .i64 d, .int .i64 e, .int .i64 a, .int .i64 b, .int .i64 cc, .int .i32 imm, av] 46)) (.cells #[.int .i64 1, .int .i64 2, .int .i64 3] 3)
  rw [show (w.alloc (.cells #[.int .i64 28, .int .i64 d, .int .i64 e, .int .i64 a, .int .i64 b, .int .i64 cc, .int .i32 imm, av] 46)).heap.size = w.heap.size + 1 from by simp] at this
  exact this

def callS (s : St) (ans : List Int) (imm : Int) (args : List Int) : St := { s with
  regs := (((s.regs.set 0 (ans.getD s.calls.length 0)).set 1 24302).set 2 24303).set 3 24304
  calls := s.calls ++ [(imm, args.map fun r => s.regs.getD r.toNat 0)] }

set_option maxHeartbeats 2000000 in
set_option maxRecDepth 100000 in
theorem call_any (c : Cfg) (s : St) (cv : Value) (st : Int) (d e a b cc imm : Int) (args : List Int) (av : Value) (w : World) (h : MRun c w s cv 0 0 st) (hst : (s.calls.length : Int) < st) (hi : Ints c.w0 av args) (hargs : ∀ (j : Nat) (x : Int), args[j]? = some x → x = (j : Int)) (hlen : args.length ≤ 4) (himm : In32 imm) :
    Calls Try.prog 166 #[.agg #[], mv ⟨28, d, e, a, b, cc, imm, args⟩ av, MPtr c] w (DoQ c w cv st (none, callS s c.ans imm args)) := by
  have hsz := h.size
  have hsp := fun w1 => spoils_new d e a b cc imm args av w1
  have hmost := h.most
  unfold DoQ MPtr
  unfold mv at hsp ⊢
  dsimp only at hsp ⊢
  obtain ⟨aa, ac, hav⟩ := nums_lenI hi
  subst hav
  generalize hn : args.length = n at *
  have HN := Lib.hid hn; clear hn
  have HI := Lib.hid hi; clear hi
  have H := Lib.hid h; clear h
  have HSP := Lib.hid hsp; clear hsp
  have HARGS := Lib.hid hargs; clear hargs
  have HST := Lib.hid hst; clear hst
  obtain ⟨hi1, hi2⟩ := himm
  go_enter Try.func166, Try.ntmps166
  go_wp2_with fail
  go_loopw [20] (fun i wr => ∃ k : Nat, k ≤ n ∧ i = .int .i64 k ∧ Since w wr ∧ BoxH wr (w.heap.size + 1) ⟨28, d, e, a, b, cc, imm, args⟩ (.slice aa n ac) ∧ ∃ v, EvBox wr (w.heap.size + 2) imm v ∧ Own32 w.heap.size wr v ((args.take k).map fun r => s.regs.getD r.toNat 0)) (fun i _ => n - (intOf i).toNat)
  case atStart =>
    have hs0 : Since w ((w.alloc (.cells #[] 158)).alloc (.cells #[.int .i64 28, .int .i64 d, .int .i64 e, .int .i64 a, .int .i64 b, .int .i64 cc, .int .i32 imm, .slice aa n ac] 46)) := ((Since.refl w).alloc _).alloc _
    refine ⟨0, Nat.zero_le _, rfl, hs0.alloc _, BoxH.keep (w := (w.alloc (.cells #[] 158)).alloc (.cells #[.int .i64 28, .int .i64 d, .int .i64 e, .int .i64 a, .int .i64 b, .int .i64 cc, .int .i32 imm, .slice aa n ac] 46)) (by
      have := heap_last (w.alloc (.cells #[] 158)) (.cells #[.int .i64 28, .int .i64 d, .int .i64 e, .int .i64 a, .int .i64 b, .int .i64 cc, .int .i32 imm, .slice aa n ac] 46)
      rw [show (w.alloc (.cells #[] 158)).heap.size = w.heap.size + 1 from by simp] at this
      exact this) ((Since.refl _).alloc _), _, ?_, own_nil _ _ _ _⟩
    have := heap_last ((w.alloc (.cells #[] 158)).alloc (.cells #[.int .i64 28, .int .i64 d, .int .i64 e, .int .i64 a, .int .i64 b, .int .i64 cc, .int .i32 imm, .slice aa n ac] 46)) (.cells #[.int .i32 imm, .slice none 0 0] 61)
    rw [show ((w.alloc (.cells #[] 158)).alloc (.cells #[.int .i64 28, .int .i64 d, .int .i64 e, .int .i64 a, .int .i64 b, .int .i64 cc, .int .i32 imm, .slice aa n ac] 46)).heap.size = w.heap.size + 2 from by simp] at this
    exact this
  case round =>
    obtain ⟨k, hk, rfl, hs, hbm, v, hev, hown⟩ := hrel
    have HS := Lib.hid hs
    have HBM := Lib.hid hbm
    have HEV := Lib.hid hev
    have HO := Lib.hid hown
    clear hs hbm hev hown
    by_cases hlt : k < n
    · obtain ⟨_, hc⟩ := nums_cell (HN.out ▸ HI.out)
      obtain ⟨B, off, rfl, hB, hcell⟩ := hc (by intro e; have := HN.out; rw [e] at this; simp at this; omega)
      obtain ⟨x, hx⟩ : ∃ x, args[k]? = some x := ⟨_, List.getElem?_eq_getElem (by have := HN.out; omega)⟩
      have hcx := ((H.out.old.trans HS.out).cell (p := ⟨B, off + k, none⟩) hB).trans (hcell k x hx)
      obtain rfl := HARGS.out k x hx
      have hap : (args.take (k + 1)).map (fun r => s.regs.getD r.toNat 0) = (args.take k).map (fun r => s.regs.getD r.toNat 0) ++ [s.regs.getD k 0] := by
        rw [List.take_add_one, hx]; simp
      have hk16 : k < 16 := by omega
      have hreg := fun w1 (hs : Since w w1) => (H.out.keep hs).reg hk16
      have hlk : ((args.take k).map (fun r => s.regs.getD r.toNat 0)).length = k := by rw [List.length_map, List.length_take]; have := HN.out; omega
      generalize hL : (args.take k).map (fun r => s.regs.getD r.toNat 0) = L at *
      have HL := Lib.hid hL
      have HREG := Lib.hid hreg
      have HAP := Lib.hid hap
      have HLK := Lib.hid hlk
      clear hcell hc hB hx hap hreg hL hlk
      generalize s.regs.getD k 0 = xr at *
      go_wp2_with fail
      refine wp_region_since_tail 9 rfl (by decide +kernel) (by decide +kernel) (by decide +kernel) (by decide)
        [Is (.pointer (some ⟨w.heap.size + 2, 1, none⟩)), Is v, Is (.pointer (some ⟨c.mb, 0, none⟩)), Is (.int .i64 k), Is (.pointer (some ⟨c.mb, 0, none⟩)), Is (.pointer (some ⟨c.mb, 0, none⟩)), Is (.pointer (some ⟨c.mb, k, none⟩)), Is (.int .i32 xr), IsNums .i32 [xr]]
        (by repeat (first | exact trivial | refine ⟨Is.stable _, ?_⟩ | refine ⟨Any.stable, ?_⟩ | refine ⟨IsNums.stable _ _, ?_⟩)) ⟨?_, ?_, ?_, ?_, ?_, ?_, ?_, ?_, ?_, trivial⟩ ?_
      rotate_right
      · intro vs w1 hs hk
        simp only [List.take, List.drop, putAll, Act.put, KnowsAll, nthF, Is, List.setIfInBounds_toArray, List.set_cons_zero, List.set_cons_succ, Nat.reduceAdd] at hk ⊢
        try simp only [hk]
        have hnm : Nums .i32 w1 (vs 8) [xr] := hk.2.2.2.2.2.2.2.2.1
        have HS1 := Lib.hid hs
        clear hs hk
        generalize vs 8 = xv at *
        have HNM := Lib.hid hnm; clear hnm
        refine wpList_append_nums_turn (base := w.heap.size) .i32 rfl _ _ 34 rfl 21 (.int .i32 0) 4 Try.underlying34 (by kernel_rfl) rfl (by decide) _ _ L [xr] rfl rfl (own_keep HO.out HS1.out) HNM.out (by rw [HLK.out]; simp; omega) (HS.out.trans HS1.out).size ?_
        intro v2 w2 hown2 ht2
        have hev2 : EvBox w2 (w.heap.size + 2) imm v := (HEV.out.keep HS1.out).turn (own_keep HO.out HS1.out) (by decide) ht2
        have hvb := fun q (hq : v.ownBlock = some q) => (World.ownsRow.lt HO.out q hq).1
        have hs2 : Since w w2 := Turn.toSince ht2 (HS.out.trans HS1.out) fun q hq hs => by have := hvb q hs; omega
        have hcb : (21 : TypeId) ≠ 46 := by decide
        have hbm2 : BoxH w2 (w.heap.size + 1) ⟨28, d, e, a, b, cc, imm, args⟩ (.slice (some ⟨B, off, none⟩) n ac) := (HBM.out.keep HS1.out).turn (own_keep HO.out HS1.out) (by decide) ht2
        obtain ⟨a2, c2, rfl⟩ := own_shape hown2
        have hc1 := hev2.cell1
        have hfz := hev2.frozen
        have hlt2 := hev2.lt
        have HEV2 := Lib.hid hev2
        have HO2 := Lib.hid hown2
        have HS2 := Lib.hid hs2
        have HBM2 := Lib.hid hbm2
        clear hev2 hown2 hs2 hbm2 ht2 hvb hcb hcx
        go_wp2
        go_roundw
        case rel =>
          have t : Turn (fun q => q = w.heap.size + 2) w2 (w2.setCell ⟨w.heap.size + 2, 1, none⟩ (.slice a2 (L.length + 1) c2)) := (Turn.refl (fun q => q = w.heap.size + 2) w2).setCell (p := ⟨w.heap.size + 2, 1, none⟩) rfl _
          refine ⟨k + 1, by omega, by go_num, t.toSince HS2.out (fun q hq e => by omega), (t.block _ HBM2.out.lt (by omega)).trans HBM2.out, _, HEV2.out.set _, ?_⟩
          rw [HAP.out]
          have ho : Own32 w.heap.size w2 (.slice a2 (L ++ [xr]).length c2) (L ++ [xr]) := HO2.out
          rw [List.length_append] at ho
          exact own_turn ho t fun q hq e => by subst e; exact HEV2.out.ne ho (by decide) hq
        case measure => simp [intOf]; omega
      all_goals
        intro vs w1 hs hk _
        simp only [List.take, putAll, Act.put, Knows, nthF, Is, List.setIfInBounds_toArray, List.set_cons_zero, List.set_cons_succ, Nat.reduceAdd] at hk ⊢
        try simp only [hk]
      · go_wp2
        exact ⟨_, rfl, rfl, Since.refl _⟩
      · have hc := (HEV.out.keep hs).cell1
        have hl := (HEV.out.keep hs).lt
        go_wp2
        exact ⟨_, rfl, rfl, Since.refl _⟩
      · go_wp2
        exact ⟨_, rfl, rfl, Since.refl _⟩
      · go_wp2
        exact ⟨_, rfl, rfl, Since.refl _⟩
      · go_wp2
        exact ⟨_, rfl, rfl, Since.refl _⟩
      · go_wp2
        exact ⟨_, rfl, rfl, Since.refl _⟩
      · go_wp2
        exact ⟨_, rfl, rfl, Since.refl _⟩
      · have hc := HREG.out w1 (HS.out.trans hs)
        go_wp2
        exact ⟨_, rfl, rfl, Since.refl _⟩
      · go_wp2
        exact ⟨_, rfl, nums_new [xr] _ 1 (Nat.le_refl _) (by decide) (heap_last _ _) (by intro j n hj; cases j with | zero => simpa using hj | succ j => simp at hj), (Since.refl _).alloc _⟩
    · obtain rfl : k = n := by omega
      have ho0 := HO.out
      rw [List.take_of_length_le (by have := HN.out; omega)] at ho0
      generalize hLL : args.map (fun r => s.regs.getD r.toNat 0) = L at ho0
      have HLL := Lib.hid hLL
      clear hLL
      have hm := H.out.keep HS.out
      obtain ⟨evs, hev1, hev2, hev3⟩ := hm.calls
      obtain ⟨ca, ccap, hcv⟩ := hev1.shape
      subst hcv
      have hel : evs.length = s.calls.length := by rw [← hev2, List.length_map]
      obtain ⟨va, vc, hv⟩ := own_shape ho0
      subst hv
      have HO0 := Lib.hid ho0
      have HM := Lib.hid hm
      have HE1 := Lib.hid hev1
      have HE2 := Lib.hid hev2
      have HE3 := Lib.hid hev3
      have HEL := Lib.hid hel
      have HST1 := Lib.hid (show evs.length + 1 ≤ 1000000 from by have := HST.out; omega)
      have hsb : c.base ≤ w.heap.size := H.out.base
      have HSB := Lib.hid hsb
      clear ho0 hm hev1 hev2 hev3 HO hel hsb
      go_wp2_with fail
      refine wp_region_since_tail 7 rfl (by decide +kernel) (by decide +kernel) (by decide +kernel) (by decide)
        [Is (.pointer (some ⟨c.mb, 0, none⟩)), Is (.pointer (some ⟨c.mb, 0, none⟩)), Is (.pointer (some ⟨c.mb, 21, none⟩)), Is (.pointer (some ⟨c.mb, 24, none⟩)), Is (.slice ca evs.length ccap), Is (.agg #[.int .i32 imm, .slice va L.length vc]), OneEv ⟨imm, .slice va L.length vc, L⟩]
        (by repeat (first | exact trivial | refine ⟨Is.stable _, ?_⟩ | refine ⟨OneEv.stable _, ?_⟩)) ⟨?_, ?_, ?_, ?_, ?_, ?_, ?_, trivial⟩ ?_
      rotate_right
      · intro vs w1 hs hk
        simp only [List.take, List.drop, putAll, Act.put, KnowsAll, nthF, Is, List.setIfInBounds_toArray, List.set_cons_zero, List.set_cons_succ, Nat.reduceAdd] at hk ⊢
        try simp only [hk]
        obtain ⟨b1, hb1, hb2⟩ := hk.2.2.2.2.2.2.1
        simp only [hb1]
        have HS1 := Lib.hid hs
        have HB2 := Lib.hid hb2
        clear hs hk hb1 hb2
        refine wpList_append_turn (base := c.base) evcells 2 evcells_len (by decide) rfl _ _ 40 rfl 61 (.agg #[.int .i32 0, .slice none 0 0]) 32 Try.underlying40 (by kernel_rfl) rfl (.slice ca evs.length ccap) evs ⟨imm, .slice va L.length vc, L⟩ b1 1 61 rfl rfl (HE1.out.keep HS1.out) HB2.out (by simp [evcells, Value.oneCell']) (by have := HST1.out; unfold maxLen; omega) (by have := HST1.out; omega) (Nat.le_trans HSB.out (HS.out.trans HS1.out).size) ?_
        intro v2 w2 hown2 ht2
        have hrow := EvRow.snoc (HE1.out.keep HS1.out) (fun e he => own_keep (HE3.out e he) HS1.out) (x := ⟨imm, .slice va L.length vc, L⟩) (own_keep (own_base HO0.out HSB.out) HS1.out) (by decide) hown2 ht2
        rw [HE2.out] at hrow
        obtain ⟨a2, c2, rfl⟩ := own_shape hown2
        have hmid : MMid c w2 s (.slice ca evs.length ccap) s.calls.length 0 0 st := (HM.out.keep HS1.out).mid.turn ht2 fun q hq => (World.ownsRow.lt HE1.out q hq).1
        have hbox : BoxH w2 (w.heap.size + 1) ⟨28, d, e, a, b, cc, imm, args⟩ (.slice aa k ac) := (ht2.block _ (HBM.out.keep HS1.out).lt fun hq => by
          obtain ⟨cur, hcur⟩ := own_heap (HE1.out.keep HS1.out) hq
          have h2 := (HBM.out.keep HS1.out)
          rw [show w1.heap[w.heap.size + 1]? = _ from h2] at hcur
          simp only [Option.some.injEq, Obj.cells.injEq] at hcur
          exact absurd hcur.2.1 (by decide)).trans (HBM.out.keep HS1.out)
        have g24 : w2.cell? ⟨c.mb, 24, none⟩ = some (.slice ca evs.length ccap) := hmid.cellr 8
        have g0 : w2.cell? ⟨c.mb, 0, none⟩ = some (.int .i32 (s.regs.getD 0 0)) := hmid.mat.cell (by rw [hmid.len]; decide)
        have hfz := hmid.mat.frozen
        have HMID := Lib.hid hmid
        have HROW := Lib.hid hrow
        have HTA := Lib.hid (show Turn (Bz c (.slice ca evs.length ccap)) w w2 from (Turn.since (HS.out.trans HS1.out)).trans (ht2.mono fun _ _ h => .inr h))
        have HBOX := Lib.hid hbox
        clear hrow hmid hbox hown2 ht2
        go_wp2_with fail
        have hm3 : MMid c ((w2.setCell ⟨c.mb, 24, none⟩ (.slice a2 (evs.length + 1) c2)).setCell ⟨c.mb, 0, none⟩ (.int .i32 0)) { s with regs := s.regs.set 0 0 } (.slice a2 (evs.length + 1) c2) s.calls.length 0 0 st := (HMID.out.set1 8 _ rfl).setReg (i := 0) (by decide) ⟨by decide, by decide⟩
        have t3 : Turn (fun q => q = c.mb) w2 ((w2.setCell ⟨c.mb, 24, none⟩ (.slice a2 (evs.length + 1) c2)).setCell ⟨c.mb, 0, none⟩ (.int .i32 0)) := ((Turn.refl (fun q => q = c.mb) w2).setCell (p := ⟨c.mb, 24, none⟩) rfl _).setCell (p := ⟨c.mb, 0, none⟩) rfl _
        have HTB := Lib.hid (HTA.out.trans (t3.mono fun _ _ h => .inl (.inl h)))
        have hlmb := H.out.lt
        have hrow3 := HROW.out.turn t3 (fun q hq e => by omega)
        rw [List.length_append] at hrow3
        have hbox3 : BoxH ((w2.setCell ⟨c.mb, 24, none⟩ (.slice a2 (evs.length + 1) c2)).setCell ⟨c.mb, 0, none⟩ (.int .i32 0)) (w.heap.size + 1) ⟨28, d, e, a, b, cc, imm, args⟩ (.slice aa k ac) := (t3.block _ HBOX.out.lt (by omega)).trans HBOX.out
        generalize (w2.setCell ⟨c.mb, 24, none⟩ (.slice a2 (evs.length + 1) c2)).setCell ⟨c.mb, 0, none⟩ (.int .i32 0) = w3 at *
        obtain ⟨na, nc, hansv⟩ := nums_lenI H.out.ans
        have g26 : w3.cell? ⟨c.mb, 26, none⟩ = some (.int .i64 s.calls.length) := hm3.cellr 10
        have g19 : w3.cell? ⟨c.mb, 19, none⟩ = some (.slice na c.ans.length nc) := (hm3.cellr 3).trans (congrArg some hansv)
        have HM3 := Lib.hid hm3
        have HR3 := Lib.hid hrow3
        have HB3 := Lib.hid hbox3
        have HAV := Lib.hid hansv
        clear hm3 hrow3 hbox3 t3 hansv hlmb g24 g0 hfz
        by_cases hal : s.calls.length < c.ans.length
        · obtain ⟨_, hcA⟩ := nums_cell (HAV.out ▸ H.out.ans)
          obtain ⟨AB, aoff, rfl, hAB, hcellA⟩ := hcA (by intro e; rw [e] at hal; simp at hal)
          have hax : c.ans[s.calls.length]? = some (c.ans.getD s.calls.length 0) := by rw [List.getD_eq_getElem?_getD, List.getElem?_eq_getElem hal]; rfl
          have hx32 : In32 (c.ans.getD s.calls.length 0) := H.out.a32 _ (List.mem_of_getElem? hax)
          have hcA1 := hcellA _ _ hax
          have hcA2 := fun w1 (h1 : Since c.w0 w1) => (h1.cell (p := ⟨AB, aoff + s.calls.length, none⟩) hAB).trans hcA1
          have HCA := Lib.hid hcA2
          generalize hxa : c.ans.getD s.calls.length 0 = xa at *
          have HXA := Lib.hid hxa
          clear hcA hcellA hax hcA1 hcA2 hxa
          go_quiet (fail)
          go_wp2_with fail
          refine wp_region_since_tail 15 rfl (by decide +kernel) (by decide +kernel) (by decide +kernel) (by decide)
            [Is (.pointer (some ⟨c.mb, 0, none⟩)), Is (.pointer (some ⟨c.mb, 0, none⟩)), Is (.pointer (some ⟨c.mb, 0, none⟩)), Is (.pointer (some ⟨c.mb, 17, none⟩)), Is (.pointer (some ⟨c.mb, 19, none⟩)), Is (.slice (some ⟨AB, aoff, none⟩) c.ans.length nc), Is (.pointer (some ⟨c.mb, 0, none⟩)), Is (.pointer (some ⟨c.mb, 0, none⟩)), Is (.pointer (some ⟨c.mb, 26, none⟩)), Is (.int .i64 s.calls.length), Is (.pointer (some ⟨AB, aoff + s.calls.length, none⟩)), Is (.int .i32 xa), Is (.pointer (some ⟨c.mb, 0, none⟩)), Is (.pointer (some ⟨c.mb, 0, none⟩)), Is (.pointer (some ⟨c.mb, 0, none⟩))]
            (by repeat (first | exact trivial | refine ⟨Is.stable _, ?_⟩ | refine ⟨Any.stable, ?_⟩ | refine ⟨IsNums.stable _ _, ?_⟩)) ⟨?_, ?_, ?_, ?_, ?_, ?_, ?_, ?_, ?_, ?_, ?_, ?_, ?_, ?_, ?_, trivial⟩ ?_
          rotate_right
          · intro vs w1 hs hk
            have hs := Since.trans (Since.drewN (Since.refl w3) nq) hs
            simp only [List.take, List.drop, putAll, Act.put, KnowsAll, nthF, Is, List.setIfInBounds_toArray, List.set_cons_zero, List.set_cons_succ, Nat.reduceAdd] at hk ⊢
            try simp only [hk]
            have hm4 := HM3.out.keep hs
            have hc : w1.cell? ⟨c.mb, 0, none⟩ = some (.int .i32 ((s.regs.set 0 0).getD 0 0)) := hm4.mat.cell (by rw [hm4.len]; decide)
            have hfz := hm4.mat.frozen
            have HM4 := Lib.hid hm4
            have HR4 := Lib.hid (HR3.out.turn (Turn.since (S := fun _ => False) hs) fun _ _ h => h)
            have HB4 := Lib.hid (HB3.out.keep hs)
            have HT4 := Lib.hid (HTB.out.trans (Turn.since hs))
            clear hm4 hfz hs hk
            have hm5 : MMid c (w1.setCell ⟨c.mb, 0, none⟩ (.int .i32 xa)) { s with regs := s.regs.set 0 xa } (.slice a2 (evs.length + 1) c2) s.calls.length 0 0 st := by
              have h1 := HM4.out.setReg (i := 0) (by decide) hx32
              rwa [show ({ s with regs := s.regs.set 0 0 } : St).regs.set 0 xa = s.regs.set 0 xa from by simp] at h1
            have t5 : Turn (fun q => q = c.mb) w1 (w1.setCell ⟨c.mb, 0, none⟩ (.int .i32 xa)) := (Turn.refl (fun q => q = c.mb) w1).setCell (p := ⟨c.mb, 0, none⟩) rfl _
            have hlmb := H.out.lt
            have hr5 := HR4.out.turn t5 (fun q hq e => by omega)
            have hb5 : BoxH (w1.setCell ⟨c.mb, 0, none⟩ (.int .i32 xa)) (w.heap.size + 1) ⟨28, d, e, a, b, cc, imm, args⟩ (.slice aa k ac) := (t5.block _ HB4.out.lt (by omega)).trans HB4.out
            have HM5 := Lib.hid hm5
            have HR5 := Lib.hid hr5
            have HB5 := Lib.hid hb5
            have HT5 := Lib.hid (HT4.out.trans (t5.mono fun _ _ h => .inl (.inl h)))
            clear hm5 hr5 hb5 t5 hlmb
            have g26 : w1.cell? ⟨c.mb, 26, none⟩ = some (.int .i64 s.calls.length) := HM4.out.cellr 10
            have hbx : ∀ i, w1.cell? ⟨w.heap.size + 1, i, none⟩ = _ := fun i => HB4.out.cells i
            have hbl := HB4.out.lt
            have hfz := HM4.out.mat.frozen
            have hln : s.calls.length ≤ 1000000 := by have := HST1.out; have := HEL.out; omega
            go_wp2_with fail
            have hm6 : MRun c ((w1.setCell ⟨c.mb, 0, none⟩ (.int .i32 xa)).setCell ⟨c.mb, 26, none⟩ (.int .i64 ((s.calls.length : Int) + 1))) { s with regs := (s.regs.set 0 xa), calls := s.calls ++ [(imm, L)] } (.slice a2 (evs.length + 1) c2) 0 0 st := by
              have t : Turn (fun q => q = c.mb) (w1.setCell ⟨c.mb, 0, none⟩ (.int .i32 xa)) ((w1.setCell ⟨c.mb, 0, none⟩ (.int .i32 xa)).setCell ⟨c.mb, 26, none⟩ (.int .i64 ((s.calls.length : Int) + 1))) := (Turn.refl (fun q => q = c.mb) (w1.setCell ⟨c.mb, 0, none⟩ (.int .i32 xa))).setCell (p := ⟨c.mb, 26, none⟩) rfl _
              have h1 := HM5.out.set1 (n' := s.calls.length + 1) (cv' := .slice a2 (evs.length + 1) c2) (e' := 0) (v' := 0) (st' := st) 10 (.int .i64 ((s.calls.length : Int) + 1)) (by simp [mrest])
              refine MMid.run (s := { s with regs := (s.regs.set 0 xa), calls := s.calls ++ [(imm, L)] }) ⟨h1.old, h1.new, h1.lt, h1.base, ?_, h1.len, h1.r32, h1.s32, h1.m32, h1.slots, h1.sown, h1.mem, h1.mown, h1.ans, h1.a32⟩ ?_ hmost (HR5.out.turn t fun q hq e => by have := H.out.lt; omega)
              · rw [List.length_append]; exact h1.mat
              · rw [List.length_append]; have := HST.out; simp; omega
            have t6 : Turn (fun q => q = c.mb) (w1.setCell ⟨c.mb, 0, none⟩ (.int .i32 xa)) ((w1.setCell ⟨c.mb, 0, none⟩ (.int .i32 xa)).setCell ⟨c.mb, 26, none⟩ (.int .i64 ((s.calls.length : Int) + 1))) := (Turn.refl (fun q => q = c.mb) (w1.setCell ⟨c.mb, 0, none⟩ (.int .i32 xa))).setCell (p := ⟨c.mb, 26, none⟩) rfl _
            have HT6 := Lib.hid (HT5.out.trans (t6.mono fun _ _ h => .inl (.inl h)))
            clear t6
            generalize (w1.setCell ⟨c.mb, 0, none⟩ (.int .i32 xa)).setCell ⟨c.mb, 26, none⟩ (.int .i64 ((s.calls.length : Int) + 1)) = w6 at *
            have HM6 := Lib.hid hm6
            clear g26 hbx hbl hfz hm6 hc
            refine (HSP.out _).mono ?_
            rintro e7 w7 ⟨b7, rfl, hb7, hcs7, hs7⟩
            have h70 : w7.cell? ⟨b7, 0, none⟩ = some (.int .i64 1) := by simp [World.cell?, hcs7]
            have hmb7 : b7 ≠ c.mb := by have := HM6.out.size; omega
            have h7lt : b7 < w7.heap.size := (Array.getElem?_eq_some_iff.1 hcs7).1
            have HM7 := Lib.hid (HM6.out.keep hs7)
            have HT7 := Lib.hid (HT6.out.trans (Turn.since hs7))
            have HC7 := Lib.hid hcs7
            clear hb7 hcs7 hs7 h70
            go_wp2
            go_loopw [90] (fun i wr => Turn (fun q => q = c.mb) w7 wr ∧ (i = .int .i64 0 ∧ MRun c wr { s with regs := (s.regs.set 0 xa), calls := s.calls ++ [(imm, L)] } (.slice a2 (evs.length + 1) c2) 0 0 st ∨ i = .int .i64 1 ∧ MRun c wr { s with regs := ((s.regs.set 0 xa).set 1 24302), calls := s.calls ++ [(imm, L)] } (.slice a2 (evs.length + 1) c2) 0 0 st ∨ i = .int .i64 2 ∧ MRun c wr { s with regs := (((s.regs.set 0 xa).set 1 24302).set 2 24303), calls := s.calls ++ [(imm, L)] } (.slice a2 (evs.length + 1) c2) 0 0 st ∨ i = .int .i64 3 ∧ MRun c wr { s with regs := ((((s.regs.set 0 xa).set 1 24302).set 2 24303).set 3 24304), calls := s.calls ++ [(imm, L)] } (.slice a2 (evs.length + 1) c2) 0 0 st)) (fun i _ => 3 - (intOf i).toNat)
            case atStart => exact ⟨Turn.refl _ _, .inl ⟨rfl, HM7.out⟩⟩
            case round =>
              obtain ⟨ht, hcase⟩ := hrel
              have hcs : wr.heap[b7]? = some (.cells #[.int .i64 1, .int .i64 2, .int .i64 3] 3 (0, 0)) := (ht.block b7 h7lt hmb7).trans HC7.out
              have h70 : wr.cell? ⟨b7, 0, none⟩ = some (.int .i64 1) := by simp [World.cell?, hcs]
              have h71 : wr.cell? ⟨b7, 1, none⟩ = some (.int .i64 2) := by simp [World.cell?, hcs]
              have h72 : wr.cell? ⟨b7, 2, none⟩ = some (.int .i64 3) := by simp [World.cell?, hcs]
              have HT := Lib.hid ht
              clear ht hcs
              rcases hcase with ⟨rfl, hm⟩ | ⟨rfl, hm⟩ | ⟨rfl, hm⟩ | ⟨rfl, hm⟩
              · have hc := hm.reg (i := 1) (by decide)
                have hfz := hm.mat.frozen
                have HMR := Lib.hid hm
                clear hm
                go_wp2
                go_roundw
                case rel => exact ⟨HT.out.setCell (p := ⟨c.mb, 1, none⟩) rfl _, .inr (.inl ⟨rfl, HMR.out.setReg (i := 1) (by decide) ⟨by decide, by decide⟩⟩)⟩
                case measure => simp [intOf]
              · have hc := hm.reg (i := 2) (by decide)
                have hfz := hm.mat.frozen
                have HMR := Lib.hid hm
                clear hm
                go_wp2
                go_roundw
                case rel => exact ⟨HT.out.setCell (p := ⟨c.mb, 2, none⟩) rfl _, .inr (.inr (.inl ⟨rfl, HMR.out.setReg (i := 2) (by decide) ⟨by decide, by decide⟩⟩))⟩
                case measure => simp [intOf]
              · have hc := hm.reg (i := 3) (by decide)
                have hfz := hm.mat.frozen
                have HMR := Lib.hid hm
                clear hm
                go_wp2
                go_roundw
                case rel => exact ⟨HT.out.setCell (p := ⟨c.mb, 3, none⟩) rfl _, .inr (.inr (.inr ⟨rfl, HMR.out.setReg (i := 3) (by decide) ⟨by decide, by decide⟩⟩))⟩
                case measure => simp [intOf]
              · have HMR := Lib.hid hm
                clear hm
                go_wp2
                go_ret
                exact ⟨rfl, ⟨_, by
                  have h9 := HMR.out
                  unfold callS
                  rw [HLL.out, show c.ans.getD s.calls.length 0 = xa from HXA.out]
                  exact h9⟩, HT7.out.trans (HT.out.mono fun _ _ h => .inl (.inl h))⟩
          all_goals
            intro vs w1 hs hk _
            have hs := Since.trans (Since.drewN (Since.refl w3) nq) hs
            simp only [List.take, putAll, Act.put, Knows, nthF, Is, List.setIfInBounds_toArray, List.set_cons_zero, List.set_cons_succ, Nat.reduceAdd] at hk ⊢
            try simp only [hk]
          · go_wp2
            exact ⟨_, rfl, rfl, Since.refl _⟩
          · go_wp2
            exact ⟨_, rfl, rfl, Since.refl _⟩
          · go_wp2
            exact ⟨_, rfl, rfl, Since.refl _⟩
          · go_wp2
            exact ⟨_, rfl, rfl, Since.refl _⟩
          · go_wp2
            exact ⟨_, rfl, rfl, Since.refl _⟩
          · have hc : w1.cell? ⟨c.mb, 19, none⟩ = some (.slice (some ⟨AB, aoff, none⟩) c.ans.length nc) := ((HM3.out.keep hs).cellr 3).trans (congrArg some HAV.out)
            go_wp2
            exact ⟨_, rfl, rfl, Since.refl _⟩
          · go_wp2
            exact ⟨_, rfl, rfl, Since.refl _⟩
          · go_wp2
            exact ⟨_, rfl, rfl, Since.refl _⟩
          · go_wp2
            exact ⟨_, rfl, rfl, Since.refl _⟩
          · have hc : w1.cell? ⟨c.mb, 26, none⟩ = some (.int .i64 s.calls.length) := (HM3.out.keep hs).cellr 10
            go_wp2
            exact ⟨_, rfl, rfl, Since.refl _⟩
          · go_wp2
            exact ⟨_, rfl, rfl, Since.refl _⟩
          · have hc := HCA.out w1 (HM3.out.keep hs).old
            go_wp2
            exact ⟨_, rfl, rfl, Since.refl _⟩
          · go_wp2
            exact ⟨_, rfl, rfl, Since.refl _⟩
          · go_wp2
            exact ⟨_, rfl, rfl, Since.refl _⟩
          · go_wp2
            exact ⟨_, rfl, rfl, Since.refl _⟩
        · have hd : decide ((s.calls.length : Int) < (c.ans.length : Int)) = false := by simp; omega
          have hx0 : c.ans.getD s.calls.length 0 = 0 := by rw [List.getD_eq_getElem?_getD, List.getElem?_eq_none (by omega)]; rfl
          have HX0 := Lib.hid hx0
          clear hx0
          go_quiet (fail)
          have hs30 : Since w3 (w3.drewN nq) := Since.drewN (Since.refl w3) _
          have HM5 := Lib.hid (HM3.out.keep hs30)
          have HR5 := Lib.hid (HR3.out.turn (Turn.since (S := fun _ => False) hs30) fun _ _ h => h)
          have HB5 := Lib.hid (HB3.out.keep hs30)
          have HT5 := Lib.hid (HTB.out.trans (Turn.since hs30))
          generalize w3.drewN nq = w5 at *
          have g26 : w5.cell? ⟨c.mb, 26, none⟩ = some (.int .i64 s.calls.length) := HM5.out.cellr 10
          have hbx : ∀ i, w5.cell? ⟨w.heap.size + 1, i, none⟩ = _ := fun i => HB5.out.cells i
          have hbl := HB5.out.lt
          have hfz := HM5.out.mat.frozen
          have hln : s.calls.length ≤ 1000000 := by have := HST1.out; have := HEL.out; omega
          go_wp2_with fail
          have hm6 : MRun c (w5.setCell ⟨c.mb, 26, none⟩ (.int .i64 ((s.calls.length : Int) + 1))) { s with regs := (s.regs.set 0 0), calls := s.calls ++ [(imm, L)] } (.slice a2 (evs.length + 1) c2) 0 0 st := by
            have t : Turn (fun q => q = c.mb) w5 (w5.setCell ⟨c.mb, 26, none⟩ (.int .i64 ((s.calls.length : Int) + 1))) := (Turn.refl (fun q => q = c.mb) w5).setCell (p := ⟨c.mb, 26, none⟩) rfl _
            have h1 := HM5.out.set1 (n' := s.calls.length + 1) (cv' := .slice a2 (evs.length + 1) c2) (e' := 0) (v' := 0) (st' := st) 10 (.int .i64 ((s.calls.length : Int) + 1)) (by simp [mrest])
            refine MMid.run (s := { s with regs := (s.regs.set 0 0), calls := s.calls ++ [(imm, L)] }) ⟨h1.old, h1.new, h1.lt, h1.base, ?_, h1.len, h1.r32, h1.s32, h1.m32, h1.slots, h1.sown, h1.mem, h1.mown, h1.ans, h1.a32⟩ ?_ hmost (HR5.out.turn t fun q hq e => by have := H.out.lt; omega)
            · rw [List.length_append]; exact h1.mat
            · rw [List.length_append]; have := HST.out; simp; omega
          have t6 : Turn (fun q => q = c.mb) w5 (w5.setCell ⟨c.mb, 26, none⟩ (.int .i64 ((s.calls.length : Int) + 1))) := (Turn.refl (fun q => q = c.mb) w5).setCell (p := ⟨c.mb, 26, none⟩) rfl _
          have HT6 := Lib.hid (HT5.out.trans (t6.mono fun _ _ h => .inl (.inl h)))
          clear t6
          generalize w5.setCell ⟨c.mb, 26, none⟩ (.int .i64 ((s.calls.length : Int) + 1)) = w6 at *
          have HM6 := Lib.hid hm6
          clear g26 hbx hbl hfz hm6
          refine (HSP.out _).mono ?_
          rintro e7 w7 ⟨b7, rfl, hb7, hcs7, hs7⟩
          have h70 : w7.cell? ⟨b7, 0, none⟩ = some (.int .i64 1) := by simp [World.cell?, hcs7]
          have hmb7 : b7 ≠ c.mb := by have := HM6.out.size; omega
          have h7lt : b7 < w7.heap.size := (Array.getElem?_eq_some_iff.1 hcs7).1
          have HM7 := Lib.hid (HM6.out.keep hs7)
          have HT7 := Lib.hid (HT6.out.trans (Turn.since hs7))
          have HC7 := Lib.hid hcs7
          clear hb7 hcs7 hs7 h70
          go_wp2
          go_loopw [90] (fun i wr => Turn (fun q => q = c.mb) w7 wr ∧ (i = .int .i64 0 ∧ MRun c wr { s with regs := (s.regs.set 0 0), calls := s.calls ++ [(imm, L)] } (.slice a2 (evs.length + 1) c2) 0 0 st ∨ i = .int .i64 1 ∧ MRun c wr { s with regs := ((s.regs.set 0 0).set 1 24302), calls := s.calls ++ [(imm, L)] } (.slice a2 (evs.length + 1) c2) 0 0 st ∨ i = .int .i64 2 ∧ MRun c wr { s with regs := (((s.regs.set 0 0).set 1 24302).set 2 24303), calls := s.calls ++ [(imm, L)] } (.slice a2 (evs.length + 1) c2) 0 0 st ∨ i = .int .i64 3 ∧ MRun c wr { s with regs := ((((s.regs.set 0 0).set 1 24302).set 2 24303).set 3 24304), calls := s.calls ++ [(imm, L)] } (.slice a2 (evs.length + 1) c2) 0 0 st)) (fun i _ => 3 - (intOf i).toNat)
          case atStart => exact ⟨Turn.refl _ _, .inl ⟨rfl, HM7.out⟩⟩
          case round =>
            obtain ⟨ht, hcase⟩ := hrel
            have hcs : wr.heap[b7]? = some (.cells #[.int .i64 1, .int .i64 2, .int .i64 3] 3 (0, 0)) := (ht.block b7 h7lt hmb7).trans HC7.out
            have h70 : wr.cell? ⟨b7, 0, none⟩ = some (.int .i64 1) := by simp [World.cell?, hcs]
            have h71 : wr.cell? ⟨b7, 1, none⟩ = some (.int .i64 2) := by simp [World.cell?, hcs]
            have h72 : wr.cell? ⟨b7, 2, none⟩ = some (.int .i64 3) := by simp [World.cell?, hcs]
            have HT := Lib.hid ht
            clear ht hcs
            rcases hcase with ⟨rfl, hm⟩ | ⟨rfl, hm⟩ | ⟨rfl, hm⟩ | ⟨rfl, hm⟩
            · have hc := hm.reg (i := 1) (by decide)
              have hfz := hm.mat.frozen
              have HMR := Lib.hid hm
              clear hm
              go_wp2
              go_roundw
              case rel => exact ⟨HT.out.setCell (p := ⟨c.mb, 1, none⟩) rfl _, .inr (.inl ⟨rfl, HMR.out.setReg (i := 1) (by decide) ⟨by decide, by decide⟩⟩)⟩
              case measure => simp [intOf]
            · have hc := hm.reg (i := 2) (by decide)
              have hfz := hm.mat.frozen
              have HMR := Lib.hid hm
              clear hm
              go_wp2
              go_roundw
              case rel => exact ⟨HT.out.setCell (p := ⟨c.mb, 2, none⟩) rfl _, .inr (.inr (.inl ⟨rfl, HMR.out.setReg (i := 2) (by decide) ⟨by decide, by decide⟩⟩))⟩
              case measure => simp [intOf]
            · have hc := hm.reg (i := 3) (by decide)
              have hfz := hm.mat.frozen
              have HMR := Lib.hid hm
              clear hm
              go_wp2
              go_roundw
              case rel => exact ⟨HT.out.setCell (p := ⟨c.mb, 3, none⟩) rfl _, .inr (.inr (.inr ⟨rfl, HMR.out.setReg (i := 3) (by decide) ⟨by decide, by decide⟩⟩))⟩
              case measure => simp [intOf]
            · have HMR := Lib.hid hm
              clear hm
              go_wp2
              go_ret
              exact ⟨rfl, ⟨_, by
                have h9 := HMR.out
                unfold callS
                rw [HLL.out, show c.ans.getD s.calls.length 0 = 0 from HX0.out]
                exact h9⟩, HT7.out.trans (HT.out.mono fun _ _ h => .inl (.inl h))⟩
      all_goals
        intro vs w1 hs hk _
        simp only [List.take, putAll, Act.put, Knows, nthF, Is, List.setIfInBounds_toArray, List.set_cons_zero, List.set_cons_succ, Nat.reduceAdd] at hk ⊢
        try simp only [hk]
      · go_wp2
        exact ⟨_, rfl, rfl, Since.refl _⟩
      · go_wp2
        exact ⟨_, rfl, rfl, Since.refl _⟩
      · go_wp2
        exact ⟨_, rfl, rfl, Since.refl _⟩
      · go_wp2
        exact ⟨_, rfl, rfl, Since.refl _⟩
      · have hc : w1.cell? ⟨c.mb, 24, none⟩ = some (.slice ca evs.length ccap) := (HM.out.keep hs).cellr 8
        go_wp2
        exact ⟨_, rfl, rfl, Since.refl _⟩
      · have hc0 := (HEV.out.keep hs).cell0
        have hc1 := (HEV.out.keep hs).cell1
        have hl := (HEV.out.keep hs).lt
        go_wp2
        exact ⟨_, rfl, rfl, Since.refl _⟩
      · go_wp2
        exact ⟨_, rfl, ⟨_, rfl, heap_last _ _⟩, (Since.refl _).alloc _⟩
end Go.Proofs.Ytkpbmbhejpmboaa
