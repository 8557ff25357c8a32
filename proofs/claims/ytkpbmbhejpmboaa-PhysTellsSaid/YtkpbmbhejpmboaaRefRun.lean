/- jacquardref12.Right. What jacquardref12.Run's walk hands from part to part. jacquardref12.Run: what it hands back. -/
import Derived.Test.YtkpbmbhejpmboaaRefFunc
import Derived.Test.YtkpbmbhejpmboaaRefState4
import Derived.Test.YtkpbmbhejpmboaaRefGoes
import Derived.Test.YtkpbmbhejpmboaaRunHead
import Derived.Test.YtkpbmbhejpmboaaRegion7
import Derived.Deep.CutBlock
namespace Go.Proofs.Ytkpbmbhejpmboaa
open Go.RowKit
set_option linter.unusedVariables false

set_option maxHeartbeats 1000000 in
set_option maxRecDepth 100000 in
theorem rright_any (p : PrgV) (w : World) (h : PrgOk w p) : Calls Try.prog 49 #[pv p] w (TellsS (rightB p) w) := by
  obtain ⟨ba, bc, hbv, _⟩ := h.1.shape
  have hfunc := fun w2 (hs : Since w w2) => rfunc_any p w2 (h.keep hs)
  unfold rightB
  unfold GotP at hfunc
  have hfd : ∀ (z y x : Int) (wX : World), (Instr.field 32 (.agg #[.int .i64 z, .int .i64 y, .int .i64 x]) 0).run Try.prog wX = .ok (.int .i64 z) wX := fun _ _ _ _ => by kernel_rfl
  generalize (funcE p).1 = fe at *
  generalize ((funcE p).2.1 : Nat) = fb at *
  generalize ((funcE p).2.2 : Nat) = fp at *
  have HF := Lib.hid hfunc
  clear hfunc h
  unfold pv at HF
  unfold pv
  rw [hbv] at HF ⊢
  clear hbv
  go_enter Try.func49, Try.ntmps49
  go_wp2_with fail
  refine (HF.out _ ((Since.refl _).alloc _)).mono ?_
  rintro e w1 ⟨rfl, hs1⟩
  go_wp2
  go_ret
  exact ⟨rfl, ((Since.refl _).alloc _).trans hs1⟩
end Go.Proofs.Ytkpbmbhejpmboaa

namespace Go.Proofs.Ytkpbmbhejpmboaa
open Go.RowKit
set_option linter.unusedVariables false

/-- The end of a block: one step is counted already. -/
def runEnd (p : PrgV) (ans : List Int) (f : Nat) (s : St) (b : BlkV) : EndSt :=
  if b.fin.op = 8 then ⟨2, b.fin.imm, s, f⟩
  else if b.fin.op = 7 then ⟨1, if 0 ≤ b.fin.a then s.regs.getD b.fin.a.toNat 0 else 0, s, f⟩
  else match p.blocks[(b.fin.to.getD (goes b.fin s.regs) 0).toNat]? with
    | none => ⟨0, 0, s, f⟩
    | some b' => runAt p ans f s b' b'.ins
theorem runAt_end (p : PrgV) (ans : List Int) (f : Nat) (s : St) (b : BlkV) : runAt p ans (f + 1) s b [] = runEnd p ans f s b := rfl
theorem runAt_zero (p : PrgV) (ans : List Int) (s : St) (b : BlkV) (l : List PlV) : runAt p ans 0 s b l = ⟨3, 0, s, 0⟩ := by cases l <;> rfl
theorem runAt_step (p : PrgV) (ans : List Int) (f : Nat) (s : St) (b : BlkV) (x : PlV) (r : List PlV) : runAt p ans (f + 1) s b (x :: r) = match stepM x.m ans s with
    | (some t, s') => ⟨2, t, s', f⟩
    | (none, s') => runAt p ans f s' b r := rfl

/-- The outcome, told into its box. -/
theorem SRun.tells {c : SCfg} {w wr w5 : World} {s : St} {cv : Value} {e v n : Int} {o : OutP} (h : SRun c wr s cv) (hw : Since w c.w0) (hb : w.heap.size + 2 < c.w0.heap.size) (t : Turn (fun q => q = w.heap.size + 2) wr w5) (ho : o = ⟨e, v, s.mem, s.calls, n⟩) :
    OutIs w5 w.heap.size (.agg #[.int .i64 e, .int .i32 v, c.memv, cv, .int .i64 n]) o ∧ Since w w5 := by
  subst ho
  have h1 := h.newS
  have h2 := hw.size
  refine ⟨⟨_, _, rfl, h.mem.turn t fun q hq e => ?_, EvRow.base_le (h.calls.turn t fun q hq e => ?_) (by omega), fun q hq => ?_⟩, t.toSince (hw.trans h.old) fun q hq e => by omega⟩
  · have := (h.mown q hq).1; omega
  · omega
  · have := (h.mown q hq).1; omega

/-- A row of words of the call's own, whose block is new. -/
def MemF (w0 : World) (l : List Int) (v : Value) (w : World) : Prop := ∃ a k, v = .slice a l.length k ∧ MemIs w v l ∧ ∀ q, v.ownBlock = some q → w0.heap.size ≤ q ∧ q < w.heap.size
theorem MemF.stable (w0 : World) (l : List Int) : Stable (MemF w0 l) := fun v w w' ⟨a, k, h1, h2, h3⟩ s => ⟨a, k, h1, h2.keep s, fun q hq => ⟨(h3 q hq).1, Nat.lt_of_lt_of_le (h3 q hq).2 s.size⟩⟩
theorem MemF.lt {w0 w : World} {l : List Int} {v : Value} (h : MemF w0 l v w) (q : Nat) (hq : v.ownBlock = some q) : q < w.heap.size := by
  obtain ⟨_, _, _, _, h⟩ := h
  exact (h q hq).2
/-- The parts of the state, as they begin. -/
def StateF (w0 : World) (n : Nat) (l : List Int) (rb sl : Nat) (mv : Value) (w : World) : Prop := HeapIs w rb (zeros 16) 21 ∧ w0.heap.size ≤ rb ∧ HeapIs w sl (zeros n) 21 ∧ w0.heap.size ≤ sl ∧ MemF w0 l mv w ∧ rb ≠ sl ∧ mv.ownBlock ≠ some rb ∧ mv.ownBlock ≠ some sl
theorem StateF.keep {w0 : World} {n : Nat} {l : List Int} {rb sl : Nat} {mv : Value} {w w' : World} (h : StateF w0 n l rb sl mv w) (s : Since w w') : StateF w0 n l rb sl mv w' := ⟨h.1.keep s, h.2.1, h.2.2.1.keep s, h.2.2.2.1, MemF.stable _ _ _ _ _ h.2.2.2.2.1 s, h.2.2.2.2.2⟩
def StateV (w0 : World) (n : Nat) (l : List Int) (v : Value) (w : World) : Prop := ∃ rb sl mv, v = .agg #[.slice (some ⟨rb, 0, none⟩) 16 16, .slice (some ⟨sl, 0, none⟩) n n, mv, .slice none 0 0] ∧ StateF w0 n l rb sl mv w
theorem StateV.stable (w0 : World) (n : Nat) (l : List Int) : Stable (StateV w0 n l) := fun v w w' ⟨rb, sl, mv, h1, h2⟩ s => ⟨rb, sl, mv, h1, h2.keep s⟩
def StateP (w0 : World) (n : Nat) (l : List Int) (v : Value) (w : World) : Prop := ∃ sb rb sl mv, v = .pointer (some ⟨sb, 0, none⟩) ∧ StateF w0 n l rb sl mv w ∧ HeapIs w sb #[.slice (some ⟨rb, 0, none⟩) 16 16, .slice (some ⟨sl, 0, none⟩) n n, mv, .slice none 0 0] 96 ∧ w0.heap.size ≤ sb ∧ rb ≠ sb ∧ sl ≠ sb ∧ mv.ownBlock ≠ some sb
theorem StateP.stable (w0 : World) (n : Nat) (l : List Int) : Stable (StateP w0 n l) := fun v w w' ⟨sb, rb, sl, mv, h1, h2, h3, h4⟩ s => ⟨sb, rb, sl, mv, h1, h2.keep s, h3.keep s, h4⟩
/-- The state behind its making. -/
theorem StateP.run {w0 w : World} {n : Nat} {l ans : List Int} {sb rb sl : Nat} {mv ansv : Value} (hs : Since w0 w) (hf : StateF w0 n l rb sl mv w) (hb : HeapIs w sb #[.slice (some ⟨rb, 0, none⟩) 16 16, .slice (some ⟨sl, 0, none⟩) n n, mv, .slice none 0 0] 96) (h4 : w0.heap.size ≤ sb) (h5 : rb ≠ sb) (h6 : sl ≠ sb) (h7 : mv.ownBlock ≠ some sb)
    (hn : n ≤ 16384) (hm32 : ∀ x ∈ l, In32 x) (ha : Nums .i32 w0 ansv ans) (ha32 : ∀ x ∈ ans, In32 x) :
    SRun ⟨w0, sb, rb, w.heap.size, .slice (some ⟨sl, 0, none⟩) n n, mv, ansv, ans, none⟩ w ⟨List.replicate 16 0, List.replicate n 0, l, []⟩ (.slice none 0 0) := by
  obtain ⟨f1, f2, f3, f4, ⟨a, k, f5, f6, f7⟩, f8, f9, f10⟩ := hf
  refine ⟨hs, ⟨h4, hb.lt⟩, ⟨f2, f1.lt⟩, h5, Nat.le_refl _, hb, ?_, by simp, fun x hx => ?_, fun x hx => ?_, hm32, .inr ⟨sl, n, [], 21, by simp, ?_, by simp; omega⟩, fun q hq => ?_, f6, fun q hq => ?_, ha, ha32, EvRow.nil _ _, by simp, fun q cs e => by cases e⟩
  · unfold WAt
    unfold HeapIs at f1
    rw [f1]
    simp [zeros]
  · obtain ⟨_, rfl⟩ := List.mem_replicate.1 hx; exact ⟨by omega, by omega⟩
  · obtain ⟨_, rfl⟩ := List.mem_replicate.1 hx; exact ⟨by omega, by omega⟩
  · unfold WAt
    unfold HeapIs at f3
    rw [f3]
    simp [zeros]
  · obtain rfl : sl = q := Option.some.inj hq
    exact ⟨f4, f3.lt, h6, fun e => f8 e.symm⟩
  · have h := f7 q hq
    refine ⟨h.1, h.2, fun e => h7 ?_, fun e => f9 ?_, fun e => f10 ?_⟩
    · have e : q = sb := e
      rw [← e]; exact hq
    · have e : q = rb := e
      rw [← e]; exact hq
    · have e2 : sl = q := Option.some.inj e
      rw [e2]; exact hq
/-- The run, with a box of its own that stays. -/
def SCfg.box (c : SCfg) (q : Nat) (cs : Array Value) : SCfg := { c with side := some (q, cs) }
theorem SRun.box' {c : SCfg} {w : World} {s : St} {cv : Value} (h : SRun c w s cv) {q : Nat} {cs : Array Value} (hb : HeapIs w q cs 56) (hq : c.base ≤ q) : SRun (c.box q cs) w s cv :=
  ⟨h.old, h.newS, h.newR, h.apart, h.base, h.box, h.regs, h.len, h.r32, h.s32, h.m32, h.slots, h.sown, h.mem, h.mown, h.ans, h.a32, h.calls, h.few, fun q' cs' e => by
    cases e
    exact ⟨hb, fun e => (by have := h.sown q e; omega), fun e => (by have := h.mown q e; omega)⟩⟩
theorem SRun.unbox {c : SCfg} {w : World} {s : St} {cv : Value} {q : Nat} {cs : Array Value} (h : SRun (c.box q cs) w s cv) (hn : c.side = none) : SRun c w s cv :=
  ⟨h.old, h.newS, h.newR, h.apart, h.base, h.box, h.regs, h.len, h.r32, h.s32, h.m32, h.slots, h.sown, h.mem, h.mown, h.ans, h.a32, h.calls, h.few, fun q' cs' e => by rw [hn] at e; cases e⟩
theorem SRun.boxed {c : SCfg} {w : World} {s : St} {cv : Value} {q : Nat} {cs : Array Value} (h : SRun (c.box q cs) w s cv) : HeapIs w q cs 56 := (h.aside q cs rfl).1
theorem ZeroRow.lt {w0 w : World} {n : Nat} {v : Value} (h : ZeroRow w0 n v w) (q : Nat) (hq : v.ownBlock = some q) : q < w.heap.size := by
  obtain ⟨b, rfl, h1, _⟩ := h
  obtain rfl : b = q := Option.some.inj hq
  exact h1.lt
theorem regsP_zero (args : List Int) : regsP 0 args = List.replicate 16 0 := by
  unfold regsP
  simp
  decide
theorem regsP_succ {j : Nat} {args : List Int} (hj : j < 16) : (regsP j args).set j (args.getD j 0) = regsP (j + 1) args := by
  refine List.ext_getElem? fun i => ?_
  unfold regsP
  rw [List.getElem?_set]
  by_cases hi : i < 16
  · simp only [List.getElem?_map, List.length_map, List.length_range]
    rw [List.getElem?_range hi]
    dsimp only [Option.map]
    by_cases e : j = i
    · subst e
      rw [if_pos rfl, if_pos hi, if_pos (by omega)]
    · rw [if_neg e]
      by_cases c : i < j
      · rw [if_pos c, if_pos (by omega)]
      · rw [if_neg c, if_neg (by omega)]
  · simp only [List.getElem?_map, List.length_map, List.length_range]
    have e : (List.range 16)[i]? = none := List.getElem?_eq_none (by simp; omega)
    rw [e, if_neg (by omega)]
    rfl
/-- Behind the last argument that there is. -/
theorem regsP_full {P j : Nat} {args : List Int} (h : P ≤ j ∨ args.length ≤ j) (hj : j ≤ P) : regsP j args = regsP P args := by
  unfold regsP
  refine List.map_congr_left fun t _ => ?_
  by_cases c : t < j
  · rw [if_pos c, if_pos (by omega)]
  · rw [if_neg c]
    split
    · rw [List.getD_eq_getElem?_getD, List.getElem?_eq_none (by omega)]; rfl
    · rfl
theorem stepM_calls (m : Mach) (ans : List Int) (s : St) : (stepM m ans s).2.calls.length ≤ s.calls.length + 1 := by
  unfold stepM
  by_cases c1 : m.op = 30
  · rw [if_pos c1]; exact Nat.le_succ _
  rw [if_neg c1]
  by_cases c2 : m.op = 31
  · rw [if_pos c2]; exact Nat.le_succ _
  rw [if_neg c2]
  by_cases c3 : m.op = 28
  · rw [if_pos c3]; simp
  rw [if_neg c3]
  exact Nat.le_succ _
theorem hreg_lt {c : SCfg} {rb : Nat} (h : ∀ (w' : World) (s : St) (cv : Value), SRun c w' s cv → WAt w' rb s.regs [] 21) {w : World} {s : St} {cv : Value} (hr : SRun c w s cv) : rb < w.heap.size := (h w s cv hr).lt
end Go.Proofs.Ytkpbmbhejpmboaa

namespace Go.Proofs.Ytkpbmbhejpmboaa
open Go.RowKit
set_option linter.unusedVariables false

set_option maxHeartbeats 4000000 in
set_option maxRecDepth 100000 in
theorem rrun_any (p : PrgV) (i : InV) (w : World) (hp : PrgOk w p) (hi : InOk w i) : Calls Try.prog 19 #[pv p, iv i] w (RunQ p i w) := by
  obtain ⟨ba, bc, hbv, hbmax⟩ := hp.1.shape
  obtain ⟨params, k, slots, blocks, bv⟩ := p
  dsimp only at hbv hbmax
  subst hbv
  obtain ⟨args, argsv, mem, memv, ans, ansv, steps⟩ := i
  obtain ⟨⟨hi1, hi2, hi3⟩, ⟨ha32, hm32, hn32⟩, hsteps⟩ := hi
  dsimp only at hi1 hi2 hi3 ha32 hm32 hn32 hsteps
  obtain ⟨aa, ac, rfl⟩ := nums_lenI hi1
  obtain ⟨ma, mc, rfl⟩ := nums_lenI hi2
  obtain ⟨na, nc, rfl⟩ := nums_lenI hi3
  have hri := fun w' (hs : Since w w') => rright_any ⟨params, k, slots, blocks, .slice ba blocks.length bc⟩ w' (hp.keep hs)
  have hmy := fun w' (hs : Since w w') => rmemory_any (.slice aa args.length ac) (.slice ma mem.length mc) (.slice na ans.length nc) steps mem w' (hi2.keep hs) ⟨_, _, _, rfl⟩ ⟨_, _, _, rfl⟩
  have HP := Lib.hid hp; clear hp
  have HI1 := Lib.hid hi1; clear hi1
  have HI3 := Lib.hid hi3; clear hi3
  unfold pv at hri ⊢
  unfold iv
  dsimp only at hri ⊢
  generalize hM0 : mem.take 4096 = M0 at hmy
  have HM0 := Lib.hid hM0; clear hM0
  have HMY := Lib.hid hmy; clear hmy hi2
  generalize hrb : rightB ⟨params, k, slots, blocks, .slice ba blocks.length bc⟩ = rb at *
  have HRB := Lib.hid hrb; clear hrb
  have HRI := Lib.hid hri; clear hri
  obtain ⟨w3, hw3⟩ : ∃ x, x = ((w.alloc (.cells #[.int .i64 params, .int .i64 k, .int .i64 slots, .slice ba blocks.length bc] 24)).alloc (.cells #[.slice aa args.length ac, .slice ma mem.length mc, .slice na ans.length nc, .int .i64 steps] 36)).alloc (.cells #[.int .i64 0, .int .i32 0, .slice none 0 0, .slice none 0 0, .int .i64 0] 42) := ⟨_, rfl⟩
  have hs3 : Since w w3 := by rw [hw3]; exact (((Since.refl w).alloc _).alloc _).alloc _
  have hb1 : HeapIs w3 w.heap.size #[.int .i64 params, .int .i64 k, .int .i64 slots, .slice ba blocks.length bc] 24 := by rw [hw3]; exact ((HeapIs.new _ _ _).keep ((Since.refl _).alloc _)).keep ((Since.refl _).alloc _)
  have hb2 : HeapIs w3 (w.heap.size + 1) #[.slice aa args.length ac, .slice ma mem.length mc, .slice na ans.length nc, .int .i64 steps] 36 := by
    rw [hw3]
    have := HeapIs.new (w.alloc (.cells #[.int .i64 params, .int .i64 k, .int .i64 slots, .slice ba blocks.length bc] 24)) #[.slice aa args.length ac, .slice ma mem.length mc, .slice na ans.length nc, .int .i64 steps] 36
    rw [show (w.alloc (.cells #[.int .i64 params, .int .i64 k, .int .i64 slots, .slice ba blocks.length bc] 24)).heap.size = w.heap.size + 1 from by simp] at this
    exact this.keep ((Since.refl _).alloc _)
  have hb3 : HeapIs w3 (w.heap.size + 2) #[.int .i64 0, .int .i32 0, .slice none 0 0, .slice none 0 0, .int .i64 0] 42 := by
    rw [hw3]
    have := HeapIs.new ((w.alloc (.cells #[.int .i64 params, .int .i64 k, .int .i64 slots, .slice ba blocks.length bc] 24)).alloc (.cells #[.slice aa args.length ac, .slice ma mem.length mc, .slice na ans.length nc, .int .i64 steps] 36)) #[.int .i64 0, .int .i32 0, .slice none 0 0, .slice none 0 0, .int .i64 0] 42
    rw [show ((w.alloc (.cells #[.int .i64 params, .int .i64 k, .int .i64 slots, .slice ba blocks.length bc] 24)).alloc (.cells #[.slice aa args.length ac, .slice ma mem.length mc, .slice na ans.length nc, .int .i64 steps] 36)).heap.size = w.heap.size + 2 from by simp] at this
    exact this
  have HS3 := Lib.hid hs3
  have HB1 := Lib.hid hb1
  have HB2 := Lib.hid hb2
  have HB3 := Lib.hid hb3
  clear hs3 hb1 hb2 hb3
  go_enter Try.func19, Try.ntmps19
  go_wp2_with fail
  rw [← hw3]
  clear hw3
  refine (HRI.out _ HS3.out).mono ?_
  rintro e w4 ⟨rfl, hs4⟩
  have HS4 := Lib.hid (HS3.out.trans hs4)
  have hb1 := HB1.out.keep hs4
  have hb2 := HB2.out.keep hs4
  have hb3 := HB3.out.keep hs4
  have HB1 := Lib.hid hb1
  have HB2 := Lib.hid hb2
  have HB3 := Lib.hid hb3
  clear hs4 hb1 hb2 hb3
  cases rb with
  | false =>
    go_wp2_with (refine wpList_store_row rfl 42 _ _ rfl (w.heap.size + 2) #[.int .i64 4, .int .i32 0, .slice none 0 0, .slice none 0 0, .int .i64 0] rfl rfl 42 _ HB3.out (by kernel_rfl) rfl (by rw [← Array.all_toList]; rfl) ?_)
    have hb5 : HeapIs (w4.setRow (w.heap.size + 2) #[.int .i64 4, .int .i32 0, .slice none 0 0, .slice none 0 0, .int .i64 0]) (w.heap.size + 2) #[.int .i64 4, .int .i32 0, .slice none 0 0, .slice none 0 0, .int .i64 0] 42 := setRow_block HB3.out _
    have hs5 : Since w (w4.setRow (w.heap.size + 2) #[.int .i64 4, .int .i32 0, .slice none 0 0, .slice none 0 0, .int .i64 0]) := (setRow_turn (S := fun q => q = w.heap.size + 2) rfl _).toSince HS4.out (fun q hq e => by omega)
    generalize w4.setRow (w.heap.size + 2) #[.int .i64 4, .int .i32 0, .slice none 0 0, .slice none 0 0, .int .i64 0] = w5 at *
    have c0 := hb5.cell 0
    have c1 := hb5.cell 1
    have c2 := hb5.cell 2
    have c3 := hb5.cell 3
    have c4 := hb5.cell 4
    have hl5 := hb5.lt
    have HS5 := Lib.hid hs5
    clear hb5 hs5
    go_wp2
    exact bodyPost_ret (v := .agg #[.int .i64 4, .int .i32 0, .slice none 0 0, .slice none 0 0, .int .i64 0]) (by simp [results, Try.results19, go_sem, c0, c1, c2, c3, c4]) rfl (by
      have hpr : runP ⟨params, k, slots, blocks, .slice ba blocks.length bc⟩ ⟨args, .slice aa args.length ac, mem, .slice ma mem.length mc, ans, .slice na ans.length nc, steps⟩ = ⟨4, 0, [], [], 0⟩ := by unfold runP; rw [HRB.out]; rfl
      refine ⟨_, rfl, ?_, HS5.out⟩
      rw [hpr]
      exact ⟨.slice none 0 0, .slice none 0 0, rfl, .inl ⟨rfl, rfl⟩, EvRow.nil _ _, fun q (hq : none = some q) => (nomatch hq)⟩)
  | true =>
    obtain ⟨hpa, hk, hsl, hne, hbl⟩ := right_head HRB.out
    dsimp only at hpa hk hsl hne hbl
    obtain ⟨hpa1, hpa2⟩ := hpa
    obtain ⟨P, rfl⟩ := Int.eq_ofNat_of_zero_le hpa1
    obtain ⟨sl, rfl⟩ := Int.eq_ofNat_of_zero_le hsl.1
    have hsl2 : sl ≤ 16384 := by omega
    have HK := Lib.hid hk.2
    have HNE := Lib.hid hne
    have HBL := Lib.hid (fun b hb => blkE_none (blkList_all hbl b hb))
    clear hsl hk hne hbl
    obtain ⟨ti, hti, hz0, hz1, hz2⟩ := info_parts (P := Try.prog) (e := 21) (z := .int .i32 0) (size := 1) (bytes := 4) (by kernel_rfl)
    go_wp2_with fail
    refine wp_region_fresh (fun i => i == 0 || i == 3 || i == 5) rfl (by decide +kernel) (by decide +kernel)
      [ZeroRow w4 16, Is (.pointer (some ⟨w.heap.size, 2, none⟩)), Is (.int .i64 sl), ZeroRow w4 sl, Is (.agg #[.slice aa args.length ac, .slice ma mem.length mc, .slice na ans.length nc, .int .i64 steps]), MemF w4 M0, StateV w4 sl M0, StateP w4 sl M0, StateP w4 sl M0]
      (by repeat (first | exact trivial | refine ⟨Is.stable _, ?_⟩ | refine ⟨ZeroRow.stable _ _, ?_⟩ | refine ⟨MemF.stable _ _, ?_⟩ | refine ⟨StateV.stable _ _ _, ?_⟩ | refine ⟨StateP.stable _ _ _, ?_⟩))
      (fun i hi => by simp at hi ⊢; omega)
      ⟨fun _ v w h q hq => h.lt q hq, fun h => absurd h (by decide), fun h => absurd h (by decide), fun _ v w h q hq => h.lt q hq, fun h => absurd h (by decide), fun _ v w h q hq => MemF.lt h q hq, fun h => absurd h (by decide), fun h => absurd h (by decide), fun h => absurd h (by decide), trivial⟩ ⟨?_, ?_, ?_, ?_, ?_, ?_, ?_, ?_, ?_, trivial⟩ ?_
    rotate_right
    · intro vs w6 hs hk
      simp only [putAll, Act.put, KnowsAll, nthF, Is, List.setIfInBounds_toArray, List.set_cons_zero, List.set_cons_succ, Nat.reduceAdd, List.length_cons, List.length_nil] at hk ⊢
      obtain ⟨sb, rb, slb, mv0, hv8, hf6, hb6, hn1, hn2, hn3, hn4⟩ := hk.2.2.2.2.2.2.2.2.1
      simp only [hv8]
      have hm32' : ∀ x ∈ M0, In32 x := fun x hx => hm32 x (List.mem_of_mem_take (i := 4096) (by rw [HM0.out]; exact hx))
      obtain ⟨mva, mvc, hmv, _, _⟩ := hf6.2.2.2.2.1
      have hrun := StateP.run (ans := ans) (ansv := .slice na ans.length nc) hs hf6 hb6 hn1 hn2 hn3 hn4 hsl2 hm32' (HI3.out.keep HS4.out) hn32
      obtain ⟨c, hc⟩ : ∃ c : SCfg, c = ⟨w4, sb, rb, w6.heap.size, .slice (some ⟨slb, 0, none⟩) sl sl, mv0, .slice na ans.length nc, ans, none⟩ := ⟨_, rfl⟩
      rw [← hc] at hrun
      have e0 : c.w0 = w4 := by rw [hc]
      have e2 : c.rb = rb := by rw [hc]
      have e3 : c.memv = .slice mva M0.length mvc := by rw [hc]; exact hmv
      have e4 : c.side = none := by rw [hc]
      have hdo : ∀ (q : Nat) (cs : Array Value) (s : St) (cv : Value) (m : Mach) (av : Value) (w' : World), SRun (c.box q cs) w' s cv → Ints w4 av m.args → Fine m → insE m k sl = 0 → s.slots.length = sl → s.calls.length < 1000000 → Calls Try.prog 51 #[.pointer (some ⟨sb, 0, none⟩), mv m av, .agg #[.slice aa args.length ac, .slice ma mem.length mc, .slice na ans.length nc, .int .i64 steps]] w' (SDoQ (c.box q cs) (stepM m ans s)) := fun q cs s cv m av w' h1 h2 h3 h4 h5 h6 => by
        have h := sdo_any (k := k) (sl := sl) (c.box q cs) s cv m av w' h1 (by show Ints c.w0 av m.args; rw [e0]; exact h2) h3 h4 HK.out (by rw [h5]; simp) h6 aa args.length ac ma mem.length mc steps
        have ea : (c.box q cs).ans = ans := by show c.ans = ans; rw [hc]
        have eb : (c.box q cs).ansv = .slice na ans.length nc := by show c.ansv = _; rw [hc]
        have ec : (c.box q cs).sb = sb := by show c.sb = _; rw [hc]
        unfold ivS at h
        rw [ea, eb, ec] at h
        exact h
      have hold : ∀ (w' : World) (s : St) (cv : Value), SRun c w' s cv → Since w4 w' := fun _ _ _ h => by have := h.old; rw [e0] at this; exact this
      have hst : ∀ (w' : World) (s : St) (cv : Value), SRun c w' s cv → HeapIs w' sb #[.slice (some ⟨rb, 0, none⟩) 16 16, .slice (some ⟨slb, 0, none⟩) sl sl, .slice mva M0.length mvc, cv] 96 := fun _ _ _ h => by have := h.box; rw [hc, hmv] at this; exact this
      have hreg : ∀ (w' : World) (s : St) (cv : Value), SRun c w' s cv → WAt w' rb s.regs [] 21 := fun _ _ _ h => by have := h.regs; rw [e2] at this; exact this
      obtain ⟨b0, hb0⟩ : ∃ b, blocks[0]? = some b := by
        cases blocks with
        | nil => exact absurd rfl HNE.out
        | cons b r => exact ⟨b, rfl⟩
      obtain ⟨L, hL⟩ : ∃ n, n = steps.toNat := ⟨_, rfl⟩
      generalize hF : runAt ⟨P, k, sl, blocks, .slice ba blocks.length bc⟩ ans L ⟨regsP P args, List.replicate sl 0, M0, []⟩ b0 b0.ins = F
      have hpr : runP ⟨P, k, sl, blocks, .slice ba blocks.length bc⟩ ⟨args, .slice aa args.length ac, mem, .slice ma mem.length mc, ans, .slice na ans.length nc, steps⟩ = outOf L F := by
        unfold runP
        rw [HRB.out, if_pos rfl]
        dsimp only
        cases blocks with
        | nil => exact absurd rfl HNE.out
        | cons b r =>
          obtain rfl : b = b0 := by simpa using hb0
          dsimp only
          unfold st0
          rw [regsP_eq _ _ P rfl, ← hF]
          dsimp only
          rw [Int.toNat_natCast, HM0.out, hL]
      have hlim : L ≤ 1000000 := by omega
      have HF := Lib.hid hF
      have HPR := Lib.hid hpr
      have HB0 := Lib.hid hb0
      have HR := Lib.hid hrun
      have HDO := Lib.hid hdo
      have HOLD := Lib.hid hold
      have HST := Lib.hid hst
      have HREG := Lib.hid hreg
      have E0 := Lib.hid e0
      have E2 := Lib.hid e2
      have E3 := Lib.hid e3
      have E4 := Lib.hid e4
      have HL := Lib.hid hL
      have HA32 := Lib.hid ha32
      clear hF hpr hb0 hrun hdo hold hst hreg e0 e2 e3 e4 hL hc hmv hm32' hs hk hf6 hb6 hn1 hn2 hn3 hn4 hv8 hm32 ha32 hn32
      go_upto_block 0 with fail
      go_cut [6] from 26 to 49 (fun i wc => (∃ j : Nat, i = .int .i64 j) ∧ SRun c wc ⟨regsP P args, List.replicate sl 0, M0, []⟩ (.slice none 0 0))
      case first =>
        go_wp2_with fail
        go_loopw [6] (fun i wr => ∃ j : Nat, j ≤ P ∧ j ≤ args.length ∧ i = .int .i64 j ∧ SRun c wr ⟨regsP j args, List.replicate sl 0, M0, []⟩ (.slice none 0 0)) (fun i _ => P - (intOf i).toNat)
        case atStart => exact ⟨0, Nat.zero_le _, Nat.zero_le _, rfl, by rw [regsP_zero]; exact HR.out⟩
        case round =>
          obtain ⟨j, hjP, hjn, rfl, hr⟩ := hrel
          have hold' := HOLD.out _ _ _ hr
          have p0 : wr.cell? ⟨w.heap.size, 0, none⟩ = some (.int .i64 P) := (HB1.out.keep hold').cell 0
          have p1 := (HB1.out.keep hold').lt
          have p2 : wr.cell? ⟨w.heap.size + 1, 0, none⟩ = some (.slice aa args.length ac) := (HB2.out.keep hold').cell 0
          have p3 := (HB2.out.keep hold').lt
          have HRR := Lib.hid hr
          clear hr hold'
          by_cases h1 : j < P
          · by_cases h2 : j < args.length
            · obtain ⟨_, hcc⟩ := nums_cell HI1.out
              obtain ⟨B, off, rfl, hB, hcell⟩ := hcc (by intro e; rw [e] at h2; simp at h2)
              obtain ⟨x, hx⟩ : ∃ x, args[j]? = some x := ⟨_, List.getElem?_eq_getElem h2⟩
              have HCX := Lib.hid (fun wX (hX : Since w wX) => (hX.cell (p := ⟨B, off + j, none⟩) hB).trans (hcell j x hx))
              have HBL2 := Lib.hid hB
              have HGD := Lib.hid (show args.getD j 0 = x by rw [List.getD_eq_getElem?_getD, hx]; rfl)
              have HX32 := Lib.hid (HA32.out x (List.mem_of_getElem? hx))
              clear hcell hcc hB hx
              go_wp2_with fail
              refine wp_region_since_tail 10 rfl (by decide +kernel) (by decide +kernel) (by decide +kernel) (by decide)
                [Is (.pointer (some ⟨sb, 0, none⟩)), Is (.pointer (some ⟨sb, 0, none⟩)), Is (.pointer (some ⟨sb, 0, none⟩)), Is (.slice (some ⟨rb, 0, none⟩) 16 16), Is (.int .i64 j), Is (.pointer (some ⟨w.heap.size + 1, 0, none⟩)), Is (.slice (some ⟨B, off, none⟩) args.length ac), Is (.int .i64 j), Is (.pointer (some ⟨B, off + j, none⟩)), Is (.int .i32 x)]
                (by repeat (first | exact trivial | refine ⟨Is.stable _, ?_⟩)) ⟨?_, ?_, ?_, ?_, ?_, ?_, ?_, ?_, ?_, ?_, trivial⟩ ?_
              rotate_right
              · intro vs w9 hs hk
                simp only [List.take, List.drop, putAll, Act.put, KnowsAll, nthF, Is, List.setIfInBounds_toArray, List.set_cons_zero, List.set_cons_succ, Nat.reduceAdd] at hk ⊢
                try simp only [hk]
                have h4 := HRR.out.keep hs
                have hlr : rb < w9.heap.size := (HREG.out _ _ _ h4).lt
                have hcr : w9.cell? ⟨rb, j, none⟩ = some (.int .i32 ((regsP j args).getD j 0)) := (HREG.out _ _ _ h4).cell (by rw [regsP_len]; omega)
                have hfz := (HREG.out _ _ _ h4).frozen
                have H4 := Lib.hid h4
                clear h4 hs hk
                go_wp2
                go_roundw
                case rel =>
                  have h5 := H4.out.setReg (i := j) (by omega) HX32.out
                  rw [E2.out] at h5
                  have e := regsP_succ (j := j) (args := args) (by omega)
                  rw [HGD.out] at e
                  exact ⟨j + 1, by omega, by omega, by go_num, by rw [← e]; exact h5⟩
                case measure => simp [intOf]; omega
              all_goals
                intro vs w9 hs hk _
                simp only [List.take, putAll, Act.put, Knows, nthF, Is, List.setIfInBounds_toArray, List.set_cons_zero, List.set_cons_succ, Nat.reduceAdd] at hk ⊢
                try simp only [hk]
              · go_wp2
                exact ⟨_, rfl, rfl, Since.refl _⟩
              · go_wp2
                exact ⟨_, rfl, rfl, Since.refl _⟩
              · go_wp2
                exact ⟨_, rfl, rfl, Since.refl _⟩
              · have hc := (HST.out _ _ _ (HRR.out.keep hs)).cell 0
                have hl := (HST.out _ _ _ (HRR.out.keep hs)).lt
                go_wp2
                exact ⟨_, rfl, rfl, Since.refl _⟩
              · go_wp2
                exact ⟨_, rfl, rfl, Since.refl _⟩
              · go_wp2
                exact ⟨_, rfl, rfl, Since.refl _⟩
              · have hc : w9.cell? ⟨w.heap.size + 1, 0, none⟩ = some (.slice (some ⟨B, off, none⟩) args.length ac) := (HB2.out.keep (HOLD.out _ _ _ (HRR.out.keep hs))).cell 0
                have hl := (HB2.out.keep (HOLD.out _ _ _ (HRR.out.keep hs))).lt
                go_wp2
                exact ⟨_, rfl, rfl, Since.refl _⟩
              · go_wp2
                exact ⟨_, rfl, rfl, Since.refl _⟩
              · go_wp2
                exact ⟨_, rfl, (by show Value.pointer _ = _; simp [go_sem]), Since.refl _⟩
              · have hc : w9.cell? ⟨B, off + j, none⟩ = some (.int .i32 x) := HCX.out _ (HS4.out.trans (HOLD.out _ _ _ (HRR.out.keep hs)))
                have hl : B < w9.heap.size := Nat.lt_of_lt_of_le HBL2.out (HS4.out.trans (HOLD.out _ _ _ (HRR.out.keep hs))).size
                go_wp2
                exact ⟨_, rfl, rfl, Since.refl _⟩
            · go_wp2
              go_meet
              case rel => exact ⟨⟨j, rfl⟩, by rw [← regsP_full (P := P) (j := j) (args := args) (.inr (by omega)) hjP]; exact HRR.out⟩
          · go_wp2
            go_meet
            case rel => exact ⟨⟨j, rfl⟩, by rw [← regsP_full (P := P) (j := j) (args := args) (.inl (by omega)) hjP]; exact HRR.out⟩
      case rest =>
        obtain ⟨⟨jx, rfl⟩, hr⟩ := hcut
        have HR2 := Lib.hid hr
        clear hr
        go_wp2_with fail
        go_loopw [7, 8] (fun n jv wr => ∃ (j : Nat) (b' : BlkV) (s' : St) (cv' : Value) (f' : Nat) (n0 : Int), n = .int .i64 n0 ∧ n0 + (f' : Int) ≤ (L : Int) ∧ (L : Int) ≤ n0 + (f' : Int) ∧ jv = .int .i64 j ∧ blocks[j]? = some b' ∧ f' ≤ L ∧ s'.slots.length = sl ∧ (s'.calls.length : Int) ≤ n0 ∧ SRun c wr s' cv' ∧ runAt ⟨P, k, sl, blocks, .slice ba blocks.length bc⟩ ans f' s' b' b'.ins = F) (fun n _ _ => ((L : Int) - intOf n).toNat)
        case atStart => exact ⟨0, b0, _, _, L, 0, rfl, by omega, by omega, rfl, HB0.out, Nat.le_refl _, by simp, by simp, HR2.out, HF.out⟩
        case round =>
          obtain ⟨j, b', s', cv', f', n0, rfl, hn0a, hn0b, rfl, hbj, hf', hsl', hfew', hm', hr'⟩ := hrel
          obtain ⟨hleg, hend⟩ := HBL.out b' (List.mem_of_getElem? hbj)
          have hjl : j < blocks.length := (List.getElem?_eq_some_iff.1 hbj).1
          have hold := HOLD.out _ _ _ hm'
          have hwr : Since w wr := HS4.out.trans hold
          have hbx1 := HB1.out.keep hold
          obtain ⟨B, off, x, rfl, hB, hx, hcB, hok⟩ := RowIn.at HP.out.1 hjl
          rw [hbj] at hx
          cases hx
          obtain ⟨xins, xinsv, ⟨eop, ea, eb, eto, etov, eimm⟩⟩ := b'
          obtain ⟨hok1, hok2, hok3⟩ := hok
          dsimp only at hok1 hok2 hok3 hleg hend hr'
          obtain ⟨ia, ic, rfl, hil⟩ := hok1.shape
          obtain ⟨ta, tc, rfl⟩ := nums_lenI hok2
          have hcw := fun t ht => (hwr.cell (p := ⟨B, off + j * 6 + t, none⟩) hB).trans (hcB t ht)
          have c0 : wr.cell? ⟨B, off + j * 6, none⟩ = some (.slice ia xins.length ic) := hcw 0 (by decide)
          have c1 : wr.cell? ⟨B, off + j * 6 + 1, none⟩ = some (.int .i64 eop) := hcw 1 (by decide)
          have c2 : wr.cell? ⟨B, off + j * 6 + 2, none⟩ = some (.int .i64 ea) := hcw 2 (by decide)
          have c3 : wr.cell? ⟨B, off + j * 6 + 3, none⟩ = some (.int .i64 eb) := hcw 3 (by decide)
          have c4 : wr.cell? ⟨B, off + j * 6 + 4, none⟩ = some (.slice ta eto.length tc) := hcw 4 (by decide)
          have c5 : wr.cell? ⟨B, off + j * 6 + 5, none⟩ = some (.int .i32 eimm) := hcw 5 (by decide)
          have p3 : wr.cell? ⟨w.heap.size, 3, none⟩ = some (.slice (some ⟨B, off, none⟩) blocks.length bc) := hbx1.cell 3
          have hbl1 := hbx1.lt
          have HMr := Lib.hid hm'
          have HR3 := Lib.hid hr'
          have HOK1 := Lib.hid hok1
          have HTO := Lib.hid hok2
          have HLEG := Lib.hid hleg
          have HEND := Lib.hid hend
          have HSL0 := Lib.hid hsl'
          have HFEW0 := Lib.hid hfew'
          have HBW := Lib.hid (Nat.lt_of_lt_of_le hB hwr.size)
          clear hcw hcB hB hok1 hok2 hleg hend hr' hm' hold hwr hbx1 hbj hil hsl' hfew'
          obtain ⟨wo, rfl⟩ : ∃ wo : World, wo = wr := ⟨_, rfl⟩
          go_wp2_with fail
          obtain ⟨wb, hwb⟩ : ∃ x, x = wo.alloc (.cells #[.slice ia xins.length ic, .int .i64 eop, .int .i64 ea, .int .i64 eb, .slice ta eto.length tc, .int .i32 eimm] 56) := ⟨_, rfl⟩
          have hbb : HeapIs wb wo.heap.size #[.slice ia xins.length ic, .int .i64 eop, .int .i64 ea, .int .i64 eb, .slice ta eto.length tc, .int .i32 eimm] 56 := by rw [hwb]; exact HeapIs.new _ _ _
          have hsb : Since wo wb := by rw [hwb]; exact (Since.refl _).alloc _
          have hm2 : SRun (c.box wo.heap.size #[.slice ia xins.length ic, .int .i64 eop, .int .i64 ea, .int .i64 eb, .slice ta eto.length tc, .int .i32 eimm]) wb s' cv' := (HMr.out.keep hsb).box' hbb HMr.out.base
          rw [← hwb]
          have HM2 := Lib.hid hm2
          clear hwb hbb hsb hm2 c0 c1 c2 c3 c4 c5 p3 hbl1
          go_loopw [7, 10] (fun n i wr => ∃ (kk : Nat) (s1 : St) (cv1 : Value) (f1 : Nat) (n1 : Int), kk ≤ xins.length + 1 ∧ i = .int .i64 kk ∧ n = .int .i64 n1 ∧ n1 + (f1 : Int) ≤ (L : Int) ∧ (L : Int) ≤ n1 + (f1 : Int) ∧ f1 ≤ f' ∧ s1.slots.length = sl ∧ (s1.calls.length : Int) ≤ n1 ∧ SRun (c.box wo.heap.size #[.slice ia xins.length ic, .int .i64 eop, .int .i64 ea, .int .i64 eb, .slice ta eto.length tc, .int .i32 eimm]) wr s1 cv1 ∧ ((kk ≤ xins.length ∧ runAt ⟨P, k, sl, blocks, .slice (some ⟨B, off, none⟩) blocks.length bc⟩ ans f1 s1 ⟨xins, .slice ia xins.length ic, ⟨eop, ea, eb, eto, .slice ta eto.length tc, eimm⟩⟩ (xins.drop kk) = F) ∨ (kk = xins.length + 1 ∧ f1 < f' ∧ runEnd ⟨P, k, sl, blocks, .slice (some ⟨B, off, none⟩) blocks.length bc⟩ ans f1 s1 ⟨xins, .slice ia xins.length ic, ⟨eop, ea, eb, eto, .slice ta eto.length tc, eimm⟩⟩ = F))) (fun _ i _ => xins.length + 1 - (intOf i).toNat)
          case atStart => exact ⟨0, s', cv', f', n0, by omega, rfl, rfl, hn0a, hn0b, Nat.le_refl _, HSL0.out, HFEW0.out, HM2.out, .inl ⟨Nat.zero_le _, by rw [List.drop_zero]; exact HR3.out⟩⟩
          case round =>
            obtain ⟨kk, s1, cv1, f1, n1, hkn, rfl, rfl, hn1a, hn1b, hf1, hsl1, hfew1, hm, hcase⟩ := hrel
            have hmU := hm.unbox E4.out
            have hold1 := HOLD.out _ _ _ hmU
            have hbx := hm.boxed
            have x0 : wr.cell? ⟨wo.heap.size, 0, none⟩ = some (.slice ia xins.length ic) := hbx.cell 0
            have xl := hbx.lt
            have i3 : wr.cell? ⟨w.heap.size + 1, 3, none⟩ = some (.int .i64 steps) := (HB2.out.keep hold1).cell 3
            have il := (HB2.out.keep hold1).lt
            have hlr := (hreg_lt HREG.out hmU)
            obtain ⟨evs, hev, _⟩ := hmU.calls
            obtain ⟨ca, cc, hcv⟩ := OwnRow.shape hev
            subst hcv
            have HM1 := Lib.hid hm
            have HU := Lib.hid hmU
            have HBX := Lib.hid hbx
            have HSL1 := Lib.hid hsl1
            have HCASE := Lib.hid hcase
            have HLs := HL.out
            clear hev hm hmU hold1 hbx hsl1 hcase
            by_cases hk1 : kk ≤ xins.length
            · have hrun : runAt ⟨P, k, sl, blocks, .slice (some ⟨B, off, none⟩) blocks.length bc⟩ ans f1 s1 ⟨xins, .slice ia xins.length ic, ⟨eop, ea, eb, eto, .slice ta eto.length tc, eimm⟩⟩ (xins.drop kk) = F := by
                rcases HCASE.out with ⟨_, h⟩ | ⟨h, _⟩
                · exact h
                · omega
              clear HCASE
              cases f1 with
              | zero =>
                have hge : steps ≤ n1 := by omega
                rw [runAt_zero] at hrun
                have HF1 := Lib.hid hrun
                clear hrun HLs
                go_wp2_with fail
                refine wp_region_since_tail 10 rfl (by decide +kernel) (by decide +kernel) (by decide +kernel) (by decide)
                  [Is (.pointer (some ⟨sb, 0, none⟩)), Is (.pointer (some ⟨sb, 0, none⟩)), Is (.pointer (some ⟨sb, 2, none⟩)), Is (.slice mva M0.length mvc), Is (.pointer (some ⟨sb, 0, none⟩)), Is (.pointer (some ⟨sb, 0, none⟩)), Is (.pointer (some ⟨sb, 3, none⟩)), Is (.slice ca evs.length cc), Is (.int .i64 n1), Is (.agg #[.int .i64 3, .int .i32 0, .slice mva M0.length mvc, .slice ca evs.length cc, .int .i64 n1])]
                  (by repeat (first | exact trivial | refine ⟨Is.stable _, ?_⟩)) ⟨?_, ?_, ?_, ?_, ?_, ?_, ?_, ?_, ?_, ?_, trivial⟩ ?_
                rotate_right
                · intro vs w9 hs hk
                  simp only [List.take, List.drop, putAll, Act.put, KnowsAll, nthF, Is, List.setIfInBounds_toArray, List.set_cons_zero, List.set_cons_succ, Nat.reduceAdd] at hk ⊢
                  try simp only [hk]
                  have h8 := HU.out.keep hs
                  have hb4 := HB3.out.keep (HOLD.out _ _ _ h8)
                  have HX8 := Lib.hid h8
                  have HBX4 := Lib.hid hb4
                  clear h8 hb4 hs hk
                  go_wp2_with (refine wpList_store_row rfl 42 _ _ rfl (w.heap.size + 2) #[.int .i64 3, .int .i32 0, .slice mva M0.length mvc, .slice ca evs.length cc, .int .i64 n1] rfl rfl 42 _ HBX4.out (by kernel_rfl) rfl (by rw [← Array.all_toList]; rfl) ?_)
                  have hb5 := setRow_block HBX4.out #[.int .i64 3, .int .i32 0, .slice mva M0.length mvc, .slice ca evs.length cc, .int .i64 n1]
                  have t5 : Turn (fun q => q = w.heap.size + 2) w9 (w9.setRow (w.heap.size + 2) #[.int .i64 3, .int .i32 0, .slice mva M0.length mvc, .slice ca evs.length cc, .int .i64 n1]) := setRow_turn (S := fun q => q = w.heap.size + 2) rfl _
                  generalize w9.setRow (w.heap.size + 2) #[.int .i64 3, .int .i32 0, .slice mva M0.length mvc, .slice ca evs.length cc, .int .i64 n1] = w5 at *
                  have hb5 : HeapIs w5 (w.heap.size + 2) #[.int .i64 3, .int .i32 0, .slice mva M0.length mvc, .slice ca evs.length cc, .int .i64 n1] 42 := hb5
                  have e0 := hb5.cell 0
                  have e1 := hb5.cell 1
                  have e2 := hb5.cell 2
                  have e3 := hb5.cell 3
                  have e4 := hb5.cell 4
                  have hl5 := hb5.lt
                  have ho := HX8.out.tells (w := w) (e := 3) (v := 0) (n := n1) (o := outOf L F) (by rw [E0.out]; exact HS4.out) (by rw [E0.out]; exact HB3.out.lt) t5 (by rw [← HF1.out]; unfold outOf; dsimp only; congr 1; omega)
                  rw [E3.out] at ho
                  have HO := Lib.hid ho
                  clear hb5 t5 ho
                  go_wp2
                  exact bodyPost_ret (v := .agg #[.int .i64 3, .int .i32 0, .slice mva M0.length mvc, .slice ca evs.length cc, .int .i64 n1]) (by simp [results, Try.results19, go_sem, e0, e1, e2, e3, e4]) rfl ⟨_, rfl, by rw [HPR.out]; exact HO.out.1, HO.out.2⟩
                all_goals
                  intro vs w9 hs hk _
                  simp only [List.take, putAll, Act.put, Knows, nthF, Is, List.setIfInBounds_toArray, List.set_cons_zero, List.set_cons_succ, Nat.reduceAdd] at hk ⊢
                  try simp only [hk]
                · go_wp2
                  exact ⟨_, rfl, rfl, Since.refl _⟩
                · go_wp2
                  exact ⟨_, rfl, rfl, Since.refl _⟩
                · go_wp2
                  exact ⟨_, rfl, rfl, Since.refl _⟩
                · have hc := (HST.out _ _ _ (HU.keep hs)).cell 2
                  have hl := (HST.out _ _ _ (HU.keep hs)).lt
                  go_wp2
                  exact ⟨_, rfl, rfl, Since.refl _⟩
                · go_wp2
                  exact ⟨_, rfl, rfl, Since.refl _⟩
                · go_wp2
                  exact ⟨_, rfl, rfl, Since.refl _⟩
                · go_wp2
                  exact ⟨_, rfl, rfl, Since.refl _⟩
                · have hc := (HST.out _ _ _ (HU.keep hs)).cell 3
                  have hl := (HST.out _ _ _ (HU.keep hs)).lt
                  go_wp2
                  exact ⟨_, rfl, rfl, Since.refl _⟩
                · go_wp2
                  exact ⟨_, rfl, rfl, Since.refl _⟩
                · go_wp2
                  exact ⟨_, rfl, rfl, Since.refl _⟩
              | succ f =>
                have hge : ¬ steps ≤ n1 := by omega
                by_cases hlt : kk < xins.length
                · obtain ⟨MB, moff, x, rfl, hMB, hx, hcM, hokM⟩ := RowIn.at HOK1.out hlt
                  obtain ⟨m, av, src⟩ := x
                  obtain ⟨hokM1, hokM2, _⟩ := hokM
                  dsimp only at hokM1 hokM2
                  obtain ⟨aa2, ac2, rfl⟩ := nums_lenI hokM1
                  have hle := HLEG.out _ (List.mem_of_getElem? hx)
                  dsimp only at hle
                  have hdrop : xins.drop kk = ⟨m, .slice aa2 m.args.length ac2, src⟩ :: xins.drop (kk + 1) := by
                    rw [List.drop_eq_getElem_cons hlt]
                    congr 1
                    exact (List.getElem?_eq_some_iff.1 hx).2
                  rw [hdrop, runAt_step] at hrun
                  dsimp only at hrun
                  have hcw := fun t ht => (show ∀ wX, Since w wX → _ from fun wX (hX : Since w wX) => (hX.cell (p := ⟨MB, moff + kk * 9 + t, none⟩) hMB).trans (hcM t ht))
                  have HCW := Lib.hid hcw
                  have HMB := Lib.hid hMB
                  have hsls := (stepM_slots m ans s1).trans HSL1.out
                  have hcl := stepM_calls m ans s1
                  have hdo := fun w1 (h1 : SRun (c.box wo.heap.size #[.slice (some ⟨MB, moff, none⟩) xins.length ic, .int .i64 eop, .int .i64 ea, .int .i64 eb, .slice ta eto.length tc, .int .i32 eimm]) w1 s1 (.slice ca evs.length cc)) => HDO.out _ _ _ _ m (.slice aa2 m.args.length ac2) w1 h1 (hokM1.keep HS4.out) hokM2 hle HSL1.out (by omega)
                  generalize stepM m ans s1 = D at *
                  obtain ⟨tr, s2⟩ := D
                  dsimp only at hdo hsls hcl hrun
                  unfold mv at hdo
                  have HD := Lib.hid hdo
                  have HSLS := Lib.hid hsls
                  have HRUN := Lib.hid hrun
                  have HFEW2 := Lib.hid (show (s2.calls.length : Int) ≤ n1 + 1 from by omega)
                  clear hcw hMB hx hcM hokM1 hokM2 hle hdrop hrun hdo hsls hcl HLs
                  go_wp2_with fail
                  refine wp_region_phases [8] [0, 0, 0, 0, 0, 0, 0, 0, 0, 1, 1, 1, 1, 1] [0, 0, 0, 0, 0, 0, 0, 0, 0, 1, 1, 1, 1, 1] [0, 0, 0, 0, 0, 0, 0, 0, 1, 0, 0, 0, 0, 0] (fun p w1 => if p = 0 then SRun (c.box wo.heap.size #[.slice (some ⟨MB, moff, none⟩) xins.length ic, .int .i64 eop, .int .i64 ea, .int .i64 eb, .slice ta eto.length tc, .int .i32 eimm]) w1 s1 (.slice ca evs.length cc) else ∃ cv2, SRun (c.box wo.heap.size #[.slice (some ⟨MB, moff, none⟩) xins.length ic, .int .i64 eop, .int .i64 ea, .int .i64 eb, .slice ta eto.length tc, .int .i32 eimm]) w1 s2 cv2) rfl (by decide +kernel) (by decide +kernel) (by decide +kernel)
                    [Is (.pointer (some ⟨sb, 0, none⟩)), Is (.pointer (some ⟨wo.heap.size, 0, none⟩)), Is (.slice (some ⟨MB, moff, none⟩) xins.length ic), Is (.int .i64 kk), Is (.pointer (some ⟨MB, moff + kk * 9, none⟩)), Is (.pointer (some ⟨MB, moff + kk * 9, none⟩)), Is (.agg #[.int .i64 m.op, .int .i64 m.d, .int .i64 m.e, .int .i64 m.a, .int .i64 m.b, .int .i64 m.c, .int .i32 m.imm, .slice aa2 m.args.length ac2]), Is (.agg #[.slice aa args.length ac, .slice ma mem.length mc, .slice na ans.length nc, .int .i64 steps]), Is (.tuple #[.int .i32 (tr.getD 0), .bool tr.isNone]), Is (.tuple #[.int .i32 (tr.getD 0), .bool tr.isNone]), Is (.int .i32 (tr.getD 0)), Is (.bool tr.isNone), Is (.int .i32 (tr.getD 0)), Is (.bool tr.isNone)]
                    (by repeat (first | exact trivial | refine ⟨Is.fixed _, ?_⟩ | refine ⟨Any.fixed, ?_⟩)) (HM1.out.keep (Since.refl _).drew) ⟨?_, ?_, ?_, ?_, ?_, ?_, ?_, ?_, ?_, ?_, ?_, ?_, ?_, ?_, trivial⟩ ?_
                  rotate_right
                  · intro vs w8 _ hph hk
                    simp only [putAll, Act.put, KnowsAll, nthF, Is, List.setIfInBounds_toArray, List.set_cons_zero, List.set_cons_succ, Nat.reduceAdd, List.length_cons, List.length_nil] at hk ⊢
                    try simp only [hk]
                    obtain ⟨cv2, h2⟩ : ∃ cv2, SRun (c.box wo.heap.size #[.slice (some ⟨MB, moff, none⟩) xins.length ic, .int .i64 eop, .int .i64 ea, .int .i64 eb, .slice ta eto.length tc, .int .i32 eimm]) w8 s2 cv2 := hph
                    cases tr with
                    | none =>
                      dsimp only [Option.isNone, Option.getD] at HRUN ⊢
                      have H2 := Lib.hid h2
                      clear h2 hk
                      go_wp2
                      go_roundw
                      case rel => exact ⟨kk + 1, s2, cv2, f, n1 + 1, by omega, by go_num, rfl, by omega, by omega, by omega, HSLS.out, HFEW2.out, H2.out, .inl ⟨by omega, HRUN.out⟩⟩
                      case measure => simp [intOf]; omega
                    | some tv =>
                      dsimp only [Option.isNone, Option.getD] at HRUN ⊢
                      have hu8 := h2.unbox E4.out
                      obtain ⟨evs2, hev2, _⟩ := hu8.calls
                      obtain ⟨ca2, cc2, hcv2⟩ := OwnRow.shape hev2
                      subst hcv2
                      have HU8 := Lib.hid hu8
                      have HF1 := Lib.hid (show (⟨2, tv, s2, f⟩ : EndSt) = F from HRUN.out)
                      clear h2 hk hu8 hev2
                      go_wp2_with fail
                      refine wp_region_since_tail 11 rfl (by decide +kernel) (by decide +kernel) (by decide +kernel) (by decide)
                        [Is (.int .i32 tv), Is (.pointer (some ⟨sb, 0, none⟩)), Is (.pointer (some ⟨sb, 0, none⟩)), Is (.pointer (some ⟨sb, 2, none⟩)), Is (.slice mva M0.length mvc), Is (.pointer (some ⟨sb, 0, none⟩)), Is (.pointer (some ⟨sb, 0, none⟩)), Is (.pointer (some ⟨sb, 3, none⟩)), Is (.slice ca2 evs2.length cc2), Is (.int .i64 (n1 + 1)), Is (.agg #[.int .i64 2, .int .i32 tv, .slice mva M0.length mvc, .slice ca2 evs2.length cc2, .int .i64 (n1 + 1)])]
                        (by repeat (first | exact trivial | refine ⟨Is.stable _, ?_⟩)) ⟨?_, ?_, ?_, ?_, ?_, ?_, ?_, ?_, ?_, ?_, ?_, trivial⟩ ?_
                      rotate_right
                      · intro vs w9 hs hk
                        simp only [List.take, List.drop, putAll, Act.put, KnowsAll, nthF, Is, List.setIfInBounds_toArray, List.set_cons_zero, List.set_cons_succ, Nat.reduceAdd] at hk ⊢
                        try simp only [hk]
                        have h8 := HU8.out.keep hs
                        have hb4 := HB3.out.keep (HOLD.out _ _ _ h8)
                        have HX8 := Lib.hid h8
                        have HBX4 := Lib.hid hb4
                        clear h8 hb4 hs hk
                        go_wp2_with (refine wpList_store_row rfl 42 _ _ rfl (w.heap.size + 2) #[.int .i64 2, .int .i32 tv, .slice mva M0.length mvc, .slice ca2 evs2.length cc2, .int .i64 (n1 + 1)] rfl rfl 42 _ HBX4.out (by kernel_rfl) rfl (by rw [← Array.all_toList]; rfl) ?_)
                        have hb5 := setRow_block HBX4.out #[.int .i64 2, .int .i32 tv, .slice mva M0.length mvc, .slice ca2 evs2.length cc2, .int .i64 (n1 + 1)]
                        have t5 : Turn (fun q => q = w.heap.size + 2) w9 (w9.setRow (w.heap.size + 2) #[.int .i64 2, .int .i32 tv, .slice mva M0.length mvc, .slice ca2 evs2.length cc2, .int .i64 (n1 + 1)]) := setRow_turn (S := fun q => q = w.heap.size + 2) rfl _
                        generalize w9.setRow (w.heap.size + 2) #[.int .i64 2, .int .i32 tv, .slice mva M0.length mvc, .slice ca2 evs2.length cc2, .int .i64 (n1 + 1)] = w5 at *
                        have hb5 : HeapIs w5 (w.heap.size + 2) #[.int .i64 2, .int .i32 tv, .slice mva M0.length mvc, .slice ca2 evs2.length cc2, .int .i64 (n1 + 1)] 42 := hb5
                        have e0 := hb5.cell 0
                        have e1 := hb5.cell 1
                        have e2 := hb5.cell 2
                        have e3 := hb5.cell 3
                        have e4 := hb5.cell 4
                        have hl5 := hb5.lt
                        have ho := HX8.out.tells (w := w) (e := 2) (v := tv) (n := n1 + 1) (o := outOf L F) (by rw [E0.out]; exact HS4.out) (by rw [E0.out]; exact HB3.out.lt) t5 (by rw [← HF1.out]; unfold outOf; dsimp only; congr 1; omega)
                        rw [E3.out] at ho
                        have HO := Lib.hid ho
                        clear hb5 t5 ho
                        go_wp2
                        exact bodyPost_ret (v := .agg #[.int .i64 2, .int .i32 tv, .slice mva M0.length mvc, .slice ca2 evs2.length cc2, .int .i64 (n1 + 1)]) (by simp [results, Try.results19, go_sem, e0, e1, e2, e3, e4]) rfl ⟨_, rfl, by rw [HPR.out]; exact HO.out.1, HO.out.2⟩
                      all_goals
                        intro vs w9 hs hk _
                        simp only [List.take, putAll, Act.put, Knows, nthF, Is, List.setIfInBounds_toArray, List.set_cons_zero, List.set_cons_succ, Nat.reduceAdd] at hk ⊢
                        try simp only [hk]
                      · go_wp2
                        exact ⟨_, rfl, rfl, Since.refl _⟩
                      · go_wp2
                        exact ⟨_, rfl, rfl, Since.refl _⟩
                      · go_wp2
                        exact ⟨_, rfl, rfl, Since.refl _⟩
                      · go_wp2
                        exact ⟨_, rfl, rfl, Since.refl _⟩
                      · have hc := (HST.out _ _ _ (HU8.keep hs)).cell 2
                        have hl := (HST.out _ _ _ (HU8.keep hs)).lt
                        go_wp2
                        exact ⟨_, rfl, rfl, Since.refl _⟩
                      · go_wp2
                        exact ⟨_, rfl, rfl, Since.refl _⟩
                      · go_wp2
                        exact ⟨_, rfl, rfl, Since.refl _⟩
                      · go_wp2
                        exact ⟨_, rfl, rfl, Since.refl _⟩
                      · have hc := (HST.out _ _ _ (HU8.keep hs)).cell 3
                        have hl := (HST.out _ _ _ (HU8.keep hs)).lt
                        go_wp2
                        exact ⟨_, rfl, rfl, Since.refl _⟩
                      · go_wp2
                        exact ⟨_, rfl, rfl, Since.refl _⟩
                      · go_wp2
                        exact ⟨_, rfl, rfl, Since.refl _⟩
                  all_goals
                    intro p vs w8 hlo hhi _ hph hk
                    simp only [putAll, Act.put, Knows, nthF, Is, List.setIfInBounds_toArray, List.set_cons_zero, List.set_cons_succ, Nat.reduceAdd] at hk ⊢
                    try simp only [hk]
                  · go_wp2
                    exact ⟨_, rfl, rfl, trivial, hph⟩
                  · go_wp2
                    exact ⟨_, rfl, rfl, trivial, hph⟩
                  · obtain rfl : p = 0 := by omega
                    have hm0 : SRun (c.box wo.heap.size #[.slice (some ⟨MB, moff, none⟩) xins.length ic, .int .i64 eop, .int .i64 ea, .int .i64 eb, .slice ta eto.length tc, .int .i32 eimm]) w8 s1 (.slice ca evs.length cc) := hph
                    have hc : w8.cell? ⟨wo.heap.size, 0, none⟩ = some (.slice (some ⟨MB, moff, none⟩) xins.length ic) := hm0.boxed.cell 0
                    have hl := hm0.boxed.lt
                    go_wp2
                    exact ⟨_, rfl, rfl, trivial, hph⟩
                  · go_wp2
                    exact ⟨_, rfl, rfl, trivial, hph⟩
                  · go_wp2
                    exact ⟨_, rfl, (by show Value.pointer _ = _; simp [go_sem]), trivial, hph⟩
                  · go_wp2
                    exact ⟨_, rfl, (by show Value.pointer _ = _; simp [go_sem]), trivial, hph⟩
                  · obtain rfl : p = 0 := by omega
                    have hm0 : SRun (c.box wo.heap.size #[.slice (some ⟨MB, moff, none⟩) xins.length ic, .int .i64 eop, .int .i64 ea, .int .i64 eb, .slice ta eto.length tc, .int .i32 eimm]) w8 s1 (.slice ca evs.length cc) := hph
                    have hs8 := HS4.out.trans (HOLD.out _ _ _ (hm0.unbox E4.out))
                    have k0 : w8.cell? ⟨MB, moff + kk * 9, none⟩ = some (.int .i64 m.op) := HCW.out 0 (by decide) _ hs8
                    have k1 : w8.cell? ⟨MB, moff + kk * 9 + 1, none⟩ = some (.int .i64 m.d) := HCW.out 1 (by decide) _ hs8
                    have k2 : w8.cell? ⟨MB, moff + kk * 9 + 2, none⟩ = some (.int .i64 m.e) := HCW.out 2 (by decide) _ hs8
                    have k3 : w8.cell? ⟨MB, moff + kk * 9 + 3, none⟩ = some (.int .i64 m.a) := HCW.out 3 (by decide) _ hs8
                    have k4 : w8.cell? ⟨MB, moff + kk * 9 + 4, none⟩ = some (.int .i64 m.b) := HCW.out 4 (by decide) _ hs8
                    have k5 : w8.cell? ⟨MB, moff + kk * 9 + 5, none⟩ = some (.int .i64 m.c) := HCW.out 5 (by decide) _ hs8
                    have k6 : w8.cell? ⟨MB, moff + kk * 9 + 6, none⟩ = some (.int .i32 m.imm) := HCW.out 6 (by decide) _ hs8
                    have k7 : w8.cell? ⟨MB, moff + kk * 9 + 7, none⟩ = some (.slice aa2 m.args.length ac2) := HCW.out 7 (by decide) _ hs8
                    have hl : MB < w8.heap.size := Nat.lt_of_lt_of_le HMB.out hs8.size
                    clear hs8
                    go_wp2
                    exact ⟨_, rfl, rfl, trivial, hph⟩
                  · obtain rfl : p = 0 := by omega
                    have hm0 : SRun (c.box wo.heap.size #[.slice (some ⟨MB, moff, none⟩) xins.length ic, .int .i64 eop, .int .i64 ea, .int .i64 eb, .slice ta eto.length tc, .int .i32 eimm]) w8 s1 (.slice ca evs.length cc) := hph
                    have hb8 := HB2.out.keep (HOLD.out _ _ _ (hm0.unbox E4.out))
                    have k0 := hb8.cell 0
                    have k1 := hb8.cell 1
                    have k2 := hb8.cell 2
                    have k3 := hb8.cell 3
                    have hl := hb8.lt
                    clear hb8
                    go_wp2
                    exact ⟨_, rfl, rfl, trivial, hph⟩
                  · obtain rfl : p = 0 := by omega
                    have hm0 : SRun (c.box wo.heap.size #[.slice (some ⟨MB, moff, none⟩) xins.length ic, .int .i64 eop, .int .i64 ea, .int .i64 eb, .slice ta eto.length tc, .int .i32 eimm]) w8 s1 (.slice ca evs.length cc) := hph
                    have HC := Lib.hid (HD.out _ hm0)
                    go_wp2_with fail
                    refine HC.out.mono ?_
                    rintro e w7 ⟨cv2, rfl, hw7⟩
                    go_wp2
                    exact ⟨_, rfl, rfl, trivial, ⟨cv2, hw7⟩⟩
                  · go_wp2
                    exact ⟨_, rfl, rfl, trivial, hph⟩
                  · go_wp2
                    exact ⟨_, rfl, rfl, trivial, hph⟩
                  · go_wp2
                    exact ⟨_, rfl, rfl, trivial, hph⟩
                  · go_wp2
                    exact ⟨_, rfl, rfl, trivial, hph⟩
                  · go_wp2
                    exact ⟨_, rfl, rfl, trivial, hph⟩
                · have hkk : kk = xins.length := by omega
                  rw [hkk, List.drop_length, runAt_end] at hrun
                  have HRUN := Lib.hid hrun
                  clear hrun hkk HLs
                  go_wp2
                  go_roundw
                  case rel => exact ⟨kk + 1, s1, _, f, n1 + 1, by omega, by go_num, rfl, by omega, by omega, by omega, HSL1.out, by omega, HM1.out, .inr ⟨by omega, by omega, HRUN.out⟩⟩
                  case measure => simp [intOf]; omega
            · obtain ⟨hf2, hrun⟩ : f1 < f' ∧ runEnd ⟨P, k, sl, blocks, .slice (some ⟨B, off, none⟩) blocks.length bc⟩ ans f1 s1 ⟨xins, .slice ia xins.length ic, ⟨eop, ea, eb, eto, .slice ta eto.length tc, eimm⟩⟩ = F := by
                rcases HCASE.out with ⟨h, _⟩ | ⟨_, h⟩
                · exact absurd h hk1
                · exact h
              clear HCASE
              unfold runEnd at hrun
              dsimp only at hrun
              have y1 : wr.cell? ⟨wo.heap.size, 1, none⟩ = some (.int .i64 eop) := HBX.out.cell 1
              have y2 : wr.cell? ⟨wo.heap.size, 2, none⟩ = some (.int .i64 ea) := HBX.out.cell 2
              obtain ⟨hfit, hneed, hbto⟩ := endE_0 HEND.out
              have hop := fits_op hfit
              dsimp only at hop
              have HFIT := Lib.hid hfit
              have HBTO := Lib.hid hbto
              have HNEED := Lib.hid hneed
              have HRUN := Lib.hid hrun
              clear hfit hbto hneed hrun HLs
              by_cases o8 : eop = 8
              · subst o8
                have hr1 := HRUN.out
                rw [if_pos rfl] at hr1
                have HF1 := Lib.hid hr1
                clear hr1 hop
                go_wp2_with fail
                refine wp_region_since_tail 13 rfl (by decide +kernel) (by decide +kernel) (by decide +kernel) (by decide)
                  [Is (.pointer (some ⟨wo.heap.size, 1, none⟩)), Is (.pointer (some ⟨wo.heap.size, 5, none⟩)), Is (.int .i32 eimm), Is (.pointer (some ⟨sb, 0, none⟩)), Is (.pointer (some ⟨sb, 0, none⟩)), Is (.pointer (some ⟨sb, 2, none⟩)), Is (.slice mva M0.length mvc), Is (.pointer (some ⟨sb, 0, none⟩)), Is (.pointer (some ⟨sb, 0, none⟩)), Is (.pointer (some ⟨sb, 3, none⟩)), Is (.slice ca evs.length cc), Is (.int .i64 n1), Is (.agg #[.int .i64 2, .int .i32 eimm, .slice mva M0.length mvc, .slice ca evs.length cc, .int .i64 n1])]
                  (by repeat (first | exact trivial | refine ⟨Is.stable _, ?_⟩)) ⟨?_, ?_, ?_, ?_, ?_, ?_, ?_, ?_, ?_, ?_, ?_, ?_, ?_, trivial⟩ ?_
                rotate_right
                · intro vs w9 hs hk
                  simp only [List.take, List.drop, putAll, Act.put, KnowsAll, nthF, Is, List.setIfInBounds_toArray, List.set_cons_zero, List.set_cons_succ, Nat.reduceAdd] at hk ⊢
                  try simp only [hk]
                  have h8 := HU.out.keep hs
                  have hb4 := HB3.out.keep (HOLD.out _ _ _ h8)
                  have HX8 := Lib.hid h8
                  have HBX4 := Lib.hid hb4
                  clear h8 hb4 hs hk
                  go_wp2_with (refine wpList_store_row rfl 42 _ _ rfl (w.heap.size + 2) #[.int .i64 2, .int .i32 eimm, .slice mva M0.length mvc, .slice ca evs.length cc, .int .i64 n1] rfl rfl 42 _ HBX4.out (by kernel_rfl) rfl (by rw [← Array.all_toList]; rfl) ?_)
                  have hb5 := setRow_block HBX4.out #[.int .i64 2, .int .i32 eimm, .slice mva M0.length mvc, .slice ca evs.length cc, .int .i64 n1]
                  have t5 : Turn (fun q => q = w.heap.size + 2) w9 (w9.setRow (w.heap.size + 2) #[.int .i64 2, .int .i32 eimm, .slice mva M0.length mvc, .slice ca evs.length cc, .int .i64 n1]) := setRow_turn (S := fun q => q = w.heap.size + 2) rfl _
                  generalize w9.setRow (w.heap.size + 2) #[.int .i64 2, .int .i32 eimm, .slice mva M0.length mvc, .slice ca evs.length cc, .int .i64 n1] = w5 at *
                  have hb5 : HeapIs w5 (w.heap.size + 2) #[.int .i64 2, .int .i32 eimm, .slice mva M0.length mvc, .slice ca evs.length cc, .int .i64 n1] 42 := hb5
                  have e0 := hb5.cell 0
                  have e1 := hb5.cell 1
                  have e2 := hb5.cell 2
                  have e3 := hb5.cell 3
                  have e4 := hb5.cell 4
                  have hl5 := hb5.lt
                  have ho := HX8.out.tells (w := w) (e := 2) (v := eimm) (n := n1) (o := outOf L F) (by rw [E0.out]; exact HS4.out) (by rw [E0.out]; exact HB3.out.lt) t5 (by rw [← HF1.out]; unfold outOf; dsimp only; congr 1; omega)
                  rw [E3.out] at ho
                  have HO := Lib.hid ho
                  clear hb5 t5 ho
                  go_wp2
                  exact bodyPost_ret (v := .agg #[.int .i64 2, .int .i32 eimm, .slice mva M0.length mvc, .slice ca evs.length cc, .int .i64 n1]) (by simp [results, Try.results19, go_sem, e0, e1, e2, e3, e4]) rfl ⟨_, rfl, by rw [HPR.out]; exact HO.out.1, HO.out.2⟩
                all_goals
                  intro vs w9 hs hk _
                  simp only [List.take, putAll, Act.put, Knows, nthF, Is, List.setIfInBounds_toArray, List.set_cons_zero, List.set_cons_succ, Nat.reduceAdd] at hk ⊢
                  try simp only [hk]
                · go_wp2
                  exact ⟨_, rfl, rfl, Since.refl _⟩
                · go_wp2
                  exact ⟨_, rfl, rfl, Since.refl _⟩
                · have hc := (HBX.out.keep hs).cell 5
                  have hl := (HBX.out.keep hs).lt
                  go_wp2
                  exact ⟨_, rfl, rfl, Since.refl _⟩
                · go_wp2
                  exact ⟨_, rfl, rfl, Since.refl _⟩
                · go_wp2
                  exact ⟨_, rfl, rfl, Since.refl _⟩
                · go_wp2
                  exact ⟨_, rfl, rfl, Since.refl _⟩
                · have hc := (HST.out _ _ _ (HU.keep hs)).cell 2
                  have hl := (HST.out _ _ _ (HU.keep hs)).lt
                  go_wp2
                  exact ⟨_, rfl, rfl, Since.refl _⟩
                · go_wp2
                  exact ⟨_, rfl, rfl, Since.refl _⟩
                · go_wp2
                  exact ⟨_, rfl, rfl, Since.refl _⟩
                · go_wp2
                  exact ⟨_, rfl, rfl, Since.refl _⟩
                · have hc := (HST.out _ _ _ (HU.keep hs)).cell 3
                  have hl := (HST.out _ _ _ (HU.keep hs)).lt
                  go_wp2
                  exact ⟨_, rfl, rfl, Since.refl _⟩
                · go_wp2
                  exact ⟨_, rfl, rfl, Since.refl _⟩
                · go_wp2
                  exact ⟨_, rfl, rfl, Since.refl _⟩
              by_cases o7 : eop = 7
              · subst o7
                have hea := ret_a HNEED.out rfl
                dsimp only at hea
                have hr1 := HRUN.out
                rw [if_neg (by decide), if_pos rfl] at hr1
                clear hop
                by_cases h0 : 0 ≤ ea
                · obtain rfl : ea = 0 := by omega
                  rw [if_pos (by decide)] at hr1
                  obtain ⟨vv, hvv⟩ : ∃ v, v = s1.regs.getD 0 0 := ⟨_, rfl⟩
                  rw [show s1.regs.getD (0 : Int).toNat 0 = vv from hvv.symm] at hr1
                  have HF1 := Lib.hid hr1
                  have HVV := Lib.hid hvv
                  clear hr1 hvv h0 hea
                  go_wp2_with fail
                  refine wp_region_list_facts rfl (by decide +kernel) (by decide +kernel)
                    [Is (.pointer (some ⟨sb, 0, none⟩)), Is (.pointer (some ⟨sb, 0, none⟩)), Is (.pointer (some ⟨sb, 0, none⟩)), Is (.slice (some ⟨rb, 0, none⟩) 16 16), Is (.pointer (some ⟨wo.heap.size, 1, none⟩)), Is (.pointer (some ⟨wo.heap.size, 2, none⟩)), Is (.int .i64 0), Is (.pointer (some ⟨rb, 0, none⟩)), Is (.int .i32 vv), Is (.int .i32 vv)]
                    (by repeat (first | exact trivial | refine ⟨Is.stable _, ?_⟩ | refine ⟨IsNums.stable _ _, ?_⟩ | refine ⟨IsRows.stable _ _, ?_⟩)) ⟨?_, ?_, ?_, ?_, ?_, ?_, ?_, ?_, ?_, ?_, trivial⟩ ?_
                  all_goals
                    intro vs w8 hs hk
                    simp only [putAll, Act.put, Knows, KnowsAll, nthF, Is, List.setIfInBounds_toArray, List.set_cons_zero, List.set_cons_succ, Nat.reduceAdd, List.length_cons, List.length_nil] at hk ⊢
                    try simp only [hk]
                  · go_wp2
                    exact ⟨_, rfl, rfl, Since.refl _⟩
                  · go_wp2
                    exact ⟨_, rfl, rfl, Since.refl _⟩
                  · go_wp2
                    exact ⟨_, rfl, rfl, Since.refl _⟩
                  · have hc := (HST.out _ _ _ (HU.keep hs)).cell 0
                    have hl := (HST.out _ _ _ (HU.keep hs)).lt
                    go_wp2
                    exact ⟨_, rfl, rfl, Since.refl _⟩
                  · go_wp2
                    exact ⟨_, rfl, rfl, Since.refl _⟩
                  · go_wp2
                    exact ⟨_, rfl, rfl, Since.refl _⟩
                  · have hc := (HBX.out.keep hs).cell 2
                    have hl := (HBX.out.keep hs).lt
                    go_wp2
                    exact ⟨_, rfl, rfl, Since.refl _⟩
                  · go_wp2
                    exact ⟨_, rfl, rfl, Since.refl _⟩
                  · have hc : w8.cell? ⟨rb, 0, none⟩ = some (.int .i32 vv) := ((HREG.out _ _ _ (HU.out.keep hs)).cell (i := 0) (by rw [HU.out.len]; decide)).trans (by rw [HVV.out])
                    have hl := (HREG.out _ _ _ (HU.out.keep hs)).lt
                    go_wp2
                    exact ⟨_, rfl, rfl, Since.refl _⟩
                  · go_wp2
                    exact ⟨_, rfl, rfl, Since.refl _⟩
                  · have h7 := HU.out.keep hs
                    have HU7 := Lib.hid h7
                    clear h7 hs hk
                    go_wp2_with fail
                    refine wp_region_since_tail 11 rfl (by decide +kernel) (by decide +kernel) (by decide +kernel) (by decide)
                      [Is (.int .i32 vv), Is (.pointer (some ⟨sb, 0, none⟩)), Is (.pointer (some ⟨sb, 0, none⟩)), Is (.pointer (some ⟨sb, 2, none⟩)), Is (.slice mva M0.length mvc), Is (.pointer (some ⟨sb, 0, none⟩)), Is (.pointer (some ⟨sb, 0, none⟩)), Is (.pointer (some ⟨sb, 3, none⟩)), Is (.slice ca evs.length cc), Is (.int .i64 n1), Is (.agg #[.int .i64 1, .int .i32 vv, .slice mva M0.length mvc, .slice ca evs.length cc, .int .i64 n1])]
                      (by repeat (first | exact trivial | refine ⟨Is.stable _, ?_⟩)) ⟨?_, ?_, ?_, ?_, ?_, ?_, ?_, ?_, ?_, ?_, ?_, trivial⟩ ?_
                    rotate_right
                    · intro vs w9 hs hk
                      simp only [List.take, List.drop, putAll, Act.put, KnowsAll, nthF, Is, List.setIfInBounds_toArray, List.set_cons_zero, List.set_cons_succ, Nat.reduceAdd] at hk ⊢
                      try simp only [hk]
                      have h8 := HU7.out.keep hs
                      have hb4 := HB3.out.keep (HOLD.out _ _ _ h8)
                      have HX8 := Lib.hid h8
                      have HBX4 := Lib.hid hb4
                      clear h8 hb4 hs hk
                      go_wp2_with (refine wpList_store_row rfl 42 _ _ rfl (w.heap.size + 2) #[.int .i64 1, .int .i32 vv, .slice mva M0.length mvc, .slice ca evs.length cc, .int .i64 n1] rfl rfl 42 _ HBX4.out (by kernel_rfl) rfl (by rw [← Array.all_toList]; rfl) ?_)
                      have hb5 := setRow_block HBX4.out #[.int .i64 1, .int .i32 vv, .slice mva M0.length mvc, .slice ca evs.length cc, .int .i64 n1]
                      have t5 : Turn (fun q => q = w.heap.size + 2) w9 (w9.setRow (w.heap.size + 2) #[.int .i64 1, .int .i32 vv, .slice mva M0.length mvc, .slice ca evs.length cc, .int .i64 n1]) := setRow_turn (S := fun q => q = w.heap.size + 2) rfl _
                      generalize w9.setRow (w.heap.size + 2) #[.int .i64 1, .int .i32 vv, .slice mva M0.length mvc, .slice ca evs.length cc, .int .i64 n1] = w5 at *
                      have hb5 : HeapIs w5 (w.heap.size + 2) #[.int .i64 1, .int .i32 vv, .slice mva M0.length mvc, .slice ca evs.length cc, .int .i64 n1] 42 := hb5
                      have e0 := hb5.cell 0
                      have e1 := hb5.cell 1
                      have e2 := hb5.cell 2
                      have e3 := hb5.cell 3
                      have e4 := hb5.cell 4
                      have hl5 := hb5.lt
                      have ho := HX8.out.tells (w := w) (e := 1) (v := vv) (n := n1) (o := outOf L F) (by rw [E0.out]; exact HS4.out) (by rw [E0.out]; exact HB3.out.lt) t5 (by rw [← HF1.out]; unfold outOf; dsimp only; congr 1; omega)
                      rw [E3.out] at ho
                      have HO := Lib.hid ho
                      clear hb5 t5 ho
                      go_wp2
                      exact bodyPost_ret (v := .agg #[.int .i64 1, .int .i32 vv, .slice mva M0.length mvc, .slice ca evs.length cc, .int .i64 n1]) (by simp [results, Try.results19, go_sem, e0, e1, e2, e3, e4]) rfl ⟨_, rfl, by rw [HPR.out]; exact HO.out.1, HO.out.2⟩
                    all_goals
                      intro vs w9 hs hk _
                      simp only [List.take, putAll, Act.put, Knows, nthF, Is, List.setIfInBounds_toArray, List.set_cons_zero, List.set_cons_succ, Nat.reduceAdd] at hk ⊢
                      try simp only [hk]
                    · go_wp2
                      exact ⟨_, rfl, rfl, Since.refl _⟩
                    · go_wp2
                      exact ⟨_, rfl, rfl, Since.refl _⟩
                    · go_wp2
                      exact ⟨_, rfl, rfl, Since.refl _⟩
                    · go_wp2
                      exact ⟨_, rfl, rfl, Since.refl _⟩
                    · have hc := (HST.out _ _ _ (HU7.keep hs)).cell 2
                      have hl := (HST.out _ _ _ (HU7.keep hs)).lt
                      go_wp2
                      exact ⟨_, rfl, rfl, Since.refl _⟩
                    · go_wp2
                      exact ⟨_, rfl, rfl, Since.refl _⟩
                    · go_wp2
                      exact ⟨_, rfl, rfl, Since.refl _⟩
                    · go_wp2
                      exact ⟨_, rfl, rfl, Since.refl _⟩
                    · have hc := (HST.out _ _ _ (HU7.keep hs)).cell 3
                      have hl := (HST.out _ _ _ (HU7.keep hs)).lt
                      go_wp2
                      exact ⟨_, rfl, rfl, Since.refl _⟩
                    · go_wp2
                      exact ⟨_, rfl, rfl, Since.refl _⟩
                    · go_wp2
                      exact ⟨_, rfl, rfl, Since.refl _⟩
                · rw [if_neg h0] at hr1
                  have HF1 := Lib.hid hr1
                  have hd : decide (0 ≤ ea) = false := decide_eq_false h0
                  clear hr1 h0 hea
                  go_wp2_with fail
                  refine wp_region_since_tail 11 rfl (by decide +kernel) (by decide +kernel) (by decide +kernel) (by decide)
                    [Is (.int .i32 0), Is (.pointer (some ⟨sb, 0, none⟩)), Is (.pointer (some ⟨sb, 0, none⟩)), Is (.pointer (some ⟨sb, 2, none⟩)), Is (.slice mva M0.length mvc), Is (.pointer (some ⟨sb, 0, none⟩)), Is (.pointer (some ⟨sb, 0, none⟩)), Is (.pointer (some ⟨sb, 3, none⟩)), Is (.slice ca evs.length cc), Is (.int .i64 n1), Is (.agg #[.int .i64 1, .int .i32 0, .slice mva M0.length mvc, .slice ca evs.length cc, .int .i64 n1])]
                    (by repeat (first | exact trivial | refine ⟨Is.stable _, ?_⟩)) ⟨?_, ?_, ?_, ?_, ?_, ?_, ?_, ?_, ?_, ?_, ?_, trivial⟩ ?_
                  rotate_right
                  · intro vs w9 hs hk
                    simp only [List.take, List.drop, putAll, Act.put, KnowsAll, nthF, Is, List.setIfInBounds_toArray, List.set_cons_zero, List.set_cons_succ, Nat.reduceAdd] at hk ⊢
                    try simp only [hk]
                    have h8 := HU.out.keep hs
                    have hb4 := HB3.out.keep (HOLD.out _ _ _ h8)
                    have HX8 := Lib.hid h8
                    have HBX4 := Lib.hid hb4
                    clear h8 hb4 hs hk
                    go_wp2_with (refine wpList_store_row rfl 42 _ _ rfl (w.heap.size + 2) #[.int .i64 1, .int .i32 0, .slice mva M0.length mvc, .slice ca evs.length cc, .int .i64 n1] rfl rfl 42 _ HBX4.out (by kernel_rfl) rfl (by rw [← Array.all_toList]; rfl) ?_)
                    have hb5 := setRow_block HBX4.out #[.int .i64 1, .int .i32 0, .slice mva M0.length mvc, .slice ca evs.length cc, .int .i64 n1]
                    have t5 : Turn (fun q => q = w.heap.size + 2) w9 (w9.setRow (w.heap.size + 2) #[.int .i64 1, .int .i32 0, .slice mva M0.length mvc, .slice ca evs.length cc, .int .i64 n1]) := setRow_turn (S := fun q => q = w.heap.size + 2) rfl _
                    generalize w9.setRow (w.heap.size + 2) #[.int .i64 1, .int .i32 0, .slice mva M0.length mvc, .slice ca evs.length cc, .int .i64 n1] = w5 at *
                    have hb5 : HeapIs w5 (w.heap.size + 2) #[.int .i64 1, .int .i32 0, .slice mva M0.length mvc, .slice ca evs.length cc, .int .i64 n1] 42 := hb5
                    have e0 := hb5.cell 0
                    have e1 := hb5.cell 1
                    have e2 := hb5.cell 2
                    have e3 := hb5.cell 3
                    have e4 := hb5.cell 4
                    have hl5 := hb5.lt
                    have ho := HX8.out.tells (w := w) (e := 1) (v := 0) (n := n1) (o := outOf L F) (by rw [E0.out]; exact HS4.out) (by rw [E0.out]; exact HB3.out.lt) t5 (by rw [← HF1.out]; unfold outOf; dsimp only; congr 1; omega)
                    rw [E3.out] at ho
                    have HO := Lib.hid ho
                    clear hb5 t5 ho
                    go_wp2
                    exact bodyPost_ret (v := .agg #[.int .i64 1, .int .i32 0, .slice mva M0.length mvc, .slice ca evs.length cc, .int .i64 n1]) (by simp [results, Try.results19, go_sem, e0, e1, e2, e3, e4]) rfl ⟨_, rfl, by rw [HPR.out]; exact HO.out.1, HO.out.2⟩
                  all_goals
                    intro vs w9 hs hk _
                    simp only [List.take, putAll, Act.put, Knows, nthF, Is, List.setIfInBounds_toArray, List.set_cons_zero, List.set_cons_succ, Nat.reduceAdd] at hk ⊢
                    try simp only [hk]
                  · go_wp2
                    exact ⟨_, rfl, rfl, Since.refl _⟩
                  · go_wp2
                    exact ⟨_, rfl, rfl, Since.refl _⟩
                  · go_wp2
                    exact ⟨_, rfl, rfl, Since.refl _⟩
                  · go_wp2
                    exact ⟨_, rfl, rfl, Since.refl _⟩
                  · have hc := (HST.out _ _ _ (HU.keep hs)).cell 2
                    have hl := (HST.out _ _ _ (HU.keep hs)).lt
                    go_wp2
                    exact ⟨_, rfl, rfl, Since.refl _⟩
                  · go_wp2
                    exact ⟨_, rfl, rfl, Since.refl _⟩
                  · go_wp2
                    exact ⟨_, rfl, rfl, Since.refl _⟩
                  · go_wp2
                    exact ⟨_, rfl, rfl, Since.refl _⟩
                  · have hc := (HST.out _ _ _ (HU.keep hs)).cell 3
                    have hl := (HST.out _ _ _ (HU.keep hs)).lt
                    go_wp2
                    exact ⟨_, rfl, rfl, Since.refl _⟩
                  · go_wp2
                    exact ⟨_, rfl, rfl, Since.refl _⟩
                  · go_wp2
                    exact ⟨_, rfl, rfl, Since.refl _⟩
              · have n7 : (eop == 7) = false := by simpa using o7
                have n8 : (eop == 8) = false := by simpa using o8
                have hr1 := HRUN.out
                rw [if_neg o8, if_neg o7] at hr1
                have hglt := goes_lt ⟨eop, ea, eb, eto, .slice ta eto.length tc, eimm⟩ s1.regs HFIT.out hop.1 (by dsimp only; omega)
                have hgoes := fun w1 (h1 : SRun c w1 s1 (.slice ca evs.length cc)) => rgoes_any ⟨eop, ea, eb, eto, .slice ta eto.length tc, eimm⟩ s1.regs rb 16 [] 21 w1 (HREG.out _ _ _ h1) (by rw [h1.len]; decide) h1.r32 (HTO.out.keep (HS4.out.trans (HOLD.out _ _ _ h1))) HFIT.out hop.1 (by dsimp only; omega)
                rw [HU.out.len] at hgoes
                generalize goes ⟨eop, ea, eb, eto, .slice ta eto.length tc, eimm⟩ s1.regs = g at *
                dsimp only at hglt
                obtain ⟨_, hc⟩ := nums_cell HTO.out
                obtain ⟨TB, toff, rfl, hTB, hcell⟩ := hc (by intro e; rw [e] at hglt; simp at hglt)
                obtain ⟨tg, htg⟩ : ∃ x, eto[g]? = some x := ⟨_, List.getElem?_eq_getElem hglt⟩
                have htb := badTo_mem HBTO.out (List.mem_of_getElem? htg)
                obtain ⟨j2, rfl⟩ := Int.eq_ofNat_of_zero_le (show 0 ≤ tg by omega)
                have hjl2 : j2 < blocks.length := by omega
                have hj2 : blocks[j2]? = some blocks[j2] := List.getElem?_eq_getElem hjl2
                generalize blocks[j2] = bn at hj2
                have hgd : eto.getD g 0 = (j2 : Int) := by rw [List.getD_eq_getElem?_getD, htg]; rfl
                rw [hgd, Int.toNat_natCast, hj2] at hr1
                dsimp only at hr1
                have hcT := fun w1 (h1 : Since w w1) => (h1.cell (p := ⟨TB, toff + g, none⟩) hTB).trans (hcell g _ htg)
                have HCT := Lib.hid hcT
                have HTB := Lib.hid hTB
                have HR4 := Lib.hid hr1
                have HJ := Lib.hid hj2
                unfold ev at hgoes
                have HGO := Lib.hid hgoes
                clear hr1 hj2 hcT hgoes hgd htb htg hcell hc hTB o7 o8 hop
                go_wp2_with fail
                refine wp_region_list_facts rfl (by decide +kernel) (by decide +kernel)
                  [Is (.pointer (some ⟨wo.heap.size, 1, none⟩)), Is (.pointer (some ⟨wo.heap.size, 4, none⟩)), Is (.slice (some ⟨TB, toff, none⟩) eto.length tc), Is (.pointer (some ⟨wo.heap.size, 1, none⟩)), Is (.agg #[.int .i64 eop, .int .i64 ea, .int .i64 eb, .slice (some ⟨TB, toff, none⟩) eto.length tc, .int .i32 eimm]), Is (.pointer (some ⟨sb, 0, none⟩)), Is (.pointer (some ⟨sb, 0, none⟩)), Is (.pointer (some ⟨sb, 0, none⟩)), Is (.slice (some ⟨rb, 0, none⟩) 16 16), Is (.int .i64 g), Is (.pointer (some ⟨TB, toff + g, none⟩)), Is (.int .i64 j2), Is (.int .i64 j2)]
                  (by repeat (first | exact trivial | refine ⟨Is.stable _, ?_⟩ | refine ⟨IsNums.stable _ _, ?_⟩ | refine ⟨IsRows.stable _ _, ?_⟩)) ⟨?_, ?_, ?_, ?_, ?_, ?_, ?_, ?_, ?_, ?_, ?_, ?_, ?_, trivial⟩ ?_
                all_goals
                  intro vs w9 hs hk
                  simp only [putAll, Act.put, Knows, KnowsAll, nthF, Is, List.setIfInBounds_toArray, List.set_cons_zero, List.set_cons_succ, Nat.reduceAdd, List.length_cons, List.length_nil] at hk ⊢
                  try simp only [hk]
                · go_wp2
                  exact ⟨_, rfl, rfl, Since.refl _⟩
                · go_wp2
                  exact ⟨_, rfl, rfl, Since.refl _⟩
                · have hc := (HBX.out.keep hs).cell 4
                  have hl := (HBX.out.keep hs).lt
                  go_wp2
                  exact ⟨_, rfl, rfl, Since.refl _⟩
                · go_wp2
                  exact ⟨_, rfl, rfl, Since.refl _⟩
                · have hl := (HBX.out.keep hs).lt
                  have k1 := (HBX.out.keep hs).cell 1
                  have k2 := (HBX.out.keep hs).cell 2
                  have k3 := (HBX.out.keep hs).cell 3
                  have k4 := (HBX.out.keep hs).cell 4
                  have k5 := (HBX.out.keep hs).cell 5
                  go_wp2
                  exact ⟨_, rfl, rfl, Since.refl _⟩
                · go_wp2
                  exact ⟨_, rfl, rfl, Since.refl _⟩
                · go_wp2
                  exact ⟨_, rfl, rfl, Since.refl _⟩
                · go_wp2
                  exact ⟨_, rfl, rfl, Since.refl _⟩
                · have hc := (HST.out _ _ _ (HU.keep hs)).cell 0
                  have hl := (HST.out _ _ _ (HU.keep hs)).lt
                  go_wp2
                  exact ⟨_, rfl, rfl, Since.refl _⟩
                · have HC := Lib.hid (HGO.out w9 (HU.out.keep hs))
                  go_wp2_with fail
                  refine HC.out.mono ?_
                  rintro e w7 ⟨rfl, hs7⟩
                  go_wp2
                  exact ⟨_, rfl, rfl, hs7⟩
                · go_wp2
                  exact ⟨_, rfl, (by show Value.pointer _ = _; simp [go_sem]), Since.refl _⟩
                · have hc := HCT.out w9 (HS4.out.trans (HOLD.out _ _ _ (HU.out.keep hs)))
                  have hl : TB < w9.heap.size := Nat.lt_of_lt_of_le HTB.out (HS4.out.trans (HOLD.out _ _ _ (HU.out.keep hs))).size
                  go_wp2
                  exact ⟨_, rfl, rfl, Since.refl _⟩
                · go_wp2
                  exact ⟨_, rfl, rfl, Since.refl _⟩
                · have h9 := HU.out.keep hs
                  have H9 := Lib.hid h9
                  clear h9 hs hk
                  go_wp2
                  go_roundw
                  case rel => exact ⟨j2, bn, s1, _, f1, n1, rfl, hn1a, hn1b, rfl, HJ.out, by omega, HSL1.out, hfew1, H9.out, HR4.out⟩
                  case measure => simp [intOf]; omega
    all_goals
      intro vs w1 hs hk _ hap
      simp only [putAll, Act.put, Knows, nthF, Is, List.setIfInBounds_toArray, List.set_cons_zero, List.set_cons_succ, Nat.reduceAdd] at hk ⊢
      try simp only [hk]
    · refine wpList_make_full _ rfl (.const (.int .i64 16)) (.const (.int .i64 16)) 34 rfl w1.heap.size 21 ti (.int .i32 0) 1 Try.underlying34 hti hz0 hz1 .i64 .i64 16 16 16 rfl rfl rfl rfl (by rw [hz2]; decide) (by decide) (Nat.le_refl _) ?_
      intro w2 hown hgrow
      obtain ⟨hs2, hz⟩ := made_zeros hown hgrow
      go_wp2
      exact ⟨_, rfl, ⟨_, rfl, hz, hs.size⟩, hs2, fun _ q hq => (Option.some.inj hq) ▸ Nat.le_refl _⟩
    · go_wp2
      exact ⟨_, rfl, rfl, Since.refl _, fun h => absurd h (by decide)⟩
    · have hc := (HB1.out.keep hs).cell 2
      have hl := (HB1.out.keep hs).lt
      go_wp2
      exact ⟨_, rfl, rfl, Since.refl _, fun h => absurd h (by decide)⟩
    · refine wpList_make_full _ rfl (.tmp 20) (.tmp 20) 34 rfl w1.heap.size 21 ti (.int .i32 0) 1 Try.underlying34 hti hz0 hz1 .i64 .i64 _ _ sl rfl rfl rfl rfl (by rw [hz2]; omega) (by unfold maxLen; omega) (Nat.le_refl _) ?_
      intro w2 hown hgrow
      obtain ⟨hs2, hz⟩ := made_zeros hown hgrow
      go_wp2
      exact ⟨_, rfl, ⟨_, rfl, hz, hs.size⟩, hs2, fun _ q hq => (Option.some.inj hq) ▸ Nat.le_refl _⟩
    · have hc0 := (HB2.out.keep hs).cell 0
      have hc1 := (HB2.out.keep hs).cell 1
      have hc2 := (HB2.out.keep hs).cell 2
      have hc3 := (HB2.out.keep hs).cell 3
      have hl := (HB2.out.keep hs).lt
      go_wp2
      exact ⟨_, rfl, rfl, Since.refl _, fun h => absurd h (by decide)⟩
    · go_wp2_with fail
      refine (HMY.out _ (HS4.out.trans hs)).mono ?_
      rintro e6 w6 ⟨v6, rfl, hv6, hq6, hs6⟩
      obtain ⟨a6, c6, hv6s, _⟩ := hv6.shape
      subst hv6s
      go_wp2
      exact ⟨_, rfl, ⟨a6, c6, rfl, hv6, fun q hq => ⟨Nat.le_trans hs.size (hq6 q hq).1, (hq6 q hq).2⟩⟩, hs6, fun _ q hq => (hq6 q hq).1⟩
    · obtain ⟨b0, hv0, hz0', hb0⟩ := hk.1
      obtain ⟨b3, hv3, hz3', hb3⟩ := hk.2.1
      have hm5 := hk.2.2.1
      have h03 := hap 0 3 (by decide +kernel) (by decide +kernel) rfl rfl (by decide) b0 (by rw [hv0]; rfl)
      have h50 := hap 5 0 (by decide +kernel) (by decide +kernel) rfl rfl (by decide)
      have h53 := hap 5 3 (by decide +kernel) (by decide +kernel) rfl rfl (by decide)
      rw [hv3] at h03 h53
      rw [hv0] at h50
      have hf : StateF w4 sl M0 b0 b3 (vs 5) w1 := ⟨hz0', hb0, hz3', hb3, hm5, fun e => h03 (by rw [e]; rfl), fun e => h50 b0 e rfl, fun e => h53 b3 e rfl⟩
      obtain ⟨a5, k5, e5, _, _⟩ := hm5
      rw [e5] at hf
      simp only [hv0, hv3, e5]
      have HF := Lib.hid hf
      clear hk hv0 hv3 h03 h50 h53 hap hf e5
      go_wp2
      exact ⟨_, rfl, ⟨_, _, _, rfl, HF.out⟩, Since.refl _, fun h => absurd h (by decide)⟩
    · obtain ⟨rb, slb, mv0, hv6, hf6⟩ := hk.1
      simp only [hv6]
      have HF := Lib.hid hf6
      have h1 := hf6.1.lt
      have h2 := hf6.2.2.1.lt
      have h3 := hf6.2.2.2.2.1
      obtain ⟨_, _, e3, _, h3⟩ := h3
      subst e3
      clear hk hv6 hf6
      go_wp2
      exact ⟨_, rfl, ⟨w1.heap.size, rb, slb, _, rfl, HF.out.keep ((Since.refl _).alloc _), HeapIs.new _ _ _, hs.size, by omega, by omega, fun e => by have := (h3 _ e).2; omega⟩, (Since.refl _).alloc _, fun h => absurd h (by decide)⟩
    · have h5 := hk.1
      clear hk
      generalize vs 7 = v5 at *
      go_wp2
      exact ⟨_, rfl, h5, Since.refl _, fun h => absurd h (by decide)⟩
end Go.Proofs.Ytkpbmbhejpmboaa
