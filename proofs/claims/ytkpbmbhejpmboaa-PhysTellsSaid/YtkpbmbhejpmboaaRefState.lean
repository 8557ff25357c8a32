/- The state of jacquardref12 as it lies in memory; State.Do for swaps, slots, and what jacquardref07.Do does. State.Do of jacquardref12 for what jacquardref07.Do does. -/
import Derived.Test.YtkpbmbhejpmboaaRefDo7
import Derived.Test.YtkpbmbhejpmboaaWho
import Derived.Test.YtkpbmbhejpmboaaRegion4
import Derived.Test.YtkpbmbhejpmboaaRegion5
namespace Go.Proofs.Ytkpbmbhejpmboaa
open Go.RowKit
set_option linter.unusedVariables false

structure SCfg where
  w0 : World
  sb : Nat
  rb : Nat
  base : Nat
  slv : Value
  memv : Value
  ansv : Value
  ans : List Int
  /-- A box of the run's that stays as it is. -/
  side : Option (Nat × Array Value) := none
structure SRun (c : SCfg) (w : World) (s : St) (cv : Value) : Prop where
  old : Since c.w0 w
  newS : c.w0.heap.size ≤ c.sb ∧ c.sb < c.base
  newR : c.w0.heap.size ≤ c.rb ∧ c.rb < c.base
  apart : c.rb ≠ c.sb
  base : c.base ≤ w.heap.size
  box : HeapIs w c.sb #[.slice (some ⟨c.rb, 0, none⟩) 16 16, c.slv, c.memv, cv] 96
  regs : WAt w c.rb s.regs [] 21
  len : s.regs.length = 16
  r32 : ∀ x ∈ s.regs, In32 x
  s32 : ∀ x ∈ s.slots, In32 x
  m32 : ∀ x ∈ s.mem, In32 x
  slots : MemIs w c.slv s.slots
  sown : ∀ q, c.slv.ownBlock = some q → c.w0.heap.size ≤ q ∧ q < c.base ∧ q ≠ c.sb ∧ q ≠ c.rb
  mem : MemIs w c.memv s.mem
  mown : ∀ q, c.memv.ownBlock = some q → c.w0.heap.size ≤ q ∧ q < c.base ∧ q ≠ c.sb ∧ q ≠ c.rb ∧ c.slv.ownBlock ≠ some q
  ans : Nums .i32 c.w0 c.ansv c.ans
  a32 : ∀ x ∈ c.ans, In32 x
  calls : EvRow c.base w cv s.calls
  few : s.calls.length ≤ 1000000
  aside : ∀ q cs, c.side = some (q, cs) → HeapIs w q cs 56 ∧ c.slv.ownBlock ≠ some q ∧ c.memv.ownBlock ≠ some q
theorem HeapIs.ne {w : World} {a b : Nat} {cs ds : Array Value} {T U : TypeId} (h1 : HeapIs w a cs T) (h2 : HeapIs w b ds U) (hT : T ≠ U) : a ≠ b := by
  intro e
  subst e
  have h3 : w.heap[a]? = _ := h1
  have h4 : w.heap[a]? = _ := h2
  rw [h3] at h4
  simp only [Option.some.injEq, Obj.cells.injEq] at h4
  exact hT h4.2.1
theorem HeapIs.neW {w : World} {a b : Nat} {cs : Array Value} {l : List Int} {r : List Value} {T U : TypeId} (h1 : HeapIs w a cs T) (h2 : WAt w b l r U) (hT : T ≠ U) : a ≠ b := HeapIs.ne h1 h2 hT
theorem SRun.turn {S : Nat → Prop} {c : SCfg} {w w' : World} {s : St} {cv : Value} (h : SRun c w s cv) (t : Turn S w w') (hS : ∀ q, S q → w.heap.size ≤ q) : SRun c w' s cv := by
  have hb := h.base
  refine ⟨t.toSince h.old fun k hk hs => ?_, h.newS, h.newR, h.apart, Nat.le_trans h.base t.size, h.box.turn t fun e => ?_, h.regs.turn t fun e => ?_, h.len, h.r32, h.s32, h.m32, h.slots.turn t fun q hq e => ?_, h.sown, h.mem.turn t fun q hq e => ?_, h.mown, h.ans, h.a32, ?_, h.few, fun q cs e => ⟨(h.aside q cs e).1.turn t fun e2 => (by have := hS _ e2; have := (h.aside q cs e).1.lt; omega), (h.aside q cs e).2⟩⟩
  · have := hS k hs; have := h.old.size; omega
  · have := hS _ e; have := h.newS; omega
  · have := hS _ e; have := h.newR; omega
  · have := hS _ e; have := h.sown q hq; omega
  · have := hS _ e; have := h.mown q hq; omega
  · obtain ⟨evs, h1, h2, h3⟩ := h.calls
    exact ⟨evs, own_turn h1 t fun q hq e => (by have := hS _ e; have := (World.ownsRow.lt h1 q hq).2; omega), h2, fun x hx => own_turn (h3 x hx) t fun q hq e => (by have := hS _ e; have := (World.ownsRow.lt (h3 x hx) q hq).2; omega)⟩
theorem SRun.keep {c : SCfg} {w w' : World} {s : St} {cv : Value} (h : SRun c w s cv) (t : Since w w') : SRun c w' s cv := h.turn (S := fun _ => False) (Turn.since t) fun _ h => h.elim
/-- A register set. -/
theorem SRun.setReg {c : SCfg} {w : World} {s : St} {cv : Value} (h : SRun c w s cv) {i : Nat} (hi : i < 16) {x : Int} (hx : In32 x) : SRun c (w.setCell ⟨c.rb, i, none⟩ (.int .i32 x)) { s with regs := s.regs.set i x } cv := by
  have t : Turn (fun k => k = c.rb) w (w.setCell ⟨c.rb, i, none⟩ (.int .i32 x)) := (Turn.refl (fun k => k = c.rb) w).setCell (p := ⟨c.rb, i, none⟩) rfl _
  refine ⟨t.toSince h.old fun k hk e => (by have := h.newR; omega), h.newS, h.newR, h.apart, Nat.le_trans h.base t.size, h.box.turn t fun e => h.apart e.symm, h.regs.set (by rw [h.len]; exact hi) x, by rw [List.length_set]; exact h.len, fun y hy => ?_, h.s32, h.m32, h.slots.turn t fun q hq e => (h.sown q hq).2.2.2 e, h.sown, h.mem.turn t fun q hq e => (h.mown q hq).2.2.2.1 e, h.mown, h.ans, h.a32, h.calls.turn t fun q hq e => (by have := h.newR; omega), h.few, fun q cs e => ⟨(h.aside q cs e).1.turn t fun e2 => HeapIs.neW (h.aside q cs e).1 h.regs (by decide) e2, (h.aside q cs e).2⟩⟩
  rcases List.mem_or_eq_of_mem_set hy with hy | rfl
  · exact h.r32 y hy
  · exact hx
/-- A slot set. -/
theorem SRun.setSlot {c : SCfg} {w : World} {s : St} {cv : Value} (h : SRun c w s cv) {b cap n : Nat} (hv : c.slv = .slice (some ⟨b, 0, none⟩) n cap) {i : Nat} (hi : i < s.slots.length) {x : Int} (hx : In32 x) : SRun c (w.setCell ⟨b, i, none⟩ (.int .i32 x)) { s with slots := s.slots.set i x } cv := by
  have t : Turn (fun k => k = b) w (w.setCell ⟨b, i, none⟩ (.int .i32 x)) := (Turn.refl (fun k => k = b) w).setCell (p := ⟨b, i, none⟩) rfl _
  have hb := h.sown b (by rw [hv]; rfl)
  have hsl := h.slots
  rw [hv] at hsl
  obtain ⟨b', rest, T, e, hw⟩ := hsl.at hi
  obtain rfl : b = b' := by simpa using e
  obtain ⟨_, _, hsh, hl⟩ := hsl.shape
  obtain rfl : n = s.slots.length := by injection hsh
  refine ⟨t.toSince h.old fun k hk e => (by omega), h.newS, h.newR, h.apart, Nat.le_trans h.base t.size, h.box.turn t fun e => hb.2.2.1 e.symm, h.regs.turn t fun e => hb.2.2.2 e.symm, h.len, h.r32, fun y hy => ?_, h.m32, ?_, h.sown, h.mem.turn t fun q hq e => (by subst e; exact (h.mown q hq).2.2.2.2 (by rw [hv]; rfl)), h.mown, h.ans, h.a32, h.calls.turn t fun q hq e => (by omega), h.few, fun q cs e => ⟨(h.aside q cs e).1.turn t fun e2 => (h.aside q cs e).2.1 (by rw [hv, e2]; rfl), (h.aside q cs e).2⟩⟩
  · rcases List.mem_or_eq_of_mem_set hy with hy | rfl
    · exact h.s32 y hy
    · exact hx
  · rw [hv]
    exact MemIs.set (cap := cap) hw hl hi x
def SDoQ (c : SCfg) (r : Option Int × St) (e : Ending) (w' : World) : Prop := ∃ cv, e = .returned (.tuple #[.int .i32 (r.1.getD 0), .bool r.1.isNone]) ∧ SRun c w' r.2 cv
/-- The input as a value, its parts' shapes known. -/
def ivS (c : SCfg) (i1 : Option Addr) (i2 i3 : Nat) (i4 : Option Addr) (i5 i6 : Nat) (stp : Int) : Value := .agg #[.slice i1 i2 i3, .slice i4 i5 i6, c.ansv, .int .i64 stp]

set_option maxHeartbeats 4000000 in
set_option maxRecDepth 100000 in
theorem sdo_swap (c : SCfg) (s : St) (cv : Value) (xd xe xa xb xc ximm : Int) (xargs : List Int) (av : Value) (w : World) (h : SRun c w s cv) (hi : Ints c.w0 av xargs) (i1 : Option Addr) (i2 i3 : Nat) (i4 : Option Addr) (i5 i6 : Nat) (stp : Int) (ha : 0 ≤ xa ∧ xa < 16) (hb : 0 ≤ xb ∧ xb < 16) :
    Calls Try.prog 51 #[.pointer (some ⟨c.sb, 0, none⟩), mv ⟨2, xd, xe, xa, xb, xc, ximm, xargs⟩ av, ivS c i1 i2 i3 i4 i5 i6 stp] w (SDoQ c (none, { s with regs := (s.regs.set xa.toNat (s.regs.getD xb.toNat 0)).set xb.toNat (s.regs.getD xa.toNat 0) })) := by
  obtain ⟨w0, sb, rb, base, slv, memv, ansv, ans, side⟩ := c
  obtain ⟨aa, ac, rfl⟩ := nums_lenI hi
  generalize xargs.length = ac1 at *
  obtain ⟨n1, n2, n3, hans⟩ : ∃ a n c, ansv = .slice a n c := by
    obtain ⟨a, c, e⟩ := nums_lenI h.ans
    exact ⟨a, _, c, e⟩
  subst hans
  have hbx := h.box
  have hcall := h.calls
  have hsz : rb < w.heap.size := h.regs.lt
  have hszb : sb < w.heap.size := hbx.lt
  have hap := h.apart
  dsimp only at hsz hszb hap
  obtain ⟨w2, hw2⟩ : ∃ x, x = (w.alloc (.cells #[.int .i64 2, .int .i64 xd, .int .i64 xe, .int .i64 xa, .int .i64 xb, .int .i64 xc, .int .i32 ximm, .slice aa ac1 ac] 46)).alloc (.cells #[.slice i1 i2 i3, .slice i4 i5 i6, .slice n1 n2 n3, .int .i64 stp] 36) := ⟨_, rfl⟩
  have hs2 : Since w w2 := by rw [hw2]; exact ((Since.refl _).alloc _).alloc _
  have hm2 : HeapIs w2 w.heap.size #[.int .i64 2, .int .i64 xd, .int .i64 xe, .int .i64 xa, .int .i64 xb, .int .i64 xc, .int .i32 ximm, .slice aa ac1 ac] 46 := by rw [hw2]; exact (HeapIs.new _ _ _).keep ((Since.refl _).alloc _)
  have hop2 : w2.cell? ⟨w.heap.size, 0, none⟩ = some (.int .i64 2) := hm2.cell 0
  have hlm2 := hm2.lt
  have h2 := h.keep hs2
  have H2 := Lib.hid h2
  have HMB := Lib.hid hm2
  have HBOX := Lib.hid (h2.box)
  have HREG := Lib.hid (h2.regs)
  have HLEN := Lib.hid (h2.len)
  have HW2 := Lib.hid hw2
  clear h h2 hs2 hm2 hbx hcall hw2 hi
  obtain ⟨a, rfl⟩ : ∃ a : Nat, xa = a := Int.eq_ofNat_of_zero_le ha.1
  obtain ⟨bb, rfl⟩ : ∃ a : Nat, xb = a := Int.eq_ofNat_of_zero_le hb.1
  have ha' : a < 16 := by omega
  have hb' : bb < 16 := by omega
  obtain ⟨x, hvx⟩ : ∃ x, s.regs.getD a 0 = x := ⟨_, rfl⟩
  obtain ⟨y, hvy⟩ : ∃ x, s.regs.getD bb 0 = x := ⟨_, rfl⟩
  have hx32 : In32 x := by rw [← hvx]; exact in32_getD H2.out.r32 _
  have hy32 : In32 y := by rw [← hvy]; exact in32_getD H2.out.r32 _
  have HVx := Lib.hid hvx
  have HVy := Lib.hid hvy
  have HX32 := Lib.hid hx32
  have HY32 := Lib.hid hy32
  clear hvx hvy hx32 hy32 ha hb
  unfold mv ivS
  go_enter Try.func51, Try.ntmps51
  go_wp2_with fail
  rw [← HW2.out]
  refine wp_region_list_facts rfl (by decide +kernel) (by decide +kernel)
    [Is (.pointer (some ⟨sb, 0, none⟩)), Is (.pointer (some ⟨sb, 0, none⟩)), Is (.pointer (some ⟨sb, 0, none⟩)), Is (.slice (some ⟨rb, 0, none⟩) 16 16), Is (.pointer (some ⟨w.heap.size, 3, none⟩)), Is (.int .i64 a), Is (.pointer (some ⟨rb, a, none⟩)), Is (.int .i32 x), Is (.int .i32 x)]
    (by repeat (first | exact trivial | refine ⟨Is.stable _, ?_⟩)) ⟨?_, ?_, ?_, ?_, ?_, ?_, ?_, ?_, ?_, trivial⟩ ?_
  all_goals
    intro vs w3 hs hk
    simp only [putAll, Act.put, Knows, KnowsAll, nthF, Is, List.setIfInBounds_toArray, List.set_cons_zero, List.set_cons_succ, Nat.reduceAdd, List.length_cons, List.length_nil] at hk ⊢
    try simp only [hk]
  · go_wp2
    exact ⟨_, rfl, rfl, Since.refl _⟩
  · go_wp2
    exact ⟨_, rfl, rfl, Since.refl _⟩
  · go_wp2
    exact ⟨_, rfl, rfl, Since.refl _⟩
  · have hc : w3.cell? ⟨sb, 0, none⟩ = some (.slice (some ⟨rb, 0, none⟩) 16 16) := (HBOX.out.keep hs).cell 0
    have hl := (HBOX.out.keep hs).lt
    go_wp2
    exact ⟨_, rfl, rfl, Since.refl _⟩
  · go_wp2
    exact ⟨_, rfl, rfl, Since.refl _⟩
  · have hc : w3.cell? ⟨w.heap.size, 3, none⟩ = some (.int .i64 a) := (HMB.out.keep hs).cell 3
    have hl := (HMB.out.keep hs).lt
    go_wp2
    exact ⟨_, rfl, rfl, Since.refl _⟩
  · go_wp2
    exact ⟨_, rfl, (by show Value.pointer _ = _; simp [go_sem]), Since.refl _⟩
  · have hc : w3.cell? ⟨rb, a, none⟩ = some (.int .i32 x) := ((HREG.out.keep hs).cell (i := a) (by rw [HLEN.out]; omega)).trans (by rw [HVx.out])
    have hl := (HREG.out.keep hs).lt
    go_wp2
    exact ⟨_, rfl, rfl, Since.refl _⟩
  · go_wp2
    exact ⟨_, rfl, rfl, Since.refl _⟩
  · have h3 := H2.out.keep hs
    have H3 := Lib.hid h3
    have HBOX3 := Lib.hid h3.box
    have HREG3 := Lib.hid h3.regs
    have HMB3 := Lib.hid (HMB.out.keep hs)
    clear h3 hs hk
    go_wp2_with fail
    refine wp_region_since_tail 14 rfl (by decide +kernel) (by decide +kernel) (by decide +kernel) (by decide)
      [Is (.pointer (some ⟨sb, 0, none⟩)), Is (.pointer (some ⟨sb, 0, none⟩)), Is (.pointer (some ⟨sb, 0, none⟩)), Is (.slice (some ⟨rb, 0, none⟩) 16 16), Is (.pointer (some ⟨w.heap.size, 3, none⟩)), Is (.int .i64 a), Is (.pointer (some ⟨sb, 0, none⟩)), Is (.pointer (some ⟨sb, 0, none⟩)), Is (.pointer (some ⟨sb, 0, none⟩)), Is (.slice (some ⟨rb, 0, none⟩) 16 16), Is (.pointer (some ⟨w.heap.size, 4, none⟩)), Is (.int .i64 bb), Is (.pointer (some ⟨rb, bb, none⟩)), Is (.int .i32 y)]
      (by repeat (first | exact trivial | refine ⟨Is.stable _, ?_⟩)) ⟨?_, ?_, ?_, ?_, ?_, ?_, ?_, ?_, ?_, ?_, ?_, ?_, ?_, ?_, trivial⟩ ?_
    rotate_right
    · intro vs w4 hs hk
      simp only [List.take, List.drop, putAll, Act.put, KnowsAll, nthF, Is, List.setIfInBounds_toArray, List.set_cons_zero, List.set_cons_succ, Nat.reduceAdd] at hk ⊢
      try simp only [hk]
      have h4 := H3.out.keep hs
      have hlr := h4.regs.lt
      have hcr : w4.cell? ⟨rb, a, none⟩ = some (.int .i32 (s.regs.getD a 0)) := h4.regs.cell (by rw [h4.len]; exact ha')
      have hfz := h4.regs.frozen
      have h5 := h4.setReg ha' HY32.out
      have t5 : Turn (fun k => k = rb) w4 (w4.setCell ⟨rb, a, none⟩ (.int .i32 y)) := (Turn.refl (fun k => k = rb) w4).setCell (p := ⟨rb, a, none⟩) rfl _
      have hm5 := (HMB3.out.keep hs).turn t5 (by omega)
      obtain ⟨w5, hw5⟩ : ∃ x, x = w4.setCell ⟨rb, a, none⟩ (.int .i32 y) := ⟨_, rfl⟩
      rw [← hw5] at h5 hm5
      have H5 := Lib.hid h5
      have HMB5 := Lib.hid hm5
      have HBOX5 := Lib.hid h5.box
      have HW5 := Lib.hid hw5
      clear h4 h5 t5 hm5 hw5 hs hk
      go_wp2_with fail
      rw [← HW5.out]
      refine wp_region_since_tail 7 rfl (by decide +kernel) (by decide +kernel) (by decide +kernel) (by decide)
        [Is (.pointer (some ⟨sb, 0, none⟩)), Is (.pointer (some ⟨sb, 0, none⟩)), Is (.pointer (some ⟨sb, 0, none⟩)), Is (.slice (some ⟨rb, 0, none⟩) 16 16), Is (.pointer (some ⟨w.heap.size, 4, none⟩)), Is (.int .i64 bb), Is (.int .i32 x)]
        (by repeat (first | exact trivial | refine ⟨Is.stable _, ?_⟩)) ⟨?_, ?_, ?_, ?_, ?_, ?_, ?_, trivial⟩ ?_
      rotate_right
      · intro vs w6 hs hk
        simp only [List.take, List.drop, putAll, Act.put, KnowsAll, nthF, Is, List.setIfInBounds_toArray, List.set_cons_zero, List.set_cons_succ, Nat.reduceAdd] at hk ⊢
        try simp only [hk]
        have h6 := H5.out.keep hs
        have hlr := h6.regs.lt
        have hcr : w6.cell? ⟨rb, bb, none⟩ = some (.int .i32 ((s.regs.set a y).getD bb 0)) := h6.regs.cell (by rw [h6.len]; exact hb')
        have hfz := h6.regs.frozen
        have H6 := Lib.hid h6
        clear h6 hs hk
        go_wp2
        go_ret2
        refine ⟨cv, rfl, ?_⟩
        have h7 := H6.out.setReg hb' HX32.out
        rw [← HVx.out] at h7 ⊢
        rw [← HVy.out] at h7
        exact h7
      all_goals
        intro vs w6 hs hk _
        simp only [List.take, putAll, Act.put, Knows, nthF, Is, List.setIfInBounds_toArray, List.set_cons_zero, List.set_cons_succ, Nat.reduceAdd] at hk ⊢
        try simp only [hk]
      · go_wp2
        exact ⟨_, rfl, rfl, Since.refl _⟩
      · go_wp2
        exact ⟨_, rfl, rfl, Since.refl _⟩
      · go_wp2
        exact ⟨_, rfl, rfl, Since.refl _⟩
      · have hc : w6.cell? ⟨sb, 0, none⟩ = some (.slice (some ⟨rb, 0, none⟩) 16 16) := (HBOX5.out.keep hs).cell 0
        have hl := (HBOX5.out.keep hs).lt
        go_wp2
        exact ⟨_, rfl, rfl, Since.refl _⟩
      · go_wp2
        exact ⟨_, rfl, rfl, Since.refl _⟩
      · have hc : w6.cell? ⟨w.heap.size, 4, none⟩ = some (.int .i64 bb) := (HMB5.out.keep hs).cell 4
        have hl := (HMB5.out.keep hs).lt
        go_wp2
        exact ⟨_, rfl, rfl, Since.refl _⟩
      · go_wp2
        exact ⟨_, rfl, rfl, Since.refl _⟩
    all_goals
      intro vs w4 hs hk _
      simp only [List.take, putAll, Act.put, Knows, nthF, Is, List.setIfInBounds_toArray, List.set_cons_zero, List.set_cons_succ, Nat.reduceAdd] at hk ⊢
      try simp only [hk]
    · go_wp2
      exact ⟨_, rfl, rfl, Since.refl _⟩
    · go_wp2
      exact ⟨_, rfl, rfl, Since.refl _⟩
    · go_wp2
      exact ⟨_, rfl, rfl, Since.refl _⟩
    · have hc : w4.cell? ⟨sb, 0, none⟩ = some (.slice (some ⟨rb, 0, none⟩) 16 16) := (HBOX3.out.keep hs).cell 0
      have hl := (HBOX3.out.keep hs).lt
      go_wp2
      exact ⟨_, rfl, rfl, Since.refl _⟩
    · go_wp2
      exact ⟨_, rfl, rfl, Since.refl _⟩
    · have hc : w4.cell? ⟨w.heap.size, 3, none⟩ = some (.int .i64 a) := (HMB3.out.keep hs).cell 3
      have hl := (HMB3.out.keep hs).lt
      go_wp2
      exact ⟨_, rfl, rfl, Since.refl _⟩
    · go_wp2
      exact ⟨_, rfl, rfl, Since.refl _⟩
    · go_wp2
      exact ⟨_, rfl, rfl, Since.refl _⟩
    · go_wp2
      exact ⟨_, rfl, rfl, Since.refl _⟩
    · have hc : w4.cell? ⟨sb, 0, none⟩ = some (.slice (some ⟨rb, 0, none⟩) 16 16) := (HBOX3.out.keep hs).cell 0
      have hl := (HBOX3.out.keep hs).lt
      go_wp2
      exact ⟨_, rfl, rfl, Since.refl _⟩
    · go_wp2
      exact ⟨_, rfl, rfl, Since.refl _⟩
    · have hc : w4.cell? ⟨w.heap.size, 4, none⟩ = some (.int .i64 bb) := (HMB3.out.keep hs).cell 4
      have hl := (HMB3.out.keep hs).lt
      go_wp2
      exact ⟨_, rfl, rfl, Since.refl _⟩
    · go_wp2
      exact ⟨_, rfl, (by show Value.pointer _ = _; simp [go_sem]), Since.refl _⟩
    · have hc : w4.cell? ⟨rb, bb, none⟩ = some (.int .i32 y) := ((HREG3.out.keep hs).cell (i := bb) (by rw [HLEN.out]; omega)).trans (by rw [HVy.out])
      have hl := (HREG3.out.keep hs).lt
      go_wp2
      exact ⟨_, rfl, rfl, Since.refl _⟩

set_option maxHeartbeats 4000000 in
set_option maxRecDepth 100000 in
theorem sdo_30 (c : SCfg) (s : St) (cv : Value) (xd xe xa xb xc ximm : Int) (xargs : List Int) (av : Value) (w : World) (h : SRun c w s cv) (hi : Ints c.w0 av xargs) (i1 : Option Addr) (i2 i3 : Nat) (i4 : Option Addr) (i5 i6 : Nat) (stp : Int) (ha : 0 ≤ xd ∧ xd < 16) (hb : 0 ≤ ximm ∧ ximm < (s.slots.length : Int)) (hu : ximm ≤ 2147483647) :
    Calls Try.prog 51 #[.pointer (some ⟨c.sb, 0, none⟩), mv ⟨30, xd, xe, xa, xb, xc, ximm, xargs⟩ av, ivS c i1 i2 i3 i4 i5 i6 stp] w (SDoQ c (none, { s with regs := s.regs.set xd.toNat (s.slots.getD ximm.toNat 0) })) := by
  obtain ⟨w0, sb, rb, base, slv, memv, ansv, ans, side⟩ := c
  obtain ⟨aa, ac, rfl⟩ := nums_lenI hi
  generalize xargs.length = ac1 at *
  obtain ⟨n1, n2, n3, hans⟩ : ∃ a n c, ansv = .slice a n c := by
    obtain ⟨a, c, e⟩ := nums_lenI h.ans
    exact ⟨a, _, c, e⟩
  subst hans
  have hbx := h.box
  have hcall := h.calls
  have hsz : rb < w.heap.size := h.regs.lt
  have hszb : sb < w.heap.size := hbx.lt
  have hap := h.apart
  dsimp only at hsz hszb hap
  obtain ⟨w2, hw2⟩ : ∃ x, x = (w.alloc (.cells #[.int .i64 30, .int .i64 xd, .int .i64 xe, .int .i64 xa, .int .i64 xb, .int .i64 xc, .int .i32 ximm, .slice aa ac1 ac] 46)).alloc (.cells #[.slice i1 i2 i3, .slice i4 i5 i6, .slice n1 n2 n3, .int .i64 stp] 36) := ⟨_, rfl⟩
  have hs2 : Since w w2 := by rw [hw2]; exact ((Since.refl _).alloc _).alloc _
  have hm2 : HeapIs w2 w.heap.size #[.int .i64 30, .int .i64 xd, .int .i64 xe, .int .i64 xa, .int .i64 xb, .int .i64 xc, .int .i32 ximm, .slice aa ac1 ac] 46 := by rw [hw2]; exact (HeapIs.new _ _ _).keep ((Since.refl _).alloc _)
  have hop2 : w2.cell? ⟨w.heap.size, 0, none⟩ = some (.int .i64 30) := hm2.cell 0
  have hlm2 := hm2.lt
  have h2 := h.keep hs2
  have H2 := Lib.hid h2
  have HMB := Lib.hid hm2
  have HBOX := Lib.hid (h2.box)
  have HREG := Lib.hid (h2.regs)
  have HLEN := Lib.hid (h2.len)
  have HW2 := Lib.hid hw2
  clear h h2 hs2 hm2 hbx hcall hw2 hi
  obtain ⟨a, rfl⟩ : ∃ a : Nat, xd = a := Int.eq_ofNat_of_zero_le ha.1
  obtain ⟨i, rfl⟩ : ∃ a : Nat, ximm = a := Int.eq_ofNat_of_zero_le hb.1
  have ha' : a < 16 := by omega
  have hi' : i < s.slots.length := by omega
  have hi31 : (i : Int) ≤ 2147483647 := hu
  obtain ⟨sa, scap, hslv, hslen⟩ := H2.out.slots.shape
  subst hslv
  have hsl := H2.out.slots
  dsimp only at hsl
  obtain ⟨sl, srest, sT, hsa, hsw⟩ := hsl.at hi'
  subst hsa
  have HSW := Lib.hid hsw
  have hslt := hsw.lt
  obtain ⟨x, hvx⟩ : ∃ x, s.slots.getD i 0 = x := ⟨_, rfl⟩
  have hx32 : In32 x := by rw [← hvx]; exact in32_getD H2.out.s32 _
  have HVx := Lib.hid hvx
  have HX32 := Lib.hid hx32
  clear hvx hx32 ha hb hsl hsw hu
  generalize hsn : s.slots.length = sn at *
  have HSN := Lib.hid hsn
  clear hsn
  unfold mv ivS
  go_enter Try.func51, Try.ntmps51
  go_wp2_with fail
  rw [← HW2.out]
  refine wp_region_since_tail 14 rfl (by decide +kernel) (by decide +kernel) (by decide +kernel) (by decide)
    [Is (.pointer (some ⟨sb, 0, none⟩)), Is (.pointer (some ⟨sb, 0, none⟩)), Is (.pointer (some ⟨sb, 0, none⟩)), Is (.slice (some ⟨rb, 0, none⟩) 16 16), Is (.pointer (some ⟨w.heap.size, 1, none⟩)), Is (.int .i64 a), Is (.pointer (some ⟨sb, 0, none⟩)), Is (.pointer (some ⟨sb, 0, none⟩)), Is (.pointer (some ⟨sb, 1, none⟩)), Is (.slice (some ⟨sl, 0, none⟩) sn scap), Is (.pointer (some ⟨w.heap.size, 6, none⟩)), Is (.int .i32 i), Is (.pointer (some ⟨sl, i, none⟩)), Is (.int .i32 x)]
    (by repeat (first | exact trivial | refine ⟨Is.stable _, ?_⟩)) ⟨?_, ?_, ?_, ?_, ?_, ?_, ?_, ?_, ?_, ?_, ?_, ?_, ?_, ?_, trivial⟩ ?_
  rotate_right
  · intro vs w3 hs hk
    simp only [List.take, List.drop, putAll, Act.put, KnowsAll, nthF, Is, List.setIfInBounds_toArray, List.set_cons_zero, List.set_cons_succ, Nat.reduceAdd] at hk ⊢
    try simp only [hk]
    have h4 := H2.out.keep hs
    have hlr := h4.regs.lt
    have hcr : w3.cell? ⟨rb, a, none⟩ = some (.int .i32 (s.regs.getD a 0)) := h4.regs.cell (by rw [h4.len]; exact ha')
    have hfz := h4.regs.frozen
    have H4 := Lib.hid h4
    clear h4 hs hk
    go_wp2
    go_ret2
    refine ⟨cv, rfl, ?_⟩
    have h5 := H4.out.setReg ha' HX32.out
    rw [← HVx.out] at h5 ⊢
    exact h5
  all_goals
    intro vs w3 hs hk _
    simp only [List.take, putAll, Act.put, Knows, nthF, Is, List.setIfInBounds_toArray, List.set_cons_zero, List.set_cons_succ, Nat.reduceAdd] at hk ⊢
    try simp only [hk]
  · go_wp2
    exact ⟨_, rfl, rfl, Since.refl _⟩
  · go_wp2
    exact ⟨_, rfl, rfl, Since.refl _⟩
  · go_wp2
    exact ⟨_, rfl, rfl, Since.refl _⟩
  · have hc : w3.cell? ⟨sb, 0, none⟩ = some (.slice (some ⟨rb, 0, none⟩) 16 16) := (HBOX.out.keep hs).cell 0
    have hl := (HBOX.out.keep hs).lt
    go_wp2
    exact ⟨_, rfl, rfl, Since.refl _⟩
  · go_wp2
    exact ⟨_, rfl, rfl, Since.refl _⟩
  · have hc : w3.cell? ⟨w.heap.size, 1, none⟩ = some (.int .i64 a) := (HMB.out.keep hs).cell 1
    have hl := (HMB.out.keep hs).lt
    go_wp2
    exact ⟨_, rfl, rfl, Since.refl _⟩
  · go_wp2
    exact ⟨_, rfl, rfl, Since.refl _⟩
  · go_wp2
    exact ⟨_, rfl, rfl, Since.refl _⟩
  · go_wp2
    exact ⟨_, rfl, rfl, Since.refl _⟩
  · have hc : w3.cell? ⟨sb, 1, none⟩ = some (.slice (some ⟨sl, 0, none⟩) sn scap) := (HBOX.out.keep hs).cell 1
    have hl := (HBOX.out.keep hs).lt
    go_wp2
    exact ⟨_, rfl, rfl, Since.refl _⟩
  · go_wp2
    exact ⟨_, rfl, rfl, Since.refl _⟩
  · have hc : w3.cell? ⟨w.heap.size, 6, none⟩ = some (.int .i32 i) := (HMB.out.keep hs).cell 6
    have hl := (HMB.out.keep hs).lt
    go_wp2
    exact ⟨_, rfl, rfl, Since.refl _⟩
  · go_wp2
    exact ⟨_, rfl, (by show Value.pointer _ = _; simp [go_sem]), Since.refl _⟩
  · have hc : w3.cell? ⟨sl, i, none⟩ = some (.int .i32 x) := ((HSW.out.keep hs).cell (i := i) (by rw [HSN.out]; exact hi')).trans (by rw [HVx.out])
    have hl := (HSW.out.keep hs).lt
    go_wp2
    exact ⟨_, rfl, rfl, Since.refl _⟩

set_option maxHeartbeats 4000000 in
set_option maxRecDepth 100000 in
theorem sdo_31 (c : SCfg) (s : St) (cv : Value) (xd xe xa xb xc ximm : Int) (xargs : List Int) (av : Value) (w : World) (h : SRun c w s cv) (hi : Ints c.w0 av xargs) (i1 : Option Addr) (i2 i3 : Nat) (i4 : Option Addr) (i5 i6 : Nat) (stp : Int) (ha : 0 ≤ xa ∧ xa < 16) (hb : 0 ≤ ximm ∧ ximm < (s.slots.length : Int)) (hu : ximm ≤ 2147483647) :
    Calls Try.prog 51 #[.pointer (some ⟨c.sb, 0, none⟩), mv ⟨31, xd, xe, xa, xb, xc, ximm, xargs⟩ av, ivS c i1 i2 i3 i4 i5 i6 stp] w (SDoQ c (none, { s with slots := s.slots.set ximm.toNat (s.regs.getD xa.toNat 0) })) := by
  obtain ⟨w0, sb, rb, base, slv, memv, ansv, ans, side⟩ := c
  obtain ⟨aa, ac, rfl⟩ := nums_lenI hi
  generalize xargs.length = ac1 at *
  obtain ⟨n1, n2, n3, hans⟩ : ∃ a n c, ansv = .slice a n c := by
    obtain ⟨a, c, e⟩ := nums_lenI h.ans
    exact ⟨a, _, c, e⟩
  subst hans
  have hbx := h.box
  have hcall := h.calls
  have hsz : rb < w.heap.size := h.regs.lt
  have hszb : sb < w.heap.size := hbx.lt
  have hap := h.apart
  dsimp only at hsz hszb hap
  obtain ⟨w2, hw2⟩ : ∃ x, x = (w.alloc (.cells #[.int .i64 31, .int .i64 xd, .int .i64 xe, .int .i64 xa, .int .i64 xb, .int .i64 xc, .int .i32 ximm, .slice aa ac1 ac] 46)).alloc (.cells #[.slice i1 i2 i3, .slice i4 i5 i6, .slice n1 n2 n3, .int .i64 stp] 36) := ⟨_, rfl⟩
  have hs2 : Since w w2 := by rw [hw2]; exact ((Since.refl _).alloc _).alloc _
  have hm2 : HeapIs w2 w.heap.size #[.int .i64 31, .int .i64 xd, .int .i64 xe, .int .i64 xa, .int .i64 xb, .int .i64 xc, .int .i32 ximm, .slice aa ac1 ac] 46 := by rw [hw2]; exact (HeapIs.new _ _ _).keep ((Since.refl _).alloc _)
  have hop2 : w2.cell? ⟨w.heap.size, 0, none⟩ = some (.int .i64 31) := hm2.cell 0
  have hlm2 := hm2.lt
  have h2 := h.keep hs2
  have H2 := Lib.hid h2
  have HMB := Lib.hid hm2
  have HBOX := Lib.hid (h2.box)
  have HREG := Lib.hid (h2.regs)
  have HLEN := Lib.hid (h2.len)
  have HW2 := Lib.hid hw2
  clear h h2 hs2 hm2 hbx hcall hw2 hi
  obtain ⟨a, rfl⟩ : ∃ a : Nat, xa = a := Int.eq_ofNat_of_zero_le ha.1
  obtain ⟨i, rfl⟩ : ∃ a : Nat, ximm = a := Int.eq_ofNat_of_zero_le hb.1
  have ha' : a < 16 := by omega
  have hi' : i < s.slots.length := by omega
  have hi31 : (i : Int) ≤ 2147483647 := hu
  obtain ⟨sa, scap, hslv, hslen⟩ := H2.out.slots.shape
  subst hslv
  have hsl := H2.out.slots
  dsimp only at hsl
  obtain ⟨sl, srest, sT, hsa, hsw⟩ := hsl.at hi'
  subst hsa
  have HSW := Lib.hid hsw
  have hslt := hsw.lt
  obtain ⟨x, hvx⟩ : ∃ x, s.regs.getD a 0 = x := ⟨_, rfl⟩
  have hx32 : In32 x := by rw [← hvx]; exact in32_getD H2.out.r32 _
  have HVx := Lib.hid hvx
  have HX32 := Lib.hid hx32
  clear hvx hx32 ha hb hsl hsw hu
  generalize hsn : s.slots.length = sn at *
  have HSN := Lib.hid hsn
  clear hsn
  unfold mv ivS
  go_enter Try.func51, Try.ntmps51
  go_wp2_with fail
  rw [← HW2.out]
  refine wp_region_since_tail 14 rfl (by decide +kernel) (by decide +kernel) (by decide +kernel) (by decide)
    [Is (.pointer (some ⟨sb, 0, none⟩)), Is (.pointer (some ⟨sb, 0, none⟩)), Is (.pointer (some ⟨sb, 1, none⟩)), Is (.slice (some ⟨sl, 0, none⟩) sn scap), Is (.pointer (some ⟨w.heap.size, 6, none⟩)), Is (.int .i32 i), Is (.pointer (some ⟨sb, 0, none⟩)), Is (.pointer (some ⟨sb, 0, none⟩)), Is (.pointer (some ⟨sb, 0, none⟩)), Is (.slice (some ⟨rb, 0, none⟩) 16 16), Is (.pointer (some ⟨w.heap.size, 3, none⟩)), Is (.int .i64 a), Is (.pointer (some ⟨rb, a, none⟩)), Is (.int .i32 x)]
    (by repeat (first | exact trivial | refine ⟨Is.stable _, ?_⟩)) ⟨?_, ?_, ?_, ?_, ?_, ?_, ?_, ?_, ?_, ?_, ?_, ?_, ?_, ?_, trivial⟩ ?_
  rotate_right
  · intro vs w3 hs hk
    simp only [List.take, List.drop, putAll, Act.put, KnowsAll, nthF, Is, List.setIfInBounds_toArray, List.set_cons_zero, List.set_cons_succ, Nat.reduceAdd] at hk ⊢
    try simp only [hk]
    have h4 := H2.out.keep hs
    have hw4 := HSW.out.keep hs
    have hlr := hw4.lt
    have hcr : w3.cell? ⟨sl, i, none⟩ = some (.int .i32 (s.slots.getD i 0)) := hw4.cell (by rw [HSN.out]; exact hi')
    have hfz := hw4.frozen
    have H4 := Lib.hid h4
    clear h4 hs hk hw4
    go_wp2
    go_ret2
    refine ⟨cv, rfl, ?_⟩
    have h5 := H4.out.setSlot rfl (by rw [HSN.out]; exact hi') HX32.out
    rw [← HVx.out] at h5 ⊢
    exact h5
  all_goals
    intro vs w3 hs hk _
    simp only [List.take, putAll, Act.put, Knows, nthF, Is, List.setIfInBounds_toArray, List.set_cons_zero, List.set_cons_succ, Nat.reduceAdd] at hk ⊢
    try simp only [hk]
  · go_wp2
    exact ⟨_, rfl, rfl, Since.refl _⟩
  · go_wp2
    exact ⟨_, rfl, rfl, Since.refl _⟩
  · go_wp2
    exact ⟨_, rfl, rfl, Since.refl _⟩
  · have hc : w3.cell? ⟨sb, 1, none⟩ = some (.slice (some ⟨sl, 0, none⟩) sn scap) := (HBOX.out.keep hs).cell 1
    have hl := (HBOX.out.keep hs).lt
    go_wp2
    exact ⟨_, rfl, rfl, Since.refl _⟩
  · go_wp2
    exact ⟨_, rfl, rfl, Since.refl _⟩
  · have hc : w3.cell? ⟨w.heap.size, 6, none⟩ = some (.int .i32 i) := (HMB.out.keep hs).cell 6
    have hl := (HMB.out.keep hs).lt
    go_wp2
    exact ⟨_, rfl, rfl, Since.refl _⟩
  · go_wp2
    exact ⟨_, rfl, rfl, Since.refl _⟩
  · go_wp2
    exact ⟨_, rfl, rfl, Since.refl _⟩
  · go_wp2
    exact ⟨_, rfl, rfl, Since.refl _⟩
  · have hc : w3.cell? ⟨sb, 0, none⟩ = some (.slice (some ⟨rb, 0, none⟩) 16 16) := (HBOX.out.keep hs).cell 0
    have hl := (HBOX.out.keep hs).lt
    go_wp2
    exact ⟨_, rfl, rfl, Since.refl _⟩
  · go_wp2
    exact ⟨_, rfl, rfl, Since.refl _⟩
  · have hc : w3.cell? ⟨w.heap.size, 3, none⟩ = some (.int .i64 a) := (HMB.out.keep hs).cell 3
    have hl := (HMB.out.keep hs).lt
    go_wp2
    exact ⟨_, rfl, rfl, Since.refl _⟩
  · go_wp2
    exact ⟨_, rfl, (by show Value.pointer _ = _; simp [go_sem]), Since.refl _⟩
  · have hc : w3.cell? ⟨rb, a, none⟩ = some (.int .i32 x) := ((HREG.out.keep hs).cell (i := a) (by rw [HLEN.out]; omega)).trans (by rw [HVx.out])
    have hl := (HREG.out.keep hs).lt
    go_wp2
    exact ⟨_, rfl, rfl, Since.refl _⟩

end Go.Proofs.Ytkpbmbhejpmboaa

namespace Go.Proofs.Ytkpbmbhejpmboaa
open Go.RowKit
set_option linter.unusedVariables false

theorem SRun.done {c : SCfg} {w w' : World} {s : St} {cv : Value} {R' M' : List Int} (h : SRun c w s cv) (hr : WAt w' c.rb R' [] 21) (hm : MemIs w' c.memv M') (t : Turn (fun k => k = c.rb ∨ c.memv.ownBlock = some k) w w') (hl : R'.length = 16) (h1 : ∀ x ∈ R', In32 x) (h2 : ∀ x ∈ M', In32 x) : SRun c w' { s with regs := R', mem := M' } cv := by
  refine ⟨t.toSince h.old fun k hk e => ?_, h.newS, h.newR, h.apart, Nat.le_trans h.base t.size, h.box.turn t fun e => ?_, hr, hl, h1, h.s32, h2, h.slots.turn t fun q hq e => ?_, h.sown, hm, h.mown, h.ans, h.a32, h.calls.turn t fun q hq e => ?_, h.few, fun q cs e => ⟨(h.aside q cs e).1.turn t fun e2 => e2.elim (HeapIs.neW (h.aside q cs e).1 h.regs (by decide)) (h.aside q cs e).2.2, (h.aside q cs e).2⟩⟩
  · rcases e with e | e
    · have := h.newR; omega
    · have := (h.mown k e).1; omega
  · rcases e with e | e
    · exact h.apart e.symm
    · exact (h.mown _ e).2.2.1 rfl
  · rcases e with e | e
    · exact (h.sown q hq).2.2.2 e
    · exact (h.mown q e).2.2.2.2 hq
  · rcases e with e | e
    · have := h.newR; omega
    · have := (h.mown q e).2.1; omega

set_option maxHeartbeats 4000000 in
set_option maxRecDepth 100000 in
theorem sdo_plain (c : SCfg) (s : St) (cv : Value) (op xd xe xa xb xc ximm : Int) (xargs : List Int) (av : Value) (w : World) (h : SRun c w s cv) (hi : Ints c.w0 av xargs) (i1 : Option Addr) (i2 i3 : Nat) (i4 : Option Addr) (i5 i6 : Nat) (stp : Int) (ho : op ≠ 2 ∧ op ≠ 30 ∧ op ≠ 31 ∧ op ≠ 28) (hf : Fine ⟨op, xd, xe, xa, xb, xc, ximm, xargs⟩) :
    Calls Try.prog 51 #[.pointer (some ⟨c.sb, 0, none⟩), mv ⟨op, xd, xe, xa, xb, xc, ximm, xargs⟩ av, ivS c i1 i2 i3 i4 i5 i6 stp] w (SDoQ c ((doM ⟨op, xd, xe, xa, xb, xc, ximm, xargs⟩ s.regs s.mem).1, { s with regs := (doM ⟨op, xd, xe, xa, xb, xc, ximm, xargs⟩ s.regs s.mem).2.1, mem := (doM ⟨op, xd, xe, xa, xb, xc, ximm, xargs⟩ s.regs s.mem).2.2 })) := by
  have hmem := h.mem
  obtain ⟨ma, mc, hmv, _⟩ := hmem.shape
  obtain ⟨s1, s3, hsv, _⟩ := h.slots.shape
  have hDO : ∀ w1, SRun c w1 s cv → Calls Try.prog 82 #[mv ⟨op, xd, xe, xa, xb, xc, ximm, xargs⟩ av, .slice (some ⟨c.rb, 0, none⟩) 16 16, c.memv] w1 (fun e w' => e = .returned (.tuple #[.int .i32 ((doM ⟨op, xd, xe, xa, xb, xc, ximm, xargs⟩ s.regs s.mem).1.getD 0), .bool (doM ⟨op, xd, xe, xa, xb, xc, ximm, xargs⟩ s.regs s.mem).1.isNone]) ∧ SRun c w' { s with regs := (doM ⟨op, xd, xe, xa, xb, xc, ximm, xargs⟩ s.regs s.mem).2.1, mem := (doM ⟨op, xd, xe, xa, xb, xc, ximm, xargs⟩ s.regs s.mem).2.2 } cv) := fun w1 h1 => by
    obtain ⟨ok1, ok2, ok3, _⟩ := doM_ok ⟨op, xd, xe, xa, xb, xc, ximm, xargs⟩ s.regs s.mem hf h1.r32 h1.m32
    have hd := rdo7_any ⟨op, xd, xe, xa, xb, xc, ximm, xargs⟩ av c.memv s.regs s.mem c.rb 16 [] 21 w1 (hi.keep h1.old) hf h1.regs h1.r32 (by rw [h1.len]; decide) h1.mem (fun e => (h1.mown _ e).2.2.2.1 rfl)
    rw [h1.len] at hd
    refine hd.mono ?_
    rintro e w' ⟨rfl, hw', hm', t⟩
    exact ⟨rfl, h1.done hw' hm' t (ok1.trans h1.len) ok2 ok3⟩
  unfold mv at hDO
  generalize hD : doM ⟨op, xd, xe, xa, xb, xc, ximm, xargs⟩ s.regs s.mem = D at *
  obtain ⟨tr, R', M'⟩ := D
  dsimp only at hDO ⊢
  clear hD hf hmem
  generalize hsl : s.slots.length = s2 at *
  generalize hml : s.mem.length = mn at *
  clear hsl hml
  obtain ⟨w0, sb, rb, base, slv, memv, ansv, ans, side⟩ := c
  dsimp only at hmv hsv hDO
  subst hmv
  subst hsv
  obtain ⟨aa, ac, rfl⟩ := nums_lenI hi
  generalize xargs.length = ac1 at *
  have HDO := Lib.hid hDO
  clear hDO
  obtain ⟨n1, n2, n3, hans⟩ : ∃ a n c, ansv = .slice a n c := by
    obtain ⟨a, c, e⟩ := nums_lenI h.ans
    exact ⟨a, _, c, e⟩
  subst hans
  have hbx := h.box
  have hcall := h.calls
  have hsz : rb < w.heap.size := h.regs.lt
  have hszb : sb < w.heap.size := hbx.lt
  have hap := h.apart
  dsimp only at hsz hszb hap
  obtain ⟨w2, hw2⟩ : ∃ x, x = (w.alloc (.cells #[.int .i64 op, .int .i64 xd, .int .i64 xe, .int .i64 xa, .int .i64 xb, .int .i64 xc, .int .i32 ximm, .slice aa ac1 ac] 46)).alloc (.cells #[.slice i1 i2 i3, .slice i4 i5 i6, .slice n1 n2 n3, .int .i64 stp] 36) := ⟨_, rfl⟩
  have hs2 : Since w w2 := by rw [hw2]; exact ((Since.refl _).alloc _).alloc _
  have hm2 : HeapIs w2 w.heap.size #[.int .i64 op, .int .i64 xd, .int .i64 xe, .int .i64 xa, .int .i64 xb, .int .i64 xc, .int .i32 ximm, .slice aa ac1 ac] 46 := by rw [hw2]; exact (HeapIs.new _ _ _).keep ((Since.refl _).alloc _)
  have hop2 : w2.cell? ⟨w.heap.size, 0, none⟩ = some (.int .i64 op) := hm2.cell 0
  have hlm2 := hm2.lt
  have h2 := h.keep hs2
  have H2 := Lib.hid h2
  have HMB := Lib.hid hm2
  have HBOX := Lib.hid (h2.box)
  have HREG := Lib.hid (h2.regs)
  have HLEN := Lib.hid (h2.len)
  have HW2 := Lib.hid hw2
  clear h h2 hs2 hm2 hbx hcall hw2 hi
  have m2 : (op == 2) = false := beq_eq_false_iff_ne.2 ho.1
  have m30 : (op == 30) = false := beq_eq_false_iff_ne.2 ho.2.1
  have m31 : (op == 31) = false := beq_eq_false_iff_ne.2 ho.2.2.1
  have m28 : (op == 28) = false := beq_eq_false_iff_ne.2 ho.2.2.2
  clear ho
  unfold mv ivS
  go_enter Try.func51, Try.ntmps51
  go_wp2_with fail
  rw [← HW2.out]
  refine wp_region_phases [9] [0, 0, 0, 0, 0, 0, 0, 0, 0, 0, 1, 1, 1, 1, 1] [0, 0, 0, 0, 0, 0, 0, 0, 0, 0, 1, 1, 1, 1, 1] [0, 0, 0, 0, 0, 0, 0, 0, 0, 1, 0, 0, 0, 0, 0] (fun p w1 => if p = 0 then HeapIs w1 w.heap.size #[.int .i64 op, .int .i64 xd, .int .i64 xe, .int .i64 xa, .int .i64 xb, .int .i64 xc, .int .i32 ximm, .slice aa ac1 ac] 46 ∧ SRun ⟨w0, sb, rb, base, .slice s1 s2 s3, .slice ma mn mc, .slice n1 n2 n3, ans, side⟩ w1 s cv else SRun ⟨w0, sb, rb, base, .slice s1 s2 s3, .slice ma mn mc, .slice n1 n2 n3, ans, side⟩ w1 { s with regs := R', mem := M' } cv) rfl (by decide +kernel) (by decide +kernel) (by decide +kernel)
    [Is (.agg #[.int .i64 op, .int .i64 xd, .int .i64 xe, .int .i64 xa, .int .i64 xb, .int .i64 xc, .int .i32 ximm, .slice aa ac1 ac]), Is (.pointer (some ⟨sb, 0, none⟩)), Is (.pointer (some ⟨sb, 0, none⟩)), Is (.pointer (some ⟨sb, 0, none⟩)), Is (.slice (some ⟨rb, 0, none⟩) 16 16), Is (.pointer (some ⟨sb, 0, none⟩)), Is (.pointer (some ⟨sb, 0, none⟩)), Is (.pointer (some ⟨sb, 2, none⟩)), Is (.slice ma mn mc), Is (.tuple #[.int .i32 (tr.getD 0), .bool tr.isNone]), Is (.tuple #[.int .i32 (tr.getD 0), .bool tr.isNone]), Is (.int .i32 (tr.getD 0)), Is (.bool tr.isNone), Is (.int .i32 (tr.getD 0)), Is (.bool tr.isNone)]
    (by repeat (first | exact trivial | refine ⟨Is.fixed _, ?_⟩ | refine ⟨Any.fixed, ?_⟩)) ⟨HMB.out.keep (Since.refl _).drew, H2.out.keep (Since.refl _).drew⟩ ⟨?_, ?_, ?_, ?_, ?_, ?_, ?_, ?_, ?_, ?_, ?_, ?_, ?_, ?_, ?_, trivial⟩ ?_
  rotate_right
  · intro vs w4 _ hph hk
    simp only [putAll, Act.put, KnowsAll, nthF, Is, List.setIfInBounds_toArray, List.set_cons_zero, List.set_cons_succ, Nat.reduceAdd, List.length_cons, List.length_nil] at hk ⊢
    try simp only [hk]
    have h5 : SRun ⟨w0, sb, rb, base, .slice s1 s2 s3, .slice ma mn mc, .slice n1 n2 n3, ans, side⟩ w4 { s with regs := R', mem := M' } cv := hph
    have H5 := Lib.hid h5
    clear h5 hph hk
    go_wp2
    go_ret2
    exact ⟨cv, rfl, H5.out⟩
  all_goals
    intro p vs w4 hlo hhi _ hph hk
    simp only [putAll, Act.put, Knows, nthF, Is, List.setIfInBounds_toArray, List.set_cons_zero, List.set_cons_succ, Nat.reduceAdd] at hk ⊢
    try simp only [hk]
  · obtain rfl : p = 0 := by omega
    have hm0 : HeapIs w4 w.heap.size #[.int .i64 op, .int .i64 xd, .int .i64 xe, .int .i64 xa, .int .i64 xb, .int .i64 xc, .int .i32 ximm, .slice aa ac1 ac] 46 ∧ SRun ⟨w0, sb, rb, base, .slice s1 s2 s3, .slice ma mn mc, .slice n1 n2 n3, ans, side⟩ w4 s cv := hph
    have k0 : w4.cell? ⟨w.heap.size, 0, none⟩ = some (.int .i64 op) := hm0.1.cell 0
    have k1 : w4.cell? ⟨w.heap.size, 1, none⟩ = some (.int .i64 xd) := hm0.1.cell 1
    have k2 : w4.cell? ⟨w.heap.size, 2, none⟩ = some (.int .i64 xe) := hm0.1.cell 2
    have k3 : w4.cell? ⟨w.heap.size, 3, none⟩ = some (.int .i64 xa) := hm0.1.cell 3
    have k4 : w4.cell? ⟨w.heap.size, 4, none⟩ = some (.int .i64 xb) := hm0.1.cell 4
    have k5 : w4.cell? ⟨w.heap.size, 5, none⟩ = some (.int .i64 xc) := hm0.1.cell 5
    have k6 : w4.cell? ⟨w.heap.size, 6, none⟩ = some (.int .i32 ximm) := hm0.1.cell 6
    have k7 : w4.cell? ⟨w.heap.size, 7, none⟩ = some (.slice aa ac1 ac) := hm0.1.cell 7
    have hl := hm0.1.lt
    go_wp2
    exact ⟨_, rfl, rfl, trivial, hph⟩
  · go_wp2
    exact ⟨_, rfl, rfl, trivial, hph⟩
  · go_wp2
    exact ⟨_, rfl, rfl, trivial, hph⟩
  · go_wp2
    exact ⟨_, rfl, rfl, trivial, hph⟩
  · obtain rfl : p = 0 := by omega
    have hm0 : HeapIs w4 w.heap.size #[.int .i64 op, .int .i64 xd, .int .i64 xe, .int .i64 xa, .int .i64 xb, .int .i64 xc, .int .i32 ximm, .slice aa ac1 ac] 46 ∧ SRun ⟨w0, sb, rb, base, .slice s1 s2 s3, .slice ma mn mc, .slice n1 n2 n3, ans, side⟩ w4 s cv := hph
    have hc : w4.cell? ⟨sb, 0, none⟩ = some (.slice (some ⟨rb, 0, none⟩) 16 16) := hm0.2.box.cell 0
    have hl := hm0.2.box.lt
    go_wp2
    exact ⟨_, rfl, rfl, trivial, hph⟩
  · go_wp2
    exact ⟨_, rfl, rfl, trivial, hph⟩
  · go_wp2
    exact ⟨_, rfl, rfl, trivial, hph⟩
  · go_wp2
    exact ⟨_, rfl, rfl, trivial, hph⟩
  · obtain rfl : p = 0 := by omega
    have hm0 : HeapIs w4 w.heap.size #[.int .i64 op, .int .i64 xd, .int .i64 xe, .int .i64 xa, .int .i64 xb, .int .i64 xc, .int .i32 ximm, .slice aa ac1 ac] 46 ∧ SRun ⟨w0, sb, rb, base, .slice s1 s2 s3, .slice ma mn mc, .slice n1 n2 n3, ans, side⟩ w4 s cv := hph
    have hc : w4.cell? ⟨sb, 2, none⟩ = some (.slice ma mn mc) := hm0.2.box.cell 2
    have hl := hm0.2.box.lt
    go_wp2
    exact ⟨_, rfl, rfl, trivial, hph⟩
  · obtain rfl : p = 0 := by omega
    have hm0 : HeapIs w4 w.heap.size #[.int .i64 op, .int .i64 xd, .int .i64 xe, .int .i64 xa, .int .i64 xb, .int .i64 xc, .int .i32 ximm, .slice aa ac1 ac] 46 ∧ SRun ⟨w0, sb, rb, base, .slice s1 s2 s3, .slice ma mn mc, .slice n1 n2 n3, ans, side⟩ w4 s cv := hph
    have HC := Lib.hid (HDO.out w4 hm0.2)
    go_wp2_with fail
    refine HC.out.mono ?_
    rintro e0 w5 ⟨rfl, hw5⟩
    go_wp2
    exact ⟨_, rfl, rfl, trivial, hw5⟩
  · go_wp2
    exact ⟨_, rfl, rfl, trivial, hph⟩
  · go_wp2
    exact ⟨_, rfl, rfl, trivial, hph⟩
  · go_wp2
    exact ⟨_, rfl, rfl, trivial, hph⟩
  · go_wp2
    exact ⟨_, rfl, rfl, trivial, hph⟩
  · go_wp2
    exact ⟨_, rfl, rfl, trivial, hph⟩
end Go.Proofs.Ytkpbmbhejpmboaa
