/- State.Do of jacquardref12 for calls; every instruction. State.Do of jacquardref12 does what stepM says, whatever legal instruction it is. -/
import Derived.Test.YtkpbmbhejpmboaaRefState
import Derived.Test.YtkpbmbhejpmboaaCallsMore
import Derived.Test.YtkpbmbhejpmboaaRegion6
namespace Go.Proofs.Ytkpbmbhejpmboaa
open Go.RowKit
set_option linter.unusedVariables false

def OneW (y : Int) (v : Value) (w : World) : Prop := ∃ b, v = .slice (some ⟨b, 0, none⟩) 1 1 ∧ HeapIs w b #[.int .i32 y] 21
theorem OneW.stable (y : Int) : Stable (OneW y) := fun v w w' ⟨b, h1, h2⟩ s => ⟨b, h1, h2.keep s⟩
def OneEvS (imm : Int) (x : Value) (v : Value) (w : World) : Prop := ∃ b, v = .slice (some ⟨b, 0, none⟩) 1 1 ∧ HeapIs w b #[.int .i32 imm, x] 61
theorem OneEvS.stable (imm : Int) (x : Value) : Stable (OneEvS imm x) := fun v w w' ⟨b, h1, h2⟩ s => ⟨b, h1, h2.keep s⟩
/-- A call told. -/
theorem SRun.told {c : SCfg} {w w' : World} {s : St} {cv cv' : Value} {evs : List EvV} {x : EvV} (h : SRun c w s cv) (h1 : EvOwn c.base w cv evs) (he : (evs.map fun e => (e.callee, e.args)) = s.calls) (h3 : ∀ e ∈ evs, Own32 c.base w e.argv e.args) (hx : Own32 c.base w x.argv x.args) (hown : EvOwn c.base w' cv' (evs ++ [x])) (t : Turn (fun k => cv.ownBlock = some k) w w') (hf : s.calls.length < 1000000) :
    SRun c (w'.setCell ⟨c.sb, 3, none⟩ cv') { s with calls := s.calls ++ [(x.callee, x.args)] } cv' := by
  have hlo : ∀ q, cv.ownBlock = some q → c.base ≤ q := fun q hq => (World.ownsRow.lt h1 q hq).1
  have t2 : Turn (fun k => k = c.sb) w' (w'.setCell ⟨c.sb, 3, none⟩ cv') := (Turn.refl (fun k => k = c.sb) w').setCell (p := ⟨c.sb, 3, none⟩) rfl _
  have tt : Turn (fun k => cv.ownBlock = some k ∨ k = c.sb) w (w'.setCell ⟨c.sb, 3, none⟩ cv') := (t.mono fun k _ h => .inl h).trans (t2.mono fun k _ h => .inr h)
  have hbx' : HeapIs w' c.sb #[.slice (some ⟨c.rb, 0, none⟩) 16 16, c.slv, c.memv, cv] 96 := h.box.turn t fun e => by have := hlo _ e; have := h.newS; omega
  refine ⟨tt.toSince h.old fun k hk e => ?_, h.newS, h.newR, h.apart, Nat.le_trans h.base tt.size, hbx'.set 3 _, h.regs.turn tt fun e => ?_, h.len, h.r32, h.s32, h.m32, h.slots.turn tt fun q hq e => ?_, h.sown, h.mem.turn tt fun q hq e => ?_, h.mown, h.ans, h.a32, ?_, by simp; omega, fun q cs e => ⟨(h.aside q cs e).1.turn tt fun e2 => e2.elim (own_not h1 (h.aside q cs e).1 (by decide)) (HeapIs.ne (h.aside q cs e).1 h.box (by decide)), (h.aside q cs e).2⟩⟩
  · rcases e with e | e
    · have := hlo k e; have := h.newS; omega
    · have := h.newS; omega
  · rcases e with e | e
    · have := hlo _ e; have := h.newR; omega
    · exact h.apart e
  · rcases e with e | e
    · have := hlo _ e; have := h.sown q hq; omega
    · exact (h.sown q hq).2.2.1 e
  · rcases e with e | e
    · have := hlo _ e; have := h.mown q hq; omega
    · exact (h.mown q hq).2.2.1 e
  · have hr := EvRow.snoc h1 h3 hx (by decide) hown t
    rw [he] at hr
    exact hr.turn t2 fun q hq e => by have := h.newS; omega

/-- What a call's telling leaves. -/
def CallG (c : SCfg) (s : St) (cv : Value) (ximm : Int) (L : List Int) (cl : Nat) (v : Value) (w : World) : Prop := (∃ a k, v = .slice a (cl + 1) k) ∧ SRun c (w.setCell ⟨c.sb, 3, none⟩ v) { s with calls := s.calls ++ [(ximm, L)] } v ∧ HeapIs w c.sb #[.slice (some ⟨c.rb, 0, none⟩) 16 16, c.slv, c.memv, cv] 96

set_option maxHeartbeats 8000000 in
set_option maxRecDepth 100000 in
theorem sdo_call (c : SCfg) (s : St) (cv : Value) (xd xe xa xb xc ximm : Int) (xargs : List Int) (av : Value) (w : World) (h : SRun c w s cv) (hi : Ints c.w0 av xargs) (i1 : Option Addr) (i2 i3 : Nat) (i4 : Option Addr) (i5 i6 : Nat) (stp : Int) (hargs : ∀ (j : Nat) (x : Int), xargs[j]? = some x → x = (j : Int)) (h4 : xargs.length ≤ 4) (hfew : s.calls.length < 1000000) :
    Calls Try.prog 51 #[.pointer (some ⟨c.sb, 0, none⟩), mv ⟨28, xd, xe, xa, xb, xc, ximm, xargs⟩ av, ivS c i1 i2 i3 i4 i5 i6 stp] w (SDoQ c (none, callS s c.ans ximm xargs)) := by
  unfold callS
  obtain ⟨w0, sb, rb, base, slv, memv, ansv, ans, side⟩ := c
  obtain ⟨aa, ac, rfl⟩ := nums_lenI hi
  obtain ⟨ac1, hac⟩ : ∃ n, xargs.length = n := ⟨_, rfl⟩
  rw [hac] at hi h4 ⊢
  obtain ⟨ca, cc, hcv⟩ : ∃ a k, cv = .slice a s.calls.length k := by
    obtain ⟨evs, h1, h2, _⟩ := h.calls
    obtain ⟨a, k, e⟩ := OwnRow.shape h1
    exact ⟨a, k, by rw [e, ← h2, List.length_map]⟩
  subst hcv
  obtain ⟨cl, hcl⟩ : ∃ n, s.calls.length = n := ⟨_, rfl⟩
  rw [hcl] at h hfew
  have HCL := Lib.hid hcl
  have HAC := Lib.hid hac
  have HI := Lib.hid hi
  have HARGS := Lib.hid hargs
  have HANS := Lib.hid h.ans
  have HOLD := Lib.hid h.old
  have hal := h.ans.len
  obtain ⟨hx0, hfewa, hfewb⟩ := nums_caps hi
  clear hx0
  obtain ⟨n1, n2, n3, hans⟩ : ∃ a n c, ansv = .slice a n c := by
    obtain ⟨a, c, e⟩ := nums_lenI h.ans
    exact ⟨a, _, c, e⟩
  subst hans
  have hbx := h.box
  have hcall := h.calls
  have hsz : rb < w.heap.size := h.regs.lt
  have hszb : sb < w.heap.size := hbx.lt
  have hap := h.apart
  dsimp only at hsz hszb hap
  obtain ⟨w2, hw2⟩ : ∃ x, x = (w.alloc (.cells #[.int .i64 28, .int .i64 xd, .int .i64 xe, .int .i64 xa, .int .i64 xb, .int .i64 xc, .int .i32 ximm, .slice aa ac1 ac] 46)).alloc (.cells #[.slice i1 i2 i3, .slice i4 i5 i6, .slice n1 n2 n3, .int .i64 stp] 36) := ⟨_, rfl⟩
  have hs2 : Since w w2 := by rw [hw2]; exact ((Since.refl _).alloc _).alloc _
  have hm2 : HeapIs w2 w.heap.size #[.int .i64 28, .int .i64 xd, .int .i64 xe, .int .i64 xa, .int .i64 xb, .int .i64 xc, .int .i32 ximm, .slice aa ac1 ac] 46 := by rw [hw2]; exact (HeapIs.new _ _ _).keep ((Since.refl _).alloc _)
  have hop2 : w2.cell? ⟨w.heap.size, 0, none⟩ = some (.int .i64 28) := hm2.cell 0
  have hlm2 := hm2.lt
  have h2 := h.keep hs2
  have H2 := Lib.hid h2
  have HMB := Lib.hid hm2
  have HBOX := Lib.hid (h2.box)
  have HREG := Lib.hid (h2.regs)
  have HLEN := Lib.hid (h2.len)
  have HW2 := Lib.hid hw2
  have HIB := Lib.hid (show HeapIs w2 (w.heap.size + 1) #[.slice i1 i2 i3, .slice i4 i5 i6, .slice n1 n2 n3, .int .i64 stp] 36 from by rw [hw2]; have := HeapIs.new (w.alloc (.cells #[.int .i64 28, .int .i64 xd, .int .i64 xe, .int .i64 xa, .int .i64 xb, .int .i64 xc, .int .i32 ximm, .slice aa ac1 ac] 46)) #[.slice i1 i2 i3, .slice i4 i5 i6, .slice n1 n2 n3, .int .i64 stp] 36; rw [show (w.alloc (.cells #[.int .i64 28, .int .i64 xd, .int .i64 xe, .int .i64 xa, .int .i64 xb, .int .i64 xc, .int .i32 ximm, .slice aa ac1 ac] 46)).heap.size = w.heap.size + 1 from by simp] at this; exact this)
  clear hargs hac hcl
  clear h h2 hs2 hm2 hbx hcall hw2 hi
  have HAL := Lib.hid (show ans.length = n2 from (nums_cell HANS.out).1.symm)
  have HSW2 := Lib.hid (show Since w w2 from by rw [HW2.out]; exact ((Since.refl _).alloc _).alloc _)
  have kim : w2.cell? ⟨w.heap.size, 6, none⟩ = some (.int .i32 ximm) := HMB.out.cell 6
  unfold mv ivS
  go_enter Try.func51, Try.ntmps51
  go_wp2_with fail
  rw [← HW2.out]
  have hws : w2.heap.size = w2.heap.size := rfl
  obtain ⟨w3, hw3⟩ : ∃ x, x = w2.alloc (.cells #[.int .i32 ximm, .slice none 0 0] 61) := ⟨_, rfl⟩
  rw [← hw3, show w.heap.size + 1 + 1 = w2.heap.size from by rw [HW2.out]; simp]
  have hst : HeapIs w3 w2.heap.size #[.int .i32 ximm, .slice none 0 0] 61 := by rw [hw3]; exact HeapIs.new _ _ _
  have hs3 : Since w2 w3 := by rw [hw3]; exact (Since.refl _).alloc _
  have HST := Lib.hid hst
  have HS3 := Lib.hid hs3
  clear hst hs3 hw3 hws hop2 hlm2 kim
  go_loopw [10] (fun i wr => ∃ t : Nat, t ≤ ac1 ∧ i = .int .i64 t ∧ ∃ v, HeapIs wr w2.heap.size #[.int .i32 ximm, v] 61 ∧ Own32 w2.heap.size wr v ((xargs.take t).map fun (r : Int) => s.regs.getD r.toNat 0) ∧ Since w2 wr) (fun i _ => ac1 - (intOf i).toNat)
  case atStart => exact ⟨0, Nat.zero_le _, rfl, _, HST.out, own_nil _ _ _ _, HS3.out⟩
  case round =>
    obtain ⟨t, ht, rfl, v, hev, hov, hsr⟩ := hrel
    have hov : wr.ownsRow w2.heap.size 21 1 v ((xargs.take t).map fun (r : Int) => s.regs.getD r.toNat 0).length (((xargs.take t).map fun (r : Int) => s.regs.getD r.toNat 0).map (Value.int .i32)) := hov
    obtain ⟨va, vc, hv⟩ := own_shape hov
    rw [List.length_map, List.length_take, HAC.out, Nat.min_eq_left ht] at hv
    subst hv
    have HEV := Lib.hid hev
    have HOV := Lib.hid hov
    have HSR := Lib.hid hsr
    have hmb := HMB.out.keep hsr
    have k7 : wr.cell? ⟨w.heap.size, 7, none⟩ = some (.slice aa ac1 ac) := hmb.cell 7
    have lmb := hmb.lt
    have HMBr := Lib.hid hmb
    clear hev hov hsr hmb
    by_cases hlt : t < ac1
    · obtain ⟨hx1, hcc⟩ := nums_cell HI.out
      clear hx1
      obtain ⟨B, off, rfl, hB, hcell⟩ := hcc (by intro e; have := HAC.out; rw [e] at this; simp at this; omega)
      obtain ⟨x, hx⟩ : ∃ x, xargs[t]? = some x := ⟨_, List.getElem?_eq_getElem (by rw [HAC.out]; exact hlt)⟩
      have hxt := HARGS.out t x hx
      subst hxt
      have ht16 : t < 16 := by have := h4; omega
      obtain ⟨y, hy⟩ : ∃ y, s.regs.getD t 0 = y := ⟨_, rfl⟩
      have HVy := Lib.hid hy
      have HX := Lib.hid hx
      have HCX := Lib.hid (fun wX (hX : Since w2 wX) => (((HOLD.out.trans HSW2.out).trans hX).cell (p := ⟨B, off + t, none⟩) hB).trans (hcell t _ hx))
      have HBL := Lib.hid hB
      clear hcell hcc hB hx hy
      go_wp2_with fail
      try rw [show decide ((t : Int) < (ac1 : Int)) = true from decide_eq_true (by omega)]
      refine wp_region_since_tail 14 rfl (by decide +kernel) (by decide +kernel) (by decide +kernel) (by decide)
        [Is (.pointer (some ⟨w2.heap.size, 1, none⟩)), Is (.slice va t vc), Is (.pointer (some ⟨sb, 0, none⟩)), Is (.pointer (some ⟨sb, 0, none⟩)), Is (.pointer (some ⟨sb, 0, none⟩)), Is (.slice (some ⟨rb, 0, none⟩) 16 16), Is (.pointer (some ⟨w.heap.size, 7, none⟩)), Is (.slice (some ⟨B, off, none⟩) ac1 ac), Is (.int .i64 t), Is (.pointer (some ⟨B, off + t, none⟩)), Is (.int .i64 t), Is (.pointer (some ⟨rb, t, none⟩)), Is (.int .i32 y), OneW y]
        (by repeat (first | exact trivial | refine ⟨Is.stable _, ?_⟩ | refine ⟨OneW.stable _, ?_⟩)) ⟨?_, ?_, ?_, ?_, ?_, ?_, ?_, ?_, ?_, ?_, ?_, ?_, ?_, ?_, trivial⟩ ?_
      rotate_right
      · intro vs w4 hs hk
        simp only [List.take, List.drop, putAll, Act.put, KnowsAll, nthF, Is, List.setIfInBounds_toArray, List.set_cons_zero, List.set_cons_succ, Nat.reduceAdd] at hk ⊢
        try simp only [hk]
        obtain ⟨b1, hb1, hb2⟩ := hk.2.2.2.2.2.2.2.2.2.2.2.2.2.1
        simp only [hb1]
        have HSN := Lib.hid hs
        have HNM := Lib.hid (show Nums .i32 w4 (.slice (some ⟨b1, 0, none⟩) 1 1) [y] from nums_heap (k := .i32) (l := [y]) hb2 (by show 1 ≤ maxLen; decide))
        clear hs hk hb1 hb2
        refine wpList_append_nums_turn (base := w2.heap.size) .i32 rfl _ _ 34 rfl 21 (.int .i32 0) 4 Try.underlying34 Try.info32 rfl (by decide) (.slice va t vc) _ ((xargs.take t).map fun (r : Int) => s.regs.getD r.toNat 0) [y] rfl rfl (own_keep HOV.out HSN.out) HNM.out (by rw [List.length_map, List.length_take]; simp; omega) (HSR.out.trans HSN.out).size ?_
        intro v2 w5 hown2 ht2
        have hev5 := (HEV.out.keep HSN.out).turn ht2 (own_not (own_keep HOV.out HSN.out) (HEV.out.keep HSN.out) (by decide))
        have hs5 : Since w2 w5 := ht2.toSince (HSR.out.trans HSN.out) (fun q hq hs => by have := (World.ownsRow.lt HOV.out q hs).1; omega)
        rw [show ((xargs.take t).map fun (r : Int) => s.regs.getD r.toNat 0) ++ [y] = (xargs.take (t + 1)).map fun (r : Int) => s.regs.getD r.toNat 0 from by rw [List.take_add_one, HX.out, ← HVy.out]; simp] at hown2
        obtain ⟨a5, c5, hv5⟩ := own_shape hown2
        have hl5 : (((xargs.take (t + 1)).map fun (r : Int) => s.regs.getD r.toNat 0) : List Int).length = t + 1 := by rw [List.length_map, List.length_take, HAC.out]; omega
        rw [hl5] at hv5
        subst hv5
        have kc5 : w5.cell? ⟨w2.heap.size, 1, none⟩ = some (.slice va t vc) := hev5.cell 1
        have kf5 := hev5.frozen
        have kl5 := hev5.lt
        have HEV5 := Lib.hid hev5
        have HS5 := Lib.hid hs5
        have HO5 := Lib.hid hown2
        clear hev5 hs5 hown2 ht2 hl5
        go_wp2
        go_roundw
        case rel =>
          have t5 : Turn (fun q => q = w2.heap.size) w5 (w5.setCell ⟨w2.heap.size, 1, none⟩ (.slice a5 (t + 1) c5)) := (Turn.refl (fun q => q = w2.heap.size) w5).setCell (p := ⟨w2.heap.size, 1, none⟩) rfl _
          exact ⟨t + 1, by omega, by go_num, _, HEV5.out.set 1 _, own_turn HO5.out t5 (fun q hq e => by subst e; exact own_not HO5.out HEV5.out (by decide) hq), t5.toSince HS5.out (fun q hq e => by omega)⟩
        case measure => simp [intOf]; omega
      all_goals
        intro vs w4 hs hk _
        simp only [List.take, putAll, Act.put, Knows, nthF, Is, List.setIfInBounds_toArray, List.set_cons_zero, List.set_cons_succ, Nat.reduceAdd] at hk ⊢
        try simp only [hk]
      · go_wp2
        exact ⟨_, rfl, rfl, Since.refl _⟩
      · have hc : w4.cell? ⟨w2.heap.size, 1, none⟩ = some (.slice va t vc) := (HEV.out.keep hs).cell 1
        have hl := (HEV.out.keep hs).lt
        go_wp2
        exact ⟨_, rfl, rfl, Since.refl _⟩
      · go_wp2
        exact ⟨_, rfl, rfl, Since.refl _⟩
      · go_wp2
        exact ⟨_, rfl, rfl, Since.refl _⟩
      · go_wp2
        exact ⟨_, rfl, rfl, Since.refl _⟩
      · have hc : w4.cell? ⟨sb, 0, none⟩ = some (.slice (some ⟨rb, 0, none⟩) 16 16) := (HBOX.out.keep (HSR.out.trans hs)).cell 0
        have hl := (HBOX.out.keep (HSR.out.trans hs)).lt
        go_wp2
        exact ⟨_, rfl, rfl, Since.refl _⟩
      · go_wp2
        exact ⟨_, rfl, rfl, Since.refl _⟩
      · have hc : w4.cell? ⟨w.heap.size, 7, none⟩ = some (.slice (some ⟨B, off, none⟩) ac1 ac) := (HMBr.out.keep hs).cell 7
        have hl := (HMBr.out.keep hs).lt
        go_wp2
        exact ⟨_, rfl, rfl, Since.refl _⟩
      · go_wp2
        exact ⟨_, rfl, rfl, Since.refl _⟩
      · go_wp2
        exact ⟨_, rfl, (by show Value.pointer _ = _; simp [go_sem]), Since.refl _⟩
      · have hc : w4.cell? ⟨B, off + t, none⟩ = some (.int .i64 t) := HCX.out _ (HSR.out.trans hs)
        have hl := Nat.lt_of_lt_of_le HBL.out (HOLD.out.trans (HSW2.out.trans (HSR.out.trans hs))).size
        go_wp2
        exact ⟨_, rfl, rfl, Since.refl _⟩
      · go_wp2
        exact ⟨_, rfl, (by show Value.pointer _ = _; simp [go_sem]), Since.refl _⟩
      · have hc : w4.cell? ⟨rb, t, none⟩ = some (.int .i32 y) := ((HREG.out.keep (HSR.out.trans hs)).cell (i := t) (by rw [HLEN.out]; exact ht16)).trans (by rw [HVy.out])
        have hl := (HREG.out.keep (HSR.out.trans hs)).lt
        go_wp2
        exact ⟨_, rfl, rfl, Since.refl _⟩
      · go_wp2
        exact ⟨_, rfl, ⟨_, rfl, HeapIs.new _ _ _⟩, (Since.refl _).alloc _⟩
    · obtain rfl : ac1 = t := by omega
      rw [List.take_of_length_le (by rw [HAC.out]; exact Nat.le_refl _)] at HOV
      obtain ⟨w6, hw6⟩ : ∃ x, x = wr := ⟨_, rfl⟩
      subst hw6
      have h6 := H2.out.keep HSR.out
      have H6 := Lib.hid h6
      have HBOX6 := Lib.hid h6.box
      have HIB6 := Lib.hid (HIB.out.keep HSR.out)
      clear h6 hlt ht
      clear lmb
      by_cases hcn : cl < n2
      · go_wp2_with fail
        refine wp_region_list_facts rfl (by decide +kernel) (by decide +kernel)
          [Is (.pointer (some ⟨sb, 0, none⟩)), Is (.pointer (some ⟨sb, 0, none⟩)), Is (.pointer (some ⟨sb, 3, none⟩)), Is (.slice ca cl cc), Is (.int .i64 cl), Is (.pointer (some ⟨w.heap.size + 1, 2, none⟩)), Is (.slice n1 n2 n3), Is (.int .i64 n2), Is (.bool true)]
          (by repeat (first | exact trivial | refine ⟨Is.stable _, ?_⟩)) ⟨?_, ?_, ?_, ?_, ?_, ?_, ?_, ?_, ?_, trivial⟩ ?_
        all_goals
          intro vs w7 hs hk
          simp only [putAll, Act.put, Knows, KnowsAll, nthF, Is, List.setIfInBounds_toArray, List.set_cons_zero, List.set_cons_succ, Nat.reduceAdd, List.length_cons, List.length_nil] at hk ⊢
          try simp only [hk]
        · go_wp2
          exact ⟨_, rfl, rfl, Since.refl _⟩
        · go_wp2
          exact ⟨_, rfl, rfl, Since.refl _⟩
        · go_wp2
          exact ⟨_, rfl, rfl, Since.refl _⟩
        · have hc : w7.cell? ⟨sb, 3, none⟩ = some (.slice ca cl cc) := (HBOX6.out.keep hs).cell 3
          have hl := (HBOX6.out.keep hs).lt
          go_wp2
          exact ⟨_, rfl, rfl, Since.refl _⟩
        · go_wp2
          exact ⟨_, rfl, rfl, Since.refl _⟩
        · go_wp2
          exact ⟨_, rfl, rfl, Since.refl _⟩
        · have hc : w7.cell? ⟨w.heap.size + 1, 2, none⟩ = some (.slice n1 n2 n3) := (HIB6.out.keep hs).cell 2
          have hl := (HIB6.out.keep hs).lt
          go_wp2
          exact ⟨_, rfl, rfl, Since.refl _⟩
        · go_wp2
          exact ⟨_, rfl, rfl, Since.refl _⟩
        · go_wp2
          exact ⟨_, rfl, rfl, Since.refl _⟩
        · have HBW := Lib.hid H2.out.base
          have HS7 := Lib.hid (HSR.out.trans hs)
          have H7 := Lib.hid (H6.out.keep hs)
          have HBOX7 := Lib.hid (HBOX6.out.keep hs)
          have HIB7 := Lib.hid (HIB6.out.keep hs)
          have HEV7 := Lib.hid (HEV.out.keep hs)
          have HOV7 := Lib.hid (own_keep HOV.out hs)
          clear hs hk
          obtain ⟨hx2, hcc⟩ := nums_cell HANS.out
          clear hx2
          obtain ⟨B, off, hBe, hB, hcell⟩ := hcc (by intro e; have := HAL.out; rw [e] at this; simp at this; omega)
          subst hBe
          obtain ⟨A0, hA0e⟩ : ∃ y, ans.getD cl 0 = y := ⟨_, rfl⟩
          have hxa : ans[cl]? = some A0 := by rw [← hA0e, List.getD_eq_getElem?_getD, List.getElem?_eq_getElem (by rw [HAL.out]; exact hcn)]; rfl
          have HA32 := Lib.hid (show In32 A0 from by rw [← hA0e]; exact in32_getD H2.out.a32 _)
          have HA0 := Lib.hid hA0e
          have HCA := Lib.hid (fun wX (hX : Since w2 wX) => (((HOLD.out.trans HSW2.out).trans hX).cell (p := ⟨B, off + cl, none⟩) hB).trans (hcell cl _ hxa))
          have HBL := Lib.hid hB
          clear hcc hcell hB hA0e hxa
          go_wp2_with fail
          refine wp_region_list_facts rfl (by decide +kernel) (by decide +kernel)
            [Is (.pointer (some ⟨w.heap.size + 1, 2, none⟩)), Is (.slice (some ⟨B, off, none⟩) n2 n3), Is (.pointer (some ⟨sb, 0, none⟩)), Is (.pointer (some ⟨sb, 0, none⟩)), Is (.pointer (some ⟨sb, 3, none⟩)), Is (.slice ca cl cc), Is (.int .i64 cl), Is (.pointer (some ⟨B, off + cl, none⟩)), Is (.int .i32 A0), Is (.int .i32 A0)]
            (by repeat (first | exact trivial | refine ⟨Is.stable _, ?_⟩)) ⟨?_, ?_, ?_, ?_, ?_, ?_, ?_, ?_, ?_, ?_, trivial⟩ ?_
          all_goals
            intro vs w8 hs hk
            simp only [putAll, Act.put, Knows, KnowsAll, nthF, Is, List.setIfInBounds_toArray, List.set_cons_zero, List.set_cons_succ, Nat.reduceAdd, List.length_cons, List.length_nil] at hk ⊢
            try simp only [hk]
          · go_wp2
            exact ⟨_, rfl, rfl, Since.refl _⟩
          · have hc : w8.cell? ⟨w.heap.size + 1, 2, none⟩ = some (.slice (some ⟨B, off, none⟩) n2 n3) := (HIB7.out.keep hs).cell 2
            have hl := (HIB7.out.keep hs).lt
            go_wp2
            exact ⟨_, rfl, rfl, Since.refl _⟩
          · go_wp2
            exact ⟨_, rfl, rfl, Since.refl _⟩
          · go_wp2
            exact ⟨_, rfl, rfl, Since.refl _⟩
          · go_wp2
            exact ⟨_, rfl, rfl, Since.refl _⟩
          · have hc : w8.cell? ⟨sb, 3, none⟩ = some (.slice ca cl cc) := (HBOX7.out.keep hs).cell 3
            have hl := (HBOX7.out.keep hs).lt
            go_wp2
            exact ⟨_, rfl, rfl, Since.refl _⟩
          · go_wp2
            exact ⟨_, rfl, rfl, Since.refl _⟩
          · go_wp2
            exact ⟨_, rfl, (by show Value.pointer _ = _; simp [go_sem]), Since.refl _⟩
          · have hc : w8.cell? ⟨B, off + cl, none⟩ = some (.int .i32 A0) := HCA.out _ (HS7.out.trans hs)
            have hl := Nat.lt_of_lt_of_le HBL.out ((HOLD.out.trans HSW2.out).trans (HS7.out.trans hs)).size
            go_wp2
            exact ⟨_, rfl, rfl, Since.refl _⟩
          · go_wp2
            exact ⟨_, rfl, rfl, Since.refl _⟩
          · have HS8' := Lib.hid (HS7.out.trans hs)
            have H7' := Lib.hid (H7.out.keep hs)
            have HBOX7' := Lib.hid (HBOX7.out.keep hs)
            have HEV7' := Lib.hid (HEV7.out.keep hs)
            have HOV7' := Lib.hid (own_keep HOV7.out hs)
            clear hs hk
            go_wp2_with fail
            refine wp_region_pivot 7 (fun i => i == 0) (CallG ⟨w0, sb, rb, base, slv, memv, .slice (some ⟨B, off, none⟩) n2 n3, ans, side⟩ s (.slice ca cl cc) ximm (xargs.map fun (r : Int) => s.regs.getD r.toNat 0) cl) rfl (by decide +kernel) (by decide +kernel) (by decide +kernel) (by decide)
              [Is (.pointer (some ⟨sb, 0, none⟩)), Is (.pointer (some ⟨sb, 0, none⟩)), Is (.pointer (some ⟨sb, 0, none⟩)), Is (.pointer (some ⟨sb, 3, none⟩)), Is (.slice ca cl cc), Is (.agg #[.int .i32 ximm, .slice va ac1 vc]), OneEvS ximm (.slice va ac1 vc)]
              (by repeat (first | exact trivial | refine ⟨Is.stable _, ?_⟩ | refine ⟨OneEvS.stable _ _, ?_⟩)) (by refine ⟨fun _ v w w2 h => h, ?_⟩; repeat (first | exact trivial | refine ⟨fun h => absurd h (by decide), ?_⟩)) ⟨?_, ?_, ?_, ?_, ?_, ?_, ?_, trivial⟩ ⟨fun _ vs w11 => ?_, fun h => absurd h (by decide), fun h => absurd h (by decide), fun h => absurd h (by decide), fun h => absurd h (by decide), fun h => absurd h (by decide), fun h => absurd h (by decide), trivial⟩ ?_ ?_
            · intro vs w11 hs hk _
              simp only [List.take, putAll, Act.put, Knows, List.setIfInBounds_toArray, List.set_cons_zero, List.set_cons_succ, Nat.reduceAdd] at hk ⊢
              try simp only [hk]
              go_wp2
              exact ⟨_, rfl, rfl, Since.refl _⟩
            · intro vs w11 hs hk _
              simp only [List.take, putAll, Act.put, Knows, List.setIfInBounds_toArray, List.set_cons_zero, List.set_cons_succ, Nat.reduceAdd] at hk ⊢
              try simp only [hk]
              go_wp2
              exact ⟨_, rfl, rfl, Since.refl _⟩
            · intro vs w11 hs hk _
              simp only [List.take, putAll, Act.put, Knows, nthF, Is, List.setIfInBounds_toArray, List.set_cons_zero, List.set_cons_succ, Nat.reduceAdd] at hk ⊢
              try simp only [hk]
              go_wp2
              exact ⟨_, rfl, rfl, Since.refl _⟩
            · intro vs w11 hs hk _
              simp only [List.take, putAll, Act.put, Knows, nthF, Is, List.setIfInBounds_toArray, List.set_cons_zero, List.set_cons_succ, Nat.reduceAdd] at hk ⊢
              try simp only [hk]
              go_wp2
              exact ⟨_, rfl, rfl, Since.refl _⟩
            · intro vs w11 hs hk _
              simp only [List.take, putAll, Act.put, Knows, nthF, Is, List.setIfInBounds_toArray, List.set_cons_zero, List.set_cons_succ, Nat.reduceAdd] at hk ⊢
              try simp only [hk]
              have hc : w11.cell? ⟨sb, 3, none⟩ = some (.slice ca cl cc) := (HBOX7'.out.keep hs).cell 3
              have hl := (HBOX7'.out.keep hs).lt
              go_wp2
              exact ⟨_, rfl, rfl, Since.refl _⟩
            · intro vs w11 hs hk _
              simp only [List.take, putAll, Act.put, Knows, List.setIfInBounds_toArray, List.set_cons_zero, List.set_cons_succ, Nat.reduceAdd] at hk ⊢
              try simp only [hk]
              have hc0 : w11.cell? ⟨w2.heap.size, 0, none⟩ = some (.int .i32 ximm) := (HEV7'.out.keep hs).cell 0
              have hc1 : w11.cell? ⟨w2.heap.size, 1, none⟩ = some (.slice va ac1 vc) := (HEV7'.out.keep hs).cell 1
              have hl := (HEV7'.out.keep hs).lt
              go_wp2
              exact ⟨_, rfl, rfl, Since.refl _⟩
            · intro vs w11 hs hk _
              simp only [List.take, putAll, Act.put, Knows, nthF, Is, List.setIfInBounds_toArray, List.set_cons_zero, List.set_cons_succ, Nat.reduceAdd] at hk ⊢
              try simp only [hk]
              go_wp2
              exact ⟨_, rfl, ⟨_, rfl, HeapIs.new _ _ _⟩, (Since.refl _).alloc _⟩
            · simp only [List.take, putAll, Act.put, List.setIfInBounds_toArray, List.set_cons_zero, List.set_cons_succ, Nat.reduceAdd]
              go_wp2
              exact ⟨_, rfl, rfl, rfl⟩
            · intro vs w11 hs hk
              obtain ⟨b1, hb1, hb2⟩ : OneEvS ximm (.slice va ac1 vc) (vs 6) w11 := hk.2.2.2.2.2.2.1 rfl
              have hv4 : vs 4 = .slice ca cl cc := hk.2.2.2.2.1 rfl
              simp only [List.take, List.drop, putAll, Act.put, List.setIfInBounds_toArray, List.set_cons_zero, List.set_cons_succ, Nat.reduceAdd]
              simp only [hb1, hv4]
              have HSN := Lib.hid hs
              have HB1 := Lib.hid hb2
              have h8 := H7'.out.keep hs
              obtain ⟨evs, he1, he2, he3⟩ := h8.calls
              have hel : evs.length = cl := by rw [← HCL.out, ← he2, List.length_map]
              have HE1 := Lib.hid he1
              have HE2 := Lib.hid he2
              have HE3 := Lib.hid he3
              have HEL := Lib.hid hel
              have H8 := Lib.hid h8
              have hov8 : Own32 base w11 (.slice va ac1 vc) (xargs.map fun (r : Int) => s.regs.getD r.toNat 0) := own_base (own_keep HOV7'.out hs) HBW.out
              have HOV8 := Lib.hid hov8
              clear hs hk hb1 hb2 h8 he1 he2 he3 hel hov8 hv4
              refine wpList_append_turn (base := base) evcells 2 evcells_len (by decide) rfl _ _ 40 rfl 61 (.agg #[.int .i32 0, .slice none 0 0]) 32 Try.underlying40 (by kernel_rfl) rfl (.slice ca cl cc) evs ⟨ximm, .slice va ac1 vc, xargs.map fun (r : Int) => s.regs.getD r.toNat 0⟩ b1 1 61 rfl rfl HE1.out HB1.out (by simp [evcells, Value.oneCell']) (by rw [HEL.out]; unfold maxLen; omega) (by rw [HEL.out]; omega) H8.out.base ?_
              intro v9 w9 hown9 ht9
              obtain ⟨a9, c9, hv9⟩ := own_shape hown9
              rw [List.length_append, HEL.out] at hv9
              have hbx9 : HeapIs w9 sb #[.slice (some ⟨rb, 0, none⟩) 16 16, slv, memv, .slice ca cl cc] 96 := H8.out.box.turn ht9 (own_not HE1.out H8.out.box (by decide))
              have htold := SRun.told (c := ⟨w0, sb, rb, base, slv, memv, .slice (some ⟨B, off, none⟩) n2 n3, ans, side⟩) H8.out HE1.out HE2.out HE3.out HOV8.out hown9 ht9 (by rw [HCL.out]; omega)
              exact ⟨_, rfl, ⟨_, _, hv9⟩, htold, hbx9⟩
            · intro vs w9 hG hk
              obtain ⟨⟨a9, c9, hv9⟩, htold, hbx9⟩ := hG
              have hv0 : vs 0 = .pointer (some ⟨sb, 0, none⟩) := hk.1 rfl
              simp only [List.take, List.drop, putAll, Act.put, List.setIfInBounds_toArray, List.set_cons_zero, List.set_cons_succ, Nat.reduceAdd]
              rw [hv9] at htold
              simp only [hv9, hv0]
              clear hk hv9 hv0
              have k39 : w9.cell? ⟨sb, 3, none⟩ = some (.slice ca cl cc) := hbx9.cell 3
              have kf9 := hbx9.frozen
              have kl9 := hbx9.lt
              dsimp only at htold
              obtain ⟨wA, hwA⟩ : ∃ x, x = w9.setCell ⟨sb, 3, none⟩ (.slice a9 (cl + 1) c9) := ⟨_, rfl⟩
              rw [← hwA] at htold
              have HTOLD := Lib.hid htold
              have HWA := Lib.hid hwA
              have hfin := ((((htold.setReg (i := 0) (by decide) (x := A0) HA32.out).setReg (i := 1) (by decide) (x := 24302) (by unfold In32; omega)).setReg (i := 2) (by decide) (x := 24303) (by unfold In32; omega)).setReg (i := 3) (by decide) (x := 24304) (by unfold In32; omega))
              have hA0 : wA.cell? ⟨sb, 0, none⟩ = some (.slice (some ⟨rb, 0, none⟩) 16 16) := htold.box.cell 0
              have hAl := htold.box.lt
              have hAr := htold.regs.lt
              have hAf := htold.regs.frozen
              have hr0 : wA.cell? ⟨rb, 0, none⟩ = some (.int .i32 (s.regs.getD 0 0)) := htold.regs.cell (by have := htold.len; dsimp only at this ⊢; omega)
              have hr1 : wA.cell? ⟨rb, 1, none⟩ = some (.int .i32 (s.regs.getD 1 0)) := htold.regs.cell (by have := htold.len; dsimp only at this ⊢; omega)
              have hr2 : wA.cell? ⟨rb, 2, none⟩ = some (.int .i32 (s.regs.getD 2 0)) := htold.regs.cell (by have := htold.len; dsimp only at this ⊢; omega)
              have hr3 : wA.cell? ⟨rb, 3, none⟩ = some (.int .i32 (s.regs.getD 3 0)) := htold.regs.cell (by have := htold.len; dsimp only at this ⊢; omega)
              have hne1 : ¬ rb = sb := hap
              have hne2 : ¬ sb = rb := fun e => hap e.symm
              rw [hwA] at hA0 hAl hAr hAf hr0 hr1 hr2 hr3
              have HFIN := Lib.hid hfin
              clear htold hfin hwA hbx9
              go_wp2
              go_ret2
              rw [← HWA.out]
              refine ⟨.slice a9 (cl + 1) c9, rfl, ?_⟩
              have hf := HFIN.out
              have ee : (ans[s.calls.length]?).getD 0 = A0 := by rw [HCL.out, ← List.getD_eq_getElem?_getD]; exact HA0.out
              rw [ee]
              exact hf
      · go_wp2_with fail
        refine wp_region_list_facts rfl (by decide +kernel) (by decide +kernel)
          [Is (.pointer (some ⟨sb, 0, none⟩)), Is (.pointer (some ⟨sb, 0, none⟩)), Is (.pointer (some ⟨sb, 3, none⟩)), Is (.slice ca cl cc), Is (.int .i64 cl), Is (.pointer (some ⟨w.heap.size + 1, 2, none⟩)), Is (.slice n1 n2 n3), Is (.int .i64 n2), Is (.bool false)]
          (by repeat (first | exact trivial | refine ⟨Is.stable _, ?_⟩)) ⟨?_, ?_, ?_, ?_, ?_, ?_, ?_, ?_, ?_, trivial⟩ ?_
        all_goals
          intro vs w7 hs hk
          simp only [putAll, Act.put, Knows, KnowsAll, nthF, Is, List.setIfInBounds_toArray, List.set_cons_zero, List.set_cons_succ, Nat.reduceAdd, List.length_cons, List.length_nil] at hk ⊢
          try simp only [hk]
        · go_wp2
          exact ⟨_, rfl, rfl, Since.refl _⟩
        · go_wp2
          exact ⟨_, rfl, rfl, Since.refl _⟩
        · go_wp2
          exact ⟨_, rfl, rfl, Since.refl _⟩
        · have hc : w7.cell? ⟨sb, 3, none⟩ = some (.slice ca cl cc) := (HBOX6.out.keep hs).cell 3
          have hl := (HBOX6.out.keep hs).lt
          go_wp2
          exact ⟨_, rfl, rfl, Since.refl _⟩
        · go_wp2
          exact ⟨_, rfl, rfl, Since.refl _⟩
        · go_wp2
          exact ⟨_, rfl, rfl, Since.refl _⟩
        · have hc : w7.cell? ⟨w.heap.size + 1, 2, none⟩ = some (.slice n1 n2 n3) := (HIB6.out.keep hs).cell 2
          have hl := (HIB6.out.keep hs).lt
          go_wp2
          exact ⟨_, rfl, rfl, Since.refl _⟩
        · go_wp2
          exact ⟨_, rfl, rfl, Since.refl _⟩
        · go_wp2
          exact ⟨_, rfl, rfl, Since.refl _⟩
        · have HBW := Lib.hid H2.out.base
          have HS7 := Lib.hid (HSR.out.trans hs)
          have H7 := Lib.hid (H6.out.keep hs)
          have HBOX7 := Lib.hid (HBOX6.out.keep hs)
          have HIB7 := Lib.hid (HIB6.out.keep hs)
          have HEV7 := Lib.hid (HEV.out.keep hs)
          have HOV7 := Lib.hid (own_keep HOV.out hs)
          clear hs hk
          have HA0 := Lib.hid (show ans.getD cl 0 = 0 from by rw [List.getD_eq_getElem?_getD, List.getElem?_eq_none (by rw [HAL.out]; omega)]; rfl)
          have HA32 := Lib.hid (show In32 0 from by unfold In32; omega)
          go_wp2_with fail
          refine wp_region_pivot 7 (fun i => i == 0) (CallG ⟨w0, sb, rb, base, slv, memv, .slice n1 n2 n3, ans, side⟩ s (.slice ca cl cc) ximm (xargs.map fun (r : Int) => s.regs.getD r.toNat 0) cl) rfl (by decide +kernel) (by decide +kernel) (by decide +kernel) (by decide)
            [Is (.pointer (some ⟨sb, 0, none⟩)), Is (.pointer (some ⟨sb, 0, none⟩)), Is (.pointer (some ⟨sb, 0, none⟩)), Is (.pointer (some ⟨sb, 3, none⟩)), Is (.slice ca cl cc), Is (.agg #[.int .i32 ximm, .slice va ac1 vc]), OneEvS ximm (.slice va ac1 vc)]
            (by repeat (first | exact trivial | refine ⟨Is.stable _, ?_⟩ | refine ⟨OneEvS.stable _ _, ?_⟩)) (by refine ⟨fun _ v w w2 h => h, ?_⟩; repeat (first | exact trivial | refine ⟨fun h => absurd h (by decide), ?_⟩)) ⟨?_, ?_, ?_, ?_, ?_, ?_, ?_, trivial⟩ ⟨fun _ vs w8 => ?_, fun h => absurd h (by decide), fun h => absurd h (by decide), fun h => absurd h (by decide), fun h => absurd h (by decide), fun h => absurd h (by decide), fun h => absurd h (by decide), trivial⟩ ?_ ?_
          · intro vs w8 hs hk _
            simp only [List.take, putAll, Act.put, Knows, List.setIfInBounds_toArray, List.set_cons_zero, List.set_cons_succ, Nat.reduceAdd] at hk ⊢
            try simp only [hk]
            go_wp2
            exact ⟨_, rfl, rfl, Since.refl _⟩
          · intro vs w8 hs hk _
            simp only [List.take, putAll, Act.put, Knows, List.setIfInBounds_toArray, List.set_cons_zero, List.set_cons_succ, Nat.reduceAdd] at hk ⊢
            try simp only [hk]
            go_wp2
            exact ⟨_, rfl, rfl, Since.refl _⟩
          · intro vs w8 hs hk _
            simp only [List.take, putAll, Act.put, Knows, nthF, Is, List.setIfInBounds_toArray, List.set_cons_zero, List.set_cons_succ, Nat.reduceAdd] at hk ⊢
            try simp only [hk]
            go_wp2
            exact ⟨_, rfl, rfl, Since.refl _⟩
          · intro vs w8 hs hk _
            simp only [List.take, putAll, Act.put, Knows, nthF, Is, List.setIfInBounds_toArray, List.set_cons_zero, List.set_cons_succ, Nat.reduceAdd] at hk ⊢
            try simp only [hk]
            go_wp2
            exact ⟨_, rfl, rfl, Since.refl _⟩
          · intro vs w8 hs hk _
            simp only [List.take, putAll, Act.put, Knows, nthF, Is, List.setIfInBounds_toArray, List.set_cons_zero, List.set_cons_succ, Nat.reduceAdd] at hk ⊢
            try simp only [hk]
            have hc : w8.cell? ⟨sb, 3, none⟩ = some (.slice ca cl cc) := (HBOX7.out.keep hs).cell 3
            have hl := (HBOX7.out.keep hs).lt
            go_wp2
            exact ⟨_, rfl, rfl, Since.refl _⟩
          · intro vs w8 hs hk _
            simp only [List.take, putAll, Act.put, Knows, List.setIfInBounds_toArray, List.set_cons_zero, List.set_cons_succ, Nat.reduceAdd] at hk ⊢
            try simp only [hk]
            have hc0 : w8.cell? ⟨w2.heap.size, 0, none⟩ = some (.int .i32 ximm) := (HEV7.out.keep hs).cell 0
            have hc1 : w8.cell? ⟨w2.heap.size, 1, none⟩ = some (.slice va ac1 vc) := (HEV7.out.keep hs).cell 1
            have hl := (HEV7.out.keep hs).lt
            go_wp2
            exact ⟨_, rfl, rfl, Since.refl _⟩
          · intro vs w8 hs hk _
            simp only [List.take, putAll, Act.put, Knows, nthF, Is, List.setIfInBounds_toArray, List.set_cons_zero, List.set_cons_succ, Nat.reduceAdd] at hk ⊢
            try simp only [hk]
            go_wp2
            exact ⟨_, rfl, ⟨_, rfl, HeapIs.new _ _ _⟩, (Since.refl _).alloc _⟩
          · simp only [List.take, putAll, Act.put, List.setIfInBounds_toArray, List.set_cons_zero, List.set_cons_succ, Nat.reduceAdd]
            go_wp2
            exact ⟨_, rfl, rfl, rfl⟩
          · intro vs w8 hs hk
            obtain ⟨b1, hb1, hb2⟩ : OneEvS ximm (.slice va ac1 vc) (vs 6) w8 := hk.2.2.2.2.2.2.1 rfl
            have hv4 : vs 4 = .slice ca cl cc := hk.2.2.2.2.1 rfl
            simp only [List.take, List.drop, putAll, Act.put, List.setIfInBounds_toArray, List.set_cons_zero, List.set_cons_succ, Nat.reduceAdd]
            simp only [hb1, hv4]
            have HSN := Lib.hid hs
            have HB1 := Lib.hid hb2
            have h8 := H7.out.keep hs
            obtain ⟨evs, he1, he2, he3⟩ := h8.calls
            have hel : evs.length = cl := by rw [← HCL.out, ← he2, List.length_map]
            have HE1 := Lib.hid he1
            have HE2 := Lib.hid he2
            have HE3 := Lib.hid he3
            have HEL := Lib.hid hel
            have H8 := Lib.hid h8
            have hov8 : Own32 base w8 (.slice va ac1 vc) (xargs.map fun (r : Int) => s.regs.getD r.toNat 0) := own_base (own_keep HOV7.out hs) HBW.out
            have HOV8 := Lib.hid hov8
            clear hs hk hb1 hb2 h8 he1 he2 he3 hel hov8 hv4
            refine wpList_append_turn (base := base) evcells 2 evcells_len (by decide) rfl _ _ 40 rfl 61 (.agg #[.int .i32 0, .slice none 0 0]) 32 Try.underlying40 (by kernel_rfl) rfl (.slice ca cl cc) evs ⟨ximm, .slice va ac1 vc, xargs.map fun (r : Int) => s.regs.getD r.toNat 0⟩ b1 1 61 rfl rfl HE1.out HB1.out (by simp [evcells, Value.oneCell']) (by rw [HEL.out]; unfold maxLen; omega) (by rw [HEL.out]; omega) H8.out.base ?_
            intro v9 w9 hown9 ht9
            obtain ⟨a9, c9, hv9⟩ := own_shape hown9
            rw [List.length_append, HEL.out] at hv9
            have hbx9 : HeapIs w9 sb #[.slice (some ⟨rb, 0, none⟩) 16 16, slv, memv, .slice ca cl cc] 96 := H8.out.box.turn ht9 (own_not HE1.out H8.out.box (by decide))
            have htold := SRun.told (c := ⟨w0, sb, rb, base, slv, memv, .slice n1 n2 n3, ans, side⟩) H8.out HE1.out HE2.out HE3.out HOV8.out hown9 ht9 (by rw [HCL.out]; omega)
            exact ⟨_, rfl, ⟨_, _, hv9⟩, htold, hbx9⟩
          · intro vs w9 hG hk
            obtain ⟨⟨a9, c9, hv9⟩, htold, hbx9⟩ := hG
            have hv0 : vs 0 = .pointer (some ⟨sb, 0, none⟩) := hk.1 rfl
            simp only [List.take, List.drop, putAll, Act.put, List.setIfInBounds_toArray, List.set_cons_zero, List.set_cons_succ, Nat.reduceAdd]
            rw [hv9] at htold
            simp only [hv9, hv0]
            clear hk hv9 hv0
            have k39 : w9.cell? ⟨sb, 3, none⟩ = some (.slice ca cl cc) := hbx9.cell 3
            have kf9 := hbx9.frozen
            have kl9 := hbx9.lt
            dsimp only at htold
            obtain ⟨wA, hwA⟩ : ∃ x, x = w9.setCell ⟨sb, 3, none⟩ (.slice a9 (cl + 1) c9) := ⟨_, rfl⟩
            rw [← hwA] at htold
            have HTOLD := Lib.hid htold
            have HWA := Lib.hid hwA
            have hfin := ((((htold.setReg (i := 0) (by decide) (x := 0) HA32.out).setReg (i := 1) (by decide) (x := 24302) (by unfold In32; omega)).setReg (i := 2) (by decide) (x := 24303) (by unfold In32; omega)).setReg (i := 3) (by decide) (x := 24304) (by unfold In32; omega))
            have hA0 : wA.cell? ⟨sb, 0, none⟩ = some (.slice (some ⟨rb, 0, none⟩) 16 16) := htold.box.cell 0
            have hAl := htold.box.lt
            have hAr := htold.regs.lt
            have hAf := htold.regs.frozen
            have hr0 : wA.cell? ⟨rb, 0, none⟩ = some (.int .i32 (s.regs.getD 0 0)) := htold.regs.cell (by have := htold.len; dsimp only at this ⊢; omega)
            have hr1 : wA.cell? ⟨rb, 1, none⟩ = some (.int .i32 (s.regs.getD 1 0)) := htold.regs.cell (by have := htold.len; dsimp only at this ⊢; omega)
            have hr2 : wA.cell? ⟨rb, 2, none⟩ = some (.int .i32 (s.regs.getD 2 0)) := htold.regs.cell (by have := htold.len; dsimp only at this ⊢; omega)
            have hr3 : wA.cell? ⟨rb, 3, none⟩ = some (.int .i32 (s.regs.getD 3 0)) := htold.regs.cell (by have := htold.len; dsimp only at this ⊢; omega)
            have hne1 : ¬ rb = sb := hap
            have hne2 : ¬ sb = rb := fun e => hap e.symm
            rw [hwA] at hA0 hAl hAr hAf hr0 hr1 hr2 hr3
            have HFIN := Lib.hid hfin
            clear htold hfin hwA hbx9
            go_wp2
            go_ret2
            rw [← HWA.out]
            refine ⟨.slice a9 (cl + 1) c9, rfl, ?_⟩
            have hf := HFIN.out
            have ee : (ans[s.calls.length]?).getD 0 = 0 := by rw [HCL.out, ← List.getD_eq_getElem?_getD]; exact HA0.out
            rw [ee]
            exact hf
end Go.Proofs.Ytkpbmbhejpmboaa

namespace Go.Proofs.Ytkpbmbhejpmboaa
open Go.RowKit
set_option linter.unusedVariables false

theorem sdo_any (c : SCfg) (s : St) (cv : Value) (m : Mach) (av : Value) (w : World) {k sl : Int} (h : SRun c w s cv) (hi : Ints c.w0 av m.args) (hf : Fine m) (hl : insE m k sl = 0) (hk : k ≤ 16) (hs : s.slots.length = sl.toNat) (hfew : s.calls.length < 1000000) (i1 : Option Addr) (i2 i3 : Nat) (i4 : Option Addr) (i5 i6 : Nat) (stp : Int) :
    Calls Try.prog 51 #[.pointer (some ⟨c.sb, 0, none⟩), mv m av, ivS c i1 i2 i3 i4 i5 i6 stp] w (SDoQ c (stepM m c.ans s)) := by
  obtain ⟨op, d, e, a, b, cc, imm, args⟩ := m
  dsimp only at hi
  by_cases g2 : op = 2
  · subst g2
    obtain ⟨⟨ha, ha2⟩, hb, hb2⟩ := legal_2 hl rfl
    dsimp only at ha ha2 hb hb2
    have hla : a.toNat < s.regs.length := by rw [h.len]; omega
    have hlb : b.toNat < s.regs.length := by rw [h.len]; omega
    have e1 : stepM ⟨2, d, e, a, b, cc, imm, args⟩ c.ans s = (none, { s with regs := (s.regs.set a.toNat (s.regs.getD b.toNat 0)).set b.toNat (s.regs.getD a.toNat 0) }) := by
      obtain ⟨a, rfl⟩ := Int.eq_ofNat_of_zero_le ha
      obtain ⟨b, rfl⟩ := Int.eq_ofNat_of_zero_le hb
      rw [Int.toNat_natCast] at hla hlb ⊢
      rw [Int.toNat_natCast]
      unfold stepM doM
      dsimp only
      rw [if_neg (by decide), if_neg (by decide), if_neg (by decide), if_neg (by decide), if_pos rfl]
      dsimp only
      rw [getR_nat hla, getR_nat hlb, setR_nat hla, setR_nat (by rw [List.length_set]; exact hlb)]
    rw [e1]
    exact sdo_swap c s cv d e a b cc imm args av w h hi i1 i2 i3 i4 i5 i6 stp ⟨ha, by omega⟩ ⟨hb, by omega⟩
  by_cases g30 : op = 30
  · subst g30
    obtain ⟨⟨ha, ha2⟩, hb, hb2⟩ := legal_30 hl rfl
    dsimp only at ha ha2 hb hb2
    have e1 : stepM ⟨30, d, e, a, b, cc, imm, args⟩ c.ans s = (none, { s with regs := s.regs.set d.toNat (s.slots.getD imm.toNat 0) }) := rfl
    rw [e1]
    exact sdo_30 c s cv d e a b cc imm args av w h hi i1 i2 i3 i4 i5 i6 stp ⟨ha, by omega⟩ ⟨hb, by omega⟩ hf.2.1
  by_cases g31 : op = 31
  · subst g31
    obtain ⟨⟨ha, ha2⟩, hb, hb2⟩ := legal_31 hl rfl
    dsimp only at ha ha2 hb hb2
    have e1 : stepM ⟨31, d, e, a, b, cc, imm, args⟩ c.ans s = (none, { s with slots := s.slots.set imm.toNat (s.regs.getD a.toNat 0) }) := rfl
    rw [e1]
    exact sdo_31 c s cv d e a b cc imm args av w h hi i1 i2 i3 i4 i5 i6 stp ⟨ha, by omega⟩ ⟨hb, by omega⟩ hf.2.1
  by_cases g28 : op = 28
  · subst g28
    obtain ⟨h1, h2⟩ := legal_28 hl rfl
    dsimp only at h1 h2
    have e1 : stepM ⟨28, d, e, a, b, cc, imm, args⟩ c.ans s = (none, callS s c.ans imm args) := rfl
    rw [e1]
    exact sdo_call c s cv d e a b cc imm args av w h hi i1 i2 i3 i4 i5 i6 stp h1 h2 hfew
  · have e1 : stepM ⟨op, d, e, a, b, cc, imm, args⟩ c.ans s = ((doM ⟨op, d, e, a, b, cc, imm, args⟩ s.regs s.mem).1, { s with regs := (doM ⟨op, d, e, a, b, cc, imm, args⟩ s.regs s.mem).2.1, mem := (doM ⟨op, d, e, a, b, cc, imm, args⟩ s.regs s.mem).2.2 }) := by
      unfold stepM
      rw [if_neg g30, if_neg g31, if_neg g28]
    rw [e1]
    exact sdo_plain c s cv op d e a b cc imm args av w h hi i1 i2 i3 i4 i5 i6 stp ⟨g2, g30, g31, g28⟩ hf
end Go.Proofs.Ytkpbmbhejpmboaa
