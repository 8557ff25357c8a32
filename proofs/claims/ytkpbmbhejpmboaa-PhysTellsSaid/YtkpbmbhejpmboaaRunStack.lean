/- phys.stack.do. -/
import Derived.Test.YtkpbmbhejpmboaaRunSwap
namespace Go.Proofs.Ytkpbmbhejpmboaa
open Go.RowKit
set_option linter.unusedVariables false

theorem MemIs.cell {w : World} {b n cap : Nat} {M : List Int} (h : MemIs w (.slice (some ⟨b, 0, none⟩) n cap) M) {i : Nat} (hi : i < M.length) : w.cell? ⟨b, i, none⟩ = some (.int .i32 (M.getD i 0)) ∧ (∀ j, w.frozen? ⟨b, j, none⟩ = false) := by
  obtain ⟨b', rest, T, hb, hw⟩ := h.at hi
  cases hb
  exact ⟨hw.cell hi, hw.frozen⟩
/-- A slot is set. -/
theorem MRun.setSlot {c : Cfg} {w : World} {s : St} {cv : Value} {e v st : Int} {sb sc : Nat} (h : MRun c w s cv e v st) (hslv : c.slv = .slice (some ⟨sb, 0, none⟩) s.slots.length sc) {i : Nat} (hi : i < s.slots.length) {x : Int} (hx : In32 x) :
    MRun c (w.setCell ⟨sb, i, none⟩ (.int .i32 x)) { s with slots := s.slots.set i x } cv e v st := by
  have ho := h.sown sb (by rw [hslv]; rfl)
  have t : Turn (fun k => k = sb) w (w.setCell ⟨sb, i, none⟩ (.int .i32 x)) := (Turn.refl (fun k => k = sb) w).setCell (p := ⟨sb, i, none⟩) rfl _
  have hsl := h.slots
  rw [hslv] at hsl
  obtain ⟨b', rest, T, hb, hw⟩ := hsl.at hi
  cases hb
  obtain ⟨_, _, _, hl⟩ := h.slots.shape
  refine h.turn t (fun q hq => by subst hq; exact ⟨ho.1, ho.2.1⟩) (h.mat.turn t (fun e => ho.2.2 e.symm)) h.len h.r32 ?_ (fun y hy => ?_) (h.mem.turn t fun q hq e => (h.mown q hq).2.2.2 (by rw [hslv]; exact congrArg some e.symm)) h.m32 rfl h.few h.most
  · rw [hslv]; exact MemIs.set hw hl hi x
  · rcases List.mem_or_eq_of_mem_set hy with hy | rfl
    · exact h.s32 y hy
    · exact hx

set_option maxHeartbeats 1000000 in
set_option maxRecDepth 100000 in
theorem stack_ld (c : Cfg) (s : St) (cv : Value) (st : Int) (e a b cc : Int) (d i : Nat) (args : List Int) (av : Value) (w : World) (h : MRun c w s cv 0 0 st) (hd : d < 16) (hi : i < s.slots.length) :
    Calls Try.prog 165 #[.agg #[], mv ⟨30, d, e, a, b, cc, i, args⟩ av, MPtr c] w (DoQ c w cv st (none, { s with regs := s.regs.set d (s.slots.getD i 0) })) := by
  have hsz := h.size
  obtain ⟨sb, sc, hslv⟩ : ∃ sb sc, c.slv = .slice (some ⟨sb, 0, none⟩) s.slots.length sc := by
    obtain ⟨a', cap', ha', _⟩ := h.slots.shape
    have hs := h.slots
    rw [ha'] at hs
    obtain ⟨b', _, _, hb', _⟩ := hs.at hi
    exact ⟨b', cap', by rw [ha', hb']⟩
  have g16 : ∀ w1 s1, MRun c w1 s1 cv 0 0 st → w1.cell? ⟨c.mb, 16, none⟩ = some (.slice (some ⟨sb, 0, none⟩) s.slots.length sc) := fun w1 s1 h1 => (h1.cellr 0).trans (congrArg some hslv)
  have gs : ∀ w1, MRun c w1 s cv 0 0 st → w1.cell? ⟨sb, i, none⟩ = some (.int .i32 (s.slots.getD i 0)) ∧ (∀ j, w1.frozen? ⟨sb, j, none⟩ = false) := fun w1 h1 => (hslv ▸ h1.slots).cell hi
  have hxs := in32_getD h.s32 i
  unfold DoQ MPtr mv
  dsimp only
  generalize s.slots.getD i 0 = xs at *
  generalize hn : s.slots.length = n at *
  have HN := Lib.hid hn; clear hn
  have HSL := Lib.hid hslv; clear hslv
  have H := Lib.hid h; clear h
  go_enter Try.func165, Try.ntmps165
  go_wp2_with fail
  refine wp_region_phases [14] [0, 0, 0, 0, 0, 0, 0, 0, 0, 0, 0, 0, 0, 0, 0] [0, 0, 0, 0, 0, 0, 0, 0, 0, 0, 0, 0, 0, 0, 0] [0, 0, 0, 0, 0, 0, 0, 0, 0, 0, 0, 0, 0, 0, 1] (fun p w1 => BoxM c cv w w1 ⟨30, d, e, a, b, cc, i, args⟩ av ∧ MRun c w1 (if p = 0 then s else { s with regs := s.regs.set d xs }) cv 0 0 st) rfl (by decide +kernel) (by decide +kernel) (by decide +kernel)
    [Is (.pointer (some ⟨c.mb, 0, none⟩)), Is (.pointer (some ⟨w.heap.size + 1, 1, none⟩)), Is (.int .i64 d), Is (.pointer (some ⟨c.mb, 0, none⟩)), Is (.pointer (some ⟨c.mb, 0, none⟩)), Is (.pointer (some ⟨c.mb, 16, none⟩)), Is (.slice (some ⟨sb, 0, none⟩) n sc), Is (.pointer (some ⟨w.heap.size + 1, 6, none⟩)), Is (.int .i32 i), Is (.pointer (some ⟨sb, i, none⟩)), Is (.int .i32 xs), Is (.pointer (some ⟨c.mb, 0, none⟩)), Is (.pointer (some ⟨c.mb, 0, none⟩)), Is (.pointer (some ⟨c.mb, d, none⟩)), Any]
    (by repeat (first | exact trivial | refine ⟨Is.fixed _, ?_⟩ | refine ⟨Any.fixed, ?_⟩)) ⟨BoxM.new c cv w _ ⟨30, d, e, a, b, cc, i, args⟩ av, H.out.keep (((Since.refl w).alloc _).alloc _).drew⟩ ⟨?_, ?_, ?_, ?_, ?_, ?_, ?_, ?_, ?_, ?_, ?_, ?_, ?_, ?_, ?_, trivial⟩ ?_
  rotate_right
  · intro vs w1 _ hph hk
    simp only [putAll, Act.put, KnowsAll, nthF, Is, Any, List.setIfInBounds_toArray, List.set_cons_zero, List.set_cons_succ, Nat.reduceAdd, List.length_cons, List.length_nil] at hk ⊢
    try simp only [hk]
    go_wp2
    go_ret
    exact ⟨rfl, ⟨cv, hph.2⟩, hph.1.2.2⟩
  all_goals
    intro p vs w1 hlo hhi _ hph hk
    simp only [putAll, Act.put, Knows, nthF, Is, List.setIfInBounds_toArray, List.set_cons_zero, List.set_cons_succ, Nat.reduceAdd] at hk ⊢
    try simp only [hk]
  · go_wp2
    exact ⟨_, rfl, rfl, trivial, hph⟩
  · go_wp2
    exact ⟨_, rfl, rfl, trivial, hph⟩
  · have hbx := hph.1.2.1 1
    have hbs := hph.1.1
    go_wp2
    exact ⟨_, rfl, rfl, trivial, hph⟩
  · go_wp2
    exact ⟨_, rfl, rfl, trivial, hph⟩
  · go_wp2
    exact ⟨_, rfl, rfl, trivial, hph⟩
  · go_wp2
    exact ⟨_, rfl, rfl, trivial, hph⟩
  · obtain rfl : p = 0 := by omega
    have hm0 : MRun c w1 s cv 0 0 st := hph.2
    have hc := g16 w1 s hm0
    go_wp2
    exact ⟨_, rfl, rfl, trivial, hph⟩
  · go_wp2
    exact ⟨_, rfl, rfl, trivial, hph⟩
  · have hbx := hph.1.2.1 6
    have hbs := hph.1.1
    go_wp2
    exact ⟨_, rfl, rfl, trivial, hph⟩
  · go_wp2
    exact ⟨_, rfl, rfl, trivial, hph⟩
  · obtain rfl : p = 0 := by omega
    have hm0 : MRun c w1 s cv 0 0 st := hph.2
    have hc := gs w1 hm0
    go_wp2
    exact ⟨_, rfl, rfl, trivial, hph⟩
  · go_wp2
    exact ⟨_, rfl, rfl, trivial, hph⟩
  · go_wp2
    exact ⟨_, rfl, rfl, trivial, hph⟩
  · go_wp2
    exact ⟨_, rfl, rfl, trivial, hph⟩
  · obtain rfl : p = 0 := by omega
    have hm0 : MRun c w1 s cv 0 0 st := hph.2
    have hc := hm0.reg hd
    have hfz := hm0.mat.frozen
    go_wp2
    exact ⟨.bool true, rfl, trivial, trivial, hph.1.set (p := ⟨c.mb, d, none⟩) hsz (.inl rfl) _, hm0.setReg hd hxs⟩

set_option maxHeartbeats 1000000 in
set_option maxRecDepth 100000 in
theorem stack_st (c : Cfg) (s : St) (cv : Value) (st : Int) (d e b cc : Int) (a i : Nat) (args : List Int) (av : Value) (w : World) (h : MRun c w s cv 0 0 st) (hd : a < 16) (hi : i < s.slots.length) :
    Calls Try.prog 165 #[.agg #[], mv ⟨31, d, e, a, b, cc, i, args⟩ av, MPtr c] w (DoQ c w cv st (none, { s with slots := s.slots.set i (s.regs.getD a 0) })) := by
  have hsz := h.size
  obtain ⟨sb, sc, hslv⟩ : ∃ sb sc, c.slv = .slice (some ⟨sb, 0, none⟩) s.slots.length sc := by
    obtain ⟨a', cap', ha', _⟩ := h.slots.shape
    have hs := h.slots
    rw [ha'] at hs
    obtain ⟨b', _, _, hb', _⟩ := hs.at hi
    exact ⟨b', cap', by rw [ha', hb']⟩
  have g16 : ∀ w1 s1, MRun c w1 s1 cv 0 0 st → w1.cell? ⟨c.mb, 16, none⟩ = some (.slice (some ⟨sb, 0, none⟩) s.slots.length sc) := fun w1 s1 h1 => (h1.cellr 0).trans (congrArg some hslv)
  have gs : ∀ w1, MRun c w1 s cv 0 0 st → w1.cell? ⟨sb, i, none⟩ = some (.int .i32 (s.slots.getD i 0)) ∧ (∀ j, w1.frozen? ⟨sb, j, none⟩ = false) := fun w1 h1 => (hslv ▸ h1.slots).cell hi
  have hxr := in32_getD h.r32 a
  have hsb : sb < w.heap.size := h.slots.lt (by rw [hslv]; rfl)
  have gr : ∀ w1, MRun c w1 s cv 0 0 st → w1.cell? ⟨c.mb, a, none⟩ = some (.int .i32 (s.regs.getD a 0)) := fun w1 h1 => h1.reg hd
  generalize s.regs.getD a 0 = xr at *
  unfold DoQ MPtr mv
  dsimp only
  generalize s.slots.getD i 0 = xs at *
  generalize hn : s.slots.length = n at *
  have HN := Lib.hid hn; clear hn
  have HSL := Lib.hid hslv; clear hslv
  have H := Lib.hid h; clear h
  go_enter Try.func165, Try.ntmps165
  go_wp2_with fail
  refine wp_region_phases [14] [0, 0, 0, 0, 0, 0, 0, 0, 0, 0, 0, 0, 0, 0, 0] [0, 0, 0, 0, 0, 0, 0, 0, 0, 0, 0, 0, 0, 0, 0] [0, 0, 0, 0, 0, 0, 0, 0, 0, 0, 0, 0, 0, 0, 1] (fun p w1 => BoxM c cv w w1 ⟨31, d, e, a, b, cc, i, args⟩ av ∧ MRun c w1 (if p = 0 then s else { s with slots := s.slots.set i xr }) cv 0 0 st) rfl (by decide +kernel) (by decide +kernel) (by decide +kernel)
    [Is (.pointer (some ⟨c.mb, 0, none⟩)), Is (.pointer (some ⟨c.mb, 0, none⟩)), Is (.pointer (some ⟨c.mb, 16, none⟩)), Is (.slice (some ⟨sb, 0, none⟩) n sc), Is (.pointer (some ⟨w.heap.size + 1, 6, none⟩)), Is (.int .i32 i), Is (.pointer (some ⟨c.mb, 0, none⟩)), Is (.pointer (some ⟨w.heap.size + 1, 3, none⟩)), Is (.int .i64 a), Is (.pointer (some ⟨c.mb, 0, none⟩)), Is (.pointer (some ⟨c.mb, 0, none⟩)), Is (.pointer (some ⟨c.mb, a, none⟩)), Is (.int .i32 xr), Is (.pointer (some ⟨sb, i, none⟩)), Any]
    (by repeat (first | exact trivial | refine ⟨Is.fixed _, ?_⟩ | refine ⟨Any.fixed, ?_⟩)) ⟨BoxM.new c cv w _ ⟨31, d, e, a, b, cc, i, args⟩ av, H.out.keep (((Since.refl w).alloc _).alloc _).drew⟩ ⟨?_, ?_, ?_, ?_, ?_, ?_, ?_, ?_, ?_, ?_, ?_, ?_, ?_, ?_, ?_, trivial⟩ ?_
  rotate_right
  · intro vs w1 _ hph hk
    simp only [putAll, Act.put, KnowsAll, nthF, Is, Any, List.setIfInBounds_toArray, List.set_cons_zero, List.set_cons_succ, Nat.reduceAdd, List.length_cons, List.length_nil] at hk ⊢
    try simp only [hk]
    go_wp2
    go_ret
    exact ⟨rfl, ⟨cv, hph.2⟩, hph.1.2.2⟩
  all_goals
    intro p vs w1 hlo hhi _ hph hk
    simp only [putAll, Act.put, Knows, nthF, Is, List.setIfInBounds_toArray, List.set_cons_zero, List.set_cons_succ, Nat.reduceAdd] at hk ⊢
    try simp only [hk]
  · go_wp2
    exact ⟨_, rfl, rfl, trivial, hph⟩
  · go_wp2
    exact ⟨_, rfl, rfl, trivial, hph⟩
  · go_wp2
    exact ⟨_, rfl, rfl, trivial, hph⟩
  · obtain rfl : p = 0 := by omega
    have hm0 : MRun c w1 s cv 0 0 st := hph.2
    have hc := g16 w1 s hm0
    go_wp2
    exact ⟨_, rfl, rfl, trivial, hph⟩
  · go_wp2
    exact ⟨_, rfl, rfl, trivial, hph⟩
  · have hbx := hph.1.2.1 6
    have hbs := hph.1.1
    go_wp2
    exact ⟨_, rfl, rfl, trivial, hph⟩
  · go_wp2
    exact ⟨_, rfl, rfl, trivial, hph⟩
  · go_wp2
    exact ⟨_, rfl, rfl, trivial, hph⟩
  · have hbx := hph.1.2.1 3
    have hbs := hph.1.1
    go_wp2
    exact ⟨_, rfl, rfl, trivial, hph⟩
  · go_wp2
    exact ⟨_, rfl, rfl, trivial, hph⟩
  · go_wp2
    exact ⟨_, rfl, rfl, trivial, hph⟩
  · go_wp2
    exact ⟨_, rfl, rfl, trivial, hph⟩
  · obtain rfl : p = 0 := by omega
    have hm0 : MRun c w1 s cv 0 0 st := hph.2
    have hc := gr w1 hm0
    go_wp2
    exact ⟨_, rfl, rfl, trivial, hph⟩
  · go_wp2
    exact ⟨_, rfl, rfl, trivial, hph⟩
  · obtain rfl : p = 0 := by omega
    have hm0 : MRun c w1 s cv 0 0 st := hph.2
    obtain ⟨hc, hfz⟩ := gs w1 hm0
    go_wp2
    exact ⟨.bool true, rfl, trivial, trivial, hph.1.set (p := ⟨sb, i, none⟩) hsb (.inr (.inl (by rw [HSL.out]; rfl))) _, hm0.setSlot (HSL.out.trans (by rw [HN.out])) (by rw [HN.out]; exact hi) hxr⟩
end Go.Proofs.Ytkpbmbhejpmboaa
