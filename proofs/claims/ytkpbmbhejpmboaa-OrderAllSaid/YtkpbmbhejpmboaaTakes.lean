/- What the instruction's places are: mach.Takes, mach.Makes, phys.Takes, phys.Makes, phys.Spoils, and the references'. -/
import Derived.Test.YtkpbmbhejpmboaaKindOf
import Derived.Test.YtkpbmbhejpmboaaRegion
namespace Go.Proofs.Ytkpbmbhejpmboaa
open Go.RowKit
set_option linter.unusedVariables false

def IsKinds (m : Mach) (v : Value) (_ : World) : Prop := ∃ x y, v = .agg #[.func (.func x) #[] #[], .func (.func y) #[] #[]] ∧ KindAt x m (takes7 m) ∧ KindAt y m (makes7 m)
theorem IsKinds.stable (m : Mach) : Stable (IsKinds m) := fun _ _ _ h _ => h
def IsPlaces (m : Mach) (l : List Int) (v : Value) (_ : World) : Prop := ∃ x, v = .func (.func x) #[] #[] ∧ KindAt x m l
theorem IsPlaces.stable (m : Mach) (l : List Int) : Stable (IsPlaces m l) := fun _ _ _ h _ => h

set_option maxHeartbeats 400000 in
set_option maxRecDepth 100000 in
theorem takes7_any (m : Mach) (av : Value) (w : World) (h : Ints w av m.args) (hl : m.args.length ≤ 1000) :
    Calls Try.prog 55 #[mv m av] w (Gives w (takes7 m)) := by
  have HK : Hid (∀ w, Calls Try.prog 85 #[.int .i64 m.op] w (KindOf m w)) := fun w => kindOf_any m w
  have H := Lib.hid h; clear h
  unfold mv
  go_enter Try.func55, Try.ntmps55
  go_wp2
  refine wp_region_list_facts rfl (by decide +kernel) (by decide +kernel)
    [Is (.pointer (some ⟨w.heap.size, 0, none⟩)), Is (.int .i64 m.op), IsKinds m, IsPlaces m (takes7 m), Is (mv m av), IsNums .i64 (takes7 m), IsNums .i64 (takes7 m)]
    ⟨Is.stable _, Is.stable _, IsKinds.stable _, IsPlaces.stable _ _, Is.stable _, IsNums.stable _ _, IsNums.stable _ _, trivial⟩ ⟨?_, ?_, ?_, ?_, ?_, ?_, ?_, trivial⟩ ?_
  all_goals
    intro vs w1 hs hk
    have hc : ∀ i, w1.cell? ⟨w.heap.size, i, none⟩ = _ := fun i => hs.cell (p := ⟨w.heap.size, i, none⟩) (by simp)
    simp only [putAll, Act.put, Knows, KnowsAll, nthF, Is, List.setIfInBounds_toArray, List.set_cons_zero, List.set_cons_succ, Nat.reduceAdd, List.length_cons, List.length_nil] at hk ⊢
    try simp only [hk]
  · go_wp2
    exact ⟨_, rfl, rfl, Since.refl _⟩
  · go_wp2
    exact ⟨_, rfl, rfl, Since.refl _⟩
  · go_wp2_with (go_at_call 85; refine (HK.out _).mono ?_; rintro e w2 ⟨x, y, rfl, hx, hy, hs2⟩)
    exact ⟨_, rfl, ⟨x, y, rfl, hx, hy⟩, hs2⟩
  · obtain ⟨⟨x, y, hxy, hx, hy⟩, _⟩ := hk
    rw [hxy]
    go_wp2
    rename_i hK
    exact hK _ _ ⟨_, rfl, ⟨x, rfl, hx⟩, Since.refl _⟩
  · go_wp2
    exact ⟨_, rfl, rfl, Since.refl _⟩
  · obtain ⟨⟨x, hx, hx2⟩, h4, _⟩ := hk
    rw [hx]
    have hent := hx2.1
    have HC := Lib.hid hx2.2; clear hx2
    unfold Enters at hent
    go_wp2_with fail
    refine (HC.out av _ ((H.out.keep ((Since.refl _).alloc _)).keep hs) hl).mono ?_
    rintro e w2 ⟨v, rfl, hv, hs2⟩
    go_wp2
    exact ⟨_, rfl, hv, hs2⟩
  · go_wp2
    exact ⟨_, rfl, hk.1, Since.refl _⟩
  · go_wp2
    go_ret
    exact ⟨_, rfl, hk.2.2.2.2.2.2.1, ((Since.refl _).alloc _).trans hs⟩
set_option maxHeartbeats 400000 in
set_option maxRecDepth 100000 in
theorem makes7_any (m : Mach) (av : Value) (w : World) (h : Ints w av m.args) (hl : m.args.length ≤ 1000) :
    Calls Try.prog 56 #[mv m av] w (Gives w (makes7 m)) := by
  have HK : Hid (∀ w, Calls Try.prog 85 #[.int .i64 m.op] w (KindOf m w)) := fun w => kindOf_any m w
  have H := Lib.hid h; clear h
  unfold mv
  go_enter Try.func56, Try.ntmps56
  go_wp2
  refine wp_region_list_facts rfl (by decide +kernel) (by decide +kernel)
    [Is (.pointer (some ⟨w.heap.size, 0, none⟩)), Is (.int .i64 m.op), IsKinds m, IsPlaces m (makes7 m), Is (mv m av), IsNums .i64 (makes7 m), IsNums .i64 (makes7 m)]
    ⟨Is.stable _, Is.stable _, IsKinds.stable _, IsPlaces.stable _ _, Is.stable _, IsNums.stable _ _, IsNums.stable _ _, trivial⟩ ⟨?_, ?_, ?_, ?_, ?_, ?_, ?_, trivial⟩ ?_
  all_goals
    intro vs w1 hs hk
    have hc : ∀ i, w1.cell? ⟨w.heap.size, i, none⟩ = _ := fun i => hs.cell (p := ⟨w.heap.size, i, none⟩) (by simp)
    simp only [putAll, Act.put, Knows, KnowsAll, nthF, Is, List.setIfInBounds_toArray, List.set_cons_zero, List.set_cons_succ, Nat.reduceAdd, List.length_cons, List.length_nil] at hk ⊢
    try simp only [hk]
  · go_wp2
    exact ⟨_, rfl, rfl, Since.refl _⟩
  · go_wp2
    exact ⟨_, rfl, rfl, Since.refl _⟩
  · go_wp2_with (go_at_call 85; refine (HK.out _).mono ?_; rintro e w2 ⟨x, y, rfl, hx, hy, hs2⟩)
    exact ⟨_, rfl, ⟨x, y, rfl, hx, hy⟩, hs2⟩
  · obtain ⟨⟨x, y, hxy, hx, hy⟩, _⟩ := hk
    rw [hxy]
    go_wp2
    rename_i hK
    exact hK _ _ ⟨_, rfl, ⟨y, rfl, hy⟩, Since.refl _⟩
  · go_wp2
    exact ⟨_, rfl, rfl, Since.refl _⟩
  · obtain ⟨⟨x, hx, hx2⟩, h4, _⟩ := hk
    rw [hx]
    have hent := hx2.1
    have HC := Lib.hid hx2.2; clear hx2
    unfold Enters at hent
    go_wp2_with fail
    refine (HC.out av _ ((H.out.keep ((Since.refl _).alloc _)).keep hs) hl).mono ?_
    rintro e w2 ⟨v, rfl, hv, hs2⟩
    go_wp2
    exact ⟨_, rfl, hv, hs2⟩
  · go_wp2
    exact ⟨_, rfl, hk.1, Since.refl _⟩
  · go_wp2
    go_ret
    exact ⟨_, rfl, hk.2.2.2.2.2.2.1, ((Since.refl _).alloc _).trans hs⟩

/-- The places that an instruction of registers takes, makes, spoils. -/
def takes (m : Mach) : List Int := if m.op = 2 then [m.a, m.b] else if m.op = 30 then [16 + m.imm] else takes7 m
def makes (m : Mach) : List Int := if m.op = 2 then [m.a, m.b] else if m.op = 31 then [16 + m.imm] else makes7 m
def spoils (m : Mach) : List Int := if m.op = 28 then [1, 2, 3] else []

/-- What Go's types say of an instruction's number, and that it has few operands. -/
def Fine (m : Mach) : Prop := -2147483648 ≤ m.imm ∧ m.imm ≤ 2147483647 ∧ m.args.length ≤ 1000


set_option maxHeartbeats 400000 in
set_option maxRecDepth 100000 in
theorem takes_any (m : Mach) (av : Value) (w : World) (h : Ints w av m.args) (hf : Fine m) :
    Calls Try.prog 25 #[mv m av] w (Gives w (takes m)) := by
  obtain ⟨h1, h2, hl⟩ := hf
  have H := Lib.hid h; clear h
  have HC : Hid (∀ w, Ints w av m.args → Calls Try.prog 55 #[mv m av] w (Gives w (takes7 m))) := fun w h => takes7_any m av w h hl
  unfold mv at HC ⊢
  by_cases g1 : m.op = 2
  · have e : takes m = [m.a, m.b] := by unfold takes; rw [if_pos g1]
    rw [e]; clear e
    have g1' : (m.op == 2) = true := by simpa using g1
    clear g1
    go_enter Try.func25, Try.ntmps25
    go_wp2
    go_ret
    exact gives_last ((Since.refl _).alloc _) _ _ (by simp) rfl (by simp [maxLen]) rfl
  · have g1' : (m.op == 2) = false := by simpa using g1
    by_cases g2 : m.op = 30
    · have e : takes m = [16 + m.imm] := by unfold takes; rw [if_neg g1, if_pos g2]
      rw [e]; clear e
      have g2' : (m.op == 30) = true := by simpa using g2
      clear g1 g2
      go_enter Try.func25, Try.ntmps25
      go_wp2
      go_ret
      exact gives_last ((Since.refl _).alloc _) _ _ (by simp) rfl (by simp [maxLen]) rfl
    · have e : takes m = takes7 m := by unfold takes; rw [if_neg g1, if_neg g2]
      rw [e]; clear e
      have g2' : (m.op == 30) = false := by simpa using g2
      clear g1 g2
      go_enter Try.func25, Try.ntmps25
      go_wp2_with (go_at_call 55; refine (HC.out _ (H.out.keep ((Since.refl _).alloc _))).mono ?_; rintro e w1 ⟨v, rfl, hv, hs⟩)
      go_ret
      exact ⟨_, rfl, hv, ((Since.refl _).alloc _).trans hs⟩

set_option maxHeartbeats 400000 in
set_option maxRecDepth 100000 in
theorem makes_any (m : Mach) (av : Value) (w : World) (h : Ints w av m.args) (hf : Fine m) :
    Calls Try.prog 22 #[mv m av] w (Gives w (makes m)) := by
  obtain ⟨h1, h2, hl⟩ := hf
  have H := Lib.hid h; clear h
  have HC : Hid (∀ w, Ints w av m.args → Calls Try.prog 56 #[mv m av] w (Gives w (makes7 m))) := fun w h => makes7_any m av w h hl
  unfold mv at HC ⊢
  by_cases g1 : m.op = 2
  · have e : makes m = [m.a, m.b] := by unfold makes; rw [if_pos g1]
    rw [e]; clear e
    have g1' : (m.op == 2) = true := by simpa using g1
    clear g1
    go_enter Try.func22, Try.ntmps22
    go_wp2
    go_ret
    exact gives_last ((Since.refl _).alloc _) _ _ (by simp) rfl (by simp [maxLen]) rfl
  · have g1' : (m.op == 2) = false := by simpa using g1
    by_cases g2 : m.op = 31
    · have e : makes m = [16 + m.imm] := by unfold makes; rw [if_neg g1, if_pos g2]
      rw [e]; clear e
      have g2' : (m.op == 31) = true := by simpa using g2
      clear g1 g2
      go_enter Try.func22, Try.ntmps22
      go_wp2
      go_ret
      exact gives_last ((Since.refl _).alloc _) _ _ (by simp) rfl (by simp [maxLen]) rfl
    · have e : makes m = makes7 m := by unfold makes; rw [if_neg g1, if_neg g2]
      rw [e]; clear e
      have g2' : (m.op == 31) = false := by simpa using g2
      clear g1 g2
      go_enter Try.func22, Try.ntmps22
      go_wp2_with (go_at_call 56; refine (HC.out _ (H.out.keep ((Since.refl _).alloc _))).mono ?_; rintro e w1 ⟨v, rfl, hv, hs⟩)
      go_ret
      exact ⟨_, rfl, hv, ((Since.refl _).alloc _).trans hs⟩

set_option maxHeartbeats 400000 in
set_option maxRecDepth 100000 in
theorem spoils_any (m : Mach) (av : Value) (w : World) : Calls Try.prog 23 #[mv m av] w (Gives w (spoils m)) := by
  unfold mv spoils
  by_cases g : m.op = 28
  · rw [if_pos g]
    have g' : (m.op == 28) = true := by simpa using g
    clear g
    go_enter Try.func23, Try.ntmps23
    go_wp2
    go_ret
    exact gives_last ((Since.refl _).alloc _) _ _ (by simp) rfl (by simp [maxLen]) rfl
  · rw [if_neg g]
    have g' : (m.op == 28) = false := by simpa using g
    clear g
    go_enter Try.func23, Try.ntmps23
    go_wp2
    go_ret
    exact gives_none ((Since.refl _).alloc _)

set_option maxHeartbeats 400000 in
set_option maxRecDepth 100000 in
theorem rspoils_any (m : Mach) (av : Value) (w : World) : Calls Try.prog 63 #[mv m av] w (Gives w (spoils m)) := by
  unfold mv spoils
  by_cases g : m.op = 28
  · rw [if_pos g]
    have g' : (m.op == 28) = true := by simpa using g
    clear g
    go_enter Try.func63, Try.ntmps63
    go_wp2
    go_ret
    exact gives_last ((Since.refl _).alloc _) _ _ (by simp) rfl (by simp [maxLen]) rfl
  · rw [if_neg g]
    have g' : (m.op == 28) = false := by simpa using g
    clear g
    go_enter Try.func63, Try.ntmps63
    go_wp2
    go_ret
    exact gives_none ((Since.refl _).alloc _)
end Go.Proofs.Ytkpbmbhejpmboaa
