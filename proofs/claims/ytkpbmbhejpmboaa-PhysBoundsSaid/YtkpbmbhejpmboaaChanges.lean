/- order.changes. -/
import Derived.Test.YtkpbmbhejpmboaaConcat
namespace Go.Proofs.Ytkpbmbhejpmboaa
open Go.RowKit
set_option linter.unusedVariables false

def changes (m : Mach) : List Int := makes m ++ spoils m
theorem takes7_len (m : Mach) (h : m.args.length ≤ 1000) : (takes7 m).length ≤ 1000 := by
  unfold takes7; repeat' split
  all_goals first | exact h | simp
theorem makes7_len (m : Mach) : (makes7 m).length ≤ 2 := by
  unfold makes7; repeat' split
  all_goals simp
theorem takes_len (m : Mach) (h : m.args.length ≤ 1000) : (takes m).length ≤ 1000 := by
  unfold takes; repeat' split
  all_goals first | exact takes7_len m h | simp
theorem makes_len (m : Mach) : (makes m).length ≤ 2 := by
  unfold makes; repeat' split
  all_goals first | exact makes7_len m | simp
theorem spoils_len (m : Mach) : (spoils m).length ≤ 3 := by
  unfold spoils; split <;> simp
theorem changes_len (m : Mach) : (changes m).length ≤ 5 := by
  unfold changes; rw [List.length_append]; have := makes_len m; have := spoils_len m; omega

theorem Rows2.keep {w w' : World} {v : Value} {rows : List (Value × List Int)} (h : Rows2 w v rows) (s : Since w w') : Rows2 w' v rows := by
  obtain ⟨b, off, cap, h1, h2, h3⟩ := h
  exact ⟨b, off, cap, h1, Nat.lt_of_lt_of_le h2 s.size, fun j x hj => ⟨by rw [s.cell h2]; exact (h3 j x hj).1, (h3 j x hj).2.keep s⟩⟩
def IsRows (l1 l2 : List Int) (v : Value) (w : World) : Prop := ∃ v1 v2, Rows2 w v [(v1, l1), (v2, l2)]
theorem IsRows.stable (l1 l2 : List Int) : Stable (IsRows l1 l2) := fun _ _ _ ⟨v1, v2, h⟩ hs => ⟨v1, v2, h.keep hs⟩
theorem rows_last {w : World} {b : Nat} (hb : b = w.heap.size) (t : TypeId) {v1 v2 : Value} {l1 l2 : List Int} (h1 : Nums .i64 w v1 l1) (h2 : Nums .i64 w v2 l2) : IsRows l1 l2 (.slice (some ⟨b, 0, none⟩) 2 2) (w.alloc (.cells #[v1, v2] t)) := by
  subst hb
  refine ⟨v1, v2, w.heap.size, 0, 2, rfl, by simp, fun j x hj => ?_⟩
  have hs : Since w (w.alloc (.cells #[v1, v2] t)) := (Since.refl w).alloc _
  match j, hj with
  | 0, hj => obtain rfl : (v1, l1) = x := by simpa using hj
             exact ⟨by unfold World.cell?; rw [show (w.alloc (.cells #[v1, v2] t)).heap[w.heap.size]? = _ from heap_last _ _]; rfl, h1.keep hs⟩
  | 1, hj => obtain rfl : (v2, l2) = x := by simpa using hj
             exact ⟨by unfold World.cell?; rw [show (w.alloc (.cells #[v1, v2] t)).heap[w.heap.size]? = _ from heap_last _ _]; rfl, h2.keep hs⟩
  | j + 2, hj => simp at hj

set_option maxHeartbeats 1000000 in
set_option maxRecDepth 100000 in
theorem changes_any (m : Mach) (av : Value) (w : World) (h : Ints w av m.args) (hf : Fine m) :
    Calls Try.prog 88 #[mv m av] w (Gives w (changes m)) := by
  have H := Lib.hid h; clear h
  have HM : Hid (∀ w, Ints w av m.args → Calls Try.prog 22 #[mv m av] w (Gives w (makes m))) := fun w h => makes_any m av w h hf
  have HS : Hid (∀ w, Calls Try.prog 23 #[mv m av] w (Gives w (spoils m))) := fun w => spoils_any m av w
  have HL : Hid (total [((.nilFunc : Value), makes m), (.nilFunc, spoils m)] ≤ 100000) := by
    have := makes_len m; have := spoils_len m; unfold Hid total; simp; omega
  have e : changes m = joined [((.nilFunc : Value), makes m), (.nilFunc, spoils m)] := by simp [changes, joined]
  rw [e]; clear e
  unfold mv
  go_enter Try.func88, Try.ntmps88
  go_wp2
  refine wp_region_list_facts rfl (by decide +kernel) (by decide +kernel)
    [Is (mv m av), IsNums .i64 (makes m), Is (mv m av), IsNums .i64 (spoils m), IsRows (makes m) (spoils m), IsNums .i64 (joined [((.nilFunc : Value), makes m), (.nilFunc, spoils m)]), IsNums .i64 (joined [((.nilFunc : Value), makes m), (.nilFunc, spoils m)])]
    ⟨Is.stable _, IsNums.stable _ _, Is.stable _, IsNums.stable _ _, IsRows.stable _ _, IsNums.stable _ _, IsNums.stable _ _, trivial⟩ ⟨?_, ?_, ?_, ?_, ?_, ?_, ?_, trivial⟩ ?_
  all_goals
    intro vs w1 hs hk
    have hc : ∀ i, w1.cell? ⟨w.heap.size, i, none⟩ = _ := fun i => hs.cell (p := ⟨w.heap.size, i, none⟩) (by simp)
    simp only [putAll, Act.put, Knows, KnowsAll, nthF, Is, List.setIfInBounds_toArray, List.set_cons_zero, List.set_cons_succ, Nat.reduceAdd, List.length_cons, List.length_nil] at hk ⊢
    try simp only [hk]
  · go_wp2
    exact ⟨_, rfl, rfl, Since.refl _⟩
  · go_wp2_with fail
    refine (HM.out _ ((H.out.keep ((Since.refl _).alloc _)).keep hs)).mono ?_
    rintro e w2 ⟨v, rfl, hv, hs2⟩
    go_wp2
    exact ⟨_, rfl, hv, hs2⟩
  · go_wp2
    exact ⟨_, rfl, rfl, Since.refl _⟩
  · go_wp2_with fail
    refine (HS.out _).mono ?_
    rintro e w2 ⟨v, rfl, hv, hs2⟩
    go_wp2
    exact ⟨_, rfl, hv, hs2⟩
  · obtain ⟨h1, h2, _⟩ := hk
    obtain ⟨a1, c1, e1⟩ := nums_lenI h1
    obtain ⟨a2, c2, e2⟩ := nums_lenI h2
    rw [e1] at h1 ⊢
    rw [e2] at h2 ⊢
    have H1 := Lib.hid h1; clear h1
    have H2 := Lib.hid h2; clear h2
    go_wp2
    exact ⟨_, rfl, rows_last rfl _ H1.out H2.out, (Since.refl _).alloc _⟩
  · obtain ⟨⟨v1, v2, h1⟩, _⟩ := hk
    have H1 := Lib.hid h1; clear h1
    go_wp2_with fail
    refine (concat_any _ _ _ H1.out (by simp) HL.out).mono ?_
    rintro e w2 ⟨v, rfl, hv, hs2⟩
    go_wp2
    exact ⟨_, rfl, hv, hs2⟩
  · go_wp2
    exact ⟨_, rfl, hk.1, Since.refl _⟩
  · go_wp2
    go_ret
    exact ⟨_, rfl, hk.2.2.2.2.2.2.1, ((Since.refl _).alloc _).trans hs⟩
end Go.Proofs.Ytkpbmbhejpmboaa
