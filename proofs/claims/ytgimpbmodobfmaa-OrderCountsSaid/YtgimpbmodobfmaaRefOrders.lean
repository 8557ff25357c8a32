/- jacquardref17.Orders. -/
import Derived.Test.YtgimpbmodobfmaaRefCount
namespace Go.Proofs.Ytgimpbmodobfmaa
open Go.RowKit
set_option linter.unusedVariables false

theorem madeB_facts {w w1 : World} {n : Nat} (hown : w1.ownsRow w.heap.size 4 1 (.slice (some ⟨w.heap.size, 0, none⟩) n n) n (madeCells (Value.bool false).cells (n * 1)).toList) (hgrow : w.grownBy w1 none) :
    Since w w1 ∧ GoneAt w1 w.heap.size n 0 := by
  refine ⟨Below.grown (Since.refl w) hgrow (Nat.le_refl _) (fun _ h => by cases h), ?_⟩
  obtain ⟨_, ⟨hv, _⟩ | ⟨g, cap, cur, hv, _, hg, _, _, hsz, htake⟩⟩ := hown
  · cases hv
  · injection hv with hv hv2 hv3
    injection hv with hv
    injection hv with hv
    subst hv; subst hv3
    unfold GoneAt
    rw [hg]
    have h1 : cur.toList = List.replicate n (Value.bool false) := by
      rw [List.take_of_length_le (by simp [hsz])] at htake
      rw [htake]
      show (madeCells #[Value.bool false] (n * 1)).toList = _
      rw [toList_madeCells_one, Nat.mul_one]
    have h2 : cur = (List.replicate n (Value.bool false)).toArray := by rw [← h1]
    have h3 : (gonesL n 0).map Value.bool = List.replicate n (Value.bool false) := by
      apply List.ext_getElem?; intro t
      simp only [gonesL, List.getElem?_map, List.getElem?_replicate]
      by_cases h : t < n <;> simp [h]
    rw [h2, h3]

theorem unset_lt (n g : Nat) : unset n g < n + 1 := Nat.lt_succ_of_le (unset_le n g)

set_option maxHeartbeats 2000000 in
theorem rorders_any (v : Value) (ms : List (Mach × Value)) (w : World) (h : Machs w v ms) (hn : ms.length ≤ 12) :
    Calls Try.prog 11 #[v] w (NumS (ordersI (depAt ms) ms.length) w) := by
  have hcount := fun w1 gb hs hgb hga => rcount_any ms v w h hn gb hgb (ms.length + 1) 0 w1 (unset_lt _ _) (Nat.pow_pos (by decide)) hs hga
  have hshape : ∃ a cap, v = .slice a ms.length cap := by
    rcases h with ⟨_, h1, h2⟩ | ⟨b, off, cap, h1, _⟩
    · subst h2; exact ⟨_, _, h1⟩
    · exact ⟨_, _, h1⟩
  obtain ⟨a, cap, rfl⟩ := hshape
  clear h
  change ∀ w1 gb, _ → _ → _ → Calls _ _ _ _ (NumS (ordersI (depAt ms) ms.length) w1) at hcount
  generalize hX : ordersI (depAt ms) ms.length = X at *
  clear hX
  generalize hN : ms.length = n at *
  clear hN
  have HCALL := Lib.hid hcount; clear hcount
  obtain ⟨ti, hi, hz0, hz1, hz2⟩ := info_parts (P := Try.prog) (e := 4) (z := .bool false) (size := 1) (bytes := 1) (by kernel_rfl)
  go_enter Try.func11, Try.ntmps11
  go_wp2_with (at_make; refine wpList_make_full _ rfl (.tmp 8) (.tmp 8) 42 rfl w.heap.size 4 ti (.bool false) 1 Try.underlying42 hi hz0 hz1 .i64 .i64 _ _ n rfl rfl rfl rfl (by rw [hz2]; omega) (by unfold maxLen; omega) (by simp) ?_; intro w1 hown hgrow; obtain ⟨hs1, hga⟩ := madeB_facts hown hgrow; clear hown hgrow; have HG := Lib.hid hga; have HS1 := Lib.hid hs1; clear hga hs1)
  go_wp2_with fail
  refine (HCALL.out _ _ HS1.out (Nat.le_refl _) HG.out).mono ?_
  rintro e w2 ⟨rfl, hs2⟩
  go_wp2
  go_ret
  exact ⟨rfl, HS1.out.trans hs2⟩
end Go.Proofs.Ytgimpbmodobfmaa
