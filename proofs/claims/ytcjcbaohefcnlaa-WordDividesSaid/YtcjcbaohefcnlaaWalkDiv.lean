/- The walk of WordDivides. -/
import Derived.Test.YtcjcbaohefcnlaaDoes
namespace Go.Proofs.Ytcjcbaohefcnlaa
open Go.RowKit

theorem div_least : (doesI 14 (-2147483648) (-1) == -2147483648) = true := by decide +kernel
theorem div_one {a : Int} (ha : R32 a) : (doesI 14 a 1 == a) = true := by
  have h : doesI 14 a 1 = wrap32 (a.tdiv 1) := rfl
  rw [h, Int.tdiv_one, IntWalk.wrap32_in _ ha]; simp
theorem div_zero (a : Int) : doI 14 a 0 = none := rfl
theorem div_some {a b : Int} (hb : b ≠ 0) : doI 14 a b = some (wrap32 (a.tdiv b)) := by simp [doI, hb]

/-- The quotient, the rest and the size. -/
theorem div_facts {a b : Int} (ha : R32 a) (hb : R32 b) (h0 : b ≠ 0) (hn : ¬ (a = -2147483648 ∧ b = -1)) :
    wrap32 (a.tdiv b) = a.tdiv b ∧ a - b * a.tdiv b = a.tmod b ∧ (a.tmod b).natAbs < b.natAbs ∧ (0 ≤ a → 0 ≤ a.tmod b) ∧ (a < 0 → a.tmod b ≤ 0) ∧ -2147483648 ≤ a.tdiv b ∧ a.tdiv b ≤ 2147483647 := by
  obtain ⟨a1, a2⟩ := ha
  have hr : a - b * a.tdiv b = a.tmod b := by have := Int.tmod_def a b; omega
  have hs : (a.tmod b).natAbs < b.natAbs := by rw [Int.natAbs_tmod]; exact Nat.mod_lt _ (by omega)
  have hq : (a.tdiv b).natAbs ≤ a.natAbs := by rw [Int.natAbs_tdiv]; exact Nat.div_le_self _ _
  have hq2 : a.tdiv b ≠ 2147483648 := by
    intro e
    have h1 : a.natAbs = 2147483648 := by omega
    have h2 : (a.tdiv b).natAbs = a.natAbs / b.natAbs := Int.natAbs_tdiv ..
    have h3 : b.natAbs = 1 := by
      rcases Nat.lt_or_ge b.natAbs 2 with h | h
      · omega
      · have : a.natAbs / b.natAbs ≤ a.natAbs / 2 := Nat.div_le_div_left h (by omega)
        omega
    have h4 : a = -2147483648 := by omega
    rcases (by omega : b = 1 ∨ b = -1) with h5 | h5
    · subst h5; rw [Int.tdiv_one] at e; omega
    · exact hn ⟨h4, h5⟩
  have hsign : (0 ≤ a → 0 ≤ a.tmod b) ∧ (a < 0 → a.tmod b ≤ 0) := by
    refine ⟨fun h => Int.tmod_nonneg b h, fun h => ?_⟩
    have := Int.tmod_nonneg b (a := -a) (by omega)
    rw [Int.neg_tmod] at this
    omega
  refine ⟨IntWalk.wrap32_in _ ⟨by omega, by omega⟩, hr, hs, hsign.1, hsign.2, by omega, by omega⟩

theorem one_r : R32 1 := by constructor <;> decide
theorem minus_r : R32 (-1) := by constructor <;> decide
theorem least_r : R32 (-2147483648) := by constructor <;> decide

set_option maxHeartbeats 1000000 in
theorem walk_div_zero (a : Int) (ha : R32 a) (w : World) :
    Calls Try.prog 8 #[.int .i32 a, .int .i32 0] w fun e w' => e = .returned (.bool true) ∧ Since w w' := by
  have hb : R32 0 := by constructor <;> decide
  have hm := minus_r
  have hl := least_r
  have f1 := div_least
  have hd := div_zero a
  have HD := Lib.hid hd; clear hd
  go_enter Try.func8, Try.ntmps8
  go_wp2_with (first | (go_at_call 11; refine (shown_s _).mono ?_; rintro e w' ⟨rfl, hs⟩) | (go_at_call 16; refine (does_s _ _ _ w _ (by assumption) (by repeat (first | assumption | apply R32.does)) (by repeat (first | assumption | apply R32.does))).mono ?_; rintro e w' ⟨rfl, hs⟩) | (go_at_call 12; refine (do_s _ _ _ w _ (by assumption) ha hb).mono ?_; rw [HD.out]; rintro e w' ⟨rfl, hs⟩))
  go_ret
  exact ⟨rfl, by assumption⟩

set_option maxHeartbeats 1000000 in
theorem walk_div_least (w : World) :
    Calls Try.prog 8 #[.int .i32 (-2147483648), .int .i32 (-1)] w fun e w' => e = .returned (.bool true) ∧ Since w w' := by
  have hb := minus_r
  have ha := least_r
  have f1 := div_least
  have hd : doI 14 (-2147483648) (-1) = some (-2147483648) := by decide +kernel
  have HD := Lib.hid hd; clear hd
  go_enter Try.func8, Try.ntmps8
  go_wp2_with (first | (go_at_call 11; refine (shown_s _).mono ?_; rintro e w' ⟨rfl, hs⟩) | (go_at_call 16; refine (does_s _ _ _ w _ (by assumption) (by repeat (first | assumption | apply R32.does)) (by repeat (first | assumption | apply R32.does))).mono ?_; rintro e w' ⟨rfl, hs⟩) | (go_at_call 12; refine (do_s _ _ _ w _ (by assumption) ha hb).mono ?_; rw [HD.out]; rintro e w' ⟨rfl, hs⟩))
  go_ret
  exact ⟨rfl, by assumption⟩

set_option maxHeartbeats 1000000 in
/-- The way through, every test decided ahead: q the quotient, m = b * q. -/
theorem walk_div_some (a b q m : Int) (ha : R32 a) (hb : R32 b) (hd : doI 14 a b = some q) (hm : b * q = m) (h0 : (b == 0) = false)
    (hbig : -9000000000 ≤ m ∧ m ≤ 9000000000) (hq : -2147483648 ≤ q ∧ q ≤ 2147483647)
    (hmin : (a == -2147483648) = false ∨ (a == -2147483648) = true ∧ (b == -1) = false)
    (hsize : b < 0 ∧ a - m < -b ∧ -(a - m) < -b ∨ ¬ b < 0 ∧ a - m < b ∧ -(a - m) < b)
    (hsign : (a - m == 0) = true ∨ (a - m == 0) = false ∧ a - m < 0 ∧ a < 0 ∨ (a - m == 0) = false ∧ ¬ a - m < 0 ∧ ¬ a < 0) (w : World) :
    Calls Try.prog 8 #[.int .i32 a, .int .i32 b] w fun e w' => e = .returned (.bool true) ∧ Since w w' := by
  have hmr := minus_r
  have hl := least_r
  have h1r := one_r
  have f1 := div_least
  have f2 := div_one ha
  have a1 := ha.1
  have a2 := ha.2
  have b1 := hb.1
  have b2 := hb.2
  have HD := Lib.hid hd; clear hd
  rcases hmin with k1 | ⟨k1, k2⟩ <;> rcases hsize with ⟨k3, k4, k5⟩ | ⟨k3, k4, k5⟩ <;> rcases hsign with k6 | ⟨k6, k7, k8⟩ | ⟨k6, k7, k8⟩
  all_goals
    go_enter Try.func8, Try.ntmps8
    go_wp2_with (first | (go_at_call 11; refine (shown_s _).mono ?_; rintro e w' ⟨rfl, hs⟩) | (go_at_call 16; refine (does_s _ _ _ w _ (by assumption) (by repeat (first | assumption | apply R32.does)) (by repeat (first | assumption | apply R32.does))).mono ?_; rintro e w' ⟨rfl, hs⟩) | (go_at_call 12; refine (do_s _ _ _ w _ (by assumption) ha hb).mono ?_; rw [HD.out]; rintro e w' ⟨rfl, hs⟩))
    go_ret
    exact ⟨rfl, by assumption⟩

theorem walk_div (a b : Int) (ha : (Lit.int .i32 a).wf = true) (hb : (Lit.int .i32 b).wf = true) (w : World) :
    Calls Try.prog 8 #[.int .i32 a, .int .i32 b] w fun e w' => e = .returned (.bool true) ∧ Below w.heap.size w w' := by
  have ha := R32.of_wf ha
  have hb := R32.of_wf hb
  by_cases h0 : b = 0
  · subst h0; exact walk_div_zero a ha w
  by_cases hn : a = -2147483648 ∧ b = -1
  · obtain ⟨rfl, rfl⟩ := hn; exact walk_div_least w
  obtain ⟨g1, g2, g3, g4, g4', g5, g6⟩ := div_facts ha hb h0 hn
  have hd := div_some (a := a) h0
  rw [g1] at hd
  have a1 := ha.1
  have a2 := ha.2
  have b1 := hb.1
  have b2 := hb.2
  refine walk_div_some a b _ _ ha hb hd rfl (by simpa using h0) (by omega) ⟨g5, g6⟩ ?_ (by omega) ?_ w
  · by_cases h : a = -2147483648
    · right; exact ⟨by simpa using h, by simp; omega⟩
    · left; simpa using h
  · by_cases h : a - b * a.tdiv b = 0
    · left; simpa using h
    · right
      by_cases k : a < 0
      · left; exact ⟨by simpa using h, by omega, k⟩
      · right; exact ⟨by simpa using h, by omega, k⟩
end Go.Proofs.Ytcjcbaohefcnlaa
