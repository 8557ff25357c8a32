/- The walk of WordOrder. -/
import Derived.Test.YtcjcbaohefcnlaaDoes
namespace Go.Proofs.Ytcjcbaohefcnlaa
open Go.RowKit

theorem i_eq (a b : Int) : doesI 11 a b = if a = b then 1 else 0 := by show (some _).getD 0 = _; rfl
theorem i_lt (a b : Int) : doesI 12 a b = if a < b then 1 else 0 := by show (some _).getD 0 = _; rfl
theorem i_ltu (a b : Int) : doesI 13 a b = if a % 4294967296 < b % 4294967296 then 1 else 0 := by show (some _).getD 0 = _; rfl

/-- Of two words just one is so; and what is below goes on. -/
theorem order_one {k a b c : Int} (hk : k = 12 ∨ k = 13) (ha : R32 a) (hb : R32 b) :
    doesI k a a = 0 ∧ ((doesI k a b = 1 ∧ doesI k b a = 0 ∧ doesI 11 a b = 0 ∧ (doesI k b c = 0 ∨ doesI k b c = 1 ∧ doesI k a c = 1)) ∨ (doesI k a b = 0 ∧ doesI k b a = 1 ∧ doesI 11 a b = 0) ∨ (doesI k a b = 0 ∧ doesI k b a = 0 ∧ doesI 11 a b = 1)) := by
  obtain ⟨a1, a2⟩ := ha
  obtain ⟨b1, b2⟩ := hb
  rcases hk with rfl | rfl
  · simp only [i_eq, i_lt]
    refine ⟨by rw [if_neg (by omega)], ?_⟩
    rcases Int.lt_trichotomy a b with h | h | h
    · left; rw [if_pos h, if_neg (by omega), if_neg (by omega)]
      refine ⟨rfl, rfl, rfl, ?_⟩
      by_cases hc : b < c
      · right; rw [if_pos hc, if_pos (by omega)]; exact ⟨rfl, rfl⟩
      · left; rw [if_neg hc]
    · right; right; rw [if_neg (by omega), if_neg (by omega), if_pos h]; exact ⟨rfl, rfl, rfl⟩
    · right; left; rw [if_neg (by omega), if_pos (by omega), if_neg (by omega)]; exact ⟨rfl, rfl, rfl⟩
  · simp only [i_eq, i_ltu]
    refine ⟨by rw [if_neg (by omega)], ?_⟩
    rcases Int.lt_trichotomy (a % 4294967296) (b % 4294967296) with h | h | h
    · left; rw [if_pos h, if_neg (by omega), if_neg (by omega)]
      refine ⟨rfl, rfl, rfl, ?_⟩
      by_cases hc : b % 4294967296 < c % 4294967296
      · right; rw [if_pos hc, if_pos (by omega)]; exact ⟨rfl, rfl⟩
      · left; rw [if_neg hc]
    · right; right; rw [if_neg (by omega), if_neg (by omega), if_pos (by omega)]; exact ⟨rfl, rfl, rfl⟩
    · right; left; rw [if_neg (by omega), if_pos (by omega), if_neg (by omega)]; exact ⟨rfl, rfl, rfl⟩

/-- How the two orders, the signs and the difference stand to one another. -/
theorem order_two {a b : Int} (ha : R32 a) (hb : R32 b) :
    ((a == b) = true ∧ (doesI 3 a b == 0) = true ∧ doesI 11 a b = 1 ∧ doesI 12 a b = 0 ∧ doesI 13 a b = 0 ∧ (a < 0 ∧ b < 0 ∨ ¬ a < 0 ∧ ¬ b < 0)) ∨
    ((a == b) = false ∧ (doesI 3 a b == 0) = false ∧ doesI 11 a b = 0 ∧
      ((a < 0 ∧ b < 0 ∨ ¬ a < 0 ∧ ¬ b < 0) ∧ (doesI 12 a b = 0 ∧ doesI 13 a b = 0 ∨ doesI 12 a b = 1 ∧ doesI 13 a b = 1) ∨
       (a < 0 ∧ ¬ b < 0) ∧ doesI 12 a b = 1 ∧ doesI 13 a b = 0 ∨ (¬ a < 0 ∧ b < 0) ∧ doesI 12 a b = 0 ∧ doesI 13 a b = 1)) := by
  have hsub : doesI 3 a b = wrap32 (a - b) := rfl
  have hz : wrap32 (a - b) = 0 ↔ a = b := by
    obtain ⟨a1, a2⟩ := ha
    obtain ⟨b1, b2⟩ := hb
    unfold wrap32; omega
  obtain ⟨a1, a2⟩ := ha
  obtain ⟨b1, b2⟩ := hb
  rw [hsub, i_eq, i_lt, i_ltu]
  by_cases e : a = b
  · subst e
    left
    refine ⟨by simp, by simpa using hz.2 rfl, by simp, by simp, by simp, by omega⟩
  · right
    refine ⟨by simpa using e, by simpa using fun h => e (hz.1 h), by rw [if_neg e], ?_⟩
    by_cases h1 : a < b <;> by_cases h2 : a % 4294967296 < b % 4294967296
    · rw [if_pos h1, if_pos h2]; left; exact ⟨by omega, by omega⟩
    · rw [if_pos h1, if_neg h2]; right; left; exact ⟨by omega, by omega, by omega⟩
    · rw [if_neg h1, if_pos h2]; right; right; exact ⟨by omega, by omega, by omega⟩
    · rw [if_neg h1, if_neg h2]; left; exact ⟨by omega, by omega⟩

theorem order_three {a b : Int} (ha : R32 a) (hb : R32 b) : (doesI 13 a b == doesI 12 (doesI 7 a (-2147483648)) (doesI 7 b (-2147483648))) = true := by
  obtain ⟨x, rfl⟩ := ha.word; obtain ⟨y, rfl⟩ := hb.word
  rw [show (-2147483648 : Int) = (2147483648#32 : W).toInt from by decide]
  simp only [doesI_eq, b_xor]
  rw [← doesI_eq, ← doesI_eq, i_lt, i_ltu, w_mod, w_mod]
  have hx := flip_sign x
  have hy := flip_sign y
  have k1 := w_mod (x ^^^ 2147483648#32)
  have k2 := w_mod (y ^^^ 2147483648#32)
  have l1 := w_lo (x ^^^ 2147483648#32)
  have l2 := w_lo (y ^^^ 2147483648#32)
  have m1 := w_hi (x ^^^ 2147483648#32)
  have m2 := w_hi (y ^^^ 2147483648#32)
  have x1 := x.isLt
  have y1 := y.isLt
  generalize (x ^^^ 2147483648#32).toInt = p at *
  generalize (y ^^^ 2147483648#32).toInt = q at *
  by_cases h : x.toNat < y.toNat
  · rw [if_pos (by omega), if_pos (by omega)]; rfl
  · rw [if_neg (by omega), if_neg (by omega)]; rfl

set_option maxHeartbeats 1000000 in
theorem walk_order (a b c : Int) (ha : (Lit.int .i32 a).wf = true) (hb : (Lit.int .i32 b).wf = true) (hc : (Lit.int .i32 c).wf = true) (w : World) :
    Calls Try.prog 7 #[.int .i32 a, .int .i32 b, .int .i32 c] w fun e w' => e = .returned (.bool true) ∧ Below w.heap.size w w' := by
  have ha := R32.of_wf ha
  have hb := R32.of_wf hb
  have hc := R32.of_wf hc
  have hl : R32 (-2147483648) := by constructor <;> decide
  go_enter Try.func7, Try.ntmps7
  go_wp2_with fail
  refine (shown_s _).mono ?_
  rintro e w1 ⟨rfl, hs⟩
  go_wp2_with fail
  go_loopw [8] (fun i wr => ∃ k : Int, 12 ≤ k ∧ k ≤ 14 ∧ i = .int .i64 k ∧ Since w wr) (fun i _ => (14 - intOf i).toNat)
  case atStart => exact ⟨12, by omega, by omega, rfl, hs⟩
  case round =>
    obtain ⟨k, hk1, hk2, rfl, hsr⟩ := hrel
    clear hs
    by_cases hlt : k ≤ 13
    · obtain ⟨g0, hcase⟩ := order_one (c := c) (by omega : k = 12 ∨ k = 13) ha hb
      rcases hcase with ⟨g1, g2, g3, g4 | ⟨g4, g5⟩⟩ | ⟨g1, g2, g3⟩ | ⟨g1, g2, g3⟩
      all_goals
        go_wp2_with (go_at_call 16; refine (does_s _ _ _ w _ (by assumption) (by repeat (first | assumption | apply R32.does)) (by repeat (first | assumption | apply R32.does))).mono ?_; rintro e w' ⟨rfl, hs⟩)
        go_roundw
        case rel => exact ⟨k + 1, by omega, by omega, rfl, by assumption⟩
        case measure => simp [intOf]; omega
    · have f3 := order_three ha hb
      rcases order_two ha hb with ⟨g1, g2, g3, g4, g5, ⟨g6, g7⟩ | ⟨g6, g7⟩⟩ | ⟨g1, g2, g3, ⟨⟨g6, g7⟩ | ⟨g6, g7⟩, ⟨g4, g5⟩ | ⟨g4, g5⟩⟩ | ⟨⟨g6, g7⟩, g4, g5⟩ | ⟨⟨g6, g7⟩, g4, g5⟩⟩
      all_goals
        rw [g5] at f3
        go_wp2_with (go_at_call 16; refine (does_s _ _ _ w _ (by assumption) (by repeat (first | assumption | apply R32.does)) (by repeat (first | assumption | apply R32.does))).mono ?_; rintro e w' ⟨rfl, hs⟩)
        go_ret
        exact ⟨rfl, by assumption⟩
end Go.Proofs.Ytcjcbaohefcnlaa
