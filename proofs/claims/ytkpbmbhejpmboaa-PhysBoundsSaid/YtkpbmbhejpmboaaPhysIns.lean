/- phys.within, bits, imm, shape. -/
import Derived.Test.YtkpbmbhejpmboaaPhys
import Derived.Test.YtkpbmbhejpmboaaCommon
namespace Go.Proofs.Ytkpbmbhejpmboaa
open Go.RowKit
set_option linter.unusedVariables false

def NumP (x : Int) (w : World) (e : Ending) (w' : World) : Prop := e = .returned (.int .i64 x) ∧ Since w w'
def TellsQ (p : Bool) (w : World) (e : Ending) (w' : World) : Prop := e = .returned (.bool p) ∧ w = w'

set_option maxHeartbeats 400000 in
set_option maxRecDepth 100000 in
theorem within_any (n l h : Int) (w : World) : Calls Try.prog 42 #[.int .i64 n, .int .i64 l, .int .i64 h] w (TellsQ (decide (l ≤ n) && decide (n ≤ h)) w) := by
  by_cases h1 : l ≤ n
  · by_cases h2 : n ≤ h
    · rw [decide_eq_true h1, decide_eq_true h2]
      go_enter Try.func42, Try.ntmps42
      go_wp2
      go_ret
      exact ⟨rfl, rfl⟩
    · rw [decide_eq_true h1, decide_eq_false h2]
      go_enter Try.func42, Try.ntmps42
      go_wp2
      go_ret
      exact ⟨rfl, rfl⟩
  · rw [decide_eq_false h1, Bool.false_and]
    go_enter Try.func42, Try.ntmps42
    go_wp2
    go_ret
    exact ⟨rfl, rfl⟩

set_option maxHeartbeats 400000 in
set_option maxRecDepth 100000 in
theorem bits_16 (n : Int) (w : World) (h : -2147483648 ≤ n) (h2 : n ≤ 2147483647) : Calls Try.prog 86 #[.int .i32 n, .int .i64 16] w (TellsQ (decide (-32768 ≤ n) && decide (n ≤ 32767)) w) := by
  by_cases h1 : -32768 ≤ n
  · by_cases h2 : n < 32768
    · rw [decide_eq_true h1, decide_eq_true (show n ≤ 32767 by omega)]
      go_enter Try.func86, Try.ntmps86
      go_wp2
      go_ret
      exact ⟨rfl, rfl⟩
    · rw [decide_eq_true h1, decide_eq_false (show ¬ n ≤ 32767 by omega)]
      go_enter Try.func86, Try.ntmps86
      go_wp2
      go_ret
      exact ⟨rfl, rfl⟩
  · rw [decide_eq_false h1, Bool.false_and]
    go_enter Try.func86, Try.ntmps86
    go_wp2
    go_ret
    exact ⟨rfl, rfl⟩
set_option maxHeartbeats 400000 in
set_option maxRecDepth 100000 in
theorem bits_8 (n : Int) (w : World) (h : -2147483648 ≤ n) (h2 : n ≤ 2147483647) : Calls Try.prog 86 #[.int .i32 n, .int .i64 8] w (TellsQ (decide (-128 ≤ n) && decide (n ≤ 127)) w) := by
  by_cases h1 : -128 ≤ n
  · by_cases h2 : n < 128
    · rw [decide_eq_true h1, decide_eq_true (show n ≤ 127 by omega)]
      go_enter Try.func86, Try.ntmps86
      go_wp2
      go_ret
      exact ⟨rfl, rfl⟩
    · rw [decide_eq_true h1, decide_eq_false (show ¬ n ≤ 127 by omega)]
      go_enter Try.func86, Try.ntmps86
      go_wp2
      go_ret
      exact ⟨rfl, rfl⟩
  · rw [decide_eq_false h1, Bool.false_and]
    go_enter Try.func86, Try.ntmps86
    go_wp2
    go_ret
    exact ⟨rfl, rfl⟩

set_option maxHeartbeats 1000000 in
set_option maxRecDepth 100000 in
theorem imm_any (m : Mach) (av : Value) (w : World) (h : -2147483648 ≤ m.imm) (h2 : m.imm ≤ 2147483647) : Calls Try.prog 57 #[mv m av] w (TellsS (immB m) w) := by
  obtain ⟨op, d, e, a, b, c, imm, args⟩ := m
  dsimp only at h h2
  unfold mv immB
  dsimp only
  have B16 := Lib.hid (fun w => bits_16 imm w h h2)
  have B8 := Lib.hid (fun w => bits_8 imm w h h2)
  have W1 := Lib.hid (fun w => within_any imm 0 31 w)
  have W2 := Lib.hid (fun w => within_any imm 0 255 w)
  by_cases g3 : op = 3
  · subst g3
    rw [if_pos rfl]
    go_enter Try.func57, Try.ntmps57
    go_wp2_with fail
    refine (B16.out _).mono ?_
    rintro e w1 ⟨rfl, rfl⟩
    go_wp2
    go_ret
    exact ⟨rfl, (Since.refl _).alloc _⟩
  rw [if_neg g3]
  by_cases g18 : op = 18
  · subst g18
    rw [if_pos (by decide)]
    go_enter Try.func57, Try.ntmps57
    go_wp2_with fail
    refine (B8.out _).mono ?_
    rintro e w1 ⟨rfl, rfl⟩
    go_wp2
    go_ret
    exact ⟨rfl, (Since.refl _).alloc _⟩
  by_cases g19 : op = 19
  · subst g19
    rw [if_pos (by decide)]
    go_enter Try.func57, Try.ntmps57
    go_wp2_with fail
    refine (B8.out _).mono ?_
    rintro e w1 ⟨rfl, rfl⟩
    go_wp2
    go_ret
    exact ⟨rfl, (Since.refl _).alloc _⟩
  rw [if_neg (by omega)]
  by_cases g20 : op = 20 ∨ op = 21 ∨ op = 22
  · rw [if_pos g20]
    rcases g20 with rfl | rfl | rfl
    all_goals
      go_enter Try.func57, Try.ntmps57
      go_wp2_with fail
      refine (W1.out _).mono ?_
      rintro e w1 ⟨rfl, rfl⟩
      go_wp2
      go_ret
      exact ⟨rfl, (Since.refl _).alloc _⟩
  rw [if_neg g20]
  by_cases g24 : op = 24 ∨ op = 26
  · rw [if_pos g24]
    rcases g24 with rfl | rfl
    all_goals
      go_enter Try.func57, Try.ntmps57
      go_wp2_with fail
      refine (W2.out _).mono ?_
      rintro e w1 ⟨rfl, rfl⟩
      go_wp2
      go_ret
      exact ⟨rfl, (Since.refl _).alloc _⟩
  rw [if_neg g24]
  have n3 : (op == 3) = false := by simpa using g3
  have n18 : (op == 18) = false := by simpa using g18
  have n19 : (op == 19) = false := by simpa using g19
  have n20 : (op == 20) = false := by simp; omega
  have n21 : (op == 21) = false := by simp; omega
  have n22 : (op == 22) = false := by simp; omega
  have n24 : (op == 24) = false := by simp; omega
  have n26 : (op == 26) = false := by simp; omega
  clear g3 g18 g19 g20 g24
  go_enter Try.func57, Try.ntmps57
  go_wp2
  go_ret
  exact ⟨rfl, (Since.refl _).alloc _⟩

/-- What the arguments' loop of shape tells. -/
theorem placesB_get : ∀ (l : List Int) (n : Nat), placesB l n = true ↔ ∀ (j : Nat) (x : Int), l[j]? = some x → x = ((n + j : Nat) : Int)
  | [], n => by simp [placesB]
  | r :: l, n => by
    unfold placesB
    rw [Bool.and_eq_true, beq_iff_eq, placesB_get l (n + 1)]
    constructor
    · rintro ⟨h1, h2⟩ j x hj
      cases j with
      | zero => simp at hj; rw [← hj, h1]; simp
      | succ j => have := h2 j x (by simpa using hj); rw [this]; congr 1; omega
    · intro h
      refine ⟨by have := h 0 r rfl; simpa using this, fun j x hj => ?_⟩
      have := h (j + 1) x (by simpa using hj)
      rw [this]; congr 1; omega
theorem placesB_no {l : List Int} {k : Nat} {x : Int} (hx : l[k]? = some x) (hne : x ≠ (k : Int)) : placesB l 0 = false := by
  cases h : placesB l 0 with
  | false => rfl
  | true => exact absurd (by have := (placesB_get l 0).1 h k x hx; simpa using this) hne

set_option maxHeartbeats 1000000 in
set_option maxRecDepth 100000 in
theorem shape_any (m : Mach) (av : Value) (w : World) (h : Ints w av m.args) : Calls Try.prog 53 #[mv m av] w (TellsS (shapeB m) w) := by
  obtain ⟨ad, cap, rfl⟩ := nums_lenI h
  have hlen := h.len
  unfold maxLen at hlen
  obtain ⟨op, d, e, a, b, c, imm, args⟩ := m
  dsimp only at h hlen
  unfold mv shapeB
  dsimp only
  by_cases g28 : op = 28
  · subst g28
    rw [if_pos rfl]
    have H := Lib.hid h; clear h
    generalize hn : args.length = n at *
    have HN := Lib.hid hn; clear hn
    generalize hP : (placesB args 0 && decide (n ≤ 4) && d == 0) = P
    have HP0 := Lib.hid hP; clear hP
    go_enter Try.func53, Try.ntmps53
    go_wp2
    go_loop [12] (fun i => ∃ k : Nat, k ≤ n ∧ i = .int .i64 k ∧ ∀ (j : Nat) (x : Int), j < k → args[j]? = some x → x = (j : Int)) (fun i => n - (intOf i).toNat)
    case atStart => exact ⟨0, Nat.zero_le _, rfl, fun j x hj => by omega⟩
    case round =>
      obtain ⟨k, hk, rfl, hall⟩ := hrel
      have HALL := Lib.hid hall; clear hall
      by_cases hlt : k < n
      · obtain ⟨_, hc⟩ := nums_cell (HN.out ▸ H.out)
        obtain ⟨B, off, rfl, hB, hcell⟩ := hc (by intro e; have := HN.out; rw [e] at this; simp at this; omega)
        obtain ⟨x, hx⟩ : ∃ x, args[k]? = some x := ⟨_, List.getElem?_eq_getElem (by have := HN.out; omega)⟩
        have hcx := (((Since.refl w).alloc (.cells #[.int .i64 28, .int .i64 d, .int .i64 e, .int .i64 a, .int .i64 b, .int .i64 c, .int .i32 imm, .slice (some ⟨B, off, none⟩) n cap] 46)).cell (p := ⟨B, off + k, none⟩) hB).trans (hcell k x hx)
        have HX := Lib.hid hx
        clear hcell hc hB hx
        by_cases hxk : x = (k : Int)
        · have hb : (x != (k : Int)) = false := by simp [hxk]
          have HXK := Lib.hid hxk; clear hxk
          go_wp2
          go_round
          case rel => exact ⟨k + 1, by omega, by go_num, fun j y hj hy => by
            by_cases e : j = k
            · subst e; rw [HX.out] at hy; cases hy; exact HXK.out
            · exact HALL.out j y (by omega) hy⟩
          case measure => simp [intOf]; omega
        · have hb : (x != (k : Int)) = true := by simpa using hxk
          have hno := placesB_no HX.out hxk
          have HNO := Lib.hid hno
          clear hno hxk
          go_wp2
          go_ret
          exact ⟨by rw [← HP0.out, HNO.out]; rfl, (Since.refl _).alloc _⟩
      · obtain rfl : k = n := by omega
        have hp : placesB args 0 = true := (placesB_get args 0).2 fun j x hj => by
          have := HALL.out j x (by have := (List.getElem?_eq_some_iff.1 hj).1; have := HN.out; omega) hj
          simpa using this
        have HP := Lib.hid hp; clear hp
        by_cases h4 : k ≤ 4
        · have hd4 : decide ((k : Int) ≤ 4) = true := by simp; omega
          cases hd : (d == 0)
          all_goals
            go_wp2
            go_ret
            exact ⟨by rw [← HP0.out, HP.out, decide_eq_true h4, hd]; rfl, (Since.refl _).alloc _⟩
        · have hd4 : decide ((k : Int) ≤ 4) = false := by simp; omega
          go_wp2
          go_ret
          exact ⟨by rw [← HP0.out, decide_eq_false h4, Bool.and_false, Bool.false_and]; rfl, (Since.refl _).alloc _⟩
  rw [if_neg g28]
  have n28 : (op == 28) = false := by simpa using g28
  clear h
  by_cases g29 : op = 29
  · subst g29
    rw [if_pos rfl]
    clear g28
    cases hd : (d == 0)
    · go_enter Try.func53, Try.ntmps53
      go_wp2
      go_ret
      exact ⟨rfl, (Since.refl _).alloc _⟩
    · cases he : (e == 1)
      all_goals
        go_enter Try.func53, Try.ntmps53
        go_wp2
        go_ret
        exact ⟨rfl, (Since.refl _).alloc _⟩
  rw [if_neg g29]
  have n29 : (op == 29) = false := by simpa using g29
  clear g28 g29
  have W := Lib.hid (fun w => within_any op 1 31 w)
  go_enter Try.func53, Try.ntmps53
  go_wp2_with fail
  refine (W.out _).mono ?_
  rintro e w1 ⟨rfl, rfl⟩
  go_wp2
  go_ret
  exact ⟨rfl, (Since.refl _).alloc _⟩
end Go.Proofs.Ytkpbmbhejpmboaa
