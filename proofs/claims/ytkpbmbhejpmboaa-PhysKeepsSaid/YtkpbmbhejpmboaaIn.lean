/- jacquardlaw12.in: is a number one of a row? -/
import Derived.Test.YtkpbmbhejpmboaaCommon
namespace Go.Proofs.Ytkpbmbhejpmboaa
open Go.RowKit
set_option linter.unusedVariables false

set_option maxHeartbeats 1000000 in
set_option maxRecDepth 100000 in
theorem in_any (v : Value) (l : List Int) (x : Int) (w : World) (h : Nums .i64 w v l) :
    Calls Try.prog 24 #[v, .int .i64 x] w (Tells (l.any fun y => y == x) w) := by
  have hm := h.len
  obtain ⟨a, cap, rfl⟩ := nums_lenI h
  obtain ⟨_, hc⟩ := nums_cell h
  have HC := Lib.hid hc; clear hc h
  unfold maxLen at hm
  go_enter Try.func24, Try.ntmps24
  go_wp2
  go_loop [5] (fun i => ∃ k : Nat, k ≤ l.length ∧ i = .int .i64 k ∧ ∀ j y, j < k → l[j]? = some y → (y == x) = false) (fun i => l.length - (intOf i).toNat)
  case atStart => exact ⟨0, Nat.zero_le _, rfl, fun _ _ h => by omega⟩
  case round =>
    obtain ⟨k, hk, rfl, hno⟩ := hrel
    by_cases hlt : k < l.length
    · obtain ⟨y, hy⟩ : ∃ y, l[k]? = some y := ⟨_, List.getElem?_eq_getElem hlt⟩
      obtain ⟨b, off, rfl, hb, hcell⟩ := HC.out (by intro e; rw [e] at hlt; simp at hlt)
      have hc := hcell k y hy
      have HY := Lib.hid hy
      have HNO := Lib.hid hno
      clear hcell hy hno
      by_cases he : (y == x) = true
      · have hyes := any_at (p := fun y => y == x) HY.out he
        have HF := Lib.hid hyes; clear hyes
        go_wp2
        go_ret
        rw [HF.out]
        exact ⟨rfl, rfl⟩
      · have he : (y == x) = false := by simpa using he
        go_wp2
        go_round
        case rel =>
          refine ⟨k + 1, by omega, by go_num, fun j z hj hz => ?_⟩
          by_cases e : j = k
          · subst e; have := HY.out.symm.trans hz; cases this; exact he
          · exact HNO.out j z (by omega) hz
        case measure => simp [intOf]; omega
    · obtain rfl : k = l.length := by omega
      have hyes := any_prefix (p := fun y => y == x) rfl hno
      have HF := Lib.hid hyes; clear hyes hno
      go_wp2
      go_ret
      rw [HF.out]
      exact ⟨rfl, rfl⟩
end Go.Proofs.Ytkpbmbhejpmboaa
