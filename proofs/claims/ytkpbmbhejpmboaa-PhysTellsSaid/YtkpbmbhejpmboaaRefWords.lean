/- jacquardref07.get, set; jacquardref04.Load, Store. -/
import Derived.Test.YtkpbmbhejpmboaaMachDo
namespace Go.Proofs.Ytkpbmbhejpmboaa
open Go.RowKit
set_option linter.unusedVariables false

set_option maxHeartbeats 1000000 in
set_option maxRecDepth 100000 in
theorem rget_any (R : List Int) (b cap : Nat) (rest : List Value) (T : TypeId) (r : Int) (w : World) (h : WAt w b R rest T) (hl : R.length ≤ 1000000) :
    Calls Try.prog 83 #[.slice (some ⟨b, 0, none⟩) R.length cap, .int .i64 r] w (W32Q (getR R r) w) := by
  by_cases h0 : r < 0
  · rw [getR_out (.inl h0)]
    go_enter Try.func83, Try.ntmps83
    go_wp2
    go_ret
    exact ⟨rfl, rfl⟩
  · by_cases h1 : (R.length : Int) ≤ r
    · rw [getR_out (.inr h1)]
      have hd : decide (r < 0) = false := decide_eq_false h0
      go_enter Try.func83, Try.ntmps83
      go_wp2
      go_ret
      exact ⟨rfl, rfl⟩
    · obtain ⟨i, rfl⟩ := Int.eq_ofNat_of_zero_le (Int.not_lt.1 h0)
      have hi : i < R.length := by omega
      have hc := h.cell hi
      rw [getR_in hi]
      have hd : decide ((i : Int) < 0) = false := decide_eq_false h0
      have hd1 : decide ((R.length : Int) ≤ (i : Int)) = false := decide_eq_false h1
      clear h0 h1 h
      generalize R.getD i 0 = x at *
      go_enter Try.func83, Try.ntmps83
      go_wp2
      go_ret
      exact ⟨rfl, rfl⟩


set_option maxHeartbeats 1000000 in
set_option maxRecDepth 100000 in
theorem rset_any (R : List Int) (b cap n : Nat) (rest : List Value) (T : TypeId) (r v : Int) (w : World) (h : WAt w b R rest T) (hl : R.length ≤ 1000000) (hn : n = R.length) :
    Calls Try.prog 101 #[.slice (some ⟨b, 0, none⟩) n cap, .int .i64 r, .int .i32 v] w (EndW (setW w b R r v)) := by
  subst hn
  by_cases h0 : 0 ≤ r
  · by_cases h1 : r < (R.length : Int)
    · obtain ⟨i, rfl⟩ := Int.eq_ofNat_of_zero_le h0
      have hi : i < R.length := by omega
      have hc := h.cell hi
      have hfz := h.frozen i
      have hW : setW w b R i v = w.setCell ⟨b, i, none⟩ (.int .i32 v) := by unfold setW; rw [if_pos ⟨h0, h1⟩]; simp
      have HW := Lib.hid hW
      clear h0 hW h
      generalize R.getD i 0 = x at *
      go_enter Try.func101, Try.ntmps101
      go_wp2
      go_end0
      exact ⟨rfl, by rw [HW.out]⟩
    · have hW : setW w b R r v = w := by unfold setW; rw [if_neg (by omega)]
      have HW := Lib.hid hW
      have hd : decide (r < (R.length : Int)) = false := decide_eq_false h1
      clear hW h
      go_enter Try.func101, Try.ntmps101
      go_wp2
      go_end0
      exact ⟨rfl, by rw [HW.out]⟩
  · have hW : setW w b R r v = w := by unfold setW; rw [if_neg (by omega)]
    have HW := Lib.hid hW
    have hd : decide (0 ≤ r) = false := decide_eq_false h0
    clear hW h
    go_enter Try.func101, Try.ntmps101
    go_wp2
    go_end0
    exact ⟨rfl, by rw [HW.out]⟩


set_option maxHeartbeats 1000000 in
set_option maxRecDepth 100000 in
theorem rload_any (M : List Int) (mv : Value) (at' : Int) (w : World) (h : MemIs w mv M) (h1 : -2147483648 ≤ at') (h2 : at' ≤ 2147483647) :
    Calls Try.prog 103 #[mv, .int .i32 at'] w (LoadQ M at' w) := by
  obtain ⟨a, cap, rfl, hl⟩ := h.shape
  unfold LoadQ
  by_cases h0 : at' < 0
  · rw [if_neg (by omega), decide_eq_false (by omega : ¬ 0 ≤ at'), Bool.false_and]
    go_enter Try.func103, Try.ntmps103
    go_wp2
    go_ret2
    exact ⟨rfl, rfl⟩
  · have hd : decide (at' < 0) = false := decide_eq_false h0
    by_cases h3 : (M.length : Int) ≤ at'
    · rw [if_neg (by omega), decide_eq_false (by omega : ¬ at' < (M.length : Int)), Bool.and_false]
      go_enter Try.func103, Try.ntmps103
      go_wp2
      go_ret2
      exact ⟨rfl, rfl⟩
    · rw [if_pos (by omega), decide_eq_true (by omega : 0 ≤ at'), decide_eq_true (by omega : at' < (M.length : Int))]
      have hd1 : decide ((M.length : Int) ≤ at') = false := decide_eq_false h3
      obtain ⟨i, rfl⟩ := Int.eq_ofNat_of_zero_le (Int.not_lt.1 h0)
      have hi : i < M.length := by omega
      obtain ⟨b, rest, T, rfl, hw⟩ := h.at hi
      have hc := hw.cell hi
      clear h0 h3 h hw
      rw [Int.toNat_natCast]
      generalize M.getD i 0 = x at *
      go_enter Try.func103, Try.ntmps103
      go_wp2
      go_ret2
      exact ⟨rfl, rfl⟩


set_option maxHeartbeats 1000000 in
set_option maxRecDepth 100000 in
theorem rstore_any (M : List Int) (mv : Value) (at' v : Int) (w : World) (h : MemIs w mv M) (h1 : -2147483648 ≤ at') (h2 : at' ≤ 2147483647) :
    Calls Try.prog 104 #[mv, .int .i32 at', .int .i32 v] w (StoreP M mv at' v w) := by
  unfold StoreP
  obtain ⟨a, cap, rfl, hl⟩ := h.shape
  have H := Lib.hid h
  clear h
  by_cases hin : 0 ≤ at' ∧ at' < (M.length : Int)
  · rw [if_pos hin, decide_eq_true hin.1, decide_eq_true hin.2]
    obtain ⟨i, rfl⟩ := Int.eq_ofNat_of_zero_le hin.1
    have hi : i < M.length := by omega
    obtain ⟨b, rest, T, rfl, hw⟩ := H.out.at hi
    have hc := hw.cell hi
    have hfz := hw.frozen i
    have hset := MemIs.set (cap := cap) hw hl hi v
    rw [Int.toNat_natCast]
    have d0 : decide ((i : Int) < 0) = false := decide_eq_false (by omega)
    have d1 : decide ((M.length : Int) ≤ (i : Int)) = false := decide_eq_false (by omega)
    have HSET := Lib.hid hset
    clear hset hw hin
    generalize M.getD i 0 = x at *
    generalize M.set i v = M' at *
    go_enter Try.func104, Try.ntmps104
    go_wp2
    go_ret
    exact ⟨rfl, HSET.out, Turn.setCell (S := fun k => (Value.slice (some ⟨b, 0, none⟩) M.length cap).ownBlock = some k) (p := ⟨b, i, none⟩) (Turn.refl _ _) rfl _⟩
  · have hb : (decide (0 ≤ at') && decide (at' < (M.length : Int))) = false := by
      rw [Bool.and_eq_false_iff]
      by_cases h0 : 0 ≤ at'
      · right; exact decide_eq_false (by omega)
      · left; exact decide_eq_false h0
    rw [if_neg hin, hb]
    by_cases h0 : at' < 0
    · clear hin hb
      go_enter Try.func104, Try.ntmps104
      go_wp2
      go_ret
      exact ⟨rfl, H.out, Turn.refl _ _⟩
    · have d0 : decide (at' < 0) = false := decide_eq_false h0
      have d1 : (M.length : Int) ≤ at' := by omega
      clear hin hb
      go_enter Try.func104, Try.ntmps104
      go_wp2
      go_ret
      exact ⟨rfl, H.out, Turn.refl _ _⟩
theorem rsetR_len (R : List Int) (r v : Int) : (setR R r v).length = R.length := by
  unfold setR; split
  · rw [List.length_set]
  · rfl
end Go.Proofs.Ytkpbmbhejpmboaa
