/- The document's names and texts of words: jacquardref01.Name, Number, Text; word.Number. -/
import Derived.Test.YtkmkfhbekikleaaDoorNames
import Derived.Lib.ItoaLen
namespace Go.Proofs.YtkmkfhbekikleaaDoor
open Go.RowKit
set_option linter.unusedVariables false

set_option maxHeartbeats 1000000 in
set_option maxRecDepth 100000 in
theorem rname_any (op : Int) (w : World) (ho : -9223372036854775808 ≤ op ∧ op ≤ 9223372036854775807) :
    Calls Tryd.prog 9 #[.int .i64 op] w (StrQ (nameF op) w) := by
  have hf := rnames_any w
  obtain ⟨y, hy⟩ : ∃ y, nameF op = y := ⟨_, rfl⟩
  have HF := Lib.hid hf
  have HY := Lib.hid hy
  rw [hy]
  clear hf hy
  by_cases h1 : op < 1
  · obtain rfl : ByteArray.empty = y := by rw [← HY.out]; unfold nameF; rw [if_pos (.inl h1)]
    go_enter Tryd.func9, Tryd.ntmps9
    go_wp2_with fail
    refine HF.out.mono ?_
    rintro e w1 ⟨rfl, hn, hb⟩
    have HB := Lib.hid hb
    clear hn hb
    go_wp2
    go_ret
    exact ⟨rfl, HB.out⟩
  · by_cases h2 : 18 < op
    · obtain rfl : ByteArray.empty = y := by rw [← HY.out]; unfold nameF; rw [if_pos (.inr h2)]
      go_enter Tryd.func9, Tryd.ntmps9
      go_wp2_with fail
      refine HF.out.mono ?_
      rintro e w1 ⟨rfl, hn, hb⟩
      have HB := Lib.hid hb
      clear hn hb
      go_wp2
      go_ret
      exact ⟨rfl, HB.out⟩
    · obtain ⟨k, rfl⟩ : ∃ k : Nat, op = (k : Int) + 1 := ⟨(op - 1).toNat, by omega⟩
      have hk : k < 18 := by omega
      have he : nameF ((k : Int) + 1) = opNames.getD k ByteArray.empty := by unfold nameF; rw [if_neg (by omega), show ((k : Int) + 1 - 1).toNat = k from by omega]
      rw [he] at HY
      clear he
      go_enter Tryd.func9, Tryd.ntmps9
      go_wp2_with fail
      refine HF.out.mono ?_
      rintro e w1 ⟨rfl, hn, hb⟩
      have hc : w1.cell? ⟨w.heap.size, 0 + k, none⟩ = some (.string y) := by rw [← HY.out]; exact hn.2 k hk
      rw [Nat.zero_add] at hc
      have hl := hn.1
      have HB := Lib.hid hb
      clear hn hb
      go_wp2
      go_ret
      exact ⟨rfl, HB.out⟩

def IntQ (x : Int) (w : World) (e : Ending) (w' : World) : Prop := e = .returned (.int .i64 x) ∧ Below w.heap.size w w'
theorem idx_bounds (s : ByteArray) : -1 ≤ Lib.idxOfS opNames s ∧ Lib.idxOfS opNames s < 18 := by
  by_cases h : ∃ k, k < opNames.length ∧ opNames.getD k ByteArray.empty = s ∧ ∀ j, j < k → opNames.getD j ByteArray.empty ≠ s
  · obtain ⟨k, h1, h2, h3⟩ := h
    have hk : k < 18 := h1
    have := Lib.idxFromS_hit s opNames k 0 h1 h2 h3
    unfold Lib.idxOfS
    rw [this]; omega
  · have hno : ∀ j, j < opNames.length → opNames.getD j ByteArray.empty ≠ s := by
      intro j
      induction j using Nat.strongRecOn with
      | ind j ih => intro hj e; exact h ⟨j, hj, e, fun i hi => ih i hi (by omega)⟩
    have := Lib.idxFromS_miss s opNames 0 hno
    unfold Lib.idxOfS
    rw [this]; omega

set_option maxHeartbeats 1000000 in
set_option maxRecDepth 100000 in
theorem number_any (s : ByteArray) (w : World) (htab : Lib.TabIs Tryd.prog w "strings.asciiSpace" .u8 Lib.asciiSpaceTab) :
    Calls Tryd.prog 10 #[.string s] w (IntQ (numberF s) w) := by
  have HF := Lib.hid (fields_any w htab)
  have hb := idx_bounds s
  obtain ⟨y, hy⟩ : ∃ y, Lib.idxOfS opNames s = y := ⟨_, rfl⟩
  unfold numberF
  rw [hy] at hb ⊢
  have HY := Lib.hid hy
  clear hy htab
  go_enter Tryd.func10, Tryd.ntmps10
  go_wp2_with fail
  refine HF.out.mono ?_
  rintro e w1 ⟨rfl, hn, hb1⟩
  have HI := Lib.hid (Tryd.slices_Index_string w.heap.size 0 18 18 opNames s w1 (by decide) (by decide) (fun j hj => hn.2 j hj))
  rw [show opNames.take 18 = opNames from rfl, HY.out] at HI
  have HB := Lib.hid hb1
  clear hn hb1
  go_wp2_with fail
  refine HI.out.mono ?_
  rintro e w2 ⟨rfl, rfl⟩
  go_wp2
  go_ret
  exact ⟨rfl, HB.out⟩

set_option maxHeartbeats 1000000 in
set_option maxRecDepth 100000 in
theorem rnumber_any (s : ByteArray) (w : World) : Calls Tryd.prog 12 #[.string s] w (IntQ (numberF s) w) := by
  have HF := Lib.hid (rnames_any w)
  obtain ⟨y, hy⟩ : ∃ y, numberF s = y := ⟨_, rfl⟩
  rw [hy]
  have HY := Lib.hid hy
  clear hy
  go_enter Tryd.func12, Tryd.ntmps12
  go_wp2_with fail
  refine HF.out.mono ?_
  rintro e w1 ⟨rfl, hn, hb1⟩
  have HN := Lib.hid hn
  have HB := Lib.hid hb1
  have hl := hn.1
  clear hn hb1
  go_wp2_with fail
  go_loop [4] (fun i => ∃ k : Nat, k ≤ 18 ∧ i = .int .i64 k ∧ ∀ j, j < k → opNames.getD j ByteArray.empty ≠ s) (fun i => 18 - (intOf i).toNat)
  case atStart => exact ⟨0, Nat.zero_le _, rfl, fun j hj => by omega⟩
  case round =>
    obtain ⟨k, hk, rfl, hne⟩ := hrel
    have HNE := Lib.hid hne
    clear hne
    by_cases hlt : k < 18
    · have hc := HN.out.2 k hlt
      rw [Nat.zero_add] at hc
      obtain ⟨z, hz⟩ : ∃ z, opNames.getD k ByteArray.empty = z := ⟨_, rfl⟩
      rw [hz] at hc
      have HZ := Lib.hid hz
      clear hz
      by_cases he : z = s
      · have hq : (z.toList == s.toList) = true := (Lib.bytes_beq_iff z s).2 he
        have HI := Lib.hid (show numberF s = (k : Int) + 1 from by
          unfold numberF Lib.idxOfS
          rw [Lib.idxFromS_hit s opNames k 0 hlt (HZ.out.trans he) HNE.out]
          omega)
        obtain rfl : (k : Int) + 1 = y := HI.out.symm.trans HY.out
        clear he
        go_wp2
        go_ret
        exact ⟨rfl, HB.out⟩
      · have hq : (z.toList == s.toList) = false := (Lib.bytes_beq_false_iff z s).2 he
        have HX := Lib.hid he
        clear he
        go_wp2
        go_round
        case rel => exact ⟨k + 1, by omega, by go_num, fun j hj => by
          by_cases h : j < k
          · exact HNE.out j h
          · obtain rfl : j = k := by omega
            rw [HZ.out]; exact HX.out⟩
        case measure => simp [intOf]; omega
    · obtain rfl : 18 = k := by omega
      have HI := Lib.hid (show numberF s = 0 from by
        unfold numberF Lib.idxOfS
        rw [Lib.idxFromS_miss s opNames 0 HNE.out]; rfl)
      obtain rfl : (0 : Int) = y := HI.out.symm.trans HY.out
      go_wp2
      go_ret
      exact ⟨rfl, HB.out⟩

/-! ### The text of a word -/
def digB (d : Nat) : ByteArray := ⟨#[UInt8.ofNat (48 + d)]⟩
theorem digit_at (d : Nat) (h : d < 10) : (⟨#[48, 49, 50, 51, 52, 53, 54, 55, 56, 57]⟩ : ByteArray).extract d (d + 1) = digB d := by
  have h2 : ∀ d, d < 10 → (⟨#[48, 49, 50, 51, 52, 53, 54, 55, 56, 57]⟩ : ByteArray).extract d (d + 1) = digB d := by decide +kernel
  exact h2 d h
def decB (u : Nat) : ByteArray := ⟨(Lib.decDigits u).toArray⟩
theorem bytes_ext {a b : ByteArray} (h : a.data.toList = b.data.toList) : a = b := ByteArray.ext (Array.toList_inj.mp h)
theorem bytes_app (a b : ByteArray) : (a ++ b).data.toList = a.data.toList ++ b.data.toList := by
  rw [ByteArray.data_append, Array.toList_append]
/-- What stands behind the digits that are still to come. -/
def Behind (U u : Nat) (out : ByteArray) : Prop := if u = 0 then out = decB U else Lib.decDigits u ++ out.data.toList = Lib.decDigits U
theorem behind_first (U : Nat) : Behind U (U / 10) (digB (U % 10)) := by
  unfold Behind
  by_cases h : U < 10
  · rw [if_pos (by omega)]
    unfold decB digB
    rw [decDigits_small h, Nat.mod_eq_of_lt h]
  · rw [if_neg (by omega), decDigits_big h]; rfl
theorem behind_next {U u : Nat} {out : ByteArray} (h : Behind U u out) (hu : u ≠ 0) : Behind U (u / 10) (digB (u % 10) ++ out) := by
  unfold Behind at h ⊢
  rw [if_neg hu] at h
  by_cases h1 : u < 10
  · rw [if_pos (by omega)]
    apply bytes_ext
    rw [bytes_app]
    rw [decDigits_small h1] at h
    unfold decB digB
    rw [Nat.mod_eq_of_lt h1]
    exact h
  · rw [if_neg (by omega), bytes_app]
    rw [decDigits_big h1] at h
    rw [← List.append_assoc]
    exact h

theorem behind_size {U u : Nat} {out : ByteArray} (h : Behind U u out) (hU : U ≤ 9223372036854775807) : out.size ≤ 21 := by
  have h1 := Lib.itoa_length_le (U : Int) (by omega) (by omega)
  rw [itoa_pos (by omega)] at h1
  have h1 : (Lib.decDigits U).length ≤ 21 := h1
  have h2 : out.data.toList.length = out.size := Array.length_toList
  unfold Behind at h
  split at h
  · rw [h] at h2
    have h3 : (decB U).data.toList.length = (Lib.decDigits U).length := rfl
    rw [h]; omega
  · rw [← h, List.length_append] at h1; omega

set_option maxHeartbeats 1000000 in
set_option maxRecDepth 100000 in
theorem rtext_any (n : Int) (w : World) (h0 : -2147483648 ≤ n) (h1 : n ≤ 2147483647) :
    Calls Tryd.prog 13 #[.int .i32 n] w fun e w' => e = .returned (.string ⟨(Lib.itoa n).toArray⟩) ∧ w = w' := by
  obtain ⟨U, hU⟩ : ∃ U : Nat, n.natAbs = U := ⟨_, rfl⟩
  have hUl : U ≤ 2147483648 := by omega
  by_cases hn : n < 0
  · obtain rfl : n = -(U : Int) := by omega
    have HT := Lib.hid (show (⟨#[45]⟩ : ByteArray) ++ decB U = ⟨(Lib.itoa (-(U : Int))).toArray⟩ from by
      apply bytes_ext
      rw [bytes_app]
      unfold decB
      rw [itoa_neg hn, hU]; rfl)
    clear hU
    go_enter Tryd.func13, Tryd.ntmps13
    go_wp2_with fail
    go_loop [3, 6] (fun x o => ∃ (u : Nat) (out : ByteArray), u ≤ 2147483648 ∧ x = .int .i64 u ∧ o = .string out ∧ Behind U u out) (fun x _ => (intOf x).toNat)
    case atStart => exact ⟨U / 10, _, by omega, by simp, rfl, by rw [digit_at _ (by omega)]; exact behind_first U⟩
    case round =>
      obtain ⟨u, out, hu, rfl, rfl, hB⟩ := hrel
      have hz := behind_size hB (by omega)
      have HB := Lib.hid hB
      clear hB
      by_cases hlt : 0 < u
      · have hn := behind_next HB.out (by omega)
        rw [← digit_at _ (by omega)] at hn
        have HN := Lib.hid hn
        clear hn
        go_wp2
        go_round
        case rel => exact ⟨u / 10, _, by omega, by simp, rfl, HN.out⟩
        case measure => simp [intOf]; omega
      · obtain rfl : 0 = u := by omega
        obtain rfl : out = decB U := by have := HB.out; unfold Behind at this; rwa [if_pos rfl] at this
        go_wp2
        try rw [HT.out]
        go_ret
        exact ⟨rfl, rfl⟩
  · obtain rfl : n = (U : Int) := by omega
    have HT := Lib.hid (show (⟨#[]⟩ : ByteArray) ++ decB U = ⟨(Lib.itoa (U : Int)).toArray⟩ from by
      apply bytes_ext
      rw [bytes_app]
      unfold decB
      rw [itoa_pos hn]; rfl)
    clear hU
    go_enter Tryd.func13, Tryd.ntmps13
    go_wp2_with fail
    go_loop [3, 6] (fun x o => ∃ (u : Nat) (out : ByteArray), u ≤ 2147483648 ∧ x = .int .i64 u ∧ o = .string out ∧ Behind U u out) (fun x _ => (intOf x).toNat)
    case atStart => exact ⟨U / 10, _, by omega, by simp, rfl, by rw [digit_at _ (by omega)]; exact behind_first U⟩
    case round =>
      obtain ⟨u, out, hu, rfl, rfl, hB⟩ := hrel
      have hz := behind_size hB (by omega)
      have HB := Lib.hid hB
      clear hB
      by_cases hlt : 0 < u
      · have hn := behind_next HB.out (by omega)
        rw [← digit_at _ (by omega)] at hn
        have HN := Lib.hid hn
        clear hn
        go_wp2
        go_round
        case rel => exact ⟨u / 10, _, by omega, by simp, rfl, HN.out⟩
        case measure => simp [intOf]; omega
      · obtain rfl : 0 = u := by omega
        obtain rfl : out = decB U := by have := HB.out; unfold Behind at this; rwa [if_pos rfl] at this
        go_wp2
        try rw [HT.out]
        go_ret
        exact ⟨rfl, rfl⟩
end Go.Proofs.YtkmkfhbekikleaaDoor
