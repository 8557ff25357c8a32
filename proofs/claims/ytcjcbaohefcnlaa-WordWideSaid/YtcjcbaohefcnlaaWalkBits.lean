/- The walks of WordBits, WordWide. -/
import Derived.Test.YtcjcbaohefcnlaaDoes
namespace Go.Proofs.Ytcjcbaohefcnlaa
open Go.RowKit

theorem bits_1 {a b : Int} (ha : R32 a) (hb : R32 b) : (doesI 2 (doesI 5 a b) (doesI 6 a b) == doesI 2 a b) = true := by
  obtain ⟨a, rfl⟩ := ha.word; obtain ⟨b, rfl⟩ := hb.word
  simp only [doesI_eq, b_add, b_and, b_or]; exact int_beq (by rw [← or_bits a b, ← sum_bits a b, BitVec.add_comm])
theorem bits_2 {a b : Int} (ha : R32 a) (hb : R32 b) : (doesI 3 (doesI 6 a b) (doesI 5 a b) == doesI 7 a b) = true := by
  obtain ⟨a, rfl⟩ := ha.word; obtain ⟨b, rfl⟩ := hb.word
  simp only [doesI_eq, b_sub, b_and, b_or, b_xor]; exact int_beq (by rw [← or_bits a b, BitVec.add_sub_cancel])
theorem b_not (a : W) : a ^^^ (-1#32) = ~~~a := by
  rw [show (-1#32 : W) = BitVec.allOnes 32 from by decide, BitVec.xor_allOnes]
theorem bits_3 {a : Int} (ha : R32 a) : (doesI 5 a (doesI 7 a (-1)) == 0) = true := by
  obtain ⟨a, rfl⟩ := ha.word
  rw [i_minus, i_zero]; simp only [doesI_eq, b_and, b_xor, b_not]; exact int_beq (BitVec.and_not_self _)
theorem bits_4 {a : Int} (ha : R32 a) : (doesI 6 a (doesI 7 a (-1)) == -1) = true := by
  obtain ⟨a, rfl⟩ := ha.word
  rw [i_minus]; simp only [doesI_eq, b_or, b_xor, b_not]; exact int_beq (by rw [BitVec.or_not_self]; decide)
theorem bits_5 {a : Int} (ha : R32 a) : (doesI 7 a (-1) == doesI 3 (-1) a) = true := by
  obtain ⟨a, rfl⟩ := ha.word
  rw [i_minus]; simp only [doesI_eq, b_sub, b_xor, b_not]; exact int_beq (by rw [show (-1#32 : W) = BitVec.allOnes 32 from by decide, BitVec.allOnes_sub_eq_not])
theorem bits_6 {a b : Int} (ha : R32 a) (hb : R32 b) : (doesI 7 (doesI 7 a b) b == a) = true := by
  obtain ⟨a, rfl⟩ := ha.word; obtain ⟨b, rfl⟩ := hb.word
  simp only [doesI_eq, b_xor]; exact int_beq (by rw [BitVec.xor_assoc, BitVec.xor_self, BitVec.xor_zero])
theorem bits_7 {a b : Int} (ha : R32 a) (hb : R32 b) : (doesI 2 (doesI 7 a b) (doesI 8 (doesI 5 a b) 1) == doesI 2 a b) = true := by
  obtain ⟨a, rfl⟩ := ha.word; obtain ⟨b, rfl⟩ := hb.word
  rw [i_one]
  simp only [doesI_eq, b_add, b_and, b_xor, b_shl]
  refine int_beq ?_
  rw [show far 1#32 = 1 from rfl, BitVec.shiftLeft_eq_mul_twoPow, show BitVec.twoPow 32 1 = (1#32 + 1#32) from by decide, BitVec.mul_add, BitVec.mul_one, ← BitVec.add_assoc, sum_bits]

set_option maxHeartbeats 1000000 in
theorem walk_bits (a b : Int) (ha : (Lit.int .i32 a).wf = true) (hb : (Lit.int .i32 b).wf = true) (w : World) :
    Calls Try.prog 5 #[.int .i32 a, .int .i32 b] w fun e w' => e = .returned (.bool true) ∧ Below w.heap.size w w' := by
  have ha := R32.of_wf ha
  have hb := R32.of_wf hb
  have hm : R32 (-1) := by constructor <;> decide
  have h1 : R32 1 := by constructor <;> decide
  have f1 := bits_1 ha hb
  have f2 := bits_2 ha hb
  have f3 := bits_3 ha
  have f4 := bits_4 ha
  have f5 := bits_5 ha
  have f6 := bits_6 ha hb
  have f7 := bits_7 ha hb
  go_enter Try.func5, Try.ntmps5
  go_wp2_with (first | (go_at_call 11; refine (shown_s _).mono ?_; rintro e w' ⟨rfl, hs⟩) | (go_at_call 16; refine (does_s _ _ _ w _ (by assumption) (by repeat (first | assumption | apply R32.does)) (by repeat (first | assumption | apply R32.does))).mono ?_; rintro e w' ⟨rfl, hs⟩))
  go_ret
  exact ⟨rfl, by assumption⟩

theorem wide_1 {a b : Int} (ha : R32 a) (hb : R32 b) : (lowI a b == doesI 4 a b) = true := by
  obtain ⟨a, rfl⟩ := ha.word; obtain ⟨b, rfl⟩ := hb.word
  simp only [doesI_eq, b_mul, lowI, w_mul]; simp
theorem wide_2 (a b : Int) : lowI b a = lowI a b := by unfold lowI; rw [Int.mul_comm]
theorem wide_3 (a b : Int) : highI b a = highI a b := by unfold highI; rw [Int.mul_comm]
theorem wide_4 (a b : Int) : (highI a b * 4294967296 + lowI a b % 4294967296 == a * b) = true := by
  have h2 : lowI a b % 4294967296 = (a * b) % 4294967296 := by unfold lowI wrap32; omega
  have h3 : highI a b * 4294967296 + (a * b) % 4294967296 = a * b := by unfold highI; omega
  rw [h2, h3]; simp
theorem wide_5 (a b : Int) (h : -4611686018427387904 ≤ a * b ∧ a * b ≤ 4611686018427387904) : -1073741824 ≤ highI a b ∧ highI a b ≤ 1073741824 := by unfold highI; omega

set_option maxHeartbeats 1000000 in
theorem walk_wide (a b : Int) (ha : (Lit.int .i32 a).wf = true) (hb : (Lit.int .i32 b).wf = true) (w : World) :
    Calls Try.prog 9 #[.int .i32 a, .int .i32 b] w fun e w' => e = .returned (.bool true) ∧ Below w.heap.size w w' := by
  have ha := R32.of_wf ha
  have hb := R32.of_wf hb
  have f1 := wide_1 ha hb
  have f2 := wide_2 a b
  have f3 := wide_3 a b
  have f4 := wide_4 a b
  have f5 := mul_range a b ha.1 ha.2 hb.1 hb.2
  have f6 := wide_5 a b f5
  have a1 := ha.1
  have a2 := ha.2
  have b1 := hb.1
  have b2 := hb.2
  have H2 := Lib.hid f2; clear f2
  have H3 := Lib.hid f3; clear f3
  go_enter Try.func9, Try.ntmps9
  go_wp2_with fail
  refine (shown_s _).mono ?_
  rintro e w' ⟨rfl, hs⟩
  go_wp2_with fail
  refine (wide_any _ _ _ ha.1 ha.2 hb.1 hb.2).mono ?_
  rintro e w2 ⟨rfl, rfl⟩
  go_wp2_with fail
  refine (wide_any _ _ _ hb.1 hb.2 ha.1 ha.2).mono ?_
  rw [H2.out, H3.out]
  rintro e w2 ⟨rfl, rfl⟩
  go_wp2_with (first | (go_at_call 16; refine (does_s _ _ _ w _ (by assumption) (by repeat (first | assumption | apply R32.does)) (by repeat (first | assumption | apply R32.does))).mono ?_; rintro e w' ⟨rfl, hs⟩))
  go_ret
  exact ⟨rfl, by assumption⟩
end Go.Proofs.Ytcjcbaohefcnlaa
