/- The walk of WordRing. -/
import Derived.Test.YtcjcbaohefcnlaaDoes
namespace Go.Proofs.Ytcjcbaohefcnlaa
open Go.RowKit

theorem ring_1 {a b c : Int} (ha : R32 a) (hb : R32 b) (hc : R32 c) : (doesI 2 (doesI 2 a b) c == doesI 2 a (doesI 2 b c)) = true := by
  obtain ⟨a, rfl⟩ := ha.word; obtain ⟨b, rfl⟩ := hb.word; obtain ⟨c, rfl⟩ := hc.word
  simp only [doesI_eq, b_add]; exact int_beq (BitVec.add_assoc _ _ _)
theorem ring_2 {a b : Int} (ha : R32 a) (hb : R32 b) : (doesI 2 a b == doesI 2 b a) = true := by
  obtain ⟨a, rfl⟩ := ha.word; obtain ⟨b, rfl⟩ := hb.word
  simp only [doesI_eq, b_add]; exact int_beq (BitVec.add_comm _ _)
theorem ring_3 {a b c : Int} (ha : R32 a) (hb : R32 b) (hc : R32 c) : (doesI 4 (doesI 4 a b) c == doesI 4 a (doesI 4 b c)) = true := by
  obtain ⟨a, rfl⟩ := ha.word; obtain ⟨b, rfl⟩ := hb.word; obtain ⟨c, rfl⟩ := hc.word
  simp only [doesI_eq, b_mul]; exact int_beq (BitVec.mul_assoc _ _ _)
theorem ring_4 {a b : Int} (ha : R32 a) (hb : R32 b) : (doesI 4 a b == doesI 4 b a) = true := by
  obtain ⟨a, rfl⟩ := ha.word; obtain ⟨b, rfl⟩ := hb.word
  simp only [doesI_eq, b_mul]; exact int_beq (BitVec.mul_comm _ _)
theorem ring_5 {a b c : Int} (ha : R32 a) (hb : R32 b) (hc : R32 c) : (doesI 4 a (doesI 2 b c) == doesI 2 (doesI 4 a b) (doesI 4 a c)) = true := by
  obtain ⟨a, rfl⟩ := ha.word; obtain ⟨b, rfl⟩ := hb.word; obtain ⟨c, rfl⟩ := hc.word
  simp only [doesI_eq, b_mul, b_add]; exact int_beq (BitVec.mul_add)
theorem ring_6 {a b : Int} (ha : R32 a) (hb : R32 b) : (doesI 3 (doesI 2 a b) b == a) = true := by
  obtain ⟨a, rfl⟩ := ha.word; obtain ⟨b, rfl⟩ := hb.word
  simp only [doesI_eq, b_sub, b_add]; exact int_beq (BitVec.add_sub_cancel _ _)
theorem ring_7 {a b : Int} (ha : R32 a) (hb : R32 b) : (doesI 2 (doesI 3 a b) b == a) = true := by
  obtain ⟨a, rfl⟩ := ha.word; obtain ⟨b, rfl⟩ := hb.word
  simp only [doesI_eq, b_sub, b_add]; exact int_beq (BitVec.sub_add_cancel _ _)
theorem ring_8 {a : Int} (ha : R32 a) : (doesI 3 a a == 0) = true := by
  obtain ⟨a, rfl⟩ := ha.word
  rw [i_zero]; simp only [doesI_eq, b_sub]; exact int_beq (BitVec.sub_self _)
theorem ring_9 {a : Int} (ha : R32 a) : (doesI 4 a 1 == a) = true := by
  obtain ⟨a, rfl⟩ := ha.word
  rw [i_one]; simp only [doesI_eq, b_mul]; exact int_beq (BitVec.mul_one _)
theorem ring_10 {a : Int} (ha : R32 a) : (doesI 2 a 0 == a) = true := by
  obtain ⟨a, rfl⟩ := ha.word
  rw [i_zero]; simp only [doesI_eq, b_add]; exact int_beq (BitVec.add_zero _)

set_option maxHeartbeats 1000000 in
theorem walk_ring (a b c : Int) (ha : (Lit.int .i32 a).wf = true) (hb : (Lit.int .i32 b).wf = true) (hc : (Lit.int .i32 c).wf = true) (w : World) :
    Calls Try.prog 4 #[.int .i32 a, .int .i32 b, .int .i32 c] w fun e w' => e = .returned (.bool true) ∧ Below w.heap.size w w' := by
  have ha := R32.of_wf ha
  have hb := R32.of_wf hb
  have hc := R32.of_wf hc
  have h0 : R32 0 := by constructor <;> decide
  have h1 : R32 1 := by constructor <;> decide
  have f1 := ring_1 ha hb hc
  have f2 := ring_2 ha hb
  have f3 := ring_3 ha hb hc
  have f4 := ring_4 ha hb
  have f5 := ring_5 ha hb hc
  have f6 := ring_6 ha hb
  have f7 := ring_7 ha hb
  have f8 := ring_8 ha
  have f9 := ring_9 ha
  have f10 := ring_10 ha
  go_enter Try.func4, Try.ntmps4
  go_wp2_with (first | (go_at_call 11; refine (shown_s _).mono ?_; rintro e w' ⟨rfl, hs⟩) | (go_at_call 16; refine (does_s _ _ _ w _ (by assumption) (by repeat (first | assumption | apply R32.does)) (by repeat (first | assumption | apply R32.does))).mono ?_; rintro e w' ⟨rfl, hs⟩))
  go_ret
  exact ⟨rfl, by assumption⟩
end Go.Proofs.Ytcjcbaohefcnlaa
