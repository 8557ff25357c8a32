/- The walk of WordShifts. -/
import Derived.Test.YtcjcbaohefcnlaaDoes
namespace Go.Proofs.Ytcjcbaohefcnlaa
open Go.RowKit

theorem i_shl (a b : Int) : doesI 8 a b = wrap32 (a * 2 ^ (b % 32).toNat) := by show (some _).getD 0 = _; rfl
theorem low_bits (k : Nat) (hk : k ≤ 31) (i : Nat) : ((1#32 <<< k) - 1#32 : W).getLsbD i = decide (i < k) := by
  have h2 : 2 ^ k ≤ 2 ^ 31 := Nat.pow_le_pow_right (by decide) hk
  have hpos : 0 < 2 ^ k := Nat.pow_pos (by decide)
  have e : ((1#32 <<< k) - 1#32 : W).toNat = 2 ^ k - 1 := by
    rw [BitVec.toNat_sub, BitVec.toNat_shiftLeft, Nat.shiftLeft_eq]
    simp only [BitVec.toNat_ofNat]
    omega
  rw [BitVec.getLsbD, e, Nat.testBit_two_pow_sub_one]

theorem shr_shl (a : W) (k : Nat) (hk : k ≤ 31) : (a >>> k) <<< k = a &&& ~~~((1#32 <<< k) - 1#32) := by
  apply BitVec.eq_of_getLsbD_eq
  intro i hi
  simp only [BitVec.getLsbD_shiftLeft, BitVec.getLsbD_ushiftRight, BitVec.getLsbD_and, BitVec.getLsbD_not, low_bits k hk]
  by_cases h : i < k
  · simp [h]
  · simp [h, hi, show k + (i - k) = i from by omega]

theorem sar_shl (a : W) (k : Nat) (hk : k ≤ 31) : (a.sshiftRight k) <<< k = a &&& ~~~((1#32 <<< k) - 1#32) := by
  apply BitVec.eq_of_getLsbD_eq
  intro i hi
  simp only [BitVec.getLsbD_shiftLeft, BitVec.getLsbD_sshiftRight, BitVec.getLsbD_and, BitVec.getLsbD_not, low_bits k hk]
  by_cases h : i < k
  · simp [h]
  · simp [h, hi, show k + (i - k) = i from by omega]
    omega

/-- ^(1<<k - 1), as the walk has it. -/
def maskI (k : Nat) : Int := bits .xor .i32 (-1) (wrap32 (wrap32 (2 ^ k) - 1))
theorem mask_eq (k : Nat) : maskI k = (~~~((1#32 <<< k) - 1#32) : W).toInt := by
  have h1 := w_shl 1#32 k
  rw [show (1#32 : W).toInt = 1 from by decide, Int.one_mul] at h1
  have h2 := w_sub (1#32 <<< k) 1#32
  rw [show (1#32 : W).toInt = 1 from by decide] at h2
  have h3 := w_xor (-1#32) ((1#32 <<< k) - 1#32)
  rw [show (-1#32 : W).toInt = -1 from by decide] at h3
  unfold maskI
  rw [h1, h2, h3, BitVec.xor_comm, show (-1#32 : W) = BitVec.allOnes 32 from by decide, BitVec.xor_allOnes]
theorem mask_r (k : Nat) : R32 (maskI k) := by rw [mask_eq]; exact .of_word _

theorem sh_far (b : Int) (hb : R32 b) : ∃ j : Nat, j ≤ 31 ∧ b % 32 = (j : Int) ∧ bits .and .i32 b 31 = (j : Int) := by
  obtain ⟨x, rfl⟩ := hb.word
  refine ⟨far x, by have := far_lt x; omega, w_far x, ?_⟩
  have h := w_and x 31#32
  rw [show (31#32 : W).toInt = 31 from by decide] at h
  have e : (x &&& 31#32).toNat = far x := by
    rw [BitVec.toNat_and, show (31#32 : W).toNat = 2 ^ 5 - 1 from rfl, Nat.and_two_pow_sub_one_eq_mod]; rfl
  have hl := far_lt x
  rw [h, BitVec.toInt_eq_toNat_bmod, e, ← wrap_bmod]
  exact IntWalk.wrap32_in _ (by omega)

theorem sh_1 {a b : Int} {k : Nat} (hk : k ≤ 31) (h : b % 32 = (k : Int)) : (doesI 8 a b == doesI 8 a k) = true := by
  rw [i_shl, i_shl, h, show (k : Int) % 32 = k from by omega]; simp
theorem sh_3 {a b : Int} {k : Nat} (ha : R32 a) (hb : R32 b) (hk : k ≤ 31) (h : b % 32 = (k : Int)) : (doesI 8 (doesI 9 a b) b == doesI 5 a (maskI k)) = true := by
  obtain ⟨a, rfl⟩ := ha.word; obtain ⟨b, rfl⟩ := hb.word
  have hf : far b = k := by have := w_far b; omega
  rw [mask_eq]
  simp only [doesI_eq, b_shl, b_shr, b_and, hf]
  exact int_beq (shr_shl a k hk)
theorem sh_4 {a b : Int} {k : Nat} (ha : R32 a) (hb : R32 b) (hk : k ≤ 31) (h : b % 32 = (k : Int)) : (doesI 8 (doesI 10 a b) b == doesI 5 a (maskI k)) = true := by
  obtain ⟨a, rfl⟩ := ha.word; obtain ⟨b, rfl⟩ := hb.word
  have hf : far b = k := by have := w_far b; omega
  rw [mask_eq]
  simp only [doesI_eq, b_shl, b_sar, b_and, hf]
  exact int_beq (sar_shl a k hk)
theorem i_shr (a b : Int) : doesI 9 a b = wrap32 (a % 4294967296 / 2 ^ (b % 32).toNat) := by show (some _).getD 0 = _; rfl
theorem i_sar (a b : Int) : doesI 10 a b = a / 2 ^ (b % 32).toNat := by show (some _).getD 0 = _; rfl
/-- Of no places: the word itself. -/
theorem sh_none {a b : Int} (ha : R32 a) (h : b % 32 = 0) : doesI 9 a b = a ∧ doesI 10 a b = a := by
  obtain ⟨h1, h2⟩ := ha
  rw [i_shr, i_sar, h]
  simp
  unfold wrap32; omega
/-- Of some: the sign stays, or is gone; the same where it was none. -/
theorem sh_some {a b : Int} {k : Nat} (ha : R32 a) (hk0 : 0 < k) (hk : k ≤ 31) (h : b % 32 = (k : Int)) :
    0 ≤ doesI 9 a b ∧ (a < 0 → doesI 10 a b < 0) ∧ (0 ≤ a → 0 ≤ doesI 10 a b ∧ doesI 9 a b = doesI 10 a b) := by
  obtain ⟨h1, h2⟩ := ha
  rw [i_shr, i_sar, h, show (k : Int).toNat = k from by omega]
  have hp : (2 : Int) ≤ 2 ^ k := by
    obtain ⟨m, rfl⟩ : ∃ m, k = m + 1 := ⟨k - 1, by omega⟩
    have : (1 : Int) ≤ 2 ^ m := Int.pow_pos (by decide)
    rw [Int.pow_succ]; omega
  generalize (2 : Int) ^ k = p at *
  have g1 : 0 ≤ a % 4294967296 / p := Int.ediv_nonneg (by omega) (by omega)
  have g2 : a % 4294967296 / p ≤ a % 4294967296 / 2 := by
    refine Int.le_ediv_of_mul_le (by decide) ?_
    have := Int.ediv_mul_le (a % 4294967296) (b := p) (by omega)
    have := Int.mul_le_mul_of_nonneg_left hp g1
    omega
  rw [IntWalk.wrap32_in _ ⟨by omega, by omega⟩]
  refine ⟨g1, fun hn => Int.ediv_neg_of_neg_of_pos hn (by omega), fun hn => ⟨Int.ediv_nonneg hn (by omega), ?_⟩⟩
  rw [show a % 4294967296 = a from by omega]

theorem sh_step (a : Int) (k : Nat) (hk : k + 1 ≤ 31) : doesI 2 (doesI 8 a k) (doesI 8 a k) = doesI 8 a ((k + 1 : Nat) : Int) := by
  have h : ∀ x y, doesI 2 x y = wrap32 (x + y) := fun _ _ => rfl
  rw [h, i_shl, i_shl, show ((k : Int) % 32).toNat = k from by omega, show (((k + 1 : Nat) : Int) % 32).toNat = k + 1 from by omega, Int.pow_succ]
  have : a * (2 ^ k * 2) = a * 2 ^ k + a * 2 ^ k := by rw [← Int.mul_assoc]; omega
  rw [this]
  unfold wrap32; omega
theorem sh_zero {a : Int} (ha : R32 a) : doesI 8 a 0 = a := by
  rw [i_shl]; simp; exact IntWalk.wrap32_in _ ha

set_option maxHeartbeats 4000000 in
theorem walk_shifts (a b : Int) (ha : (Lit.int .i32 a).wf = true) (hb : (Lit.int .i32 b).wf = true) (w : World) :
    Calls Try.prog 6 #[.int .i32 a, .int .i32 b] w fun e w' => e = .returned (.bool true) ∧ Below w.heap.size w w' := by
  have ha := R32.of_wf ha
  have hb := R32.of_wf hb
  obtain ⟨j, hj, hmod, hand⟩ := sh_far b hb
  have h0 := sh_zero ha
  have H0 := Lib.hid h0; clear h0
  have HM := Lib.hid hmod; clear hmod
  go_enter Try.func6, Try.ntmps6
  go_wp2_with fail
  refine (shown_s _).mono ?_
  rintro e w1 ⟨rfl, hs⟩
  go_wp2_with fail
  clear hand
  go_loopw [7, 8] (fun up i wr => ∃ k : Nat, k ≤ j ∧ i = .int .i32 k ∧ up = .int .i32 (doesI 8 a k) ∧ Since w wr) (fun _ i _ => (j - (intOf i).toNat))
  case atStart => exact ⟨0, by omega, rfl, by rw [show ((0 : Nat) : Int) = 0 from rfl, H0.out], hs⟩
  case round =>
    obtain ⟨k, hk, rfl, rfl, hsr⟩ := hrel
    clear hs
    by_cases hlt : k < j
    · have hst := sh_step a k (by omega)
      have HS := Lib.hid hst; clear hst
      have hr : R32 (doesI 8 a k) := ha.does (by constructor <;> omega)
      go_wp2_with fail
      refine (does_s _ _ _ w _ hsr hr hr).mono ?_
      rw [HS.out]
      rintro e w2 ⟨rfl, hs2⟩
      go_wp2_with fail
      go_roundw
      case rel => exact ⟨k + 1, by omega, by go_num, rfl, hs2⟩
      case measure => simp [intOf]; omega
    · obtain rfl : k = j := by omega
      have f1 := sh_1 (a := a) hj HM.out
      have f3 := sh_3 ha hb hj HM.out
      have f4 := sh_4 ha hb hj HM.out
      have hmr := mask_r k
      have hkr : R32 (k : Int) := by constructor <;> omega
      obtain ⟨M, hM⟩ : ∃ M, maskI k = M := ⟨_, rfl⟩
      rw [hM] at f3 f4 hmr
      unfold maskI at hM
      have hM' : bits .xor .i32 (if IntKind.i32.signed = true then -1 else IntKind.i32.max) (wrap32 (wrap32 (2 ^ k) - 1)) = M := hM
      have hmr' : R32 (bits .xor .i32 (if IntKind.i32.signed = true then -1 else IntKind.i32.max) (wrap32 (wrap32 (2 ^ k) - 1))) := by rw [hM']; exact hmr
      clear hk hlt
      rcases Nat.eq_zero_or_pos k with hz | hz
      · obtain ⟨e1, e2⟩ := sh_none ha (by have := HM.out; omega : b % 32 = 0)
        have hkz : ((k : Int) == 0) = true := by simp; omega
        have k1 : (doesI 9 a b == a) = true := by simpa using e1
        have k2 : (doesI 10 a b == a) = true := by simpa using e2
        clear hz
        by_cases hneg : a < 0
        · have e3 : doesI 10 a b < 0 := by omega
          clear e1 e2
          go_wp2_with (go_at_call 16; refine (does_s _ _ _ w _ (by assumption) (by repeat (first | (with_reducible assumption) | (with_reducible apply R32.does))) (by repeat (first | (with_reducible assumption) | (with_reducible apply R32.does)))).mono ?_; rintro e w' ⟨rfl, hs⟩)
          go_ret
          exact ⟨rfl, by assumption⟩
        · have e3 : ¬ doesI 10 a b < 0 := by omega
          have k3 : (doesI 9 a b == doesI 10 a b) = true := by rw [e1, e2]; simp
          clear e1 e2
          go_wp2_with (go_at_call 16; refine (does_s _ _ _ w _ (by assumption) (by repeat (first | (with_reducible assumption) | (with_reducible apply R32.does))) (by repeat (first | (with_reducible assumption) | (with_reducible apply R32.does)))).mono ?_; rintro e w' ⟨rfl, hs⟩)
          go_ret
          exact ⟨rfl, by assumption⟩
      · obtain ⟨e1, e2, e3⟩ := sh_some ha hz hj HM.out
        have hkz : ((k : Int) == 0) = false := by simp; omega
        have hkp : (0 : Int) < (k : Int) := by omega
        have hkd : decide (0 < k) = true := by simp; omega
        clear hz
        by_cases hneg : a < 0
        · have e2 := e2 hneg
          clear e3
          go_wp2_with (go_at_call 16; refine (does_s _ _ _ w _ (by assumption) (by repeat (first | (with_reducible assumption) | (with_reducible apply R32.does))) (by repeat (first | (with_reducible assumption) | (with_reducible apply R32.does)))).mono ?_; rintro e w' ⟨rfl, hs⟩)
          go_ret
          exact ⟨rfl, by assumption⟩
        · obtain ⟨e3, e4⟩ := e3 (by omega)
          have e4 : (doesI 9 a b == doesI 10 a b) = true := by simpa using e4
          clear e2
          go_wp2_with (go_at_call 16; refine (does_s _ _ _ w _ (by assumption) (by repeat (first | (with_reducible assumption) | (with_reducible apply R32.does))) (by repeat (first | (with_reducible assumption) | (with_reducible apply R32.does)))).mono ?_; rintro e w' ⟨rfl, hs⟩)
          go_ret
          exact ⟨rfl, by assumption⟩
end Go.Proofs.Ytcjcbaohefcnlaa
