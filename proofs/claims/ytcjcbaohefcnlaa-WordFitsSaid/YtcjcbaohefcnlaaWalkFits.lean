/- The walk of WordFits. -/
import Derived.Test.YtcjcbaohefcnlaaDoes
namespace Go.Proofs.Ytcjcbaohefcnlaa
open Go.RowKit

/-- A word fits into k bits (1 to 32) just if it lies between the two powers. -/
theorem fits_iff (n k : Int) (h1 : 1 ≤ k) (h2 : k ≤ 32) (hn : R32 n) : fitsI n k = decide (-(2 ^ (k - 1).toNat) ≤ n ∧ n < 2 ^ (k - 1).toNat) := by
  obtain ⟨n1, n2⟩ := hn
  unfold fitsI
  rw [if_neg (by omega), if_neg (by omega)]
  obtain ⟨j, hj⟩ : ∃ j : Nat, (32 - k).toNat = j ∧ j ≤ 31 ∧ (k - 1).toNat = 31 - j := ⟨_, rfl, by omega, by omega⟩
  obtain ⟨hj, hj2, hj3⟩ := hj
  rw [hj, hj3]
  have hp : (2 : Int) ^ j * 2 ^ (31 - j) = 2147483648 := by rw [← Int.pow_add, show j + (31 - j) = 31 from by omega]; decide
  have hpos : (0 : Int) < 2 ^ j := Int.pow_pos (by decide)
  have hpos2 : (0 : Int) < 2 ^ (31 - j) := Int.pow_pos (by decide)
  generalize (2 : Int) ^ j = p at *
  generalize (2 : Int) ^ (31 - j) = r at *
  rw [Bool.eq_iff_iff]
  simp only [beq_iff_eq, decide_eq_true_eq]
  constructor
  · intro h
    have hw : -2147483648 ≤ wrap32 (n * p) ∧ wrap32 (n * p) ≤ 2147483647 := by unfold wrap32; omega
    have hlo : n * p ≤ wrap32 (n * p) := by rw [← h]; have := Int.ediv_mul_le (wrap32 (n * p)) (b := p) (by omega); rw [h] at this ⊢; exact this
    have hhi : wrap32 (n * p) < (n + 1) * p := by have := Int.lt_ediv_add_one_mul_self (wrap32 (n * p)) hpos; rw [h] at this; exact this
    have g1 : n * p < r * p := by rw [Int.mul_comm r p, hp]; omega
    have g2 : -r * p < (n + 1) * p := by rw [Int.neg_mul, Int.mul_comm r p, hp]; omega
    have := Int.lt_of_mul_lt_mul_right g1 (by omega)
    have := Int.lt_of_mul_lt_mul_right g2 (by omega)
    omega
  · rintro ⟨k1, k2⟩
    have e1 : -2147483648 ≤ n * p := by
      have := Int.mul_le_mul_of_nonneg_right k1 (by omega : 0 ≤ p)
      rw [Int.neg_mul, Int.mul_comm r p, hp] at this; exact this
    have e2 : n * p ≤ 2147483647 := by
      have := Int.mul_lt_mul_of_pos_right k2 hpos
      rw [Int.mul_comm r p, hp] at this; omega
    rw [IntWalk.wrap32_in _ ⟨e1, e2⟩, Int.mul_ediv_cancel _ (by omega)]

theorem pow_le (k : Int) (h1 : 1 ≤ k) (h2 : k ≤ 32) : (1 : Int) ≤ 2 ^ (k - 1).toNat ∧ 2 ^ (k + 1 - 1).toNat = 2 * (2 : Int) ^ (k - 1).toNat := by
  refine ⟨Int.pow_pos (by decide), ?_⟩
  rw [show (k + 1 - 1).toNat = (k - 1).toNat + 1 from by omega, Int.pow_succ, Int.mul_comm]

/-- The same by moving up and down. -/
theorem fits_moved (n k : Int) (h1 : 1 ≤ k) (h2 : k ≤ 32) : (doesI 10 (doesI 8 n (32 - k)) (32 - k) == n) = fitsI n k := by
  have e1 : doesI 8 n (32 - k) = wrap32 (n * 2 ^ ((32 - k) % 32).toNat) := rfl
  have e2 : ∀ x, doesI 10 x (32 - k) = x / 2 ^ ((32 - k) % 32).toNat := fun _ => rfl
  rw [e2, e1]
  unfold fitsI
  rw [if_neg (by omega), if_neg (by omega), show (32 - k) % 32 = 32 - k from by omega]

/-- What fits into k bits fits into one more. -/
theorem fits_more (n k : Int) (h1 : 1 ≤ k) (h2 : k + 1 ≤ 32) (hn : R32 n) (h : fitsI n k = true) : fitsI n (k + 1) = true := by
  rw [fits_iff n k h1 (by omega) hn] at h
  rw [fits_iff n (k + 1) (by omega) h2 hn]
  have hp := pow_le k h1 (by omega)
  rw [hp.2]
  simp only [decide_eq_true_eq] at h ⊢
  omega

theorem fits_zero (k : Int) (h1 : 1 ≤ k) (h2 : k ≤ 32) : fitsI 0 k = true := by
  rw [fits_iff 0 k h1 h2 (by constructor <;> decide)]
  have hp := pow_le k h1 h2
  simp only [decide_eq_true_eq]
  omega

theorem fits_all (n : Int) (hn : R32 n) : fitsI n 32 = true := by
  rw [fits_iff n 32 (by decide) (by decide) hn]
  obtain ⟨h1, h2⟩ := hn
  have : (2 : Int) ^ ((32 : Int) - 1).toNat = 2147483648 := by decide
  rw [this]
  simp only [decide_eq_true_eq]
  omega

/-- A word's opposite. -/
theorem opposite {n : Int} (hn : R32 n) : bits .xor .i32 (-1) n = -1 - n := by
  obtain ⟨a, rfl⟩ := hn.word
  have h := w_xor (-1#32) a
  have e : ((-1#32 : W)).toInt = -1 := by decide
  rw [e] at h
  rw [h, BitVec.xor_comm, show (-1#32 : W) = BitVec.allOnes 32 from by decide, BitVec.xor_allOnes]
  have h3 := w_mod a
  have h1 := w_lo a
  have h2 := w_hi a
  have h4 := a.isLt
  rw [BitVec.toInt_not, ← wrap_bmod]
  unfold wrap32
  omega

theorem fits_opposite (n k : Int) (h1 : 1 ≤ k) (h2 : k ≤ 32) (hn : R32 n) : fitsI (-1 - n) k = fitsI n k := by
  have hm : R32 (-1 - n) := by obtain ⟨a, b⟩ := hn; constructor <;> omega
  rw [fits_iff n k h1 h2 hn, fits_iff (-1 - n) k h1 h2 hm]
  rw [Bool.eq_iff_iff]
  simp only [decide_eq_true_eq]
  constructor <;> omega

def wasI (n k : Int) : Bool := if k = 1 then n == 0 else fitsI n (k - 1)
theorem was_fits (n k : Int) (h1 : 1 ≤ k) (h2 : k ≤ 32) (hn : R32 n) (h : wasI n k = true) : fitsI n k = true := by
  unfold wasI at h
  by_cases e : k = 1
  · rw [if_pos e] at h
    have : n = 0 := by simpa using h
    subst this; exact fits_zero k h1 h2
  · rw [if_neg e] at h
    have := fits_more n (k - 1) (by omega) (by omega) hn h
    rwa [show k - 1 + 1 = k from by omega] at this
theorem was_next (n k : Int) (h1 : 1 ≤ k) : wasI n (k + 1) = fitsI n k := by
  unfold wasI
  rw [if_neg (by omega), show k + 1 - 1 = k from by omega]
theorem fits_far (n b : Int) : (b ≤ 0 ∨ 32 < b) → fitsI n b = (decide (32 < b) || n == 0) := by
  rintro (h | h)
  · unfold fitsI; rw [if_pos (by omega)]; simp; omega
  · unfold fitsI; rw [if_neg (by omega), if_pos h]; simp [h]
theorem bool_value {a b : Bool} (h : a = b) : Value.bool a = Value.bool b := by rw [h]

set_option maxHeartbeats 1000000 in
theorem walk_fits (n bits : Int) (hn : (Lit.int .i32 n).wf = true) (hb : (Lit.int .i64 bits).wf = true) (w : World) :
    Calls Try.prog 10 #[.int .i32 n, .int .i64 bits] w fun e w' => e = .returned (.bool true) ∧ Below w.heap.size w w' := by
  have hn := R32.of_wf hn
  have hbd : -9223372036854775808 ≤ bits ∧ bits ≤ 9223372036854775807 := by
    simp [Lit.wf, IntKind.min, IntKind.max, IntKind.signed, IntKind.bits] at hb
    omega
  have hop := opposite hn
  have f32 := fits_all n hn
  have F32 := Lib.hid f32; clear f32
  have f0 : fitsI n 0 = (n == 0) := by unfold fitsI; rw [if_pos (by decide)]
  have F0 := Lib.hid f0; clear f0
  have hw1 : wasI n 1 = (n == 0) := by unfold wasI; rw [if_pos rfl]
  go_enter Try.func10, Try.ntmps10
  go_wp2_with fail
  refine (shown_s _).mono ?_
  rintro e w1 ⟨rfl, hs⟩
  go_wp2_with fail
  go_loopw [6, 7] (fun was i wr => ∃ k : Int, 1 ≤ k ∧ k ≤ 33 ∧ i = .int .i64 k ∧ was = .bool (wasI n k) ∧ Since w wr) (fun _ i _ => (33 - intOf i).toNat)
  case atStart => exact ⟨1, by omega, by omega, rfl, bool_value hw1.symm, hs⟩
  case round =>
    obtain ⟨k, hk1, hk2, rfl, rfl, hsr⟩ := hrel
    clear hw1 hs
    by_cases hlt : k ≤ 32
    · have hr : R32 (32 - k) := by constructor <;> omega
      have hmv := fits_moved n k hk1 hlt
      have hfo := fits_opposite n k hk1 hlt hn
      have hnx := was_next n k hk1
      have hwf := was_fits n k hk1 hlt hn
      obtain ⟨f, hf⟩ : ∃ f, fitsI n k = f := ⟨_, rfl⟩
      obtain ⟨v, hv⟩ : ∃ v, wasI n k = v := ⟨_, rfl⟩
      rw [hf] at hmv hfo hnx hwf
      rw [hv] at hwf
      have hcase : (v = true ∧ f = true) ∨ (v = false ∧ f = true) ∨ (v = false ∧ f = false) := by cases v <;> cases f <;> simp_all
      have HFO := Lib.hid hfo; clear hfo
      have HNX := Lib.hid hnx; clear hnx
      have HF := Lib.hid hf; clear hf
      rw [hv]; clear hv
      clear hwf
      rcases hcase with ⟨rfl, rfl⟩ | ⟨rfl, rfl⟩ | ⟨rfl, rfl⟩
      all_goals
        go_wp2_with fail
        refine (does_s _ _ _ w _ hsr hn hr).mono ?_
        rintro e w2 ⟨rfl, hs2⟩
        go_wp2_with fail
        refine (fits_any _ _ _).mono ?_
        rw [HF.out]
        rintro e w3 ⟨rfl, rfl⟩
        go_wp2_with fail
        refine (does_s _ _ _ w _ hs2 (R32.does hn hr) hr).mono ?_
        rintro e w4 ⟨rfl, hs4⟩
        go_wp2_with fail
        refine (fits_any _ _ _).mono ?_
        rw [HFO.out]
        rintro e w3 ⟨rfl, rfl⟩
        go_wp2_with fail
        go_roundw
        case rel => exact ⟨k + 1, by omega, by omega, rfl, by rw [HNX.out], hs4⟩
        case measure => simp [intOf]; omega
    · obtain rfl : k = 33 := by omega
      have hw33 : wasI n 33 = true := by unfold wasI; rw [if_neg (by decide)]; exact F32.out
      rw [hw33]
      clear hw33 hlt hk1 hk2
      by_cases hb1 : 0 < bits ∧ bits ≤ 32
      · obtain ⟨hb1, hb2⟩ := hb1
        have hfar := fits_far n (bits + 32) (.inr (by omega))
        rw [show decide (32 < bits + 32) = true from by simp; omega] at hfar
        have HFAR := Lib.hid hfar; clear hfar
        go_wp2_with fail
        refine (fits_any _ _ _).mono ?_
        rw [HFAR.out]
        rintro e w3 ⟨rfl, rfl⟩
        go_wp2_with fail
        refine (fits_any _ _ _).mono ?_
        rw [F0.out]
        rintro e w3 ⟨rfl, rfl⟩
        go_wp2_with fail
        go_ret
        exact ⟨rfl, hsr⟩
      · have hb3 : bits ≤ 0 ∨ 32 < bits := by omega
        have hfar := fits_far n bits hb3
        have HFAR := Lib.hid hfar; clear hfar
        rcases hb3 with hb3 | hb3
        all_goals
          go_wp2_with fail
          refine (fits_any _ _ _).mono ?_
          rw [HFAR.out]
          rintro e w3 ⟨rfl, rfl⟩
          go_wp2_with fail
          refine (fits_any _ _ _).mono ?_
          rw [F0.out]
          rintro e w3 ⟨rfl, rfl⟩
          go_wp2_with fail
          go_ret
          exact ⟨rfl, hsr⟩
end Go.Proofs.Ytcjcbaohefcnlaa
