/- Plain: the masks of the count, as who stands behind whom. -/
import Derived.Test.YtkpbmbhejpmboaaOrders
namespace Go.Proofs.Ytkpbmbhejpmboaa
open Go.RowKit

def mskN (d : Nat → Nat → Bool) (i : Nat) : Nat → Nat
  | 0 => 0
  | j + 1 => if d j i then mskN d i j ||| 2 ^ j else mskN d i j
theorem mskN_lt (d : Nat → Nat → Bool) (i : Nat) : ∀ j, j ≤ 13 → mskN d i j < 2 ^ 13
  | 0, _ => by simp [mskN]
  | j + 1, h => by
    have := mskN_lt d i j (by omega)
    unfold mskN; split
    · exact Nat.or_lt_two_pow this (Nat.pow_lt_pow_right (by decide) (by omega))
    · exact this
theorem msk_nat (d : Nat → Nat → Bool) (i : Nat) : ∀ j, j ≤ 13 → msk d i j = (mskN d i j : Nat)
  | 0, _ => rfl
  | j + 1, h => by
    have ih := msk_nat d i j (by omega)
    unfold msk mskN; split
    · rw [ih, or_eq _ _ (mskN_lt d i j (by omega)) (by omega)]
    · exact ih
theorem mskN_bit (d : Nat → Nat → Bool) (i t : Nat) : ∀ j, (mskN d i j).testBit t = (decide (t < j) && d t i)
  | 0 => by simp [mskN]
  | j + 1 => by
    have ih := mskN_bit d i t j
    unfold mskN
    by_cases hj : t = j
    · subst hj
      split
      · rename_i h; rw [Nat.testBit_or, ih, Nat.testBit_two_pow]; simp [h]
      · rename_i h; rw [ih]; simp [h]
    · have e : decide (t < j + 1) = decide (t < j) := by
        by_cases h1 : t < j
        · simp [h1]; omega
        · simp [h1]; omega
      rw [e, ← ih]
      split
      · rw [Nat.testBit_or, Nat.testBit_two_pow, decide_eq_false (Ne.symm hj), Bool.or_false]
      · rfl
theorem andNot_eq (a g : Nat) (ha : a < 2 ^ 13) (hg : g < 2 ^ 13) : bits .andNot .i64 (a : Int) (g : Int) = ((a &&& (2 ^ 13 - 1 - g) : Nat) : Int) := by
  have e : bits .andNot .i64 (a : Int) (g : Int) = IntKind.i64.wrap ((BitVec.ofInt 64 (a : Int) &&& ~~~ BitVec.ofInt 64 (g : Int)).toNat : Int) := rfl
  rw [e, BitVec.toNat_and, BitVec.ofInt_natCast, BitVec.ofInt_natCast, BitVec.toNat_not, BitVec.toNat_ofNat, BitVec.toNat_ofNat, Nat.mod_eq_of_lt (by omega : a < 2 ^ 64), Nat.mod_eq_of_lt (by omega : g < 2 ^ 64)]
  have e2 : a &&& (2 ^ 64 - 1 - g) = a &&& (2 ^ 13 - 1 - g) := by
    apply Nat.eq_of_testBit_eq
    intro t
    rw [Nat.testBit_and, Nat.testBit_and]
    by_cases ht : t < 13
    · rw [show 2 ^ 64 - 1 - g = 2 ^ 64 - (g + 1) from by omega, show 2 ^ 13 - 1 - g = 2 ^ 13 - (g + 1) from by omega, Nat.testBit_two_pow_sub_succ (by omega), Nat.testBit_two_pow_sub_succ hg]
      simp [ht, show t < 64 from by omega]
    · rw [Nat.testBit_lt_two_pow (Nat.lt_of_lt_of_le ha (Nat.pow_le_pow_right (by decide) (by omega)))]; simp
  rw [e2]
  have hlt : a &&& (2 ^ 13 - 1 - g) < 2 ^ 13 := Nat.and_lt_two_pow _ (by omega)
  exact IntWalk.i64_in _ (by omega)

/-- May i come next? -/
def readyB (d : Nat → Nat → Bool) (g i : Nat) : Nat → Bool
  | 0 => true
  | k + 1 => readyB d g i k && (g.testBit k || !d k i)
theorem readyB_iff (d : Nat → Nat → Bool) (g i : Nat) : ∀ k, readyB d g i k = true ↔ ∀ t, t < k → d t i = true → g.testBit t = true
  | 0 => by simp [readyB]
  | k + 1 => by
    unfold readyB
    rw [Bool.and_eq_true, readyB_iff d g i k]
    constructor
    · rintro ⟨h1, h2⟩ t ht hd
      by_cases hk : t = k
      · subst hk; simpa [hd] using h2
      · exact h1 t (by omega) hd
    · intro h
      refine ⟨fun t ht hd => h t (by omega) hd, ?_⟩
      cases hd : d k i
      · simp
      · simp [h k (by omega) hd]
theorem readyI_eq (d : Nat → Nat → Bool) (n g i : Nat) (hn : n ≤ 12) (hi : i < n) (hg : g < 2 ^ 13) : readyI (bhs d n) g i = readyB d g i i := by
  unfold readyI bhs
  have e : ((List.range n).map fun t => msk d t t).getD i 0 = (mskN d i i : Nat) := by
    rw [List.getD_eq_getElem?_getD, List.getElem?_map, List.getElem?_range hi]
    exact msk_nat d i i (by omega)
  have hm := mskN_lt d i i (by omega)
  rw [e, andNot_eq _ _ hm hg, Bool.eq_iff_iff, readyB_iff, beq_iff_eq]
  constructor
  · intro h t ht hd
    have h0 : mskN d i i &&& (2 ^ 13 - 1 - g) = 0 := by exact_mod_cast h
    have h1 := congrArg (fun x => x.testBit t) h0
    simp only [Nat.testBit_and, Nat.zero_testBit, mskN_bit, show 2 ^ 13 - 1 - g = 2 ^ 13 - (g + 1) from by omega, Nat.testBit_two_pow_sub_succ hg, decide_eq_true ht, hd, decide_eq_true (show t < 13 by omega)] at h1
    simpa using h1
  · intro h
    have h0 : mskN d i i &&& (2 ^ 13 - 1 - g) = 0 := by
      apply Nat.eq_of_testBit_eq
      intro t
      rw [Nat.testBit_and, Nat.zero_testBit, mskN_bit, show 2 ^ 13 - 1 - g = 2 ^ 13 - (g + 1) from by omega, Nat.testBit_two_pow_sub_succ hg]
      by_cases ht : t < i
      · cases hd : d t i
        · simp
        · simp [h t ht hd]
      · simp [ht]
    exact_mod_cast h0
/-- Is one of the first k not gone? -/
def someB (g : Nat) : Nat → Bool
  | 0 => false
  | k + 1 => someB g k || !g.testBit k
theorem someB_iff (g : Nat) : ∀ k, someB g k = false ↔ ∀ t, t < k → g.testBit t = true
  | 0 => by simp [someB]
  | k + 1 => by
    unfold someB
    rw [Bool.or_eq_false_iff, someB_iff g k]
    constructor
    · rintro ⟨h1, h2⟩ t ht
      by_cases hk : t = k
      · subst hk; simpa using h2
      · exact h1 t (by omega)
    · intro h
      exact ⟨fun t ht => h t (by omega), by simpa using h k (by omega)⟩
theorem someB_full (g n : Nat) (hg : g < 2 ^ n) : someB g n = false ↔ g = 2 ^ n - 1 := by
  rw [someB_iff]
  constructor
  · intro h
    apply Nat.eq_of_testBit_eq
    intro i
    rw [Nat.testBit_two_pow_sub_one]
    by_cases hi : i < n
    · simp [hi, h i hi]
    · rw [Nat.testBit_lt_two_pow (Nat.lt_of_lt_of_le hg (Nat.pow_le_pow_right (by decide) (by omega)))]; simp [hi]
  · intro h t ht
    rw [h, Nat.testBit_two_pow_sub_one]; simp [ht]
/-- What the sum over all comes to. -/
theorem rcount (d : Nat → Nat → Bool) (n g : Nat) (hn : n ≤ 12) (hg : g < 2 ^ n) (h : someB g n = true) : cnt (bhs d n) n g = psum (term (bhs d n) n g) n :=
  cnt_eq _ _ _ (by omega) hg fun e => by rw [(someB_full g n hg).2 e] at h; cases h
theorem rcount_none (d : Nat → Nat → Bool) (n g : Nat) (hg : g < 2 ^ n) (h : someB g n = false) : cnt (bhs d n) n g = 1 := by
  rw [(someB_full g n hg).1 h]; exact cnt_full _ _
theorem term_eq (d : Nat → Nat → Bool) (n g i : Nat) (hn : n ≤ 12) (hi : i < n) (hg : g < 2 ^ n) : term (bhs d n) n g i = if !g.testBit i && readyB d g i i then cnt (bhs d n) n (g ||| 2 ^ i) else 0 := by
  have h13 : g < 2 ^ 13 := Nat.lt_of_lt_of_le hg (Nat.pow_le_pow_right (by decide) (by omega))
  unfold term
  rw [unsetI_eq g i (Nat.lt_of_lt_of_le h13 (by decide)), readyI_eq d n g i hn hi h13]
end Go.Proofs.Ytkpbmbhejpmboaa
