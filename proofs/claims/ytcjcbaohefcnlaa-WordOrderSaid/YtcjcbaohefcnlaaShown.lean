/- What word.Wide, the reference's Wide, does, shown and word.Fits compute. -/
import Derived.Test.YtcjcbaohefcnlaaDo
import Derived.Lib.Hide
namespace Go.Proofs.Ytcjcbaohefcnlaa
open Go.RowKit

/-- The lower and the higher half of a product. -/
def lowI (a b : Int) : Int := wrap32 (a * b)
def highI (a b : Int) : Int := a * b / 4294967296

theorem mul_range (a b : Int) (ha : -2147483648 ≤ a) (ha' : a ≤ 2147483647) (hb : -2147483648 ≤ b) (hb' : b ≤ 2147483647) :
    -4611686018427387904 ≤ a * b ∧ a * b ≤ 4611686018427387904 := by
  have h : (a * b).natAbs ≤ 2147483648 * 2147483648 := by
    rw [Int.natAbs_mul]; exact Nat.mul_le_mul (by omega) (by omega)
  omega

theorem ret_pair {x y x' y' : Int} (h : x = x') (k : y = y') : Ending.returned (.tuple #[.int .i32 x, .int .i32 y]) = .returned (.tuple #[.int .i32 x', .int .i32 y']) := by rw [h, k]

set_option maxHeartbeats 400000 in
theorem wide_any (a b : Int) (w : World) (ha : -2147483648 ≤ a) (ha' : a ≤ 2147483647) (hb : -2147483648 ≤ b) (hb' : b ≤ 2147483647) :
    Calls Try.prog 14 #[.int .i32 a, .int .i32 b] w fun e w' => e = .returned (.tuple #[.int .i32 (lowI a b), .int .i32 (highI a b)]) ∧ w = w' := by
  have hm := mul_range a b ha ha' hb hb'
  go_enter Try.func14, Try.ntmps14
  go_wp2
  go_ret2
  exact ⟨ret_pair rfl (by simp [highI]), rfl⟩

set_option maxHeartbeats 400000 in
theorem rwide_any (a b : Int) (w : World) (ha : -2147483648 ≤ a) (ha' : a ≤ 2147483647) (hb : -2147483648 ≤ b) (hb' : b ≤ 2147483647) :
    Calls Try.prog 15 #[.int .i32 a, .int .i32 b] w fun e w' => e = .returned (.tuple #[.int .i32 (lowI a b), .int .i32 (highI a b)]) ∧ w = w' := by
  have hm := mul_range a b ha ha' hb hb'
  go_enter Try.func15, Try.ntmps15
  go_wp2
  go_ret2
  exact ⟨ret_pair (by rw [lowI, IntKind.wrap_u64]; unfold wrap32; omega) (by rw [highI, IntKind.wrap_u64]; unfold wrap32; omega), rfl⟩

def doesI (op a b : Int) : Int := (doI op a b).getD 0

set_option maxHeartbeats 400000 in
theorem does_any (op a b : Int) (w : World) (ha : -2147483648 ≤ a) (ha' : a ≤ 2147483647) (hb : -2147483648 ≤ b) (hb' : b ≤ 2147483647) :
    Calls Try.prog 16 #[.int .i64 op, .int .i32 a, .int .i32 b] w fun e w' => e = .returned (.int .i32 (doesI op a b)) ∧ Below w.heap.size w w' := by
  cases h : doI op a b with
  | none =>
    have H := Lib.hid h; clear h
    go_enter Try.func16, Try.ntmps16
    go_wp2_with (go_at_call 12; refine (do_any _ _ _ _ ha ha' hb hb').mono ?_; rw [H.out]; rintro e w' ⟨rfl, hb1⟩)
    go_ret
    exact ⟨by rw [doesI, H.out]; rfl, hb1⟩
  | some r =>
    have H := Lib.hid h; clear h
    go_enter Try.func16, Try.ntmps16
    go_wp2_with (go_at_call 12; refine (do_any _ _ _ _ ha ha' hb hb').mono ?_; rw [H.out]; rintro e w' ⟨rfl, hb1⟩)
    go_ret
    exact ⟨by rw [doesI, H.out]; rfl, hb1⟩

set_option maxHeartbeats 400000 in
theorem shown_any (w : World) :
    Calls Try.prog 11 #[] w fun e w' => e = .returned (.bool true) ∧ Below w.heap.size w w' := by
  have h1 : doI 14 (-7) 2 = some (-3) := by decide +kernel
  have h2 : doI 10 (-8) 33 = some (-4) := by decide +kernel
  have h3 : doI 13 (-1) 1 = some 0 := by decide +kernel
  have h4 : lowI (-1) 1 = -1 := by decide +kernel
  have h5 : highI (-1) 1 = -1 := by decide +kernel
  have H1 := Lib.hid h1; clear h1
  have H2 := Lib.hid h2; clear h2
  have H3 := Lib.hid h3; clear h3
  have H4 := Lib.hid h4; clear h4
  have H5 := Lib.hid h5; clear h5
  go_enter Try.func11, Try.ntmps11
  go_wp2_with fail
  refine (do_any _ _ _ _ (by decide) (by decide) (by decide) (by decide)).mono ?_
  rw [H1.out]
  rintro e w1 ⟨rfl, hb1⟩
  go_wp2_with fail
  refine (do_any _ _ _ _ (by decide) (by decide) (by decide) (by decide)).mono ?_
  rw [H2.out]
  rintro e w2 ⟨rfl, hb2⟩
  go_wp2_with fail
  refine (do_any _ _ _ _ (by decide) (by decide) (by decide) (by decide)).mono ?_
  rw [H3.out]
  rintro e w3 ⟨rfl, hb3⟩
  go_wp2_with fail
  refine (wide_any _ _ _ (by decide) (by decide) (by decide) (by decide)).mono ?_
  rw [H4.out, H5.out]
  rintro e w4 ⟨rfl, rfl⟩
  go_wp2_with fail
  go_ret
  have s1 := hb1.size
  have s2 := hb2.size
  exact ⟨rfl, (hb1.trans (hb2.mono s1)).trans (hb3.mono (Nat.le_trans s1 s2))⟩

/-- Does a word fit into so many bits? -/
def fitsI (n bits : Int) : Bool :=
  if bits < 1 then n == 0 else if 32 < bits then true else wrap32 (n * 2 ^ (32 - bits).toNat) / 2 ^ (32 - bits).toNat == n

set_option maxHeartbeats 400000 in
theorem fits_any (n bits : Int) (w : World) :
    Calls Try.prog 17 #[.int .i32 n, .int .i64 bits] w fun e w' => e = .returned (.bool (fitsI n bits)) ∧ w = w' := by
  by_cases h1 : bits < 1
  · go_enter Try.func17, Try.ntmps17
    go_wp2
    go_ret
    exact ⟨by simp [fitsI, h1], rfl⟩
  · by_cases h2 : 32 < bits
    · go_enter Try.func17, Try.ntmps17
      go_wp2
      go_ret
      exact ⟨by simp [fitsI, h1, h2], rfl⟩
    · go_enter Try.func17, Try.ntmps17
      go_wp2
      go_ret
      have hf : fitsI n bits = (wrap32 (n * 2 ^ (32 - bits).toNat) / 2 ^ (32 - bits).toNat == n) := by unfold fitsI; rw [if_neg (by omega), if_neg (by omega)]
      rw [hf]
      exact ⟨rfl, rfl⟩

end Go.Proofs.Ytcjcbaohefcnlaa
