/- What word.Wide and shown compute. -/
import Derived.Test.YtkmkfhbekikleaaDoorDo
import Derived.Lib.Hide
namespace Go.Proofs.YtkmkfhbekikleaaDoor
open Go.RowKit

/-- The lower and the higher half of a product. -/
def lowI (a b : Int) : Int := wrap32 (a * b)
def highI (a b : Int) : Int := a * b / 4294967296

theorem mul_range (a b : Int) (ha : -2147483648 ≤ a) (ha' : a ≤ 2147483647) (hb : -2147483648 ≤ b) (hb' : b ≤ 2147483647) :
    -4611686018427387904 ≤ a * b ∧ a * b ≤ 4611686018427387904 := by
  have h : (a * b).natAbs ≤ 2147483648 * 2147483648 := by
    rw [Int.natAbs_mul]; exact Nat.mul_le_mul (by omega) (by omega)
  omega

theorem ret_pair {x y x' y' : Int} (h : x = x') (k : y = y') : Ending.returned (.tuple #[.int .i32 x, .int .i32 y]) = .returned (.tuple #[.int .i32 x', .int .i32 y']) := by rw [h, k]

set_option maxHeartbeats 400000 in
set_option maxRecDepth 100000 in
theorem wide_any (a b : Int) (w : World) (ha : -2147483648 ≤ a) (ha' : a ≤ 2147483647) (hb : -2147483648 ≤ b) (hb' : b ≤ 2147483647) :
    Calls Tryd.prog 15 #[.int .i32 a, .int .i32 b] w fun e w' => e = .returned (.tuple #[.int .i32 (lowI a b), .int .i32 (highI a b)]) ∧ w = w' := by
  have hm := mul_range a b ha ha' hb hb'
  go_enter Tryd.func15, Tryd.ntmps15
  go_wp2
  go_ret2
  exact ⟨ret_pair rfl (by simp [highI]), rfl⟩

set_option maxHeartbeats 400000 in
set_option maxRecDepth 100000 in
theorem shown_any (w : World) :
    Calls Tryd.prog 5 #[] w fun e w' => e = .returned (.bool true) ∧ Below w.heap.size w w' := by
  have h1 : doI 14 (-7) 2 = some (-3) := by decide +kernel
  have h2 : doI 10 (-8) 33 = some (-4) := by decide +kernel
  have h3 : doI 13 (-1) 1 = some 0 := by decide +kernel
  have h4 : lowI (-1) 1 = -1 := by decide +kernel
  have h5 : highI (-1) 1 = -1 := by decide +kernel
  have H1 := Lib.hid h1; clear h1
  have H2 := Lib.hid h2; clear h2
  have H3 := Lib.hid h3; clear h3
  have H4 := Lib.hid h4; clear h4
  have H5 := Lib.hid h5; clear h5
  go_enter Tryd.func5, Tryd.ntmps5
  go_wp2_with fail
  refine (do_any _ _ _ _ (by decide) (by decide) (by decide) (by decide)).mono ?_
  rw [H1.out]
  rintro e w1 ⟨rfl, hb1⟩
  go_wp2_with fail
  refine (do_any _ _ _ _ (by decide) (by decide) (by decide) (by decide)).mono ?_
  rw [H2.out]
  rintro e w2 ⟨rfl, hb2⟩
  go_wp2_with fail
  refine (do_any _ _ _ _ (by decide) (by decide) (by decide) (by decide)).mono ?_
  rw [H3.out]
  rintro e w3 ⟨rfl, hb3⟩
  go_wp2_with fail
  refine (wide_any _ _ _ (by decide) (by decide) (by decide) (by decide)).mono ?_
  rw [H4.out, H5.out]
  rintro e w4 ⟨rfl, rfl⟩
  go_wp2_with fail
  go_ret
  have s1 := hb1.size
  have s2 := hb2.size
  exact ⟨rfl, (hb1.trans (hb2.mono s1)).trans (hb3.mono (Nat.le_trans s1 s2))⟩

end Go.Proofs.YtkmkfhbekikleaaDoor
