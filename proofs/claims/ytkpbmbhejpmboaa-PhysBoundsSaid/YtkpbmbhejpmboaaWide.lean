/- What word.Wide and the reference's Wide compute. -/
import Derived.WalkKit
import Derived.WalkSpells
import Derived.WalkLawsBesides
import Derived.Test.YtkpbmbhejpmboaaPlain
import Derived.Test.YtkpbmbhejpmboaaRows
import Derived.Lib.Hide
namespace Go.Proofs.Ytkpbmbhejpmboaa
open Go.RowKit

/-- The lower and the higher half of a product. -/
def lowI (a b : Int) : Int := wrap32 (a * b)
def highI (a b : Int) : Int := a * b / 4294967296

theorem mul_range (a b : Int) (ha : -2147483648 ≤ a) (ha' : a ≤ 2147483647) (hb : -2147483648 ≤ b) (hb' : b ≤ 2147483647) :
    -4611686018427387904 ≤ a * b ∧ a * b ≤ 4611686018427387904 := by
  have h : (a * b).natAbs ≤ 2147483648 * 2147483648 := by
    rw [Int.natAbs_mul]; exact Nat.mul_le_mul (by omega) (by omega)
  omega

theorem ret_pair {x y x' y' : Int} (h : x = x') (k : y = y') : Ending.returned (.tuple #[.int .i32 x, .int .i32 y]) = .returned (.tuple #[.int .i32 x', .int .i32 y']) := by rw [h, k]

set_option maxHeartbeats 400000 in
set_option maxRecDepth 100000 in
theorem wide_any (a b : Int) (w : World) (ha : -2147483648 ≤ a) (ha' : a ≤ 2147483647) (hb : -2147483648 ≤ b) (hb' : b ≤ 2147483647) :
    Calls Try.prog 173 #[.int .i32 a, .int .i32 b] w fun e w' => e = .returned (.tuple #[.int .i32 (lowI a b), .int .i32 (highI a b)]) ∧ w = w' := by
  have hm := mul_range a b ha ha' hb hb'
  go_enter Try.func173, Try.ntmps173
  go_wp2
  go_ret2
  exact ⟨ret_pair rfl (by simp [highI]), rfl⟩

set_option maxHeartbeats 400000 in
set_option maxRecDepth 100000 in
theorem rwide_any (a b : Int) (w : World) (ha : -2147483648 ≤ a) (ha' : a ≤ 2147483647) (hb : -2147483648 ≤ b) (hb' : b ≤ 2147483647) :
    Calls Try.prog 105 #[.int .i32 a, .int .i32 b] w fun e w' => e = .returned (.tuple #[.int .i32 (lowI a b), .int .i32 (highI a b)]) ∧ w = w' := by
  have hm := mul_range a b ha ha' hb hb'
  go_enter Try.func105, Try.ntmps105
  go_wp2
  go_ret2
  exact ⟨ret_pair (by rw [lowI, IntKind.wrap_u64]; unfold wrap32; omega) (by rw [highI, IntKind.wrap_u64]; unfold wrap32; omega), rfl⟩

end Go.Proofs.Ytkpbmbhejpmboaa
