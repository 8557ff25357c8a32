/- Plain facts: Go's 32-bit integers as bit vectors. No program here. -/
import Derived.WalkKit
namespace Go.Proofs.YtkmkfhbekikleaaDoor
open Go.RowKit

abbrev W := BitVec 32

theorem wrap_bmod (n : Int) : wrap32 n = n.bmod (2 ^ 32) := by
  unfold wrap32 Int.bmod
  have : ((2 ^ 32 : Nat) : Int) = 4294967296 := by decide
  rw [this]
  dsimp only
  split <;> omega

theorem wrapk (n : Int) : IntKind.i32.wrap n = n.bmod (2 ^ 32) := by
  rw [← wrap_bmod, IntKind.wrap_i32]; unfold wrap32; rfl

theorem w_lo (a : W) : -2147483648 ≤ a.toInt := by have := BitVec.le_toInt a; simpa using this
theorem w_hi (a : W) : a.toInt ≤ 2147483647 := by have := BitVec.toInt_lt (x := a); simp at this; omega

theorem w_add (a b : W) : wrap32 (a.toInt + b.toInt) = (a + b).toInt := by rw [wrap_bmod, BitVec.toInt_add]
theorem w_sub (a b : W) : wrap32 (a.toInt - b.toInt) = (a - b).toInt := by rw [wrap_bmod, BitVec.toInt_sub]
theorem w_mul (a b : W) : wrap32 (a.toInt * b.toInt) = (a * b).toInt := by rw [wrap_bmod, BitVec.toInt_mul]

theorem w_and (a b : W) : bits .and .i32 a.toInt b.toInt = (a &&& b).toInt := by
  show IntKind.i32.wrap ((BitVec.ofInt 32 a.toInt &&& BitVec.ofInt 32 b.toInt).toNat : Int) = _
  rw [BitVec.ofInt_toInt, BitVec.ofInt_toInt, wrapk, ← BitVec.toInt_eq_toNat_bmod]
theorem w_or (a b : W) : bits .or .i32 a.toInt b.toInt = (a ||| b).toInt := by
  show IntKind.i32.wrap ((BitVec.ofInt 32 a.toInt ||| BitVec.ofInt 32 b.toInt).toNat : Int) = _
  rw [BitVec.ofInt_toInt, BitVec.ofInt_toInt, wrapk, ← BitVec.toInt_eq_toNat_bmod]
theorem w_xor (a b : W) : bits .xor .i32 a.toInt b.toInt = (a ^^^ b).toInt := by
  show IntKind.i32.wrap ((BitVec.ofInt 32 a.toInt ^^^ BitVec.ofInt 32 b.toInt).toNat : Int) = _
  rw [BitVec.ofInt_toInt, BitVec.ofInt_toInt, wrapk, ← BitVec.toInt_eq_toNat_bmod]

theorem w_mod (b : W) : b.toInt % 4294967296 = (b.toNat : Int) := by
  have h := BitVec.toInt_eq_toNat_bmod b
  have := b.isLt
  rw [h, Int.bmod]; split <;> omega

/-- How far a shift goes: the lowest five bits. -/
def far (b : W) : Nat := b.toNat % 32
theorem far_lt (b : W) : far b < 32 := Nat.mod_lt _ (by decide)
theorem w_far (b : W) : b.toInt % 32 = (far b : Int) := by
  have h := w_mod b
  unfold far
  omega

theorem w_shl (a : W) (n : Nat) : wrap32 (a.toInt * 2 ^ n) = (a <<< n).toInt := by
  rw [wrap_bmod, BitVec.toInt_shiftLeft, Nat.shiftLeft_eq, BitVec.toInt_eq_toNat_bmod]
  push_cast
  rw [Int.bmod_mul_bmod]

theorem w_shr (a : W) (n : Nat) : wrap32 (a.toInt % 4294967296 / 2 ^ n) = (a >>> n).toInt := by
  rw [wrap_bmod, w_mod, BitVec.toInt_eq_toNat_bmod, BitVec.toNat_ushiftRight, Nat.shiftRight_eq_div_pow]
  push_cast
  rfl

theorem w_sar (a : W) (n : Nat) : a.toInt / 2 ^ n = (a.sshiftRight n).toInt := by
  rw [BitVec.toInt_sshiftRight, Int.shiftRight_eq_div_pow]
  norm_cast

theorem w_div (a b : W) : wrap32 (a.toInt.tdiv b.toInt) = (a.sdiv b).toInt := by
  rw [wrap_bmod, BitVec.toInt_sdiv]

theorem and31 (b : Int) : bits .and .u32 (b % 4294967296) 31 = b % 32 := by
  have h : bits .and .u32 (b % 4294967296) 31 = IntKind.u32.wrap ((BitVec.ofInt 32 (b % 4294967296) &&& BitVec.ofInt 32 31).toNat : Int) := rfl
  rw [h, BitVec.toNat_and, BitVec.toNat_ofInt, BitVec.toNat_ofInt]
  have e : (31 % ((2 ^ 32 : Nat) : Int)).toNat = 2 ^ 5 - 1 := by decide
  rw [e, Nat.and_two_pow_sub_one_eq_mod, IntKind.wrap_u32]
  have e2 : ((2 ^ 32 : Nat) : Int) = 4294967296 := by decide
  rw [e2]
  omega

theorem shl_u (a : Int) (n : Nat) : wrap32 (a % 4294967296 * 2 ^ n % 4294967296) = wrap32 (a * 2 ^ n) := by
  have h : a % 4294967296 * 2 ^ n % 4294967296 = a * 2 ^ n % 4294967296 := by rw [Int.mul_emod, Int.emod_emod_of_dvd _ (Int.dvd_refl _), ← Int.mul_emod]
  rw [h]; unfold wrap32; omega

theorem tdiv_range (a b : Int) (ha : -2147483648 ≤ a) (ha' : a ≤ 2147483647) : -9223372036854775808 ≤ a.tdiv b ∧ a.tdiv b ≤ 9223372036854775807 := by
  have h : (a.tdiv b).natAbs ≤ a.natAbs := by rw [Int.natAbs_tdiv]; exact Nat.div_le_self _ _
  omega

/-- What an operation makes of two words, in Go's integers. -/
def doI (op a b : Int) : Option Int :=
  if op = 2 then some (wrap32 (a + b)) else if op = 3 then some (wrap32 (a - b)) else if op = 4 then some (wrap32 (a * b))
  else if op = 5 then some (bits .and .i32 a b) else if op = 6 then some (bits .or .i32 a b) else if op = 7 then some (bits .xor .i32 a b)
  else if op = 8 then some (wrap32 (a * 2 ^ (b % 32).toNat)) else if op = 9 then some (wrap32 (a % 4294967296 / 2 ^ (b % 32).toNat)) else if op = 10 then some (a / 2 ^ (b % 32).toNat)
  else if op = 11 then some (if a = b then 1 else 0) else if op = 12 then some (if a < b then 1 else 0) else if op = 13 then some (if a % 4294967296 < b % 4294967296 then 1 else 0)
  else if op = 14 then (if b = 0 then none else some (wrap32 (a.tdiv b))) else none

/-- The same, of bit vectors. -/
def doB (op : Int) (a b : W) : Option W :=
  if op = 2 then some (a + b) else if op = 3 then some (a - b) else if op = 4 then some (a * b)
  else if op = 5 then some (a &&& b) else if op = 6 then some (a ||| b) else if op = 7 then some (a ^^^ b)
  else if op = 8 then some (a <<< far b) else if op = 9 then some (a >>> far b) else if op = 10 then some (a.sshiftRight (far b))
  else if op = 11 then some (if a = b then 1#32 else 0#32) else if op = 12 then some (if a.toInt < b.toInt then 1#32 else 0#32) else if op = 13 then some (if a.toNat < b.toNat then 1#32 else 0#32)
  else if op = 14 then (if b = 0#32 then none else some (a.sdiv b)) else none

theorem doI_doB (op : Int) (a b : W) : doI op a.toInt b.toInt = (doB op a b).map BitVec.toInt := by
  have hn : (b.toInt % 32).toNat = far b := by rw [w_far]; rfl
  have h1 : (1#32).toInt = 1 := by decide
  have h0 : (0#32).toInt = 0 := by decide
  have hz : b.toInt = 0 ↔ b = 0#32 := by rw [← h0, BitVec.toInt_inj]
  have hone : ∀ c : Prop, ∀ [Decidable c], (if c then 1#32 else 0#32).toInt = if c then 1 else 0 := by intro c _; split <;> rfl
  have heq : (a.toInt = b.toInt) = (a = b) := propext BitVec.toInt_inj
  have hlt : ((a.toNat : Int) < (b.toNat : Int)) = (a.toNat < b.toNat) := propext (by omega)
  have hz' : (b.toInt = 0) = (b = 0#32) := propext hz
  unfold doI doB
  rw [w_add, w_sub, w_mul, w_and, w_or, w_xor, hn, w_shl, w_shr, w_sar, w_div, w_mod, w_mod]
  simp only [apply_ite (Option.map BitVec.toInt), Option.map_some, Option.map_none, hone, heq, hlt, hz']

end Go.Proofs.YtkmkfhbekikleaaDoor
