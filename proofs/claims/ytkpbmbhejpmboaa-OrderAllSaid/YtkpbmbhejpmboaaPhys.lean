/- Plain facts: Go's 32-bit integers as bit vectors. No program here. What word.Wide and the reference's Wide compute. Plain: what layer 12 says of instructions, ends and programs, and how a program runs. The data are those that lie in memory: each slice's value stands beside its list. -/
import Derived.WalkKit
import Derived.WalkSpells
import Derived.WalkLawsBesides
import Derived.Test.YtkpbmbhejpmboaaRows
import Derived.Lib.Hide
import Derived.Test.YtkpbmbhejpmboaaTakes
namespace Go.Proofs.Ytkpbmbhejpmboaa
open Go.RowKit

abbrev W := BitVec 32

theorem wrap_bmod (n : Int) : wrap32 n = n.bmod (2 ^ 32) := by
  unfold wrap32 Int.bmod
  have : ((2 ^ 32 : Nat) : Int) = 4294967296 := by decide
  rw [this]
  dsimp only
  split <;> omega

theorem wrapk (n : Int) : IntKind.i32.wrap n = n.bmod (2 ^ 32) := by
  rw [← wrap_bmod, IntKind.wrap_i32]; unfold wrap32; rfl

theorem w_lo (a : W) : -2147483648 ≤ a.toInt := by have := BitVec.le_toInt a; simpa using this
theorem w_hi (a : W) : a.toInt ≤ 2147483647 := by have := BitVec.toInt_lt (x := a); simp at this; omega

theorem w_add (a b : W) : wrap32 (a.toInt + b.toInt) = (a + b).toInt := by rw [wrap_bmod, BitVec.toInt_add]
theorem w_sub (a b : W) : wrap32 (a.toInt - b.toInt) = (a - b).toInt := by rw [wrap_bmod, BitVec.toInt_sub]
theorem w_mul (a b : W) : wrap32 (a.toInt * b.toInt) = (a * b).toInt := by rw [wrap_bmod, BitVec.toInt_mul]

theorem w_and (a b : W) : bits .and .i32 a.toInt b.toInt = (a &&& b).toInt := by
  show IntKind.i32.wrap ((BitVec.ofInt 32 a.toInt &&& BitVec.ofInt 32 b.toInt).toNat : Int) = _
  rw [BitVec.ofInt_toInt, BitVec.ofInt_toInt, wrapk, ← BitVec.toInt_eq_toNat_bmod]
theorem w_or (a b : W) : bits .or .i32 a.toInt b.toInt = (a ||| b).toInt := by
  show IntKind.i32.wrap ((BitVec.ofInt 32 a.toInt ||| BitVec.ofInt 32 b.toInt).toNat : Int) = _
  rw [BitVec.ofInt_toInt, BitVec.ofInt_toInt, wrapk, ← BitVec.toInt_eq_toNat_bmod]
theorem w_xor (a b : W) : bits .xor .i32 a.toInt b.toInt = (a ^^^ b).toInt := by
  show IntKind.i32.wrap ((BitVec.ofInt 32 a.toInt ^^^ BitVec.ofInt 32 b.toInt).toNat : Int) = _
  rw [BitVec.ofInt_toInt, BitVec.ofInt_toInt, wrapk, ← BitVec.toInt_eq_toNat_bmod]

theorem w_mod (b : W) : b.toInt % 4294967296 = (b.toNat : Int) := by
  have h := BitVec.toInt_eq_toNat_bmod b
  have := b.isLt
  rw [h, Int.bmod]; split <;> omega

/-- How far a shift goes: the lowest five bits. -/
def far (b : W) : Nat := b.toNat % 32
theorem far_lt (b : W) : far b < 32 := Nat.mod_lt _ (by decide)
theorem w_far (b : W) : b.toInt % 32 = (far b : Int) := by
  have h := w_mod b
  unfold far
  omega

theorem w_shl (a : W) (n : Nat) : wrap32 (a.toInt * 2 ^ n) = (a <<< n).toInt := by
  rw [wrap_bmod, BitVec.toInt_shiftLeft, Nat.shiftLeft_eq, BitVec.toInt_eq_toNat_bmod]
  push_cast
  rw [Int.bmod_mul_bmod]

theorem w_shr (a : W) (n : Nat) : wrap32 (a.toInt % 4294967296 / 2 ^ n) = (a >>> n).toInt := by
  rw [wrap_bmod, w_mod, BitVec.toInt_eq_toNat_bmod, BitVec.toNat_ushiftRight, Nat.shiftRight_eq_div_pow]
  push_cast
  rfl

theorem w_sar (a : W) (n : Nat) : a.toInt / 2 ^ n = (a.sshiftRight n).toInt := by
  rw [BitVec.toInt_sshiftRight, Int.shiftRight_eq_div_pow]
  norm_cast

theorem w_div (a b : W) : wrap32 (a.toInt.tdiv b.toInt) = (a.sdiv b).toInt := by
  rw [wrap_bmod, BitVec.toInt_sdiv]

theorem and31 (b : Int) : bits .and .u32 (b % 4294967296) 31 = b % 32 := by
  have h : bits .and .u32 (b % 4294967296) 31 = IntKind.u32.wrap ((BitVec.ofInt 32 (b % 4294967296) &&& BitVec.ofInt 32 31).toNat : Int) := rfl
  rw [h, BitVec.toNat_and, BitVec.toNat_ofInt, BitVec.toNat_ofInt]
  have e : (31 % ((2 ^ 32 : Nat) : Int)).toNat = 2 ^ 5 - 1 := by decide
  rw [e, Nat.and_two_pow_sub_one_eq_mod, IntKind.wrap_u32]
  have e2 : ((2 ^ 32 : Nat) : Int) = 4294967296 := by decide
  rw [e2]
  omega

theorem shl_u (a : Int) (n : Nat) : wrap32 (a % 4294967296 * 2 ^ n % 4294967296) = wrap32 (a * 2 ^ n) := by
  have h : a % 4294967296 * 2 ^ n % 4294967296 = a * 2 ^ n % 4294967296 := by rw [Int.mul_emod, Int.emod_emod_of_dvd _ (Int.dvd_refl _), ← Int.mul_emod]
  rw [h]; unfold wrap32; omega

theorem tdiv_range (a b : Int) (ha : -2147483648 ≤ a) (ha' : a ≤ 2147483647) : -9223372036854775808 ≤ a.tdiv b ∧ a.tdiv b ≤ 9223372036854775807 := by
  have h : (a.tdiv b).natAbs ≤ a.natAbs := by rw [Int.natAbs_tdiv]; exact Nat.div_le_self _ _
  omega

/-- What an operation makes of two words, in Go's integers. -/
def doI (op a b : Int) : Option Int :=
  if op = 2 then some (wrap32 (a + b)) else if op = 3 then some (wrap32 (a - b)) else if op = 4 then some (wrap32 (a * b))
  else if op = 5 then some (bits .and .i32 a b) else if op = 6 then some (bits .or .i32 a b) else if op = 7 then some (bits .xor .i32 a b)
  else if op = 8 then some (wrap32 (a * 2 ^ (b % 32).toNat)) else if op = 9 then some (wrap32 (a % 4294967296 / 2 ^ (b % 32).toNat)) else if op = 10 then some (a / 2 ^ (b % 32).toNat)
  else if op = 11 then some (if a = b then 1 else 0) else if op = 12 then some (if a < b then 1 else 0) else if op = 13 then some (if a % 4294967296 < b % 4294967296 then 1 else 0)
  else if op = 14 then (if b = 0 then none else some (wrap32 (a.tdiv b))) else none

/-- The same, of bit vectors. -/
def doB (op : Int) (a b : W) : Option W :=
  if op = 2 then some (a + b) else if op = 3 then some (a - b) else if op = 4 then some (a * b)
  else if op = 5 then some (a &&& b) else if op = 6 then some (a ||| b) else if op = 7 then some (a ^^^ b)
  else if op = 8 then some (a <<< far b) else if op = 9 then some (a >>> far b) else if op = 10 then some (a.sshiftRight (far b))
  else if op = 11 then some (if a = b then 1#32 else 0#32) else if op = 12 then some (if a.toInt < b.toInt then 1#32 else 0#32) else if op = 13 then some (if a.toNat < b.toNat then 1#32 else 0#32)
  else if op = 14 then (if b = 0#32 then none else some (a.sdiv b)) else none

theorem doI_doB (op : Int) (a b : W) : doI op a.toInt b.toInt = (doB op a b).map BitVec.toInt := by
  have hn : (b.toInt % 32).toNat = far b := by rw [w_far]; rfl
  have h1 : (1#32).toInt = 1 := by decide
  have h0 : (0#32).toInt = 0 := by decide
  have hz : b.toInt = 0 ↔ b = 0#32 := by rw [← h0, BitVec.toInt_inj]
  have hone : ∀ c : Prop, ∀ [Decidable c], (if c then 1#32 else 0#32).toInt = if c then 1 else 0 := by intro c _; split <;> rfl
  have heq : (a.toInt = b.toInt) = (a = b) := propext BitVec.toInt_inj
  have hlt : ((a.toNat : Int) < (b.toNat : Int)) = (a.toNat < b.toNat) := propext (by omega)
  have hz' : (b.toInt = 0) = (b = 0#32) := propext hz
  unfold doI doB
  rw [w_add, w_sub, w_mul, w_and, w_or, w_xor, hn, w_shl, w_shr, w_sar, w_div, w_mod, w_mod]
  simp only [apply_ite (Option.map BitVec.toInt), Option.map_some, Option.map_none, hone, heq, hlt, hz']

end Go.Proofs.Ytkpbmbhejpmboaa

namespace Go.Proofs.Ytkpbmbhejpmboaa
open Go.RowKit

/-- The lower and the higher half of a product. -/
def lowI (a b : Int) : Int := wrap32 (a * b)
def highI (a b : Int) : Int := a * b / 4294967296

theorem mul_range (a b : Int) (ha : -2147483648 ≤ a) (ha' : a ≤ 2147483647) (hb : -2147483648 ≤ b) (hb' : b ≤ 2147483647) :
    -4611686018427387904 ≤ a * b ∧ a * b ≤ 4611686018427387904 := by
  have h : (a * b).natAbs ≤ 2147483648 * 2147483648 := by
    rw [Int.natAbs_mul]; exact Nat.mul_le_mul (by omega) (by omega)
  omega

theorem ret_pair {x y x' y' : Int} (h : x = x') (k : y = y') : Ending.returned (.tuple #[.int .i32 x, .int .i32 y]) = .returned (.tuple #[.int .i32 x', .int .i32 y']) := by rw [h, k]

set_option maxHeartbeats 400000 in
set_option maxRecDepth 100000 in
theorem wide_any (a b : Int) (w : World) (ha : -2147483648 ≤ a) (ha' : a ≤ 2147483647) (hb : -2147483648 ≤ b) (hb' : b ≤ 2147483647) :
    Calls Try.prog 173 #[.int .i32 a, .int .i32 b] w fun e w' => e = .returned (.tuple #[.int .i32 (lowI a b), .int .i32 (highI a b)]) ∧ w = w' := by
  have hm := mul_range a b ha ha' hb hb'
  go_enter Try.func173, Try.ntmps173
  go_wp2
  go_ret2
  exact ⟨ret_pair rfl (by simp [highI]), rfl⟩

set_option maxHeartbeats 400000 in
set_option maxRecDepth 100000 in
theorem rwide_any (a b : Int) (w : World) (ha : -2147483648 ≤ a) (ha' : a ≤ 2147483647) (hb : -2147483648 ≤ b) (hb' : b ≤ 2147483647) :
    Calls Try.prog 105 #[.int .i32 a, .int .i32 b] w fun e w' => e = .returned (.tuple #[.int .i32 (lowI a b), .int .i32 (highI a b)]) ∧ w = w' := by
  have hm := mul_range a b ha ha' hb hb'
  go_enter Try.func105, Try.ntmps105
  go_wp2
  go_ret2
  exact ⟨ret_pair (by rw [lowI, IntKind.wrap_u64]; unfold wrap32; omega) (by rw [highI, IntKind.wrap_u64]; unfold wrap32; omega), rfl⟩

end Go.Proofs.Ytkpbmbhejpmboaa

namespace Go.Proofs.Ytkpbmbhejpmboaa
open Go.RowKit

structure PlV where
  m : Mach
  av : Value
  src : Int
structure EndV where
  op : Int
  a : Int
  b : Int
  to : List Int
  tov : Value
  imm : Int
structure BlkV where
  ins : List PlV
  insv : Value
  fin : EndV
structure PrgV where
  params : Int
  k : Int
  slots : Int
  blocks : List BlkV
  bv : Value

/-! ### What may be -/
def regsOf (m : Mach) : List Int := if m.op = 30 ∨ m.op = 31 then takes7 m ++ makes7 m else takes m ++ makes m
def badReg (k : Int) (l : List Int) : Bool := l.any fun r => decide (r < 0) || decide (k ≤ r)
/-- Each is the number of its place, from n on. -/
def placesB : List Int → Nat → Bool
  | [], _ => true
  | r :: l, n => r == (n : Int) && placesB l (n + 1)
def shapeB (m : Mach) : Bool :=
  if m.op = 28 then placesB m.args 0 && decide (m.args.length ≤ 4) && m.d == 0
  else if m.op = 29 then m.d == 0 && m.e == 1
  else decide (1 ≤ m.op) && decide (m.op ≤ 31)
def immB (m : Mach) : Bool :=
  if m.op = 3 then decide (-32768 ≤ m.imm) && decide (m.imm ≤ 32767)
  else if m.op = 18 ∨ m.op = 19 then decide (-128 ≤ m.imm) && decide (m.imm ≤ 127)
  else if m.op = 20 ∨ m.op = 21 ∨ m.op = 22 then decide (0 ≤ m.imm) && decide (m.imm ≤ 31)
  else if m.op = 24 ∨ m.op = 26 then decide (0 ≤ m.imm) && decide (m.imm ≤ 255)
  else true
def stackB (m : Mach) : Bool := m.op == 30 || m.op == 31
def insE (m : Mach) (k slots : Int) : Int :=
  if shapeB m = false then 30 else if badReg k (regsOf m) = true then 31
  else if stackB m && (decide (m.imm < 0) || decide (slots ≤ m.imm)) then 43 else if immB m = false then 32 else 0

def needs (e : EndV) : List Int :=
  if e.op = 2 ∨ e.op = 6 ∨ (e.op = 7 ∧ 0 ≤ e.a) then [e.a] else if 3 ≤ e.op ∧ e.op ≤ 5 then [e.a, e.b] else []
def fitsB (e : EndV) : Bool :=
  if e.op = 1 then decide (e.to.length = 1)
  else if 2 ≤ e.op ∧ e.op ≤ 5 then decide (e.to.length = 2)
  else if e.op = 6 then decide (2 ≤ e.to.length) && decide (e.to.length ≤ 65)
  else if e.op = 7 ∨ e.op = 8 then decide (e.to.length = 0) else false
def badNeed (e : EndV) (k : Int) : Bool := (needs e).any fun r => decide (r < 0) || decide (k ≤ r) || (e.op == 7 && decide (0 < r))
def badTo (n : Int) (l : List Int) : Bool := l.any fun t => decide (t < 1) || decide (n ≤ t)
def endE (e : EndV) (k n : Int) : Int :=
  if fitsB e = false then 30 else if badNeed e k = true then 31 else if badTo n e.to = true then 14 else 0

def ptotal (l : List BlkV) : Nat := l.length + (l.map fun b => b.ins.length).sum
/-- The first that is wrong among instructions, from place i on; else none. -/
def insList (k slots : Int) : List PlV → Nat → Option (Int × Nat)
  | [], _ => none
  | x :: r, i => if insE x.m k slots = 0 then insList k slots r (i + 1) else some (insE x.m k slots, i)
def blkE (k slots n : Int) (b : BlkV) : Option (Int × Nat) :=
  match insList k slots b.ins 0 with
  | some x => some x
  | none => if endE b.fin k n = 0 then none else some (endE b.fin k n, b.ins.length)
def blkList (k slots n : Int) : List BlkV → Nat → Option (Int × Nat × Nat)
  | [], _ => none
  | b :: r, j => match blkE k slots n b with
    | some x => some (x.1, j, x.2)
    | none => blkList k slots n r (j + 1)
def headE (p : PrgV) : Int :=
  if p.params < 0 ∨ 4 < p.params ∨ p.k < 4 ∨ 16 < p.k ∨ p.slots < 0 ∨ 16384 < p.slots then 1
  else if p.blocks.length = 0 then 14
  else if 512 < p.blocks.length ∨ 65536 < ptotal p.blocks then 2 else 0
def funcE (p : PrgV) : Int × Nat × Nat :=
  if headE p = 0 then (blkList p.k p.slots p.blocks.length p.blocks 0).getD (0, 0, 0) else (headE p, 0, 0)
def rightB (p : PrgV) : Bool := (funcE p).1 == 0

/-! ### How it runs -/
def getR (r : List Int) (i : Int) : Int := if 0 ≤ i ∧ i < (r.length : Int) then r.getD i.toNat 0 else 0
def setR (r : List Int) (i v : Int) : List Int := if 0 ≤ i ∧ i < (r.length : Int) then r.set i.toNat v else r
def aluOp (op : Int) : Int := if op = 18 then 2 else if op = 19 then 5 else if op = 20 then 8 else if op = 21 then 9 else 10
/-- mach.Do: a trap, or none; registers; memory. -/
def doM (m : Mach) (r mem : List Int) : Option Int × List Int × List Int :=
  let a := getR r m.a
  let b := getR r m.b
  let c := getR r m.c
  if m.op = 1 then (none, setR r m.d a, mem)
  else if m.op = 2 then (none, setR (setR r m.a b) m.b a, mem)
  else if m.op = 3 ∨ m.op = 4 then (none, setR r m.d m.imm, mem)
  else if 5 ≤ m.op ∧ m.op ≤ 17 then (match doI (m.op - 3) a b with | none => (some (-1), r, mem) | some v => (none, setR r m.d v, mem))
  else if 18 ≤ m.op ∧ m.op ≤ 22 then (none, setR r m.d ((doI (aluOp m.op) a m.imm).getD 0), mem)
  else if m.op = 23 then (none, setR r m.d (wrap32 (wrap32 (a * b) + c)), mem)
  else if m.op = 24 ∨ m.op = 25 then
    let at' := wrap32 (a + if m.op = 24 then m.imm else b)
    if 0 ≤ at' ∧ at' < (mem.length : Int) then (none, setR r m.d (mem.getD at'.toNat 0), mem) else (some (-2), r, mem)
  else if m.op = 26 ∨ m.op = 27 then
    let at' := wrap32 (a + if m.op = 26 then m.imm else b)
    if 0 ≤ at' ∧ at' < (mem.length : Int) then (none, r, mem.set at'.toNat (if m.op = 26 then b else c)) else (some (-2), r, mem)
  else if m.op = 29 then (none, setR (setR r m.d (lowI a b)) m.e (highI a b), mem)
  else (none, r, mem)

structure St where
  regs : List Int
  slots : List Int
  mem : List Int
  calls : List (Int × List Int)
/-- One instruction: a trap, or none. -/
def stepM (m : Mach) (ans : List Int) (s : St) : Option Int × St :=
  if m.op = 30 then (none, { s with regs := s.regs.set m.d.toNat (s.slots.getD m.imm.toNat 0) })
  else if m.op = 31 then (none, { s with slots := s.slots.set m.imm.toNat (s.regs.getD m.a.toNat 0) })
  else if m.op = 28 then
    (none, { s with
      regs := (((s.regs.set 0 (ans.getD s.calls.length 0)).set 1 24302).set 2 24303).set 3 24304
      calls := s.calls ++ [(m.imm, m.args.map fun r => s.regs.getD r.toNat 0)] })
  else ((doM m s.regs s.mem).1, { s with regs := (doM m s.regs s.mem).2.1, mem := (doM m s.regs s.mem).2.2 })

/-- Where an end goes: its place in To. -/
def goes (e : EndV) (r : List Int) : Nat :=
  let a := getR r e.a
  let b := getR r e.b
  if e.op = 1 then 0
  else if e.op = 2 then (if a = 0 then 1 else 0)
  else if e.op = 3 then (if a = b then 0 else 1)
  else if e.op = 4 then (if a < b then 0 else 1)
  else if e.op = 5 then (if a % 4294967296 < b % 4294967296 then 0 else 1)
  else if a % 4294967296 < (e.to.length : Int) - 1 then (a % 4294967296).toNat else e.to.length - 1

structure EndSt where
  e : Int
  v : Int
  s : St
  left : Nat
/-- A run with so many steps left. -/
def runAt (p : PrgV) (ans : List Int) : Nat → St → BlkV → List PlV → EndSt
  | 0, s, _, _ => ⟨3, 0, s, 0⟩
  | f + 1, s, b, x :: r => match stepM x.m ans s with
    | (some t, s') => ⟨2, t, s', f⟩
    | (none, s') => runAt p ans f s' b r
  | f + 1, s, b, [] =>
    if b.fin.op = 8 then ⟨2, b.fin.imm, s, f⟩
    else if b.fin.op = 7 then ⟨1, if 0 ≤ b.fin.a then s.regs.getD b.fin.a.toNat 0 else 0, s, f⟩
    else match p.blocks[(b.fin.to.getD (goes b.fin s.regs) 0).toNat]? with
      | none => ⟨0, 0, s, f⟩
      | some b' => runAt p ans f s b' b'.ins

structure InV where
  args : List Int
  argsv : Value
  mem : List Int
  memv : Value
  ans : List Int
  ansv : Value
  steps : Int
def regs0 (p : PrgV) (i : InV) : List Int := (List.range 16).map fun (t : Nat) => if (t : Int) < p.params then i.args.getD t 0 else 0
def st0 (p : PrgV) (i : InV) : St := ⟨regs0 p i, List.replicate p.slots.toNat 0, i.mem.take 4096, []⟩
structure OutP where
  e : Int
  v : Int
  mem : List Int
  calls : List (Int × List Int)
  steps : Int
def outOf (limit : Nat) (f : EndSt) : OutP := ⟨f.e, f.v, f.s.mem, f.s.calls, (limit : Int) - (f.left : Int)⟩
def runP (p : PrgV) (i : InV) : OutP :=
  if rightB p then match p.blocks with
    | b :: _ => outOf i.steps.toNat (runAt p i.ans i.steps.toNat (st0 p i) b b.ins)
    | [] => ⟨4, 0, [], [], 0⟩
  else ⟨4, 0, [], [], 0⟩
end Go.Proofs.Ytkpbmbhejpmboaa
