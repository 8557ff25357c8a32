/- does, with its range, as a step that hands on what is known of old memory; and what sums, products and bits are. -/
import Derived.Test.YtcjcbaohefcnlaaShown
namespace Go.Proofs.Ytcjcbaohefcnlaa
open Go.RowKit

/-- Nothing that was there in w0 has turned. -/
def Since (w0 w : World) : Prop := Below w0.heap.size w0 w
theorem Since.refl (w : World) : Since w w := Below.refl _ _
theorem Since.trans {a b c : World} (h : Since a b) (k : Since b c) : Since a c := Below.trans h (Below.mono k h.size)

def R32 (n : Int) : Prop := -2147483648 ≤ n ∧ n ≤ 2147483647
theorem R32.mk {n : Int} (h : -2147483648 ≤ n) (k : n ≤ 2147483647) : R32 n := ⟨h, k⟩
theorem R32.of_wf {n : Int} (h : (Lit.int .i32 n).wf = true) : R32 n := by
  simp [Lit.wf, IntKind.min, IntKind.max, IntKind.signed, IntKind.bits] at h
  constructor <;> omega
theorem R32.word {n : Int} (h : R32 n) : ∃ a : W, n = a.toInt := by
  refine ⟨BitVec.ofInt 32 n, ?_⟩
  obtain ⟨h1, h2⟩ := h
  have e2 : ((2 ^ 32 : Nat) : Int) = 4294967296 := by decide
  rw [BitVec.toInt_ofInt, Int.bmod_eq_of_le] <;> rw [e2] <;> omega
theorem R32.of_word (a : W) : R32 a.toInt := ⟨w_lo a, w_hi a⟩

/-- What an operation makes of two words; 0, where it makes nothing. -/
def doesB (op : Int) (a b : W) : W := (doB op a b).getD 0#32
theorem doesI_eq (op : Int) (a b : W) : doesI op a.toInt b.toInt = (doesB op a b).toInt := by
  unfold doesI doesB
  rw [doI_doB]
  cases doB op a b <;> simp
theorem R32.does {op a b : Int} (ha : R32 a) (hb : R32 b) : R32 (doesI op a b) := by
  obtain ⟨x, rfl⟩ := ha.word
  obtain ⟨y, rfl⟩ := hb.word
  rw [doesI_eq]; exact .of_word _

theorem does_s (op a b : Int) (w0 w : World) (h : Since w0 w) (ha : R32 a) (hb : R32 b) :
    Calls Try.prog 16 #[.int .i64 op, .int .i32 a, .int .i32 b] w fun e w' => e = .returned (.int .i32 (doesI op a b)) ∧ Since w0 w' :=
  (does_any op a b w ha.1 ha.2 hb.1 hb.2).mono fun _ _ ⟨he, hw⟩ => ⟨he, h.trans hw⟩
def DoPostS (r : Option Int) (w0 : World) (e : Ending) (w' : World) : Prop := e = .returned (.tuple #[.int .i32 (r.getD 0), .bool r.isSome]) ∧ Since w0 w'
theorem do_s (op a b : Int) (w0 w : World) (h : Since w0 w) (ha : R32 a) (hb : R32 b) :
    Calls Try.prog 12 #[.int .i64 op, .int .i32 a, .int .i32 b] w (DoPostS (doI op a b) w0) :=
  (do_any op a b w ha.1 ha.2 hb.1 hb.2).mono fun _ _ ⟨he, hw⟩ => ⟨he, h.trans hw⟩
theorem shown_s (w : World) : Calls Try.prog 11 #[] w fun e w' => e = .returned (.bool true) ∧ Since w w' := shown_any w

theorem int_beq {a b : W} (h : a = b) : (a.toInt == b.toInt) = true := by rw [h]; simp

theorem b_add (a b : W) : doesB 2 a b = a + b := rfl
theorem b_sub (a b : W) : doesB 3 a b = a - b := rfl
theorem b_mul (a b : W) : doesB 4 a b = a * b := rfl
theorem b_and (a b : W) : doesB 5 a b = a &&& b := rfl
theorem b_or (a b : W) : doesB 6 a b = a ||| b := rfl
theorem b_xor (a b : W) : doesB 7 a b = a ^^^ b := rfl
theorem b_shl (a b : W) : doesB 8 a b = a <<< far b := rfl
theorem b_shr (a b : W) : doesB 9 a b = a >>> far b := rfl
theorem b_sar (a b : W) : doesB 10 a b = a.sshiftRight (far b) := rfl
theorem b_eq (a b : W) : doesB 11 a b = if a = b then 1#32 else 0#32 := rfl
theorem b_lt (a b : W) : doesB 12 a b = if a.toInt < b.toInt then 1#32 else 0#32 := rfl
theorem b_ltu (a b : W) : doesB 13 a b = if a.toNat < b.toNat then 1#32 else 0#32 := rfl
theorem i_one : (1 : Int) = (1#32 : W).toInt := by decide
theorem i_zero : (0 : Int) = (0#32 : W).toInt := by decide
theorem i_minus : (-1 : Int) = (-1#32 : W).toInt := by decide

theorem nat_sum : ∀ (n a b : Nat), a < 2 ^ n → a + b = (a ^^^ b) + 2 * (a &&& b) := by
  intro n
  induction n with
  | zero => intro a b h; obtain rfl : a = 0 := by omega
            simp
  | succ n ih =>
    intro a b h
    have hd := ih (a / 2) (b / 2) (by rw [Nat.pow_succ] at h; omega)
    have x1 : (a ^^^ b) / 2 = a / 2 ^^^ b / 2 := Nat.xor_div_two
    have x2 : (a &&& b) / 2 = a / 2 &&& b / 2 := Nat.and_div_two
    have y1 : (a ^^^ b) % 2 ^ 1 = (a % 2 ^ 1) ^^^ (b % 2 ^ 1) := Nat.xor_mod_two_pow
    have y2 : (a &&& b) % 2 ^ 1 = (a % 2 ^ 1) &&& (b % 2 ^ 1) := Nat.and_mod_two_pow
    rw [← x1, ← x2] at hd
    simp only [Nat.pow_one] at y1 y2
    rcases Nat.mod_two_eq_zero_or_one a with ha | ha <;> rcases Nat.mod_two_eq_zero_or_one b with hb | hb <;> rw [ha, hb] at y1 y2 <;> simp only [Nat.xor_self, Nat.zero_xor, Nat.xor_zero, Nat.and_self, Nat.zero_and, Nat.and_zero] at y1 y2 <;> omega

theorem sum_bits (a b : W) : (a ^^^ b) + (a &&& b) + (a &&& b) = a + b := by
  apply BitVec.eq_of_toNat_eq
  have h := nat_sum 32 a.toNat b.toNat a.isLt
  simp only [BitVec.toNat_add, BitVec.toNat_xor, BitVec.toNat_and]
  omega

theorem or_bits (a b : W) : (a ^^^ b) + (a &&& b) = a ||| b := by
  rw [BitVec.add_eq_or_of_and_eq_zero]
  · ext i; simp; cases a[i] <;> cases b[i] <;> rfl
  · ext i; simp; cases a[i] <;> cases b[i] <;> simp

theorem and_top (x : Nat) : x &&& 2147483648 = if x / 2147483648 % 2 = 1 then 2147483648 else 0 := by
  have h3 := Nat.testBit_eq_decide_div_mod_eq (x := x) (i := 31)
  rw [show (2 : Nat) ^ 31 = 2147483648 from rfl] at h3
  rw [show (2147483648 : Nat) = 2 ^ 31 from rfl] at *
  apply Nat.eq_of_testBit_eq
  intro i
  rw [Nat.testBit_and, Nat.testBit_two_pow]
  by_cases h : 31 = i
  · subst h
    rw [h3]
    split
    · rename_i k; rw [Nat.testBit_two_pow]; simp [k]
    · rename_i k; simp [k]
  · split
    · rw [Nat.testBit_two_pow]; simp [h]
    · simp [h]

/-- A word whose sign bit is turned. -/
theorem flip_sign (x : W) : (x ^^^ 2147483648#32).toNat = (x.toNat + 2147483648) % 4294967296 := by
  have h := nat_sum 32 x.toNat 2147483648 x.isLt
  have h2 := and_top x.toNat
  have hx := x.isLt
  rw [BitVec.toNat_xor, show (2147483648#32 : W).toNat = 2147483648 from rfl]
  split at h2 <;> omega

end Go.Proofs.Ytcjcbaohefcnlaa
