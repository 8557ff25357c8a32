/- jacquardref07.Goes; jacquardref04.Memory. -/
import Derived.Test.YtkpbmbhejpmboaaRefWords
import Derived.Test.YtkpbmbhejpmboaaGoes
import Derived.Test.YtkpbmbhejpmboaaRunHead
namespace Go.Proofs.Ytkpbmbhejpmboaa
open Go.RowKit
set_option linter.unusedVariables false

set_option maxHeartbeats 1000000 in
set_option maxRecDepth 100000 in
theorem rgoes_1 (op ea eb : Int) (to : List Int) (ta : Option Addr) (tc : Nat) (imm : Int) (R : List Int) (rb rc : Nat) (rest : List Value) (T : TypeId) (w : World) (hw : WAt w rb R rest T) (hl : R.length ≤ 1000) (hR : ∀ x ∈ R, In32 x) (ho : op = 1) :
    Calls Try.prog 52 #[.agg #[.int .i64 op, .int .i64 ea, .int .i64 eb, .slice ta to.length tc, .int .i32 imm], .slice (some ⟨rb, 0, none⟩) R.length rc] w (GoesQ 0 w) := by
  have hga := fun w h => rget_any R rb rc rest T ea w h (by omega)
  have hgb := fun w h => rget_any R rb rc rest T eb w h (by omega)
  obtain ⟨hA1, hA2⟩ := getR_32 hR ea
  have HW := Lib.hid hw
  clear hw hR
  have y1 : (op == 1) = true := beq_iff_eq.2 (by omega)
  clear ho
  generalize getR R ea = A at *
  generalize getR R eb = B at *
  have HGA := Lib.hid hga
  have HGB := Lib.hid hgb
  clear hga hgb
  go_enter Try.func52, Try.ntmps52
  go_wp2_with fail
  refine (HGA.out _ (HW.out.keep ((Since.refl w).alloc _))).mono ?_
  rintro e0 w1 ⟨rfl, rfl⟩
  go_wp2_with fail
  refine (HGB.out _ (HW.out.keep ((Since.refl w).alloc _))).mono ?_
  rintro e0 w1 ⟨rfl, rfl⟩
  go_wp2
  go_ret
  exact ⟨rfl, (Since.refl w).alloc _⟩

set_option maxHeartbeats 1000000 in
set_option maxRecDepth 100000 in
theorem rgoes_2y (op ea eb : Int) (to : List Int) (ta : Option Addr) (tc : Nat) (imm : Int) (R : List Int) (rb rc : Nat) (rest : List Value) (T : TypeId) (w : World) (hw : WAt w rb R rest T) (hl : R.length ≤ 1000) (hR : ∀ x ∈ R, In32 x) (ho : op = 2) (hc : getR R ea = 0) :
    Calls Try.prog 52 #[.agg #[.int .i64 op, .int .i64 ea, .int .i64 eb, .slice ta to.length tc, .int .i32 imm], .slice (some ⟨rb, 0, none⟩) R.length rc] w (GoesQ 1 w) := by
  have hga := fun w h => rget_any R rb rc rest T ea w h (by omega)
  have hgb := fun w h => rget_any R rb rc rest T eb w h (by omega)
  obtain ⟨hA1, hA2⟩ := getR_32 hR ea
  have HW := Lib.hid hw
  clear hw hR
  have n1 : (op == 1) = false := beq_eq_false_iff_ne.2 (by omega)
  have y2 : (op == 2) = true := beq_iff_eq.2 (by omega)
  have hb : (getR R ea != 0) = false := by simp [hc]
  clear ho hc
  generalize getR R ea = A at *
  generalize getR R eb = B at *
  have HGA := Lib.hid hga
  have HGB := Lib.hid hgb
  clear hga hgb
  go_enter Try.func52, Try.ntmps52
  go_wp2_with fail
  refine (HGA.out _ (HW.out.keep ((Since.refl w).alloc _))).mono ?_
  rintro e0 w1 ⟨rfl, rfl⟩
  go_wp2_with fail
  refine (HGB.out _ (HW.out.keep ((Since.refl w).alloc _))).mono ?_
  rintro e0 w1 ⟨rfl, rfl⟩
  go_wp2
  go_ret
  exact ⟨rfl, (Since.refl w).alloc _⟩

set_option maxHeartbeats 1000000 in
set_option maxRecDepth 100000 in
theorem rgoes_2n (op ea eb : Int) (to : List Int) (ta : Option Addr) (tc : Nat) (imm : Int) (R : List Int) (rb rc : Nat) (rest : List Value) (T : TypeId) (w : World) (hw : WAt w rb R rest T) (hl : R.length ≤ 1000) (hR : ∀ x ∈ R, In32 x) (ho : op = 2) (hc : ¬ (getR R ea = 0)) :
    Calls Try.prog 52 #[.agg #[.int .i64 op, .int .i64 ea, .int .i64 eb, .slice ta to.length tc, .int .i32 imm], .slice (some ⟨rb, 0, none⟩) R.length rc] w (GoesQ 0 w) := by
  have hga := fun w h => rget_any R rb rc rest T ea w h (by omega)
  have hgb := fun w h => rget_any R rb rc rest T eb w h (by omega)
  obtain ⟨hA1, hA2⟩ := getR_32 hR ea
  have HW := Lib.hid hw
  clear hw hR
  have n1 : (op == 1) = false := beq_eq_false_iff_ne.2 (by omega)
  have y2 : (op == 2) = true := beq_iff_eq.2 (by omega)
  have hb : (getR R ea != 0) = true := by simp [hc]
  clear ho hc
  generalize getR R ea = A at *
  generalize getR R eb = B at *
  have HGA := Lib.hid hga
  have HGB := Lib.hid hgb
  clear hga hgb
  go_enter Try.func52, Try.ntmps52
  go_wp2_with fail
  refine (HGA.out _ (HW.out.keep ((Since.refl w).alloc _))).mono ?_
  rintro e0 w1 ⟨rfl, rfl⟩
  go_wp2_with fail
  refine (HGB.out _ (HW.out.keep ((Since.refl w).alloc _))).mono ?_
  rintro e0 w1 ⟨rfl, rfl⟩
  go_wp2
  go_ret
  exact ⟨rfl, (Since.refl w).alloc _⟩

set_option maxHeartbeats 1000000 in
set_option maxRecDepth 100000 in
theorem rgoes_3y (op ea eb : Int) (to : List Int) (ta : Option Addr) (tc : Nat) (imm : Int) (R : List Int) (rb rc : Nat) (rest : List Value) (T : TypeId) (w : World) (hw : WAt w rb R rest T) (hl : R.length ≤ 1000) (hR : ∀ x ∈ R, In32 x) (ho : op = 3) (hc : getR R ea = getR R eb) :
    Calls Try.prog 52 #[.agg #[.int .i64 op, .int .i64 ea, .int .i64 eb, .slice ta to.length tc, .int .i32 imm], .slice (some ⟨rb, 0, none⟩) R.length rc] w (GoesQ 0 w) := by
  have hga := fun w h => rget_any R rb rc rest T ea w h (by omega)
  have hgb := fun w h => rget_any R rb rc rest T eb w h (by omega)
  obtain ⟨hA1, hA2⟩ := getR_32 hR ea
  have HW := Lib.hid hw
  clear hw hR
  have n1 : (op == 1) = false := beq_eq_false_iff_ne.2 (by omega)
  have n2 : (op == 2) = false := beq_eq_false_iff_ne.2 (by omega)
  have y3 : (op == 3) = true := beq_iff_eq.2 (by omega)
  have hb : (getR R ea == getR R eb) = true := by simp [hc]
  clear ho hc
  generalize getR R ea = A at *
  generalize getR R eb = B at *
  have HGA := Lib.hid hga
  have HGB := Lib.hid hgb
  clear hga hgb
  go_enter Try.func52, Try.ntmps52
  go_wp2_with fail
  refine (HGA.out _ (HW.out.keep ((Since.refl w).alloc _))).mono ?_
  rintro e0 w1 ⟨rfl, rfl⟩
  go_wp2_with fail
  refine (HGB.out _ (HW.out.keep ((Since.refl w).alloc _))).mono ?_
  rintro e0 w1 ⟨rfl, rfl⟩
  go_wp2
  go_ret
  exact ⟨rfl, (Since.refl w).alloc _⟩

set_option maxHeartbeats 1000000 in
set_option maxRecDepth 100000 in
theorem rgoes_3n (op ea eb : Int) (to : List Int) (ta : Option Addr) (tc : Nat) (imm : Int) (R : List Int) (rb rc : Nat) (rest : List Value) (T : TypeId) (w : World) (hw : WAt w rb R rest T) (hl : R.length ≤ 1000) (hR : ∀ x ∈ R, In32 x) (ho : op = 3) (hc : ¬ (getR R ea = getR R eb)) :
    Calls Try.prog 52 #[.agg #[.int .i64 op, .int .i64 ea, .int .i64 eb, .slice ta to.length tc, .int .i32 imm], .slice (some ⟨rb, 0, none⟩) R.length rc] w (GoesQ 1 w) := by
  have hga := fun w h => rget_any R rb rc rest T ea w h (by omega)
  have hgb := fun w h => rget_any R rb rc rest T eb w h (by omega)
  obtain ⟨hA1, hA2⟩ := getR_32 hR ea
  have HW := Lib.hid hw
  clear hw hR
  have n1 : (op == 1) = false := beq_eq_false_iff_ne.2 (by omega)
  have n2 : (op == 2) = false := beq_eq_false_iff_ne.2 (by omega)
  have y3 : (op == 3) = true := beq_iff_eq.2 (by omega)
  have hb : (getR R ea == getR R eb) = false := by simp [hc]
  clear ho hc
  generalize getR R ea = A at *
  generalize getR R eb = B at *
  have HGA := Lib.hid hga
  have HGB := Lib.hid hgb
  clear hga hgb
  go_enter Try.func52, Try.ntmps52
  go_wp2_with fail
  refine (HGA.out _ (HW.out.keep ((Since.refl w).alloc _))).mono ?_
  rintro e0 w1 ⟨rfl, rfl⟩
  go_wp2_with fail
  refine (HGB.out _ (HW.out.keep ((Since.refl w).alloc _))).mono ?_
  rintro e0 w1 ⟨rfl, rfl⟩
  go_wp2
  go_ret
  exact ⟨rfl, (Since.refl w).alloc _⟩

set_option maxHeartbeats 1000000 in
set_option maxRecDepth 100000 in
theorem rgoes_4y (op ea eb : Int) (to : List Int) (ta : Option Addr) (tc : Nat) (imm : Int) (R : List Int) (rb rc : Nat) (rest : List Value) (T : TypeId) (w : World) (hw : WAt w rb R rest T) (hl : R.length ≤ 1000) (hR : ∀ x ∈ R, In32 x) (ho : op = 4) (hc : getR R ea < getR R eb) :
    Calls Try.prog 52 #[.agg #[.int .i64 op, .int .i64 ea, .int .i64 eb, .slice ta to.length tc, .int .i32 imm], .slice (some ⟨rb, 0, none⟩) R.length rc] w (GoesQ 0 w) := by
  have hga := fun w h => rget_any R rb rc rest T ea w h (by omega)
  have hgb := fun w h => rget_any R rb rc rest T eb w h (by omega)
  obtain ⟨hA1, hA2⟩ := getR_32 hR ea
  have HW := Lib.hid hw
  clear hw hR
  have n1 : (op == 1) = false := beq_eq_false_iff_ne.2 (by omega)
  have n2 : (op == 2) = false := beq_eq_false_iff_ne.2 (by omega)
  have n3 : (op == 3) = false := beq_eq_false_iff_ne.2 (by omega)
  have y4 : (op == 4) = true := beq_iff_eq.2 (by omega)
  have hb : decide (getR R ea < getR R eb) = true := by simp [hc]
  clear ho hc
  generalize getR R ea = A at *
  generalize getR R eb = B at *
  have HGA := Lib.hid hga
  have HGB := Lib.hid hgb
  clear hga hgb
  go_enter Try.func52, Try.ntmps52
  go_wp2_with fail
  refine (HGA.out _ (HW.out.keep ((Since.refl w).alloc _))).mono ?_
  rintro e0 w1 ⟨rfl, rfl⟩
  go_wp2_with fail
  refine (HGB.out _ (HW.out.keep ((Since.refl w).alloc _))).mono ?_
  rintro e0 w1 ⟨rfl, rfl⟩
  go_wp2
  go_ret
  exact ⟨rfl, (Since.refl w).alloc _⟩

set_option maxHeartbeats 1000000 in
set_option maxRecDepth 100000 in
theorem rgoes_4n (op ea eb : Int) (to : List Int) (ta : Option Addr) (tc : Nat) (imm : Int) (R : List Int) (rb rc : Nat) (rest : List Value) (T : TypeId) (w : World) (hw : WAt w rb R rest T) (hl : R.length ≤ 1000) (hR : ∀ x ∈ R, In32 x) (ho : op = 4) (hc : ¬ (getR R ea < getR R eb)) :
    Calls Try.prog 52 #[.agg #[.int .i64 op, .int .i64 ea, .int .i64 eb, .slice ta to.length tc, .int .i32 imm], .slice (some ⟨rb, 0, none⟩) R.length rc] w (GoesQ 1 w) := by
  have hga := fun w h => rget_any R rb rc rest T ea w h (by omega)
  have hgb := fun w h => rget_any R rb rc rest T eb w h (by omega)
  obtain ⟨hA1, hA2⟩ := getR_32 hR ea
  have HW := Lib.hid hw
  clear hw hR
  have n1 : (op == 1) = false := beq_eq_false_iff_ne.2 (by omega)
  have n2 : (op == 2) = false := beq_eq_false_iff_ne.2 (by omega)
  have n3 : (op == 3) = false := beq_eq_false_iff_ne.2 (by omega)
  have y4 : (op == 4) = true := beq_iff_eq.2 (by omega)
  have hb : decide (getR R ea < getR R eb) = false := by simp [hc]
  clear ho hc
  generalize getR R ea = A at *
  generalize getR R eb = B at *
  have HGA := Lib.hid hga
  have HGB := Lib.hid hgb
  clear hga hgb
  go_enter Try.func52, Try.ntmps52
  go_wp2_with fail
  refine (HGA.out _ (HW.out.keep ((Since.refl w).alloc _))).mono ?_
  rintro e0 w1 ⟨rfl, rfl⟩
  go_wp2_with fail
  refine (HGB.out _ (HW.out.keep ((Since.refl w).alloc _))).mono ?_
  rintro e0 w1 ⟨rfl, rfl⟩
  go_wp2
  go_ret
  exact ⟨rfl, (Since.refl w).alloc _⟩

set_option maxHeartbeats 1000000 in
set_option maxRecDepth 100000 in
theorem rgoes_5y (op ea eb : Int) (to : List Int) (ta : Option Addr) (tc : Nat) (imm : Int) (R : List Int) (rb rc : Nat) (rest : List Value) (T : TypeId) (w : World) (hw : WAt w rb R rest T) (hl : R.length ≤ 1000) (hR : ∀ x ∈ R, In32 x) (ho : op = 5) (hc : getR R ea % 4294967296 < getR R eb % 4294967296) :
    Calls Try.prog 52 #[.agg #[.int .i64 op, .int .i64 ea, .int .i64 eb, .slice ta to.length tc, .int .i32 imm], .slice (some ⟨rb, 0, none⟩) R.length rc] w (GoesQ 0 w) := by
  have hga := fun w h => rget_any R rb rc rest T ea w h (by omega)
  have hgb := fun w h => rget_any R rb rc rest T eb w h (by omega)
  obtain ⟨hA1, hA2⟩ := getR_32 hR ea
  have HW := Lib.hid hw
  clear hw hR
  have n1 : (op == 1) = false := beq_eq_false_iff_ne.2 (by omega)
  have n2 : (op == 2) = false := beq_eq_false_iff_ne.2 (by omega)
  have n3 : (op == 3) = false := beq_eq_false_iff_ne.2 (by omega)
  have n4 : (op == 4) = false := beq_eq_false_iff_ne.2 (by omega)
  have y5 : (op == 5) = true := beq_iff_eq.2 (by omega)
  have hb : decide (getR R ea % 4294967296 < getR R eb % 4294967296) = true := by simp [hc]
  clear ho hc
  generalize getR R ea = A at *
  generalize getR R eb = B at *
  have HGA := Lib.hid hga
  have HGB := Lib.hid hgb
  clear hga hgb
  go_enter Try.func52, Try.ntmps52
  go_wp2_with fail
  refine (HGA.out _ (HW.out.keep ((Since.refl w).alloc _))).mono ?_
  rintro e0 w1 ⟨rfl, rfl⟩
  go_wp2_with fail
  refine (HGB.out _ (HW.out.keep ((Since.refl w).alloc _))).mono ?_
  rintro e0 w1 ⟨rfl, rfl⟩
  go_wp2
  go_ret
  exact ⟨rfl, (Since.refl w).alloc _⟩

set_option maxHeartbeats 1000000 in
set_option maxRecDepth 100000 in
theorem rgoes_5n (op ea eb : Int) (to : List Int) (ta : Option Addr) (tc : Nat) (imm : Int) (R : List Int) (rb rc : Nat) (rest : List Value) (T : TypeId) (w : World) (hw : WAt w rb R rest T) (hl : R.length ≤ 1000) (hR : ∀ x ∈ R, In32 x) (ho : op = 5) (hc : ¬ (getR R ea % 4294967296 < getR R eb % 4294967296)) :
    Calls Try.prog 52 #[.agg #[.int .i64 op, .int .i64 ea, .int .i64 eb, .slice ta to.length tc, .int .i32 imm], .slice (some ⟨rb, 0, none⟩) R.length rc] w (GoesQ 1 w) := by
  have hga := fun w h => rget_any R rb rc rest T ea w h (by omega)
  have hgb := fun w h => rget_any R rb rc rest T eb w h (by omega)
  obtain ⟨hA1, hA2⟩ := getR_32 hR ea
  have HW := Lib.hid hw
  clear hw hR
  have n1 : (op == 1) = false := beq_eq_false_iff_ne.2 (by omega)
  have n2 : (op == 2) = false := beq_eq_false_iff_ne.2 (by omega)
  have n3 : (op == 3) = false := beq_eq_false_iff_ne.2 (by omega)
  have n4 : (op == 4) = false := beq_eq_false_iff_ne.2 (by omega)
  have y5 : (op == 5) = true := beq_iff_eq.2 (by omega)
  have hb : decide (getR R ea % 4294967296 < getR R eb % 4294967296) = false := by simp [hc]
  clear ho hc
  generalize getR R ea = A at *
  generalize getR R eb = B at *
  have HGA := Lib.hid hga
  have HGB := Lib.hid hgb
  clear hga hgb
  go_enter Try.func52, Try.ntmps52
  go_wp2_with fail
  refine (HGA.out _ (HW.out.keep ((Since.refl w).alloc _))).mono ?_
  rintro e0 w1 ⟨rfl, rfl⟩
  go_wp2_with fail
  refine (HGB.out _ (HW.out.keep ((Since.refl w).alloc _))).mono ?_
  rintro e0 w1 ⟨rfl, rfl⟩
  go_wp2
  go_ret
  exact ⟨rfl, (Since.refl w).alloc _⟩

set_option maxHeartbeats 1000000 in
set_option maxRecDepth 100000 in
theorem rgoes_6y (op ea eb : Int) (to : List Int) (ta : Option Addr) (tc : Nat) (imm : Int) (R : List Int) (rb rc : Nat) (rest : List Value) (T : TypeId) (w : World) (hw : WAt w rb R rest T) (hl : R.length ≤ 1000) (hR : ∀ x ∈ R, In32 x) (ho : op = 6) (hlen : 2 ≤ to.length) (hln : to.length ≤ 65) (hc0 : 0 ≤ getR R ea) (hc : getR R ea < (to.length : Int) - 1) :
    Calls Try.prog 52 #[.agg #[.int .i64 op, .int .i64 ea, .int .i64 eb, .slice ta to.length tc, .int .i32 imm], .slice (some ⟨rb, 0, none⟩) R.length rc] w (GoesQ (getR R ea).toNat w) := by
  have hga := fun w h => rget_any R rb rc rest T ea w h (by omega)
  have hgb := fun w h => rget_any R rb rc rest T eb w h (by omega)
  obtain ⟨hA1, hA2⟩ := getR_32 hR ea
  have HW := Lib.hid hw
  clear hw hR
  have n1 : (op == 1) = false := beq_eq_false_iff_ne.2 (by omega)
  have n2 : (op == 2) = false := beq_eq_false_iff_ne.2 (by omega)
  have n3 : (op == 3) = false := beq_eq_false_iff_ne.2 (by omega)
  have n4 : (op == 4) = false := beq_eq_false_iff_ne.2 (by omega)
  have n5 : (op == 5) = false := beq_eq_false_iff_ne.2 (by omega)
  have y6 : (op == 6) = true := beq_iff_eq.2 (by omega)
  have hb : decide (getR R ea < (to.length : Int) - 1) = true := decide_eq_true hc
  have hbi : ((getR R ea).toNat : Int) = getR R ea := Int.toNat_of_nonneg hc0
  have HBI := Lib.hid hbi
  clear ho hbi
  generalize getR R ea = A at *
  generalize getR R eb = B at *
  have HGA := Lib.hid hga
  have HGB := Lib.hid hgb
  clear hga hgb
  go_enter Try.func52, Try.ntmps52
  go_wp2_with fail
  refine (HGA.out _ (HW.out.keep ((Since.refl w).alloc _))).mono ?_
  rintro e0 w1 ⟨rfl, rfl⟩
  go_wp2_with fail
  refine (HGB.out _ (HW.out.keep ((Since.refl w).alloc _))).mono ?_
  rintro e0 w1 ⟨rfl, rfl⟩
  go_wp2
  go_ret
  exact ⟨by rw [HBI.out]; rfl, (Since.refl w).alloc _⟩

set_option maxHeartbeats 1000000 in
set_option maxRecDepth 100000 in
theorem rgoes_6n (op ea eb : Int) (to : List Int) (ta : Option Addr) (tc : Nat) (imm : Int) (R : List Int) (rb rc : Nat) (rest : List Value) (T : TypeId) (w : World) (hw : WAt w rb R rest T) (hl : R.length ≤ 1000) (hR : ∀ x ∈ R, In32 x) (ho : op = 6) (hlen : 2 ≤ to.length) (hln : to.length ≤ 65) (hc : ¬ (getR R ea % 4294967296 < (to.length : Int) - 1)) :
    Calls Try.prog 52 #[.agg #[.int .i64 op, .int .i64 ea, .int .i64 eb, .slice ta to.length tc, .int .i32 imm], .slice (some ⟨rb, 0, none⟩) R.length rc] w (GoesQ (to.length - 1) w) := by
  have hga := fun w h => rget_any R rb rc rest T ea w h (by omega)
  have hgb := fun w h => rget_any R rb rc rest T eb w h (by omega)
  obtain ⟨hA1, hA2⟩ := getR_32 hR ea
  have HW := Lib.hid hw
  clear hw hR
  have n1 : (op == 1) = false := beq_eq_false_iff_ne.2 (by omega)
  have n2 : (op == 2) = false := beq_eq_false_iff_ne.2 (by omega)
  have n3 : (op == 3) = false := beq_eq_false_iff_ne.2 (by omega)
  have n4 : (op == 4) = false := beq_eq_false_iff_ne.2 (by omega)
  have n5 : (op == 5) = false := beq_eq_false_iff_ne.2 (by omega)
  have y6 : (op == 6) = true := beq_iff_eq.2 (by omega)
  have hm0 : 0 ≤ getR R ea % 4294967296 := Int.emod_nonneg _ (by decide)
  have hm1 : getR R ea % 4294967296 < 4294967296 := Int.emod_lt_of_pos _ (by decide)
  have hb : decide (getR R ea % 4294967296 < (to.length : Int) - 1) = false := decide_eq_false hc
  have hbi : ((to.length - 1 : Nat) : Int) = (to.length : Int) - 1 := by omega
  have HBI := Lib.hid hbi
  clear ho hbi
  generalize getR R ea = A at *
  generalize getR R eb = B at *
  have HGA := Lib.hid hga
  have HGB := Lib.hid hgb
  clear hga hgb
  go_enter Try.func52, Try.ntmps52
  go_wp2_with fail
  refine (HGA.out _ (HW.out.keep ((Since.refl w).alloc _))).mono ?_
  rintro e0 w1 ⟨rfl, rfl⟩
  go_wp2_with fail
  refine (HGB.out _ (HW.out.keep ((Since.refl w).alloc _))).mono ?_
  rintro e0 w1 ⟨rfl, rfl⟩
  go_wp2
  go_ret
  exact ⟨by rw [HBI.out]; rfl, (Since.refl w).alloc _⟩

theorem rgoes_any (e : EndV) (R : List Int) (rb rc : Nat) (rest : List Value) (T : TypeId) (w : World) (hw : WAt w rb R rest T) (hl : R.length ≤ 1000) (hR : ∀ x ∈ R, In32 x) (ht : Ints w e.tov e.to) (h : fitsB e = true) (h7 : 1 ≤ e.op) (h8 : e.op ≤ 6) :
    Calls Try.prog 52 #[ev e, .slice (some ⟨rb, 0, none⟩) R.length rc] w (GoesQ (goes e R) w) := by
  obtain ⟨op, ea, eb, to, tov, imm⟩ := e
  obtain ⟨ta, tc, htv⟩ := nums_lenI ht
  dsimp only at htv h7 h8
  subst htv
  unfold ev
  unfold goes
  dsimp only
  by_cases c1 : op = 1
  · rw [if_pos c1]; exact rgoes_1 op ea eb to ta tc imm R rb rc rest T w hw hl hR c1
  rw [if_neg c1]
  by_cases c2 : op = 2
  · rw [if_pos c2]
    by_cases c : getR R ea = 0
    · rw [if_pos c]; exact rgoes_2y op ea eb to ta tc imm R rb rc rest T w hw hl hR c2 c
    · rw [if_neg c]; exact rgoes_2n op ea eb to ta tc imm R rb rc rest T w hw hl hR c2 c
  rw [if_neg c2]
  by_cases c3 : op = 3
  · rw [if_pos c3]
    by_cases c : getR R ea = getR R eb
    · rw [if_pos c]; exact rgoes_3y op ea eb to ta tc imm R rb rc rest T w hw hl hR c3 c
    · rw [if_neg c]; exact rgoes_3n op ea eb to ta tc imm R rb rc rest T w hw hl hR c3 c
  rw [if_neg c3]
  by_cases c4 : op = 4
  · rw [if_pos c4]
    by_cases c : getR R ea < getR R eb
    · rw [if_pos c]; exact rgoes_4y op ea eb to ta tc imm R rb rc rest T w hw hl hR c4 c
    · rw [if_neg c]; exact rgoes_4n op ea eb to ta tc imm R rb rc rest T w hw hl hR c4 c
  rw [if_neg c4]
  by_cases c5 : op = 5
  · rw [if_pos c5]
    by_cases c : getR R ea % 4294967296 < getR R eb % 4294967296
    · rw [if_pos c]; exact rgoes_5y op ea eb to ta tc imm R rb rc rest T w hw hl hR c5 c
    · rw [if_neg c]; exact rgoes_5n op ea eb to ta tc imm R rb rc rest T w hw hl hR c5 c
  rw [if_neg c5]
  have c6 : op = 6 := by omega
  have hll : 2 ≤ to.length ∧ to.length ≤ 65 := by
    unfold fitsB at h
    dsimp only at h
    rw [if_neg c1, if_neg (by omega), if_pos c6] at h
    simpa using h
  by_cases c : getR R ea % 4294967296 < (to.length : Int) - 1
  · rw [if_pos c]
    have hx := getR_32 hR ea
    unfold In32 at hx
    have h0 : 0 ≤ getR R ea := by omega
    have e : getR R ea % 4294967296 = getR R ea := by omega
    rw [e] at c ⊢
    exact rgoes_6y op ea eb to ta tc imm R rb rc rest T w hw hl hR c6 hll.1 hll.2 h0 c
  · rw [if_neg c]; exact rgoes_6n op ea eb to ta tc imm R rb rc rest T w hw hl hR c6 hll.1 hll.2 c


set_option maxHeartbeats 1000000 in
set_option maxRecDepth 100000 in
theorem rmemory_any (av mv0 nv : Value) (st : Int) (l : List Int) (w : World) (h : Nums .i32 w mv0 l) (hav : ∃ a n c, av = .slice a n c) (hnv : ∃ a n c, nv = .slice a n c) :
    Calls Try.prog 50 #[.agg #[av, mv0, nv, .int .i64 st]] w (MemQ w (l.take 4096)) := by
  obtain ⟨a, cap, rfl⟩ := nums_lenI h
  obtain ⟨a1, n1, c1, rfl⟩ := hav
  obtain ⟨a2, n2, c2, rfl⟩ := hnv
  obtain ⟨_, hc1, hc2⟩ := nums_caps h
  obtain ⟨N, hN⟩ : ∃ N, N = min l.length 4096 := ⟨_, rfl⟩
  have hm6 : (if (4096 : Int) < (l.length : Int) then (4096 : Int) else (l.length : Int)) = (N : Int) := by split <;> omega
  have hN1 : N ≤ l.length := by omega
  have hN2 : N ≤ cap := by omega
  have hN6 : N ≤ 4096 := by omega
  have hX : Nums .i32 w (.slice a N cap) (l.take 4096) := by
    have h := nums_take h N hN1
    rw [show l.take N = l.take 4096 from by rw [hN]; by_cases h6 : l.length ≤ 4096; (rw [Nat.min_eq_left h6, List.take_of_length_le h6, List.take_of_length_le (Nat.le_refl _)]); (rw [Nat.min_eq_right (by omega)])] at h
    exact h
  have hXl : (l.take 4096).length = N := by rw [List.length_take]; omega
  generalize l.take 4096 = X at *
  have HX := Lib.hid hX
  have HXL := Lib.hid hXl
  have HN6 := Lib.hid hN6
  clear hN h hX hXl hN6
  go_enter Try.func50, Try.ntmps50
  go_wp2_with (
    at_builtin
    go_loud (
      refine wpList_append_nums (w0 := w) .i32 rfl _ _ 34 rfl 21 (.int .i32 0) 4 Try.underlying34 Try.info32 rfl (by decide) _ (.slice a N cap) [] X rfl rfl (own_empty (w := w.alloc (.cells #[.slice a1 n1 c1, .slice a l.length cap, .slice a2 n2 c2, .int .i64 st] 36)) (b := w.heap.size + 1) (base := w.heap.size) (by simp) (by simp) _ _) (HX.out.keep (((Since.refl w).alloc _).alloc _)) (by have := HXL.out; have := HN6.out; simp; omega) (((Since.refl w).alloc _).alloc _) ?_
      intro v2 w2 hown2 hs2
      rw [List.nil_append] at hown2
      have HO2 := Lib.hid hown2
      have HS2 := Lib.hid hs2
      clear hown2 hs2))
  go_ret
  obtain ⟨h1, h2⟩ := nums_own32 HO2.out (by have := HXL.out; have := HN6.out; omega)
  exact ⟨_, rfl, h1, fun q hq => ⟨(h2 q hq).1, (h2 q hq).2⟩, HS2.out⟩
end Go.Proofs.Ytkpbmbhejpmboaa
