/- mach.Goes; phys.who. -/
import Derived.Test.YtkpbmbhejpmboaaRunCall
namespace Go.Proofs.Ytkpbmbhejpmboaa
open Go.RowKit
set_option linter.unusedVariables false

def GoesQ (x : Nat) (w : World) (e : Ending) (w' : World) : Prop := e = .returned (.int .i64 x) ∧ Since w w'

set_option maxHeartbeats 1000000 in
set_option maxRecDepth 100000 in
theorem goes_1 (op ea eb : Int) (to : List Int) (ta : Option Addr) (tc : Nat) (imm : Int) (R : List Int) (rb rc : Nat) (rest : List Value) (T : TypeId) (w : World) (hw : WAt w rb R rest T) (hl : R.length ≤ 1000) (hR : ∀ x ∈ R, In32 x) (ho : op = 1) :
    Calls Try.prog 81 #[.agg #[.int .i64 op, .int .i64 ea, .int .i64 eb, .slice ta to.length tc, .int .i32 imm], .slice (some ⟨rb, 0, none⟩) R.length rc] w (GoesQ 0 w) := by
  have hga := fun w h => get_any R rb rc rest T ea w h (by omega)
  have hgb := fun w h => get_any R rb rc rest T eb w h (by omega)
  obtain ⟨hA1, hA2⟩ := getR_32 hR ea
  have HW := Lib.hid hw
  clear hw hR
  have y1 : (op == 1) = true := beq_iff_eq.2 (by omega)
  clear ho
  generalize getR R ea = A at *
  generalize getR R eb = B at *
  have HGA := Lib.hid hga
  have HGB := Lib.hid hgb
  clear hga hgb
  go_enter Try.func81, Try.ntmps81
  go_wp2
  refine wp_region_list_facts rfl (by decide +kernel) (by decide +kernel)
    [Is (.slice (some ⟨rb, 0, none⟩) R.length rc), Is (.pointer (some ⟨w.heap.size, 1, none⟩)), Is (.int .i64 ea), Is (.int .i32 A), Is (.slice (some ⟨rb, 0, none⟩) R.length rc), Is (.pointer (some ⟨w.heap.size, 2, none⟩)), Is (.int .i64 eb), Is (.int .i32 B), Is (.int .i32 A), Is (.int .i32 B)]
    (by repeat (first | exact trivial | refine ⟨Is.stable _, ?_⟩ | refine ⟨IsNums.stable _ _, ?_⟩ | refine ⟨IsRows.stable _ _, ?_⟩)) ⟨?_, ?_, ?_, ?_, ?_, ?_, ?_, ?_, ?_, ?_, trivial⟩ ?_
  all_goals
    intro vs w1 hs hk
    have hbm : ∀ i, w1.cell? ⟨w.heap.size, i, none⟩ = _ := fun i => hs.cell (p := ⟨w.heap.size, i, none⟩) (by simp)
    have HSZ := Lib.hid (show w.heap.size < w1.heap.size from by have := hs.size; simp at this; omega)
    have hsz := HSZ.out
    have HS := Lib.hid (Since.trans ((Since.refl w).alloc _) hs)
    clear hs
    simp only [putAll, Act.put, Knows, KnowsAll, nthF, Is, List.setIfInBounds_toArray, List.set_cons_zero, List.set_cons_succ, Nat.reduceAdd, List.length_cons, List.length_nil] at hk ⊢
    try simp only [hk]
  · go_wp2
    exact ⟨_, rfl, rfl, Since.refl _⟩
  · go_wp2
    exact ⟨_, rfl, rfl, Since.refl _⟩
  · go_wp2
    exact ⟨_, rfl, rfl, Since.refl _⟩
  · go_wp2_with fail
    refine (HGA.out w1 (HW.out.keep HS.out)).mono ?_
    rintro e w2 ⟨rfl, rfl⟩
    go_wp2
    exact ⟨_, rfl, rfl, Since.refl _⟩
  · go_wp2
    exact ⟨_, rfl, rfl, Since.refl _⟩
  · go_wp2
    exact ⟨_, rfl, rfl, Since.refl _⟩
  · go_wp2
    exact ⟨_, rfl, rfl, Since.refl _⟩
  · go_wp2_with fail
    refine (HGB.out w1 (HW.out.keep HS.out)).mono ?_
    rintro e w2 ⟨rfl, rfl⟩
    go_wp2
    exact ⟨_, rfl, rfl, Since.refl _⟩
  · go_wp2
    exact ⟨_, rfl, rfl, Since.refl _⟩
  · go_wp2
    exact ⟨_, rfl, rfl, Since.refl _⟩
  · clear hk
    go_wp2
    go_ret
    exact ⟨rfl, HS.out⟩

set_option maxHeartbeats 1000000 in
set_option maxRecDepth 100000 in
theorem goes_2y (op ea eb : Int) (to : List Int) (ta : Option Addr) (tc : Nat) (imm : Int) (R : List Int) (rb rc : Nat) (rest : List Value) (T : TypeId) (w : World) (hw : WAt w rb R rest T) (hl : R.length ≤ 1000) (hR : ∀ x ∈ R, In32 x) (ho : op = 2) (hc : getR R ea = 0) :
    Calls Try.prog 81 #[.agg #[.int .i64 op, .int .i64 ea, .int .i64 eb, .slice ta to.length tc, .int .i32 imm], .slice (some ⟨rb, 0, none⟩) R.length rc] w (GoesQ 1 w) := by
  have hga := fun w h => get_any R rb rc rest T ea w h (by omega)
  have hgb := fun w h => get_any R rb rc rest T eb w h (by omega)
  obtain ⟨hA1, hA2⟩ := getR_32 hR ea
  have HW := Lib.hid hw
  clear hw hR
  have n1 : (op == 1) = false := beq_eq_false_iff_ne.2 (by omega)
  have y2 : (op == 2) = true := beq_iff_eq.2 (by omega)
  have hb : (getR R ea != 0) = false := by simp [hc]
  clear ho hc
  generalize getR R ea = A at *
  generalize getR R eb = B at *
  have HGA := Lib.hid hga
  have HGB := Lib.hid hgb
  clear hga hgb
  go_enter Try.func81, Try.ntmps81
  go_wp2
  refine wp_region_list_facts rfl (by decide +kernel) (by decide +kernel)
    [Is (.slice (some ⟨rb, 0, none⟩) R.length rc), Is (.pointer (some ⟨w.heap.size, 1, none⟩)), Is (.int .i64 ea), Is (.int .i32 A), Is (.slice (some ⟨rb, 0, none⟩) R.length rc), Is (.pointer (some ⟨w.heap.size, 2, none⟩)), Is (.int .i64 eb), Is (.int .i32 B), Is (.int .i32 A), Is (.int .i32 B)]
    (by repeat (first | exact trivial | refine ⟨Is.stable _, ?_⟩ | refine ⟨IsNums.stable _ _, ?_⟩ | refine ⟨IsRows.stable _ _, ?_⟩)) ⟨?_, ?_, ?_, ?_, ?_, ?_, ?_, ?_, ?_, ?_, trivial⟩ ?_
  all_goals
    intro vs w1 hs hk
    have hbm : ∀ i, w1.cell? ⟨w.heap.size, i, none⟩ = _ := fun i => hs.cell (p := ⟨w.heap.size, i, none⟩) (by simp)
    have HSZ := Lib.hid (show w.heap.size < w1.heap.size from by have := hs.size; simp at this; omega)
    have hsz := HSZ.out
    have HS := Lib.hid (Since.trans ((Since.refl w).alloc _) hs)
    clear hs
    simp only [putAll, Act.put, Knows, KnowsAll, nthF, Is, List.setIfInBounds_toArray, List.set_cons_zero, List.set_cons_succ, Nat.reduceAdd, List.length_cons, List.length_nil] at hk ⊢
    try simp only [hk]
  · go_wp2
    exact ⟨_, rfl, rfl, Since.refl _⟩
  · go_wp2
    exact ⟨_, rfl, rfl, Since.refl _⟩
  · go_wp2
    exact ⟨_, rfl, rfl, Since.refl _⟩
  · go_wp2_with fail
    refine (HGA.out w1 (HW.out.keep HS.out)).mono ?_
    rintro e w2 ⟨rfl, rfl⟩
    go_wp2
    exact ⟨_, rfl, rfl, Since.refl _⟩
  · go_wp2
    exact ⟨_, rfl, rfl, Since.refl _⟩
  · go_wp2
    exact ⟨_, rfl, rfl, Since.refl _⟩
  · go_wp2
    exact ⟨_, rfl, rfl, Since.refl _⟩
  · go_wp2_with fail
    refine (HGB.out w1 (HW.out.keep HS.out)).mono ?_
    rintro e w2 ⟨rfl, rfl⟩
    go_wp2
    exact ⟨_, rfl, rfl, Since.refl _⟩
  · go_wp2
    exact ⟨_, rfl, rfl, Since.refl _⟩
  · go_wp2
    exact ⟨_, rfl, rfl, Since.refl _⟩
  · clear hk
    go_wp2
    go_ret
    exact ⟨rfl, HS.out⟩

set_option maxHeartbeats 1000000 in
set_option maxRecDepth 100000 in
theorem goes_2n (op ea eb : Int) (to : List Int) (ta : Option Addr) (tc : Nat) (imm : Int) (R : List Int) (rb rc : Nat) (rest : List Value) (T : TypeId) (w : World) (hw : WAt w rb R rest T) (hl : R.length ≤ 1000) (hR : ∀ x ∈ R, In32 x) (ho : op = 2) (hc : ¬ (getR R ea = 0)) :
    Calls Try.prog 81 #[.agg #[.int .i64 op, .int .i64 ea, .int .i64 eb, .slice ta to.length tc, .int .i32 imm], .slice (some ⟨rb, 0, none⟩) R.length rc] w (GoesQ 0 w) := by
  have hga := fun w h => get_any R rb rc rest T ea w h (by omega)
  have hgb := fun w h => get_any R rb rc rest T eb w h (by omega)
  obtain ⟨hA1, hA2⟩ := getR_32 hR ea
  have HW := Lib.hid hw
  clear hw hR
  have n1 : (op == 1) = false := beq_eq_false_iff_ne.2 (by omega)
  have y2 : (op == 2) = true := beq_iff_eq.2 (by omega)
  have hb : (getR R ea != 0) = true := by simp [hc]
  clear ho hc
  generalize getR R ea = A at *
  generalize getR R eb = B at *
  have HGA := Lib.hid hga
  have HGB := Lib.hid hgb
  clear hga hgb
  go_enter Try.func81, Try.ntmps81
  go_wp2
  refine wp_region_list_facts rfl (by decide +kernel) (by decide +kernel)
    [Is (.slice (some ⟨rb, 0, none⟩) R.length rc), Is (.pointer (some ⟨w.heap.size, 1, none⟩)), Is (.int .i64 ea), Is (.int .i32 A), Is (.slice (some ⟨rb, 0, none⟩) R.length rc), Is (.pointer (some ⟨w.heap.size, 2, none⟩)), Is (.int .i64 eb), Is (.int .i32 B), Is (.int .i32 A), Is (.int .i32 B)]
    (by repeat (first | exact trivial | refine ⟨Is.stable _, ?_⟩ | refine ⟨IsNums.stable _ _, ?_⟩ | refine ⟨IsRows.stable _ _, ?_⟩)) ⟨?_, ?_, ?_, ?_, ?_, ?_, ?_, ?_, ?_, ?_, trivial⟩ ?_
  all_goals
    intro vs w1 hs hk
    have hbm : ∀ i, w1.cell? ⟨w.heap.size, i, none⟩ = _ := fun i => hs.cell (p := ⟨w.heap.size, i, none⟩) (by simp)
    have HSZ := Lib.hid (show w.heap.size < w1.heap.size from by have := hs.size; simp at this; omega)
    have hsz := HSZ.out
    have HS := Lib.hid (Since.trans ((Since.refl w).alloc _) hs)
    clear hs
    simp only [putAll, Act.put, Knows, KnowsAll, nthF, Is, List.setIfInBounds_toArray, List.set_cons_zero, List.set_cons_succ, Nat.reduceAdd, List.length_cons, List.length_nil] at hk ⊢
    try simp only [hk]
  · go_wp2
    exact ⟨_, rfl, rfl, Since.refl _⟩
  · go_wp2
    exact ⟨_, rfl, rfl, Since.refl _⟩
  · go_wp2
    exact ⟨_, rfl, rfl, Since.refl _⟩
  · go_wp2_with fail
    refine (HGA.out w1 (HW.out.keep HS.out)).mono ?_
    rintro e w2 ⟨rfl, rfl⟩
    go_wp2
    exact ⟨_, rfl, rfl, Since.refl _⟩
  · go_wp2
    exact ⟨_, rfl, rfl, Since.refl _⟩
  · go_wp2
    exact ⟨_, rfl, rfl, Since.refl _⟩
  · go_wp2
    exact ⟨_, rfl, rfl, Since.refl _⟩
  · go_wp2_with fail
    refine (HGB.out w1 (HW.out.keep HS.out)).mono ?_
    rintro e w2 ⟨rfl, rfl⟩
    go_wp2
    exact ⟨_, rfl, rfl, Since.refl _⟩
  · go_wp2
    exact ⟨_, rfl, rfl, Since.refl _⟩
  · go_wp2
    exact ⟨_, rfl, rfl, Since.refl _⟩
  · clear hk
    go_wp2
    go_ret
    exact ⟨rfl, HS.out⟩

set_option maxHeartbeats 1000000 in
set_option maxRecDepth 100000 in
theorem goes_3y (op ea eb : Int) (to : List Int) (ta : Option Addr) (tc : Nat) (imm : Int) (R : List Int) (rb rc : Nat) (rest : List Value) (T : TypeId) (w : World) (hw : WAt w rb R rest T) (hl : R.length ≤ 1000) (hR : ∀ x ∈ R, In32 x) (ho : op = 3) (hc : getR R ea = getR R eb) :
    Calls Try.prog 81 #[.agg #[.int .i64 op, .int .i64 ea, .int .i64 eb, .slice ta to.length tc, .int .i32 imm], .slice (some ⟨rb, 0, none⟩) R.length rc] w (GoesQ 0 w) := by
  have hga := fun w h => get_any R rb rc rest T ea w h (by omega)
  have hgb := fun w h => get_any R rb rc rest T eb w h (by omega)
  obtain ⟨hA1, hA2⟩ := getR_32 hR ea
  have HW := Lib.hid hw
  clear hw hR
  have n1 : (op == 1) = false := beq_eq_false_iff_ne.2 (by omega)
  have n2 : (op == 2) = false := beq_eq_false_iff_ne.2 (by omega)
  have y3 : (op == 3) = true := beq_iff_eq.2 (by omega)
  have hb : (getR R ea == getR R eb) = true := by simp [hc]
  clear ho hc
  generalize getR R ea = A at *
  generalize getR R eb = B at *
  have HGA := Lib.hid hga
  have HGB := Lib.hid hgb
  clear hga hgb
  go_enter Try.func81, Try.ntmps81
  go_wp2
  refine wp_region_list_facts rfl (by decide +kernel) (by decide +kernel)
    [Is (.slice (some ⟨rb, 0, none⟩) R.length rc), Is (.pointer (some ⟨w.heap.size, 1, none⟩)), Is (.int .i64 ea), Is (.int .i32 A), Is (.slice (some ⟨rb, 0, none⟩) R.length rc), Is (.pointer (some ⟨w.heap.size, 2, none⟩)), Is (.int .i64 eb), Is (.int .i32 B), Is (.int .i32 A), Is (.int .i32 B)]
    (by repeat (first | exact trivial | refine ⟨Is.stable _, ?_⟩ | refine ⟨IsNums.stable _ _, ?_⟩ | refine ⟨IsRows.stable _ _, ?_⟩)) ⟨?_, ?_, ?_, ?_, ?_, ?_, ?_, ?_, ?_, ?_, trivial⟩ ?_
  all_goals
    intro vs w1 hs hk
    have hbm : ∀ i, w1.cell? ⟨w.heap.size, i, none⟩ = _ := fun i => hs.cell (p := ⟨w.heap.size, i, none⟩) (by simp)
    have HSZ := Lib.hid (show w.heap.size < w1.heap.size from by have := hs.size; simp at this; omega)
    have hsz := HSZ.out
    have HS := Lib.hid (Since.trans ((Since.refl w).alloc _) hs)
    clear hs
    simp only [putAll, Act.put, Knows, KnowsAll, nthF, Is, List.setIfInBounds_toArray, List.set_cons_zero, List.set_cons_succ, Nat.reduceAdd, List.length_cons, List.length_nil] at hk ⊢
    try simp only [hk]
  · go_wp2
    exact ⟨_, rfl, rfl, Since.refl _⟩
  · go_wp2
    exact ⟨_, rfl, rfl, Since.refl _⟩
  · go_wp2
    exact ⟨_, rfl, rfl, Since.refl _⟩
  · go_wp2_with fail
    refine (HGA.out w1 (HW.out.keep HS.out)).mono ?_
    rintro e w2 ⟨rfl, rfl⟩
    go_wp2
    exact ⟨_, rfl, rfl, Since.refl _⟩
  · go_wp2
    exact ⟨_, rfl, rfl, Since.refl _⟩
  · go_wp2
    exact ⟨_, rfl, rfl, Since.refl _⟩
  · go_wp2
    exact ⟨_, rfl, rfl, Since.refl _⟩
  · go_wp2_with fail
    refine (HGB.out w1 (HW.out.keep HS.out)).mono ?_
    rintro e w2 ⟨rfl, rfl⟩
    go_wp2
    exact ⟨_, rfl, rfl, Since.refl _⟩
  · go_wp2
    exact ⟨_, rfl, rfl, Since.refl _⟩
  · go_wp2
    exact ⟨_, rfl, rfl, Since.refl _⟩
  · clear hk
    go_wp2
    go_ret
    exact ⟨rfl, HS.out⟩

set_option maxHeartbeats 1000000 in
set_option maxRecDepth 100000 in
theorem goes_3n (op ea eb : Int) (to : List Int) (ta : Option Addr) (tc : Nat) (imm : Int) (R : List Int) (rb rc : Nat) (rest : List Value) (T : TypeId) (w : World) (hw : WAt w rb R rest T) (hl : R.length ≤ 1000) (hR : ∀ x ∈ R, In32 x) (ho : op = 3) (hc : ¬ (getR R ea = getR R eb)) :
    Calls Try.prog 81 #[.agg #[.int .i64 op, .int .i64 ea, .int .i64 eb, .slice ta to.length tc, .int .i32 imm], .slice (some ⟨rb, 0, none⟩) R.length rc] w (GoesQ 1 w) := by
  have hga := fun w h => get_any R rb rc rest T ea w h (by omega)
  have hgb := fun w h => get_any R rb rc rest T eb w h (by omega)
  obtain ⟨hA1, hA2⟩ := getR_32 hR ea
  have HW := Lib.hid hw
  clear hw hR
  have n1 : (op == 1) = false := beq_eq_false_iff_ne.2 (by omega)
  have n2 : (op == 2) = false := beq_eq_false_iff_ne.2 (by omega)
  have y3 : (op == 3) = true := beq_iff_eq.2 (by omega)
  have hb : (getR R ea == getR R eb) = false := by simp [hc]
  clear ho hc
  generalize getR R ea = A at *
  generalize getR R eb = B at *
  have HGA := Lib.hid hga
  have HGB := Lib.hid hgb
  clear hga hgb
  go_enter Try.func81, Try.ntmps81
  go_wp2
  refine wp_region_list_facts rfl (by decide +kernel) (by decide +kernel)
    [Is (.slice (some ⟨rb, 0, none⟩) R.length rc), Is (.pointer (some ⟨w.heap.size, 1, none⟩)), Is (.int .i64 ea), Is (.int .i32 A), Is (.slice (some ⟨rb, 0, none⟩) R.length rc), Is (.pointer (some ⟨w.heap.size, 2, none⟩)), Is (.int .i64 eb), Is (.int .i32 B), Is (.int .i32 A), Is (.int .i32 B)]
    (by repeat (first | exact trivial | refine ⟨Is.stable _, ?_⟩ | refine ⟨IsNums.stable _ _, ?_⟩ | refine ⟨IsRows.stable _ _, ?_⟩)) ⟨?_, ?_, ?_, ?_, ?_, ?_, ?_, ?_, ?_, ?_, trivial⟩ ?_
  all_goals
    intro vs w1 hs hk
    have hbm : ∀ i, w1.cell? ⟨w.heap.size, i, none⟩ = _ := fun i => hs.cell (p := ⟨w.heap.size, i, none⟩) (by simp)
    have HSZ := Lib.hid (show w.heap.size < w1.heap.size from by have := hs.size; simp at this; omega)
    have hsz := HSZ.out
    have HS := Lib.hid (Since.trans ((Since.refl w).alloc _) hs)
    clear hs
    simp only [putAll, Act.put, Knows, KnowsAll, nthF, Is, List.setIfInBounds_toArray, List.set_cons_zero, List.set_cons_succ, Nat.reduceAdd, List.length_cons, List.length_nil] at hk ⊢
    try simp only [hk]
  · go_wp2
    exact ⟨_, rfl, rfl, Since.refl _⟩
  · go_wp2
    exact ⟨_, rfl, rfl, Since.refl _⟩
  · go_wp2
    exact ⟨_, rfl, rfl, Since.refl _⟩
  · go_wp2_with fail
    refine (HGA.out w1 (HW.out.keep HS.out)).mono ?_
    rintro e w2 ⟨rfl, rfl⟩
    go_wp2
    exact ⟨_, rfl, rfl, Since.refl _⟩
  · go_wp2
    exact ⟨_, rfl, rfl, Since.refl _⟩
  · go_wp2
    exact ⟨_, rfl, rfl, Since.refl _⟩
  · go_wp2
    exact ⟨_, rfl, rfl, Since.refl _⟩
  · go_wp2_with fail
    refine (HGB.out w1 (HW.out.keep HS.out)).mono ?_
    rintro e w2 ⟨rfl, rfl⟩
    go_wp2
    exact ⟨_, rfl, rfl, Since.refl _⟩
  · go_wp2
    exact ⟨_, rfl, rfl, Since.refl _⟩
  · go_wp2
    exact ⟨_, rfl, rfl, Since.refl _⟩
  · clear hk
    go_wp2
    go_ret
    exact ⟨rfl, HS.out⟩

set_option maxHeartbeats 1000000 in
set_option maxRecDepth 100000 in
theorem goes_4y (op ea eb : Int) (to : List Int) (ta : Option Addr) (tc : Nat) (imm : Int) (R : List Int) (rb rc : Nat) (rest : List Value) (T : TypeId) (w : World) (hw : WAt w rb R rest T) (hl : R.length ≤ 1000) (hR : ∀ x ∈ R, In32 x) (ho : op = 4) (hc : getR R ea < getR R eb) :
    Calls Try.prog 81 #[.agg #[.int .i64 op, .int .i64 ea, .int .i64 eb, .slice ta to.length tc, .int .i32 imm], .slice (some ⟨rb, 0, none⟩) R.length rc] w (GoesQ 0 w) := by
  have hga := fun w h => get_any R rb rc rest T ea w h (by omega)
  have hgb := fun w h => get_any R rb rc rest T eb w h (by omega)
  obtain ⟨hA1, hA2⟩ := getR_32 hR ea
  have HW := Lib.hid hw
  clear hw hR
  have n1 : (op == 1) = false := beq_eq_false_iff_ne.2 (by omega)
  have n2 : (op == 2) = false := beq_eq_false_iff_ne.2 (by omega)
  have n3 : (op == 3) = false := beq_eq_false_iff_ne.2 (by omega)
  have y4 : (op == 4) = true := beq_iff_eq.2 (by omega)
  have hb : decide (getR R ea < getR R eb) = true := by simp [hc]
  clear ho hc
  generalize getR R ea = A at *
  generalize getR R eb = B at *
  have HGA := Lib.hid hga
  have HGB := Lib.hid hgb
  clear hga hgb
  go_enter Try.func81, Try.ntmps81
  go_wp2
  refine wp_region_list_facts rfl (by decide +kernel) (by decide +kernel)
    [Is (.slice (some ⟨rb, 0, none⟩) R.length rc), Is (.pointer (some ⟨w.heap.size, 1, none⟩)), Is (.int .i64 ea), Is (.int .i32 A), Is (.slice (some ⟨rb, 0, none⟩) R.length rc), Is (.pointer (some ⟨w.heap.size, 2, none⟩)), Is (.int .i64 eb), Is (.int .i32 B), Is (.int .i32 A), Is (.int .i32 B)]
    (by repeat (first | exact trivial | refine ⟨Is.stable _, ?_⟩ | refine ⟨IsNums.stable _ _, ?_⟩ | refine ⟨IsRows.stable _ _, ?_⟩)) ⟨?_, ?_, ?_, ?_, ?_, ?_, ?_, ?_, ?_, ?_, trivial⟩ ?_
  all_goals
    intro vs w1 hs hk
    have hbm : ∀ i, w1.cell? ⟨w.heap.size, i, none⟩ = _ := fun i => hs.cell (p := ⟨w.heap.size, i, none⟩) (by simp)
    have HSZ := Lib.hid (show w.heap.size < w1.heap.size from by have := hs.size; simp at this; omega)
    have hsz := HSZ.out
    have HS := Lib.hid (Since.trans ((Since.refl w).alloc _) hs)
    clear hs
    simp only [putAll, Act.put, Knows, KnowsAll, nthF, Is, List.setIfInBounds_toArray, List.set_cons_zero, List.set_cons_succ, Nat.reduceAdd, List.length_cons, List.length_nil] at hk ⊢
    try simp only [hk]
  · go_wp2
    exact ⟨_, rfl, rfl, Since.refl _⟩
  · go_wp2
    exact ⟨_, rfl, rfl, Since.refl _⟩
  · go_wp2
    exact ⟨_, rfl, rfl, Since.refl _⟩
  · go_wp2_with fail
    refine (HGA.out w1 (HW.out.keep HS.out)).mono ?_
    rintro e w2 ⟨rfl, rfl⟩
    go_wp2
    exact ⟨_, rfl, rfl, Since.refl _⟩
  · go_wp2
    exact ⟨_, rfl, rfl, Since.refl _⟩
  · go_wp2
    exact ⟨_, rfl, rfl, Since.refl _⟩
  · go_wp2
    exact ⟨_, rfl, rfl, Since.refl _⟩
  · go_wp2_with fail
    refine (HGB.out w1 (HW.out.keep HS.out)).mono ?_
    rintro e w2 ⟨rfl, rfl⟩
    go_wp2
    exact ⟨_, rfl, rfl, Since.refl _⟩
  · go_wp2
    exact ⟨_, rfl, rfl, Since.refl _⟩
  · go_wp2
    exact ⟨_, rfl, rfl, Since.refl _⟩
  · clear hk
    go_wp2
    go_ret
    exact ⟨rfl, HS.out⟩

set_option maxHeartbeats 1000000 in
set_option maxRecDepth 100000 in
theorem goes_4n (op ea eb : Int) (to : List Int) (ta : Option Addr) (tc : Nat) (imm : Int) (R : List Int) (rb rc : Nat) (rest : List Value) (T : TypeId) (w : World) (hw : WAt w rb R rest T) (hl : R.length ≤ 1000) (hR : ∀ x ∈ R, In32 x) (ho : op = 4) (hc : ¬ (getR R ea < getR R eb)) :
    Calls Try.prog 81 #[.agg #[.int .i64 op, .int .i64 ea, .int .i64 eb, .slice ta to.length tc, .int .i32 imm], .slice (some ⟨rb, 0, none⟩) R.length rc] w (GoesQ 1 w) := by
  have hga := fun w h => get_any R rb rc rest T ea w h (by omega)
  have hgb := fun w h => get_any R rb rc rest T eb w h (by omega)
  obtain ⟨hA1, hA2⟩ := getR_32 hR ea
  have HW := Lib.hid hw
  clear hw hR
  have n1 : (op == 1) = false := beq_eq_false_iff_ne.2 (by omega)
  have n2 : (op == 2) = false := beq_eq_false_iff_ne.2 (by omega)
  have n3 : (op == 3) = false := beq_eq_false_iff_ne.2 (by omega)
  have y4 : (op == 4) = true := beq_iff_eq.2 (by omega)
  have hb : decide (getR R ea < getR R eb) = false := by simp [hc]
  clear ho hc
  generalize getR R ea = A at *
  generalize getR R eb = B at *
  have HGA := Lib.hid hga
  have HGB := Lib.hid hgb
  clear hga hgb
  go_enter Try.func81, Try.ntmps81
  go_wp2
  refine wp_region_list_facts rfl (by decide +kernel) (by decide +kernel)
    [Is (.slice (some ⟨rb, 0, none⟩) R.length rc), Is (.pointer (some ⟨w.heap.size, 1, none⟩)), Is (.int .i64 ea), Is (.int .i32 A), Is (.slice (some ⟨rb, 0, none⟩) R.length rc), Is (.pointer (some ⟨w.heap.size, 2, none⟩)), Is (.int .i64 eb), Is (.int .i32 B), Is (.int .i32 A), Is (.int .i32 B)]
    (by repeat (first | exact trivial | refine ⟨Is.stable _, ?_⟩ | refine ⟨IsNums.stable _ _, ?_⟩ | refine ⟨IsRows.stable _ _, ?_⟩)) ⟨?_, ?_, ?_, ?_, ?_, ?_, ?_, ?_, ?_, ?_, trivial⟩ ?_
  all_goals
    intro vs w1 hs hk
    have hbm : ∀ i, w1.cell? ⟨w.heap.size, i, none⟩ = _ := fun i => hs.cell (p := ⟨w.heap.size, i, none⟩) (by simp)
    have HSZ := Lib.hid (show w.heap.size < w1.heap.size from by have := hs.size; simp at this; omega)
    have hsz := HSZ.out
    have HS := Lib.hid (Since.trans ((Since.refl w).alloc _) hs)
    clear hs
    simp only [putAll, Act.put, Knows, KnowsAll, nthF, Is, List.setIfInBounds_toArray, List.set_cons_zero, List.set_cons_succ, Nat.reduceAdd, List.length_cons, List.length_nil] at hk ⊢
    try simp only [hk]
  · go_wp2
    exact ⟨_, rfl, rfl, Since.refl _⟩
  · go_wp2
    exact ⟨_, rfl, rfl, Since.refl _⟩
  · go_wp2
    exact ⟨_, rfl, rfl, Since.refl _⟩
  · go_wp2_with fail
    refine (HGA.out w1 (HW.out.keep HS.out)).mono ?_
    rintro e w2 ⟨rfl, rfl⟩
    go_wp2
    exact ⟨_, rfl, rfl, Since.refl _⟩
  · go_wp2
    exact ⟨_, rfl, rfl, Since.refl _⟩
  · go_wp2
    exact ⟨_, rfl, rfl, Since.refl _⟩
  · go_wp2
    exact ⟨_, rfl, rfl, Since.refl _⟩
  · go_wp2_with fail
    refine (HGB.out w1 (HW.out.keep HS.out)).mono ?_
    rintro e w2 ⟨rfl, rfl⟩
    go_wp2
    exact ⟨_, rfl, rfl, Since.refl _⟩
  · go_wp2
    exact ⟨_, rfl, rfl, Since.refl _⟩
  · go_wp2
    exact ⟨_, rfl, rfl, Since.refl _⟩
  · clear hk
    go_wp2
    go_ret
    exact ⟨rfl, HS.out⟩

set_option maxHeartbeats 1000000 in
set_option maxRecDepth 100000 in
theorem goes_5y (op ea eb : Int) (to : List Int) (ta : Option Addr) (tc : Nat) (imm : Int) (R : List Int) (rb rc : Nat) (rest : List Value) (T : TypeId) (w : World) (hw : WAt w rb R rest T) (hl : R.length ≤ 1000) (hR : ∀ x ∈ R, In32 x) (ho : op = 5) (hc : getR R ea % 4294967296 < getR R eb % 4294967296) :
    Calls Try.prog 81 #[.agg #[.int .i64 op, .int .i64 ea, .int .i64 eb, .slice ta to.length tc, .int .i32 imm], .slice (some ⟨rb, 0, none⟩) R.length rc] w (GoesQ 0 w) := by
  have hga := fun w h => get_any R rb rc rest T ea w h (by omega)
  have hgb := fun w h => get_any R rb rc rest T eb w h (by omega)
  obtain ⟨hA1, hA2⟩ := getR_32 hR ea
  have HW := Lib.hid hw
  clear hw hR
  have n1 : (op == 1) = false := beq_eq_false_iff_ne.2 (by omega)
  have n2 : (op == 2) = false := beq_eq_false_iff_ne.2 (by omega)
  have n3 : (op == 3) = false := beq_eq_false_iff_ne.2 (by omega)
  have n4 : (op == 4) = false := beq_eq_false_iff_ne.2 (by omega)
  have y5 : (op == 5) = true := beq_iff_eq.2 (by omega)
  have hb : decide (getR R ea % 4294967296 < getR R eb % 4294967296) = true := by simp [hc]
  clear ho hc
  generalize getR R ea = A at *
  generalize getR R eb = B at *
  have HGA := Lib.hid hga
  have HGB := Lib.hid hgb
  clear hga hgb
  go_enter Try.func81, Try.ntmps81
  go_wp2
  refine wp_region_list_facts rfl (by decide +kernel) (by decide +kernel)
    [Is (.slice (some ⟨rb, 0, none⟩) R.length rc), Is (.pointer (some ⟨w.heap.size, 1, none⟩)), Is (.int .i64 ea), Is (.int .i32 A), Is (.slice (some ⟨rb, 0, none⟩) R.length rc), Is (.pointer (some ⟨w.heap.size, 2, none⟩)), Is (.int .i64 eb), Is (.int .i32 B), Is (.int .i32 A), Is (.int .i32 B)]
    (by repeat (first | exact trivial | refine ⟨Is.stable _, ?_⟩ | refine ⟨IsNums.stable _ _, ?_⟩ | refine ⟨IsRows.stable _ _, ?_⟩)) ⟨?_, ?_, ?_, ?_, ?_, ?_, ?_, ?_, ?_, ?_, trivial⟩ ?_
  all_goals
    intro vs w1 hs hk
    have hbm : ∀ i, w1.cell? ⟨w.heap.size, i, none⟩ = _ := fun i => hs.cell (p := ⟨w.heap.size, i, none⟩) (by simp)
    have HSZ := Lib.hid (show w.heap.size < w1.heap.size from by have := hs.size; simp at this; omega)
    have hsz := HSZ.out
    have HS := Lib.hid (Since.trans ((Since.refl w).alloc _) hs)
    clear hs
    simp only [putAll, Act.put, Knows, KnowsAll, nthF, Is, List.setIfInBounds_toArray, List.set_cons_zero, List.set_cons_succ, Nat.reduceAdd, List.length_cons, List.length_nil] at hk ⊢
    try simp only [hk]
  · go_wp2
    exact ⟨_, rfl, rfl, Since.refl _⟩
  · go_wp2
    exact ⟨_, rfl, rfl, Since.refl _⟩
  · go_wp2
    exact ⟨_, rfl, rfl, Since.refl _⟩
  · go_wp2_with fail
    refine (HGA.out w1 (HW.out.keep HS.out)).mono ?_
    rintro e w2 ⟨rfl, rfl⟩
    go_wp2
    exact ⟨_, rfl, rfl, Since.refl _⟩
  · go_wp2
    exact ⟨_, rfl, rfl, Since.refl _⟩
  · go_wp2
    exact ⟨_, rfl, rfl, Since.refl _⟩
  · go_wp2
    exact ⟨_, rfl, rfl, Since.refl _⟩
  · go_wp2_with fail
    refine (HGB.out w1 (HW.out.keep HS.out)).mono ?_
    rintro e w2 ⟨rfl, rfl⟩
    go_wp2
    exact ⟨_, rfl, rfl, Since.refl _⟩
  · go_wp2
    exact ⟨_, rfl, rfl, Since.refl _⟩
  · go_wp2
    exact ⟨_, rfl, rfl, Since.refl _⟩
  · clear hk
    go_wp2
    go_ret
    exact ⟨rfl, HS.out⟩

set_option maxHeartbeats 1000000 in
set_option maxRecDepth 100000 in
theorem goes_5n (op ea eb : Int) (to : List Int) (ta : Option Addr) (tc : Nat) (imm : Int) (R : List Int) (rb rc : Nat) (rest : List Value) (T : TypeId) (w : World) (hw : WAt w rb R rest T) (hl : R.length ≤ 1000) (hR : ∀ x ∈ R, In32 x) (ho : op = 5) (hc : ¬ (getR R ea % 4294967296 < getR R eb % 4294967296)) :
    Calls Try.prog 81 #[.agg #[.int .i64 op, .int .i64 ea, .int .i64 eb, .slice ta to.length tc, .int .i32 imm], .slice (some ⟨rb, 0, none⟩) R.length rc] w (GoesQ 1 w) := by
  have hga := fun w h => get_any R rb rc rest T ea w h (by omega)
  have hgb := fun w h => get_any R rb rc rest T eb w h (by omega)
  obtain ⟨hA1, hA2⟩ := getR_32 hR ea
  have HW := Lib.hid hw
  clear hw hR
  have n1 : (op == 1) = false := beq_eq_false_iff_ne.2 (by omega)
  have n2 : (op == 2) = false := beq_eq_false_iff_ne.2 (by omega)
  have n3 : (op == 3) = false := beq_eq_false_iff_ne.2 (by omega)
  have n4 : (op == 4) = false := beq_eq_false_iff_ne.2 (by omega)
  have y5 : (op == 5) = true := beq_iff_eq.2 (by omega)
  have hb : decide (getR R ea % 4294967296 < getR R eb % 4294967296) = false := by simp [hc]
  clear ho hc
  generalize getR R ea = A at *
  generalize getR R eb = B at *
  have HGA := Lib.hid hga
  have HGB := Lib.hid hgb
  clear hga hgb
  go_enter Try.func81, Try.ntmps81
  go_wp2
  refine wp_region_list_facts rfl (by decide +kernel) (by decide +kernel)
    [Is (.slice (some ⟨rb, 0, none⟩) R.length rc), Is (.pointer (some ⟨w.heap.size, 1, none⟩)), Is (.int .i64 ea), Is (.int .i32 A), Is (.slice (some ⟨rb, 0, none⟩) R.length rc), Is (.pointer (some ⟨w.heap.size, 2, none⟩)), Is (.int .i64 eb), Is (.int .i32 B), Is (.int .i32 A), Is (.int .i32 B)]
    (by repeat (first | exact trivial | refine ⟨Is.stable _, ?_⟩ | refine ⟨IsNums.stable _ _, ?_⟩ | refine ⟨IsRows.stable _ _, ?_⟩)) ⟨?_, ?_, ?_, ?_, ?_, ?_, ?_, ?_, ?_, ?_, trivial⟩ ?_
  all_goals
    intro vs w1 hs hk
    have hbm : ∀ i, w1.cell? ⟨w.heap.size, i, none⟩ = _ := fun i => hs.cell (p := ⟨w.heap.size, i, none⟩) (by simp)
    have HSZ := Lib.hid (show w.heap.size < w1.heap.size from by have := hs.size; simp at this; omega)
    have hsz := HSZ.out
    have HS := Lib.hid (Since.trans ((Since.refl w).alloc _) hs)
    clear hs
    simp only [putAll, Act.put, Knows, KnowsAll, nthF, Is, List.setIfInBounds_toArray, List.set_cons_zero, List.set_cons_succ, Nat.reduceAdd, List.length_cons, List.length_nil] at hk ⊢
    try simp only [hk]
  · go_wp2
    exact ⟨_, rfl, rfl, Since.refl _⟩
  · go_wp2
    exact ⟨_, rfl, rfl, Since.refl _⟩
  · go_wp2
    exact ⟨_, rfl, rfl, Since.refl _⟩
  · go_wp2_with fail
    refine (HGA.out w1 (HW.out.keep HS.out)).mono ?_
    rintro e w2 ⟨rfl, rfl⟩
    go_wp2
    exact ⟨_, rfl, rfl, Since.refl _⟩
  · go_wp2
    exact ⟨_, rfl, rfl, Since.refl _⟩
  · go_wp2
    exact ⟨_, rfl, rfl, Since.refl _⟩
  · go_wp2
    exact ⟨_, rfl, rfl, Since.refl _⟩
  · go_wp2_with fail
    refine (HGB.out w1 (HW.out.keep HS.out)).mono ?_
    rintro e w2 ⟨rfl, rfl⟩
    go_wp2
    exact ⟨_, rfl, rfl, Since.refl _⟩
  · go_wp2
    exact ⟨_, rfl, rfl, Since.refl _⟩
  · go_wp2
    exact ⟨_, rfl, rfl, Since.refl _⟩
  · clear hk
    go_wp2
    go_ret
    exact ⟨rfl, HS.out⟩

set_option maxHeartbeats 1000000 in
set_option maxRecDepth 100000 in
theorem goes_6y (op ea eb : Int) (to : List Int) (ta : Option Addr) (tc : Nat) (imm : Int) (R : List Int) (rb rc : Nat) (rest : List Value) (T : TypeId) (w : World) (hw : WAt w rb R rest T) (hl : R.length ≤ 1000) (hR : ∀ x ∈ R, In32 x) (ho : op = 6) (hlen : 2 ≤ to.length) (hln : to.length ≤ 65) (hc0 : 0 ≤ getR R ea) (hc : getR R ea < (to.length : Int) - 1) :
    Calls Try.prog 81 #[.agg #[.int .i64 op, .int .i64 ea, .int .i64 eb, .slice ta to.length tc, .int .i32 imm], .slice (some ⟨rb, 0, none⟩) R.length rc] w (GoesQ (getR R ea).toNat w) := by
  have hga := fun w h => get_any R rb rc rest T ea w h (by omega)
  have hgb := fun w h => get_any R rb rc rest T eb w h (by omega)
  obtain ⟨hA1, hA2⟩ := getR_32 hR ea
  have HW := Lib.hid hw
  clear hw hR
  have n1 : (op == 1) = false := beq_eq_false_iff_ne.2 (by omega)
  have n2 : (op == 2) = false := beq_eq_false_iff_ne.2 (by omega)
  have n3 : (op == 3) = false := beq_eq_false_iff_ne.2 (by omega)
  have n4 : (op == 4) = false := beq_eq_false_iff_ne.2 (by omega)
  have n5 : (op == 5) = false := beq_eq_false_iff_ne.2 (by omega)
  have y6 : (op == 6) = true := beq_iff_eq.2 (by omega)
  have hb : decide (getR R ea < (to.length : Int) - 1) = true := decide_eq_true hc
  have hbi : ((getR R ea).toNat : Int) = getR R ea := Int.toNat_of_nonneg hc0
  have HBI := Lib.hid hbi
  clear ho hbi
  generalize getR R ea = A at *
  generalize getR R eb = B at *
  have HGA := Lib.hid hga
  have HGB := Lib.hid hgb
  clear hga hgb
  go_enter Try.func81, Try.ntmps81
  go_wp2
  refine wp_region_list_facts rfl (by decide +kernel) (by decide +kernel)
    [Is (.slice (some ⟨rb, 0, none⟩) R.length rc), Is (.pointer (some ⟨w.heap.size, 1, none⟩)), Is (.int .i64 ea), Is (.int .i32 A), Is (.slice (some ⟨rb, 0, none⟩) R.length rc), Is (.pointer (some ⟨w.heap.size, 2, none⟩)), Is (.int .i64 eb), Is (.int .i32 B), Is (.int .i32 A), Is (.int .i32 B)]
    (by repeat (first | exact trivial | refine ⟨Is.stable _, ?_⟩ | refine ⟨IsNums.stable _ _, ?_⟩ | refine ⟨IsRows.stable _ _, ?_⟩)) ⟨?_, ?_, ?_, ?_, ?_, ?_, ?_, ?_, ?_, ?_, trivial⟩ ?_
  all_goals
    intro vs w1 hs hk
    have hbm : ∀ i, w1.cell? ⟨w.heap.size, i, none⟩ = _ := fun i => hs.cell (p := ⟨w.heap.size, i, none⟩) (by simp)
    have HSZ := Lib.hid (show w.heap.size < w1.heap.size from by have := hs.size; simp at this; omega)
    have hsz := HSZ.out
    have HS := Lib.hid (Since.trans ((Since.refl w).alloc _) hs)
    clear hs
    simp only [putAll, Act.put, Knows, KnowsAll, nthF, Is, List.setIfInBounds_toArray, List.set_cons_zero, List.set_cons_succ, Nat.reduceAdd, List.length_cons, List.length_nil] at hk ⊢
    try simp only [hk]
  · go_wp2
    exact ⟨_, rfl, rfl, Since.refl _⟩
  · go_wp2
    exact ⟨_, rfl, rfl, Since.refl _⟩
  · go_wp2
    exact ⟨_, rfl, rfl, Since.refl _⟩
  · go_wp2_with fail
    refine (HGA.out w1 (HW.out.keep HS.out)).mono ?_
    rintro e w2 ⟨rfl, rfl⟩
    go_wp2
    exact ⟨_, rfl, rfl, Since.refl _⟩
  · go_wp2
    exact ⟨_, rfl, rfl, Since.refl _⟩
  · go_wp2
    exact ⟨_, rfl, rfl, Since.refl _⟩
  · go_wp2
    exact ⟨_, rfl, rfl, Since.refl _⟩
  · go_wp2_with fail
    refine (HGB.out w1 (HW.out.keep HS.out)).mono ?_
    rintro e w2 ⟨rfl, rfl⟩
    go_wp2
    exact ⟨_, rfl, rfl, Since.refl _⟩
  · go_wp2
    exact ⟨_, rfl, rfl, Since.refl _⟩
  · go_wp2
    exact ⟨_, rfl, rfl, Since.refl _⟩
  · clear hk
    go_wp2
    go_ret
    exact ⟨by rw [HBI.out]; rfl, HS.out⟩

set_option maxHeartbeats 1000000 in
set_option maxRecDepth 100000 in
theorem goes_6n (op ea eb : Int) (to : List Int) (ta : Option Addr) (tc : Nat) (imm : Int) (R : List Int) (rb rc : Nat) (rest : List Value) (T : TypeId) (w : World) (hw : WAt w rb R rest T) (hl : R.length ≤ 1000) (hR : ∀ x ∈ R, In32 x) (ho : op = 6) (hlen : 2 ≤ to.length) (hln : to.length ≤ 65) (hc : ¬ (getR R ea % 4294967296 < (to.length : Int) - 1)) :
    Calls Try.prog 81 #[.agg #[.int .i64 op, .int .i64 ea, .int .i64 eb, .slice ta to.length tc, .int .i32 imm], .slice (some ⟨rb, 0, none⟩) R.length rc] w (GoesQ (to.length - 1) w) := by
  have hga := fun w h => get_any R rb rc rest T ea w h (by omega)
  have hgb := fun w h => get_any R rb rc rest T eb w h (by omega)
  obtain ⟨hA1, hA2⟩ := getR_32 hR ea
  have HW := Lib.hid hw
  clear hw hR
  have n1 : (op == 1) = false := beq_eq_false_iff_ne.2 (by omega)
  have n2 : (op == 2) = false := beq_eq_false_iff_ne.2 (by omega)
  have n3 : (op == 3) = false := beq_eq_false_iff_ne.2 (by omega)
  have n4 : (op == 4) = false := beq_eq_false_iff_ne.2 (by omega)
  have n5 : (op == 5) = false := beq_eq_false_iff_ne.2 (by omega)
  have y6 : (op == 6) = true := beq_iff_eq.2 (by omega)
  have hm0 : 0 ≤ getR R ea % 4294967296 := Int.emod_nonneg _ (by decide)
  have hm1 : getR R ea % 4294967296 < 4294967296 := Int.emod_lt_of_pos _ (by decide)
  have hb : decide (getR R ea % 4294967296 < (to.length : Int) - 1) = false := decide_eq_false hc
  have hbi : ((to.length - 1 : Nat) : Int) = (to.length : Int) - 1 := by omega
  have HBI := Lib.hid hbi
  clear ho hbi
  generalize getR R ea = A at *
  generalize getR R eb = B at *
  have HGA := Lib.hid hga
  have HGB := Lib.hid hgb
  clear hga hgb
  go_enter Try.func81, Try.ntmps81
  go_wp2
  refine wp_region_list_facts rfl (by decide +kernel) (by decide +kernel)
    [Is (.slice (some ⟨rb, 0, none⟩) R.length rc), Is (.pointer (some ⟨w.heap.size, 1, none⟩)), Is (.int .i64 ea), Is (.int .i32 A), Is (.slice (some ⟨rb, 0, none⟩) R.length rc), Is (.pointer (some ⟨w.heap.size, 2, none⟩)), Is (.int .i64 eb), Is (.int .i32 B), Is (.int .i32 A), Is (.int .i32 B)]
    (by repeat (first | exact trivial | refine ⟨Is.stable _, ?_⟩ | refine ⟨IsNums.stable _ _, ?_⟩ | refine ⟨IsRows.stable _ _, ?_⟩)) ⟨?_, ?_, ?_, ?_, ?_, ?_, ?_, ?_, ?_, ?_, trivial⟩ ?_
  all_goals
    intro vs w1 hs hk
    have hbm : ∀ i, w1.cell? ⟨w.heap.size, i, none⟩ = _ := fun i => hs.cell (p := ⟨w.heap.size, i, none⟩) (by simp)
    have HSZ := Lib.hid (show w.heap.size < w1.heap.size from by have := hs.size; simp at this; omega)
    have hsz := HSZ.out
    have HS := Lib.hid (Since.trans ((Since.refl w).alloc _) hs)
    clear hs
    simp only [putAll, Act.put, Knows, KnowsAll, nthF, Is, List.setIfInBounds_toArray, List.set_cons_zero, List.set_cons_succ, Nat.reduceAdd, List.length_cons, List.length_nil] at hk ⊢
    try simp only [hk]
  · go_wp2
    exact ⟨_, rfl, rfl, Since.refl _⟩
  · go_wp2
    exact ⟨_, rfl, rfl, Since.refl _⟩
  · go_wp2
    exact ⟨_, rfl, rfl, Since.refl _⟩
  · go_wp2_with fail
    refine (HGA.out w1 (HW.out.keep HS.out)).mono ?_
    rintro e w2 ⟨rfl, rfl⟩
    go_wp2
    exact ⟨_, rfl, rfl, Since.refl _⟩
  · go_wp2
    exact ⟨_, rfl, rfl, Since.refl _⟩
  · go_wp2
    exact ⟨_, rfl, rfl, Since.refl _⟩
  · go_wp2
    exact ⟨_, rfl, rfl, Since.refl _⟩
  · go_wp2_with fail
    refine (HGB.out w1 (HW.out.keep HS.out)).mono ?_
    rintro e w2 ⟨rfl, rfl⟩
    go_wp2
    exact ⟨_, rfl, rfl, Since.refl _⟩
  · go_wp2
    exact ⟨_, rfl, rfl, Since.refl _⟩
  · go_wp2
    exact ⟨_, rfl, rfl, Since.refl _⟩
  · clear hk
    go_wp2
    go_ret
    exact ⟨by rw [HBI.out]; rfl, HS.out⟩

theorem goes_lt (e : EndV) (R : List Int) (h : fitsB e = true) (h7 : 1 ≤ e.op) (h8 : e.op ≤ 6) : goes e R < e.to.length := by
  unfold fitsB at h
  unfold goes
  dsimp only
  by_cases c1 : e.op = 1
  · rw [if_pos c1] at h ⊢; simp at h; omega
  rw [if_neg c1] at h ⊢
  by_cases c2 : 2 ≤ e.op ∧ e.op ≤ 5
  · rw [if_pos c2] at h
    have hl : e.to.length = 2 := by simpa using h
    rw [hl]
    by_cases k2 : e.op = 2
    · rw [if_pos k2]; split <;> omega
    rw [if_neg k2]
    by_cases k3 : e.op = 3
    · rw [if_pos k3]; split <;> omega
    rw [if_neg k3]
    by_cases k4 : e.op = 4
    · rw [if_pos k4]; split <;> omega
    rw [if_neg k4]
    by_cases k5 : e.op = 5
    · rw [if_pos k5]; split <;> omega
    · omega
  rw [if_neg c2] at h
  rw [if_pos (show e.op = 6 by omega)] at h
  have hl : 2 ≤ e.to.length ∧ e.to.length ≤ 65 := by simpa using h
  rw [if_neg (by omega), if_neg (by omega), if_neg (by omega), if_neg (by omega)]
  have := Int.emod_nonneg (getR R e.a) (show (4294967296 : Int) ≠ 0 by decide)
  split <;> omega

theorem goes_any (e : EndV) (R : List Int) (rb rc : Nat) (rest : List Value) (T : TypeId) (w : World) (hw : WAt w rb R rest T) (hl : R.length ≤ 1000) (hR : ∀ x ∈ R, In32 x) (ht : Ints w e.tov e.to) (h : fitsB e = true) (h7 : 1 ≤ e.op) (h8 : e.op ≤ 6) :
    Calls Try.prog 81 #[ev e, .slice (some ⟨rb, 0, none⟩) R.length rc] w (GoesQ (goes e R) w) := by
  obtain ⟨op, ea, eb, to, tov, imm⟩ := e
  obtain ⟨ta, tc, htv⟩ := nums_lenI ht
  dsimp only at htv h7 h8
  subst htv
  unfold ev
  unfold goes
  dsimp only
  by_cases c1 : op = 1
  · rw [if_pos c1]; exact goes_1 op ea eb to ta tc imm R rb rc rest T w hw hl hR c1
  rw [if_neg c1]
  by_cases c2 : op = 2
  · rw [if_pos c2]
    by_cases c : getR R ea = 0
    · rw [if_pos c]; exact goes_2y op ea eb to ta tc imm R rb rc rest T w hw hl hR c2 c
    · rw [if_neg c]; exact goes_2n op ea eb to ta tc imm R rb rc rest T w hw hl hR c2 c
  rw [if_neg c2]
  by_cases c3 : op = 3
  · rw [if_pos c3]
    by_cases c : getR R ea = getR R eb
    · rw [if_pos c]; exact goes_3y op ea eb to ta tc imm R rb rc rest T w hw hl hR c3 c
    · rw [if_neg c]; exact goes_3n op ea eb to ta tc imm R rb rc rest T w hw hl hR c3 c
  rw [if_neg c3]
  by_cases c4 : op = 4
  · rw [if_pos c4]
    by_cases c : getR R ea < getR R eb
    · rw [if_pos c]; exact goes_4y op ea eb to ta tc imm R rb rc rest T w hw hl hR c4 c
    · rw [if_neg c]; exact goes_4n op ea eb to ta tc imm R rb rc rest T w hw hl hR c4 c
  rw [if_neg c4]
  by_cases c5 : op = 5
  · rw [if_pos c5]
    by_cases c : getR R ea % 4294967296 < getR R eb % 4294967296
    · rw [if_pos c]; exact goes_5y op ea eb to ta tc imm R rb rc rest T w hw hl hR c5 c
    · rw [if_neg c]; exact goes_5n op ea eb to ta tc imm R rb rc rest T w hw hl hR c5 c
  rw [if_neg c5]
  have c6 : op = 6 := by omega
  have hll : 2 ≤ to.length ∧ to.length ≤ 65 := by
    unfold fitsB at h
    dsimp only at h
    rw [if_neg c1, if_neg (by omega), if_pos c6] at h
    simpa using h
  by_cases c : getR R ea % 4294967296 < (to.length : Int) - 1
  · rw [if_pos c]
    have hx := getR_32 hR ea
    unfold In32 at hx
    have h0 : 0 ≤ getR R ea := by omega
    have e : getR R ea % 4294967296 = getR R ea := by omega
    rw [e] at c ⊢
    exact goes_6y op ea eb to ta tc imm R rb rc rest T w hw hl hR c6 hll.1 hll.2 h0 c
  · rw [if_neg c]; exact goes_6n op ea eb to ta tc imm R rb rc rest T w hw hl hR c6 hll.1 hll.2 c
end Go.Proofs.Ytkpbmbhejpmboaa
