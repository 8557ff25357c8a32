/- order.strict, order.Depends. -/
import Derived.Test.YtkpbmbhejpmboaaCommon
namespace Go.Proofs.Ytkpbmbhejpmboaa
open Go.RowKit
set_option linter.unusedVariables false

def strictB (op : Int) : Bool := op == 24 || op == 25 || op == 28 || op == 26 || op == 27 || op == 17
def loadB (op : Int) : Bool := op == 24 || op == 25
def dependsB (m n : Mach) : Bool :=
  (strictB m.op && strictB n.op && !(loadB m.op && loadB n.op)) || meetB (changes m) (changes n) || meetB (changes m) (takes n) || meetB (changes n) (takes m)
def Two (p q : Bool) (w : World) (e : Ending) (w' : World) : Prop := e = .returned (.tuple #[.bool p, .bool q]) ∧ w = w'

set_option maxHeartbeats 1000000 in
set_option maxRecDepth 100000 in
theorem strict_any (op : Int) (w : World) : Calls Try.prog 87 #[.int .i64 op] w (Two (strictB op) (loadB op) w) := by
  by_cases g24 : op = 24
  · subst g24
    have e1 : strictB 24 = true := rfl
    have e2 : loadB 24 = true := rfl
    rw [e1, e2]; clear e1 e2
    go_enter Try.func87, Try.ntmps87
    go_wp2
    go_ret2
    exact ⟨rfl, rfl⟩
  by_cases g25 : op = 25
  · subst g25
    have e1 : strictB 25 = true := rfl
    have e2 : loadB 25 = true := rfl
    rw [e1, e2]; clear e1 e2
    go_enter Try.func87, Try.ntmps87
    go_wp2
    go_ret2
    exact ⟨rfl, rfl⟩
  by_cases g28 : op = 28
  · subst g28
    have e1 : strictB 28 = true := rfl
    have e2 : loadB 28 = false := rfl
    rw [e1, e2]; clear e1 e2
    go_enter Try.func87, Try.ntmps87
    go_wp2
    go_ret2
    exact ⟨rfl, rfl⟩
  by_cases g26 : op = 26
  · subst g26
    have e1 : strictB 26 = true := rfl
    have e2 : loadB 26 = false := rfl
    rw [e1, e2]; clear e1 e2
    go_enter Try.func87, Try.ntmps87
    go_wp2
    go_ret2
    exact ⟨rfl, rfl⟩
  by_cases g27 : op = 27
  · subst g27
    have e1 : strictB 27 = true := rfl
    have e2 : loadB 27 = false := rfl
    rw [e1, e2]; clear e1 e2
    go_enter Try.func87, Try.ntmps87
    go_wp2
    go_ret2
    exact ⟨rfl, rfl⟩
  by_cases g17 : op = 17
  · subst g17
    have e1 : strictB 17 = true := rfl
    have e2 : loadB 17 = false := rfl
    rw [e1, e2]; clear e1 e2
    go_enter Try.func87, Try.ntmps87
    go_wp2
    go_ret2
    exact ⟨rfl, rfl⟩
  have e1 : strictB op = false := by simp [strictB, g24, g25, g28, g26, g27, g17]
  have e2 : loadB op = false := by simp [loadB, g24, g25]
  have n24 : (op == 24) = false := by simpa using g24
  have n25 : (op == 25) = false := by simpa using g25
  have n28 : (op == 28) = false := by simpa using g28
  have n26 : (op == 26) = false := by simpa using g26
  have n27 : (op == 27) = false := by simpa using g27
  have n17 : (op == 17) = false := by simpa using g17
  rw [e1, e2]
  clear e1 e2 g24 g25 g28 g26 g27 g17
  go_enter Try.func87, Try.ntmps87
  go_wp2
  go_ret2
  exact ⟨rfl, rfl⟩

set_option maxHeartbeats 4000000 in
set_option maxRecDepth 100000 in
theorem depends_any (m n : Mach) (av bv : Value) (w : World) (h : Ints w av m.args) (h2 : Ints w bv n.args) (hf : Fine m) (hf2 : Fine n) :
    Calls Try.prog 58 #[mv m av, mv n bv] w (TellsS (dependsB m n) w) := by
  have H := Lib.hid h; clear h
  have H2 := Lib.hid h2; clear h2
  have HX := Lib.hid (fun w h => changes_any m av w h hf)
  have HY := Lib.hid (fun w h => changes_any n bv w h hf2)
  have HTX := Lib.hid (fun w h => takes_any m av w h hf)
  have HTY := Lib.hid (fun w h => takes_any n bv w h hf2)
  clear hf hf2
  have S1 := Lib.hid (fun w => strict_any m.op w)
  have S2 := Lib.hid (fun w => strict_any n.op w)
  unfold dependsB
  have hways : (strictB m.op = false) ∨ (strictB m.op = true ∧ strictB n.op = false) ∨ (strictB m.op = true ∧ strictB n.op = true ∧ loadB m.op = false) ∨ (strictB m.op = true ∧ strictB n.op = true ∧ loadB m.op = true ∧ loadB n.op = false) ∨ (strictB m.op = true ∧ strictB n.op = true ∧ loadB m.op = true ∧ loadB n.op = true) := by
    cases strictB m.op <;> cases strictB n.op <;> cases loadB m.op <;> cases loadB n.op <;> simp
  generalize strictB m.op = s1 at *
  generalize strictB n.op = s2 at *
  generalize loadB m.op = l1 at *
  generalize loadB n.op = l2 at *
  unfold mv at HX HY HTX HTY ⊢
  rcases hways with rfl | ⟨rfl, rfl⟩ | ⟨rfl, rfl, rfl⟩ | ⟨rfl, rfl, rfl, rfl⟩ | ⟨rfl, rfl, rfl, rfl⟩
  case' inr.inr.inl =>
    go_enter Try.func58, Try.ntmps58
    go_wp2_with fail
    refine (S1.out _).mono ?_
    rintro e w1 ⟨rfl, rfl⟩
    go_wp2_with fail
    refine (S2.out _).mono ?_
    rintro e w1 ⟨rfl, rfl⟩
    go_wp2
    go_ret
    exact ⟨rfl, ((Since.refl _).alloc _).alloc _⟩
  case' inr.inr.inr.inl =>
    go_enter Try.func58, Try.ntmps58
    go_wp2_with fail
    refine (S1.out _).mono ?_
    rintro e w1 ⟨rfl, rfl⟩
    go_wp2_with fail
    refine (S2.out _).mono ?_
    rintro e w1 ⟨rfl, rfl⟩
    go_wp2
    go_ret
    exact ⟨rfl, ((Since.refl _).alloc _).alloc _⟩
  all_goals
    simp only [Bool.false_and, Bool.and_false, Bool.and_true, Bool.not_true, Bool.false_or]
    go_enter Try.func58, Try.ntmps58
    go_wp2_with fail
    refine (S1.out _).mono ?_
    rintro e w1 ⟨rfl, rfl⟩
    go_wp2_with fail
    refine (S2.out _).mono ?_
    rintro e w1 ⟨rfl, rfl⟩
    go_wp2
    refine wp_region_list_facts rfl (by decide +kernel) (by decide +kernel)
      [Is (mv m av), IsNums .i64 (changes m), Is (mv n bv), IsNums .i64 (changes n), IsNums .i64 (changes m), IsNums .i64 (changes n)]
      ⟨Is.stable _, IsNums.stable _ _, Is.stable _, IsNums.stable _ _, IsNums.stable _ _, IsNums.stable _ _, trivial⟩ ⟨?_, ?_, ?_, ?_, ?_, ?_, trivial⟩ ?_
    all_goals
      intro vs w1 hs hk
      have hc1 : ∀ i, w1.cell? ⟨w.heap.size, i, none⟩ = _ := fun i => hs.cell (p := ⟨w.heap.size, i, none⟩) (by simp; omega)
      have hc2 : ∀ i, w1.cell? ⟨w.heap.size + 1, i, none⟩ = _ := fun i => hs.cell (p := ⟨w.heap.size + 1, i, none⟩) (by simp)
      simp only [putAll, Act.put, Knows, KnowsAll, nthF, Is, List.setIfInBounds_toArray, List.set_cons_zero, List.set_cons_succ, Nat.reduceAdd, List.length_cons, List.length_nil] at hk ⊢
      try simp only [hk]
    · go_wp2
      exact ⟨_, rfl, rfl, Since.refl _⟩
    · go_wp2_with fail
      refine (HX.out _ ((H.out.keep (((Since.refl _).alloc _).alloc _)).keep hs)).mono ?_
      rintro e w2 ⟨v, rfl, hv, hs2⟩
      go_wp2
      exact ⟨_, rfl, hv, hs2⟩
    · go_wp2
      exact ⟨_, rfl, rfl, Since.refl _⟩
    · go_wp2_with fail
      refine (HY.out _ ((H2.out.keep (((Since.refl _).alloc _).alloc _)).keep hs)).mono ?_
      rintro e w2 ⟨v, rfl, hv, hs2⟩
      go_wp2
      exact ⟨_, rfl, hv, hs2⟩
    · go_wp2
      exact ⟨_, rfl, hk.1, Since.refl _⟩
    · go_wp2
      exact ⟨_, rfl, hk.1, Since.refl _⟩
    · obtain ⟨_, _, _, _, hx, hy, _⟩ := hk
      obtain ⟨a1, c1, e1⟩ := nums_lenI hx
      obtain ⟨a2, c2, e2⟩ := nums_lenI hy
      rw [e1] at hx ⊢
      rw [e2] at hy ⊢
      have X := Lib.hid hx; clear hx
      have Y := Lib.hid hy; clear hy
      have S0 : Since w w1 := Since.trans (((Since.refl _).alloc _).alloc _) hs
      have CXY := Lib.hid (common_any _ _ _ _ _ X.out Y.out)
      have CX := Lib.hid (fun bv l w h hb => common_any (.slice a1 (changes m).length c1) bv (changes m) l w h hb)
      have CY := Lib.hid (fun bv l w h hb => common_any (.slice a2 (changes n).length c2) bv (changes n) l w h hb)
      obtain ⟨p1, h1⟩ : ∃ p, meetB (changes m) (changes n) = p := ⟨_, rfl⟩
      obtain ⟨p2, h2⟩ : ∃ p, meetB (changes m) (takes n) = p := ⟨_, rfl⟩
      obtain ⟨p3, h3⟩ : ∃ p, meetB (changes n) (takes m) = p := ⟨_, rfl⟩
      rw [h1] at CXY
      have P1 := Lib.hid h1
      have P2 := Lib.hid h2
      have P3 := Lib.hid h3
      clear h1 h2 h3 hc1 hc2
      cases p1 with
      | true =>
        go_wp2_with fail
        refine CXY.out.mono ?_
        rintro e w2 ⟨rfl, hs2⟩
        go_wp2
        go_ret
        exact ⟨by rw [P1.out]; rfl, S0.trans hs2⟩
      | false =>
        have hx : ∀ i, w1.cell? ⟨w.heap.size, i, none⟩ = _ := fun i => hs.cell (p := ⟨w.heap.size, i, none⟩) (by simp; omega)
        have hy : ∀ i, w1.cell? ⟨w.heap.size + 1, i, none⟩ = _ := fun i => hs.cell (p := ⟨w.heap.size + 1, i, none⟩) (by simp)
        have HX1 := Lib.hid hx
        have HY1 := Lib.hid hy
        clear hx hy
        go_wp2_with fail
        refine CXY.out.mono ?_
        rintro e w2 ⟨rfl, hs2⟩
        have hd : ∀ i, w2.cell? ⟨w.heap.size + 1, i, none⟩ = _ := fun i => (hs2.cell (p := ⟨w.heap.size + 1, i, none⟩) (Nat.lt_of_lt_of_le (by simp) hs.size)).trans (HY1.out i)
        go_wp2_with fail
        refine (HTY.out _ (((H2.out.keep (((Since.refl _).alloc _).alloc _)).keep hs).keep hs2)).mono ?_
        rintro e w3 ⟨v3, rfl, hv3, hs3⟩
        obtain ⟨a3, c3, e3⟩ := nums_lenI hv3
        rw [e3] at hv3 ⊢
        have V3 := Lib.hid hv3; clear hv3
        clear hd
        cases p2 with
        | true =>
          go_wp2_with fail
          refine (CX.out _ _ _ ((X.out.keep hs2).keep hs3) V3.out).mono ?_
          rw [P2.out]
          rintro e w4 ⟨rfl, hs4⟩
          go_wp2
          go_ret
          exact ⟨by rw [P1.out, P2.out]; rfl, ((S0.trans hs2).trans hs3).trans hs4⟩
        | false =>
          go_wp2_with fail
          refine (CX.out _ _ _ ((X.out.keep hs2).keep hs3) V3.out).mono ?_
          rw [P2.out]
          rintro e w4 ⟨rfl, hs4⟩
          have hs24 := (hs2.trans hs3).trans hs4
          have hd : ∀ i, w4.cell? ⟨w.heap.size, i, none⟩ = _ := fun i => (hs24.cell (p := ⟨w.heap.size, i, none⟩) (Nat.lt_of_lt_of_le (by simp; omega) hs.size)).trans (HX1.out i)
          go_wp2_with fail
          refine (HTX.out _ ((((H.out.keep (((Since.refl _).alloc _).alloc _)).keep hs).keep hs24))).mono ?_
          rintro e w5 ⟨v5, rfl, hv5, hs5⟩
          obtain ⟨a5, c5, e5⟩ := nums_lenI hv5
          rw [e5] at hv5 ⊢
          have V5 := Lib.hid hv5; clear hv5
          clear hd
          go_wp2_with fail
          refine (CY.out _ _ _ ((Y.out.keep hs24).keep hs5) V5.out).mono ?_
          rw [P3.out]
          rintro e w6 ⟨rfl, hs6⟩
          cases p3 <;> (go_wp2; go_ret; exact ⟨by rw [P1.out, P2.out, P3.out]; rfl, ((S0.trans hs24).trans hs5).trans hs6⟩)

end Go.Proofs.Ytkpbmbhejpmboaa
