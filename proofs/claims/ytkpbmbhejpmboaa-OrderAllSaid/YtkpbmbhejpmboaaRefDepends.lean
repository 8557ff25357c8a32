/- The reference's Depends. -/
import Derived.Test.YtkpbmbhejpmboaaMeet
import Derived.Test.YtkpbmbhejpmboaaRegion2
namespace Go.Proofs.Ytkpbmbhejpmboaa
open Go.RowKit
set_option linter.unusedVariables false

/-- A row of the call's own, made since W0. -/
def IsRow (W0 : World) (l : List Int) (v : Value) (w : World) : Prop := w.ownsRow W0.heap.size 3 1 v l.length (l.map (Value.int .i64))
theorem IsRow.stable (W0 : World) (l : List Int) : Stable (IsRow W0 l) := by
  rintro v w w' ⟨h1, h2⟩ hs
  refine ⟨h1, h2.imp id ?_⟩
  rintro ⟨g, cap, cur, e1, e2, e3, e4⟩
  exact ⟨g, cap, cur, e1, e2, (hs.block g (Array.getElem?_eq_some_iff.1 e3).1).trans e3, e4⟩

abbrev box (m : Mach) (av : Value) : Obj := .cells #[.int .i64 m.op, .int .i64 m.d, .int .i64 m.e, .int .i64 m.a, .int .i64 m.b, .int .i64 m.c, .int .i32 m.imm, av] 46
abbrev boxes (w : World) (m n : Mach) (av bv : Value) : World := (w.alloc (box m av)).alloc (box n bv)

def rdependsB (m n : Mach) : Bool :=
  meetB (changes m) (changes n ++ takes n) || meetB (changes n) (takes m) || (strictB m.op && strictB n.op) && !(loadB m.op && loadB n.op)

set_option maxHeartbeats 4000000 in
set_option maxRecDepth 100000 in
theorem rdepends_any (m n : Mach) (av bv : Value) (w : World) (h : Ints w av m.args) (h2 : Ints w bv n.args) (hf : Fine m) (hf2 : Fine n) :
    Calls Try.prog 32 #[mv m av, mv n bv] w (TellsS (rdependsB m n) w) := by
  have hl1 := makes_len m
  have hl2 := spoils_len m
  have hl3 := makes_len n
  have hl4 := spoils_len n
  have hl5 := takes_len n hf2.2.2
  have hl6 := changes_len n
  have H := Lib.hid h; clear h
  have H2 := Lib.hid h2; clear h2
  have HM := Lib.hid (fun w h => rmakes_any m av w h hf)
  have HS := Lib.hid (fun w => rspoils_any m av w)
  have HM2 := Lib.hid (fun w h => rmakes_any n bv w h hf2)
  have HS2 := Lib.hid (fun w => rspoils_any n bv w)
  have HTX := Lib.hid (fun w h => rtakes_any m av w h hf)
  have HTY := Lib.hid (fun w h => rtakes_any n bv w h hf2)
  clear hf hf2
  unfold mv at HM HS HM2 HS2 HTX HTY ⊢
  go_enter Try.func32, Try.ntmps32
  go_wp2
  refine wp_region_windows [false, true, false, false, true, false, false, false] [false, false, false, true, false, false, true, false] [false, false, false, false, false, false, false, true]
    rfl (by decide +kernel) (by decide +kernel) (by decide +kernel) rfl
    [IsRow (boxes w m n av bv) [], Is (mv m av), IsNums .i64 (makes m), IsRow (boxes w m n av bv) ([] ++ makes m), Is (mv m av), IsNums .i64 (spoils m), IsRow (boxes w m n av bv) ([] ++ makes m ++ spoils m), IsRow (boxes w m n av bv) ([] ++ makes m ++ spoils m)]
    ⟨IsRow.stable _ _, Is.stable _, IsNums.stable _ _, IsRow.stable _ _, Is.stable _, IsNums.stable _ _, IsRow.stable _ _, IsRow.stable _ _, trivial⟩ ⟨Is.fixed _, Is.fixed _, trivial⟩ (by simp) ⟨?_, ?_, ?_, ?_, ?_, ?_, ?_, ?_, trivial⟩ ?_
  all_goals
    intro vs w1 hs hk
    have hc1 : ∀ i, w1.cell? ⟨w.heap.size, i, none⟩ = _ := fun i => hs.cell (p := ⟨w.heap.size, i, none⟩) (by simp; omega)
    have hc2 : ∀ i, w1.cell? ⟨w.heap.size + 1, i, none⟩ = _ := fun i => hs.cell (p := ⟨w.heap.size + 1, i, none⟩) (by simp)
    simp only [putAll, Act.put, KnowsD, KnowsFin, nthF, Is, List.setIfInBounds_toArray, List.set_cons_zero, List.set_cons_succ, Nat.reduceAdd] at hk ⊢
    try simp only [hk]
  · go_wp2
    exact ⟨_, rfl, own_empty rfl hs.size _ _, (Since.refl _).alloc _⟩
  · go_wp2
    exact ⟨_, rfl, rfl, Since.refl _⟩
  · go_wp2_with fail
    refine (HM.out _ ((H.out.keep (((Since.refl _).alloc _).alloc _)).keep hs)).mono ?_
    rintro e w2 ⟨v, rfl, hv, hs2⟩
    go_wp2
    exact ⟨_, rfl, hv, hs2⟩
  · have K := Lib.hid hk; clear hk
    go_wp2_with (at_builtin; refine wpList_append_nums (w0 := boxes w m n av bv) .i64 rfl _ _ 25 rfl 3 (.int .i64 0) 8 Try.underlying25 Try.info3 rfl (by decide) _ _ [] (makes m) rfl rfl K.out.1 K.out.2.1 (by simp; omega) hs ?_; intro v' w' hown hs2)
    exact ⟨_, rfl, hown, hs2⟩
  · go_wp2
    exact ⟨_, rfl, rfl, Since.refl _⟩
  · go_wp2_with fail
    refine (HS.out _).mono ?_
    rintro e w2 ⟨v, rfl, hv, hs2⟩
    go_wp2
    exact ⟨_, rfl, hv, hs2⟩
  · have K := Lib.hid hk; clear hk
    go_wp2_with (at_builtin; refine wpList_append_nums (w0 := boxes w m n av bv) .i64 rfl _ _ 25 rfl 3 (.int .i64 0) 8 Try.underlying25 Try.info3 rfl (by decide) _ _ ([] ++ makes m) (spoils m) rfl rfl K.out.1 K.out.2.1 (by simp; omega) hs ?_; intro v' w' hown hs2)
    exact ⟨_, rfl, hown, hs2⟩
  · go_wp2
    exact ⟨_, rfl, hk.1, Since.refl _⟩
  · have hx : Nums .i64 w1 (vs 7) (changes m) := nums_of_own (l := changes m) hk.1
    clear hk
    obtain ⟨a1, c1, e1⟩ := nums_lenI hx
    rw [e1] at hx ⊢
    have X := Lib.hid hx; clear hx
    have C1 := Lib.hid hc1; clear hc1
    have C2 := Lib.hid hc2; clear hc2
    have S0 := Lib.hid hs; clear hs
    go_wp2
    refine wp_region_windows [false, true, false, false, true, false, false, false] [false, false, false, true, false, false, true, false] [false, false, false, false, false, false, false, true]
      rfl (by decide +kernel) (by decide +kernel) (by decide +kernel) rfl
      [IsRow w1 [], Is (mv n bv), IsNums .i64 (makes n), IsRow w1 ([] ++ makes n), Is (mv n bv), IsNums .i64 (spoils n), IsRow w1 ([] ++ makes n ++ spoils n), IsRow w1 ([] ++ makes n ++ spoils n)]
      ⟨IsRow.stable _ _, Is.stable _, IsNums.stable _ _, IsRow.stable _ _, Is.stable _, IsNums.stable _ _, IsRow.stable _ _, IsRow.stable _ _, trivial⟩ ⟨Is.fixed _, Is.fixed _, trivial⟩ (by simp) ⟨?_, ?_, ?_, ?_, ?_, ?_, ?_, ?_, trivial⟩ ?_
    all_goals
      intro us w2 hs hk
      have hd1 : ∀ i, w2.cell? ⟨w.heap.size, i, none⟩ = _ := fun i => (hs.cell (p := ⟨w.heap.size, i, none⟩) (Nat.lt_of_lt_of_le (by simp; omega) S0.out.size)).trans (C1.out i)
      have hd2 : ∀ i, w2.cell? ⟨w.heap.size + 1, i, none⟩ = _ := fun i => (hs.cell (p := ⟨w.heap.size + 1, i, none⟩) (Nat.lt_of_lt_of_le (by simp) S0.out.size)).trans (C2.out i)
      simp only [putAll, Act.put, KnowsD, KnowsFin, nthF, Is, List.setIfInBounds_toArray, List.set_cons_zero, List.set_cons_succ, Nat.reduceAdd] at hk ⊢
      try simp only [hk]
    · go_wp2
      exact ⟨_, rfl, own_empty rfl hs.size _ _, (Since.refl _).alloc _⟩
    · go_wp2
      exact ⟨_, rfl, rfl, Since.refl _⟩
    · go_wp2_with fail
      refine (HM2.out _ (((H2.out.keep (((Since.refl _).alloc _).alloc _)).keep S0.out).keep hs)).mono ?_
      rintro e w9 ⟨v, rfl, hv, hs9⟩
      go_wp2
      exact ⟨_, rfl, hv, hs9⟩
    · have K := Lib.hid hk; clear hk
      go_wp2_with (at_builtin; refine wpList_append_nums (w0 := w1) .i64 rfl _ _ 25 rfl 3 (.int .i64 0) 8 Try.underlying25 Try.info3 rfl (by decide) _ _ [] (makes n) rfl rfl K.out.1 K.out.2.1 (by simp; omega) hs ?_; intro v' w' hown hs9)
      exact ⟨_, rfl, hown, hs9⟩
    · go_wp2
      exact ⟨_, rfl, rfl, Since.refl _⟩
    · go_wp2_with fail
      refine (HS2.out _).mono ?_
      rintro e w9 ⟨v, rfl, hv, hs9⟩
      go_wp2
      exact ⟨_, rfl, hv, hs9⟩
    · have K := Lib.hid hk; clear hk
      go_wp2_with (at_builtin; refine wpList_append_nums (w0 := w1) .i64 rfl _ _ 25 rfl 3 (.int .i64 0) 8 Try.underlying25 Try.info3 rfl (by decide) _ _ ([] ++ makes n) (spoils n) rfl rfl K.out.1 K.out.2.1 (by simp; omega) hs ?_; intro v' w' hown hs9)
      exact ⟨_, rfl, hown, hs9⟩
    · go_wp2
      exact ⟨_, rfl, hk.1, Since.refl _⟩
    · have hy : Nums .i64 w2 (us 7) (changes n) := nums_of_own (l := changes n) hk.1
      clear hk
      obtain ⟨a2, c2, e2⟩ := nums_lenI hy
      rw [e2] at hy ⊢
      have Y := Lib.hid hy; clear hy
      have D1 := Lib.hid hd1; clear hd1
      have D2 := Lib.hid hd2; clear hd2
      have S1 := Lib.hid hs; clear hs
      go_wp2
      refine wp_region_windows [true, false, true, false, true, false, false, true, true] [false, false, false, true, false, false, true, false, false] [false, false, false, false, false, false, false, false, true]
        rfl (by decide +kernel) (by decide +kernel) (by decide +kernel) rfl
        [Is (.slice a1 (changes m).length c1), IsRow w2 [], Is (.slice a2 (changes n).length c2), IsRow w2 ([] ++ changes n), Is (mv n bv), IsNums .i64 (takes n), IsRow w2 ([] ++ changes n ++ takes n), Is (.bool (meetB (changes m) (changes n ++ takes n))), Is (.bool (meetB (changes m) (changes n ++ takes n)))]
        ⟨Is.stable _, IsRow.stable _ _, Is.stable _, IsRow.stable _ _, Is.stable _, IsNums.stable _ _, IsRow.stable _ _, Is.stable _, Is.stable _, trivial⟩ ⟨Is.fixed _, Is.fixed _, Is.fixed _, Is.fixed _, Is.fixed _, trivial⟩ (by simp) ⟨?_, ?_, ?_, ?_, ?_, ?_, ?_, ?_, ?_, trivial⟩ ?_
      all_goals
        intro xs w3 hs hk
        have hf1 : ∀ i, w3.cell? ⟨w.heap.size, i, none⟩ = _ := fun i => (hs.cell (p := ⟨w.heap.size, i, none⟩) (Nat.lt_of_lt_of_le (by simp; omega) (Nat.le_trans S0.out.size S1.out.size))).trans (D1.out i)
        have hf2 : ∀ i, w3.cell? ⟨w.heap.size + 1, i, none⟩ = _ := fun i => (hs.cell (p := ⟨w.heap.size + 1, i, none⟩) (Nat.lt_of_lt_of_le (by simp) (Nat.le_trans S0.out.size S1.out.size))).trans (D2.out i)
        simp only [putAll, Act.put, KnowsD, KnowsFin, nthF, Is, List.setIfInBounds_toArray, List.set_cons_zero, List.set_cons_succ, Nat.reduceAdd] at hk ⊢
        try simp only [hk]
      · go_wp2
        exact ⟨_, rfl, rfl, Since.refl _⟩
      · go_wp2
        exact ⟨_, rfl, own_empty rfl hs.size _ _, (Since.refl _).alloc _⟩
      · go_wp2
        exact ⟨_, rfl, rfl, Since.refl _⟩
      · have K := Lib.hid hk; clear hk
        have HY := Lib.hid (Y.out.keep hs)
        go_wp2_with (at_builtin; refine wpList_append_nums (w0 := w2) .i64 rfl _ _ 25 rfl 3 (.int .i64 0) 8 Try.underlying25 Try.info3 rfl (by decide) _ _ [] (changes n) rfl rfl K.out.1 HY.out (by simp; omega) hs ?_; intro v' w' hown hs9)
        exact ⟨_, rfl, hown, hs9⟩
      · go_wp2
        exact ⟨_, rfl, rfl, Since.refl _⟩
      · go_wp2_with fail
        refine (HTY.out _ ((((H2.out.keep (((Since.refl _).alloc _).alloc _)).keep S0.out).keep S1.out).keep hs)).mono ?_
        rintro e w9 ⟨v, rfl, hv, hs9⟩
        go_wp2
        exact ⟨_, rfl, hv, hs9⟩
      · have K := Lib.hid hk; clear hk
        go_wp2_with (at_builtin; refine wpList_append_nums (w0 := w2) .i64 rfl _ _ 25 rfl 3 (.int .i64 0) 8 Try.underlying25 Try.info3 rfl (by decide) _ _ ([] ++ changes n) (takes n) rfl rfl K.out.1 K.out.2.1 (by simp; omega) hs ?_; intro v' w' hown hs9)
        exact ⟨_, rfl, hown, hs9⟩
      · have hz : Nums .i64 w3 (xs 6) (changes n ++ takes n) := nums_of_own (l := changes n ++ takes n) hk.2.1
        have Z := Lib.hid hz; clear hz
        clear hk
        go_wp2_with fail
        refine (meet_any _ _ _ _ _ ((X.out.keep S1.out).keep hs) Z.out).mono ?_
        rintro e w9 ⟨rfl, hs9⟩
        go_wp2
        exact ⟨_, rfl, rfl, hs9⟩
      · go_wp2
        exact ⟨_, rfl, rfl, Since.refl _⟩
      · have S2 := Lib.hid hs; clear hs
        have F1 := Lib.hid hf1
        have F2 := Lib.hid hf2; clear hf2
        go_wp2_with fail
        refine (HTX.out _ ((((H.out.keep (((Since.refl _).alloc _).alloc _)).keep S0.out).keep S1.out).keep S2.out)).mono ?_
        rintro e w4 ⟨v4, rfl, hv4, hs4⟩
        obtain ⟨a4, c4, e4⟩ := nums_lenI hv4
        rw [e4] at hv4 ⊢
        have V4 := Lib.hid hv4; clear hv4
        clear hf1
        go_wp2_with fail
        refine (meet_any _ _ _ _ _ ((Y.out.keep S2.out).keep hs4) V4.out).mono ?_
        rintro e w5 ⟨rfl, hs5⟩
        have hs35 := hs4.trans hs5
        have hg1 : ∀ i, w5.cell? ⟨w.heap.size, i, none⟩ = _ := fun i => (hs35.cell (p := ⟨w.heap.size, i, none⟩) (Nat.lt_of_lt_of_le (by simp; omega) (Nat.le_trans S0.out.size (Nat.le_trans S1.out.size S2.out.size)))).trans (F1.out i)
        have hg2 : ∀ i, w5.cell? ⟨w.heap.size + 1, i, none⟩ = _ := fun i => (hs35.cell (p := ⟨w.heap.size + 1, i, none⟩) (Nat.lt_of_lt_of_le (by simp) (Nat.le_trans S0.out.size (Nat.le_trans S1.out.size S2.out.size)))).trans (F2.out i)
        have hend : Since w w5 := (((Since.trans (((Since.refl _).alloc _).alloc _) S0.out).trans S1.out).trans S2.out).trans hs35
        have HE := Lib.hid hend; clear hend
        clear hs4 hs5 hs35
        have hpost : rdependsB m n = (meetB (changes m) (changes n ++ takes n) || meetB (changes n) (takes m) || (strictB m.op && strictB n.op) && !(loadB m.op && loadB n.op)) := rfl
        have hw1 : (strictB m.op = false) ∨ (strictB m.op = true ∧ strictB n.op = false) ∨ (strictB m.op = true ∧ strictB n.op = true) := by cases strictB m.op <;> cases strictB n.op <;> simp
        have hw2 : (loadB m.op = false) ∨ (loadB m.op = true ∧ loadB n.op = false) ∨ (loadB m.op = true ∧ loadB n.op = true) := by cases loadB m.op <;> cases loadB n.op <;> simp
        obtain ⟨p1, h1⟩ : ∃ p, meetB (changes m) (changes n ++ takes n) = p := ⟨_, rfl⟩
        obtain ⟨p2, h2⟩ : ∃ p, meetB (changes n) (takes m) = p := ⟨_, rfl⟩
        rw [h1, h2] at hpost
        have HP := Lib.hid hpost; clear hpost
        rw [h1, h2]
        clear h1 h2
        cases p1 <;> cases p2 <;> rcases hw1 with q1 | ⟨q1, q2⟩ | ⟨q1, q2⟩ <;> rcases hw2 with r1 | ⟨r1, r2⟩ | ⟨r1, r2⟩
        all_goals
          go_wp2_with (first | (go_at_call 66; refine (effect_any _ _).mono ?_; rintro e w6 ⟨rfl, rfl⟩) | (go_at_call 67; refine (load_any _ _).mono ?_; rintro e w6 ⟨rfl, rfl⟩))
          go_ret
          refine ⟨?_, HE.out⟩
          rw [HP.out]
          simp [*]
end Go.Proofs.Ytkpbmbhejpmboaa
