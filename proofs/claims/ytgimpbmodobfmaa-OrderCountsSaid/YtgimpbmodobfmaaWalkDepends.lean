/- jacquardlaw17.OrderDepends walked. -/
import Derived.Test.YtgimpbmodobfmaaAwake
import Derived.Test.YtgimpbmodobfmaaOpen
import Derived.Test.YtgimpbmodobfmaaCut
namespace Go.Proofs.Ytgimpbmodobfmaa
open Go.RowKit
set_option linter.unusedVariables false

theorem cutM_fine (m : Mach) (h : -2147483648 ≤ m.imm ∧ m.imm ≤ 2147483647) : Fine (cutM m) := by
  refine ⟨h.1, h.2, ?_⟩
  unfold cutM
  have := List.length_take_le 5 m.args
  dsimp only; omega

set_option maxHeartbeats 4000000 in
set_option maxRecDepth 100000 in
theorem walk_depends (m n : Mach) (av bv : Value) (w : World) (h : Ints w av m.args) (h2 : Ints w bv n.args) (hw : Wf m) (hw2 : Wf n) :
    Calls Try.prog 3 #[mv m av, mv n bv] w (TellsS true w) := by
  have hcm := fun w h => cut_any m av w h
  have hcn := fun w h => cut_any n bv w h
  have hf := cutM_fine m (imm_bounds hw)
  have hf2 := cutM_fine n (imm_bounds hw2)
  clear hw hw2
  generalize cutM m = x at *
  generalize cutM n = y at *
  have H := Lib.hid h
  have H2 := Lib.hid h2
  have HCM := Lib.hid hcm
  have HCN := Lib.hid hcn
  have HF := Lib.hid hf
  have HF2 := Lib.hid hf2
  clear h h2 hcm hcn hf hf2
  unfold mv
  unfold mv at HCM HCN
  go_enter Try.func3, Try.ntmps3
  go_wp2_with fail
  refine (awake_any _).mono ?_
  rintro e w3 ⟨rfl, hs3⟩
  have hc2 : ∀ i, w3.cell? ⟨w.heap.size, i, none⟩ = _ := fun i => hs3.cell (p := ⟨w.heap.size, i, none⟩) (by simp <;> omega)
  go_wp2_with fail
  refine (HCM.out _ (H.out.keep ((((Since.refl _).alloc _).alloc _).trans hs3))).mono ?_
  rintro e w4 ⟨xv, rfl, hx, hs4⟩
  unfold mv
  clear hc2
  obtain ⟨xa, xc, rfl⟩ := nums_lenI hx
  have hS4 := hs3.trans hs4
  have hc3 : ∀ i, (w4.alloc (.cells #[.int .i64 x.op, .int .i64 x.d, .int .i64 x.e, .int .i64 x.a, .int .i64 x.b, .int .i64 x.c, .int .i32 x.imm, .slice xa x.args.length xc] 24)).cell? ⟨w.heap.size + 1, i, none⟩ = _ := fun i => (hS4.alloc _).cell (p := ⟨w.heap.size + 1, i, none⟩) (by simp)
  have X := Lib.hid hx; clear hx
  go_wp2_with fail
  refine (HCN.out _ (H2.out.keep (((((Since.refl _).alloc _).alloc _).trans hS4).alloc _))).mono ?_
  rintro e w5 ⟨yv, rfl, hy, hs5⟩
  unfold mv
  obtain ⟨ya, yc, rfl⟩ := nums_lenI hy
  have Y := Lib.hid hy; clear hy
  clear hc3
  have S5 := Lib.hid (((((Since.refl w).alloc (.cells #[.int .i64 m.op, .int .i64 m.d, .int .i64 m.e, .int .i64 m.a, .int .i64 m.b, .int .i64 m.c, .int .i32 m.imm, av] 24)).alloc (.cells #[.int .i64 n.op, .int .i64 n.d, .int .i64 n.e, .int .i64 n.a, .int .i64 n.b, .int .i64 n.c, .int .i32 n.imm, bv] 24)).trans hS4).alloc _ |>.trans hs5)
  have hcx : ∀ i, w5.cell? ⟨w4.heap.size, i, none⟩ = _ := fun i => hs5.cell (p := ⟨w4.heap.size, i, none⟩) (by simp)
  have h45 := hs5.size
  simp only [World.size_alloc] at h45
  have XX := Lib.hid ((X.out.keep ((Since.refl _).alloc _)).keep hs5)
  have hXY := fun w1 (hs : Since w5 w1) => depends_any x y (.slice xa x.args.length xc) (.slice ya y.args.length yc) w1 (XX.out.keep hs) (Y.out.keep hs) HF.out HF2.out
  have hYX := fun w1 (hs : Since w5 w1) => depends_any y x (.slice ya y.args.length yc) (.slice xa x.args.length xc) w1 (Y.out.keep hs) (XX.out.keep hs) HF2.out HF.out
  have hRXY := fun w1 (hs : Since w5 w1) => rdepends_any x y (.slice xa x.args.length xc) (.slice ya y.args.length yc) w1 (XX.out.keep hs) (Y.out.keep hs) HF.out HF2.out
  rw [← depends_eq] at hRXY
  rw [← depends_comm] at hYX
  generalize dependsB x y = D at *
  have hDD : (D == D) = true := beq_self_eq_true D
  unfold mv at hXY hYX hRXY
  have HXY := Lib.hid hXY
  have HYX := Lib.hid hYX
  have HRXY := Lib.hid hRXY
  clear hXY hYX hRXY hs3 hs4 hs5 hS4
  go_wp2
  refine wp_region_list_facts rfl (by decide +kernel) (by decide +kernel)
    [Is (.bool true), Is (.bool true), Is (mv x (.slice xa x.args.length xc)), Is (mv y (.slice ya y.args.length yc)), Is (.bool D), Is (mv x (.slice xa x.args.length xc)), Is (mv y (.slice ya y.args.length yc)), Is (.bool D), Is (.bool true), Is (.bool true), Is (.bool true), Is (mv y (.slice ya y.args.length yc)), Is (mv x (.slice xa x.args.length xc)), Is (.bool D), Is (mv x (.slice xa x.args.length xc)), Is (mv y (.slice ya y.args.length yc)), Is (.bool D), Is (.bool true), Is (.bool true), Is (.bool true)]
    (by repeat (first | exact trivial | refine ⟨Is.stable _, ?_⟩)) ⟨?_, ?_, ?_, ?_, ?_, ?_, ?_, ?_, ?_, ?_, ?_, ?_, ?_, ?_, ?_, ?_, ?_, ?_, ?_, ?_, trivial⟩ ?_
  all_goals
    intro vs w1 hs hk
    have hcy : ∀ i, w1.cell? ⟨w5.heap.size, i, none⟩ = _ := fun i => hs.cell (p := ⟨w5.heap.size, i, none⟩) (by simp)
    have hcx1 : ∀ i, w1.cell? ⟨w4.heap.size, i, none⟩ = _ := fun i => ((((Since.refl w5).alloc _).trans hs).cell (p := ⟨w4.heap.size, i, none⟩) (Nat.lt_of_lt_of_le (Nat.lt_succ_self _) h45)).trans (hcx i)
    have HS := Lib.hid (Since.trans ((Since.refl w5).alloc _) hs)
    clear hs
    simp only [putAll, Act.put, Knows, KnowsAll, nthF, Is, List.setIfInBounds_toArray, List.set_cons_zero, List.set_cons_succ, Nat.reduceAdd, List.length_cons, List.length_nil, mv] at hk ⊢
    try simp only [hk]
    clear hk hcx
  · go_wp2
    exact ⟨_, rfl, rfl, Since.refl _⟩
  · go_wp2
    exact ⟨_, rfl, rfl, Since.refl _⟩
  · go_wp2
    exact ⟨_, rfl, rfl, Since.refl _⟩
  · go_wp2
    exact ⟨_, rfl, rfl, Since.refl _⟩
  · go_wp2_with fail
    refine (HXY.out w1 HS.out).mono ?_
    rintro e w2 ⟨rfl, hs2⟩
    go_wp2
    exact ⟨_, rfl, rfl, hs2⟩
  · go_wp2
    exact ⟨_, rfl, rfl, Since.refl _⟩
  · go_wp2
    exact ⟨_, rfl, rfl, Since.refl _⟩
  · go_wp2_with fail
    refine (HRXY.out w1 HS.out).mono ?_
    rintro e w2 ⟨rfl, hs2⟩
    go_wp2
    exact ⟨_, rfl, rfl, hs2⟩
  · go_wp2
    exact ⟨_, rfl, rfl, Since.refl _⟩
  · go_wp2
    exact ⟨_, rfl, rfl, Since.refl _⟩
  · go_wp2
    exact ⟨_, rfl, rfl, Since.refl _⟩
  · go_wp2
    exact ⟨_, rfl, rfl, Since.refl _⟩
  · go_wp2
    exact ⟨_, rfl, rfl, Since.refl _⟩
  · go_wp2_with fail
    refine (HYX.out w1 HS.out).mono ?_
    rintro e w2 ⟨rfl, hs2⟩
    go_wp2
    exact ⟨_, rfl, rfl, hs2⟩
  · go_wp2
    exact ⟨_, rfl, rfl, Since.refl _⟩
  · go_wp2
    exact ⟨_, rfl, rfl, Since.refl _⟩
  · go_wp2_with fail
    refine (HXY.out w1 HS.out).mono ?_
    rintro e w2 ⟨rfl, hs2⟩
    go_wp2
    exact ⟨_, rfl, rfl, hs2⟩
  · go_wp2
    exact ⟨_, rfl, rfl, Since.refl _⟩
  · go_wp2
    exact ⟨_, rfl, rfl, Since.refl _⟩
  · go_wp2
    exact ⟨_, rfl, rfl, Since.refl _⟩
  · go_wp2
    go_ret
    exact ⟨rfl, S5.out.trans HS.out⟩

/-- The law, of whatever two values came in. -/
theorem law_depends {H : Type} {enc : TypeId × Value → H} {W : World} {base : Nat} {held : Bool} {r r2 : Reach} {b0 b2 : Nat} {d d2 : DataW H} {p p2 : List MemPlace} (v0 v1 : Value)
    (k0 : Value.okWide Try.prog W r b0 24 v0) (h0 : DataW.Trod enc Try.prog W base (fun _ => true) held 24 v0 d p)
    (k1 : Value.okWide Try.prog W r2 b2 24 v1) (h1 : DataW.Trod enc Try.prog W base (fun _ => true) held 24 v1 d2 p2) :
    Calls Try.prog 3 #[v0, v1] W (TellsS true W) := by
  obtain ⟨m, av, rfl, hm, wm⟩ := mach_open k0 h0
  obtain ⟨n, bv, rfl, hn, wn⟩ := mach_open k1 h1
  exact walk_depends m n av bv W hm hn wm wn
end Go.Proofs.Ytgimpbmodobfmaa
