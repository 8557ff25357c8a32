/- order.same, order.sameEnd; jacquardref17.SameMach, SameEnd. -/
import Derived.Test.YtkpbmbhejpmboaaNumsEq
import Derived.RegionTactic
import Derived.ChangeAlike
namespace Go.Proofs.Ytkpbmbhejpmboaa
open Go.RowKit
set_option linter.unusedVariables false

def plv (x : PlV) : Value := .agg #[.int .i64 x.m.op, .int .i64 x.m.d, .int .i64 x.m.e, .int .i64 x.m.a, .int .i64 x.m.b, .int .i64 x.m.c, .int .i32 x.m.imm, x.av, .int .i64 x.src]
def endv (e : EndV) : Value := .agg #[.int .i64 e.op, .int .i64 e.a, .int .i64 e.b, e.tov, .int .i32 e.imm]
def sameM (x y : Mach) : Bool := x.op == y.op && (x.d == y.d && (x.e == y.e && (x.a == y.a && (x.b == y.b && (x.c == y.c && (x.imm == y.imm && numsB x.args y.args))))))
def sameB (x y : PlV) : Bool := x.src == y.src && sameM x.m y.m
def sameEndB (x y : EndV) : Bool := x.op == y.op && (x.a == y.a && (x.b == y.b && (x.imm == y.imm && numsB x.to y.to)))

set_option maxHeartbeats 2000000 in
set_option maxRecDepth 100000 in
theorem same_0 (x y : PlV) (w : World) (hx : Ints w x.av x.m.args) (hy : Ints w y.av y.m.args) (h0 : (x.src == y.src) = false) : Calls Try.prog 130 #[plv x, plv y] w (TellsS false w) := by
  obtain ⟨⟨o1, d1, e1, a1, b1, c1, i1, l1⟩, v1, s1⟩ := x
  obtain ⟨⟨o2, d2, e2, a2, b2, c2, i2, l2⟩, v2, s2⟩ := y
  obtain ⟨q1, k1, hv1⟩ := nums_lenI hx
  obtain ⟨q2, k2, hv2⟩ := nums_lenI hy
  dsimp only at hv1 hv2 h0
  subst hv1
  subst hv2
  have HX := Lib.hid hx
  have HY := Lib.hid hy
  clear hx hy
  unfold plv
  dsimp only
  go_enter Try.func130, Try.ntmps130
  go_wp2_with fail
  go_region
  all_goals go_wp2
  all_goals go_ret
  all_goals exact ⟨rfl, (((((Since.refl _).alloc _).alloc _).alloc _).alloc _).drew⟩

set_option maxHeartbeats 2000000 in
set_option maxRecDepth 100000 in
theorem same_1 (x y : PlV) (w : World) (hx : Ints w x.av x.m.args) (hy : Ints w y.av y.m.args) (h0 : (x.src == y.src) = true) (h1 : (x.m.op == y.m.op) = false) : Calls Try.prog 130 #[plv x, plv y] w (TellsS false w) := by
  obtain ⟨⟨o1, d1, e1, a1, b1, c1, i1, l1⟩, v1, s1⟩ := x
  obtain ⟨⟨o2, d2, e2, a2, b2, c2, i2, l2⟩, v2, s2⟩ := y
  obtain ⟨q1, k1, hv1⟩ := nums_lenI hx
  obtain ⟨q2, k2, hv2⟩ := nums_lenI hy
  dsimp only at hv1 hv2 h0 h1
  subst hv1
  subst hv2
  have HX := Lib.hid hx
  have HY := Lib.hid hy
  clear hx hy
  unfold plv
  dsimp only
  go_enter Try.func130, Try.ntmps130
  go_wp2_with fail
  go_region
  all_goals go_wp2
  all_goals go_ret
  all_goals exact ⟨rfl, (((((Since.refl _).alloc _).alloc _).alloc _).alloc _).drew⟩

set_option maxHeartbeats 2000000 in
set_option maxRecDepth 100000 in
theorem same_2 (x y : PlV) (w : World) (hx : Ints w x.av x.m.args) (hy : Ints w y.av y.m.args) (h0 : (x.src == y.src) = true) (h1 : (x.m.op == y.m.op) = true) (h2 : (x.m.d == y.m.d) = false) : Calls Try.prog 130 #[plv x, plv y] w (TellsS false w) := by
  obtain ⟨⟨o1, d1, e1, a1, b1, c1, i1, l1⟩, v1, s1⟩ := x
  obtain ⟨⟨o2, d2, e2, a2, b2, c2, i2, l2⟩, v2, s2⟩ := y
  obtain ⟨q1, k1, hv1⟩ := nums_lenI hx
  obtain ⟨q2, k2, hv2⟩ := nums_lenI hy
  dsimp only at hv1 hv2 h0 h1 h2
  subst hv1
  subst hv2
  have HX := Lib.hid hx
  have HY := Lib.hid hy
  clear hx hy
  unfold plv
  dsimp only
  go_enter Try.func130, Try.ntmps130
  go_wp2_with fail
  go_region
  all_goals go_wp2
  all_goals go_ret
  all_goals exact ⟨rfl, (((((Since.refl _).alloc _).alloc _).alloc _).alloc _).drew⟩

set_option maxHeartbeats 2000000 in
set_option maxRecDepth 100000 in
theorem same_3 (x y : PlV) (w : World) (hx : Ints w x.av x.m.args) (hy : Ints w y.av y.m.args) (h0 : (x.src == y.src) = true) (h1 : (x.m.op == y.m.op) = true) (h2 : (x.m.d == y.m.d) = true) (h3 : (x.m.e == y.m.e) = false) : Calls Try.prog 130 #[plv x, plv y] w (TellsS false w) := by
  obtain ⟨⟨o1, d1, e1, a1, b1, c1, i1, l1⟩, v1, s1⟩ := x
  obtain ⟨⟨o2, d2, e2, a2, b2, c2, i2, l2⟩, v2, s2⟩ := y
  obtain ⟨q1, k1, hv1⟩ := nums_lenI hx
  obtain ⟨q2, k2, hv2⟩ := nums_lenI hy
  dsimp only at hv1 hv2 h0 h1 h2 h3
  subst hv1
  subst hv2
  have HX := Lib.hid hx
  have HY := Lib.hid hy
  clear hx hy
  unfold plv
  dsimp only
  go_enter Try.func130, Try.ntmps130
  go_wp2_with fail
  go_region
  all_goals go_wp2
  all_goals go_ret
  all_goals exact ⟨rfl, (((((Since.refl _).alloc _).alloc _).alloc _).alloc _).drew⟩

set_option maxHeartbeats 2000000 in
set_option maxRecDepth 100000 in
theorem same_4 (x y : PlV) (w : World) (hx : Ints w x.av x.m.args) (hy : Ints w y.av y.m.args) (h0 : (x.src == y.src) = true) (h1 : (x.m.op == y.m.op) = true) (h2 : (x.m.d == y.m.d) = true) (h3 : (x.m.e == y.m.e) = true) (h4 : (x.m.a == y.m.a) = false) : Calls Try.prog 130 #[plv x, plv y] w (TellsS false w) := by
  obtain ⟨⟨o1, d1, e1, a1, b1, c1, i1, l1⟩, v1, s1⟩ := x
  obtain ⟨⟨o2, d2, e2, a2, b2, c2, i2, l2⟩, v2, s2⟩ := y
  obtain ⟨q1, k1, hv1⟩ := nums_lenI hx
  obtain ⟨q2, k2, hv2⟩ := nums_lenI hy
  dsimp only at hv1 hv2 h0 h1 h2 h3 h4
  subst hv1
  subst hv2
  have HX := Lib.hid hx
  have HY := Lib.hid hy
  clear hx hy
  unfold plv
  dsimp only
  go_enter Try.func130, Try.ntmps130
  go_wp2_with fail
  go_region
  all_goals go_wp2
  all_goals go_ret
  all_goals exact ⟨rfl, (((((Since.refl _).alloc _).alloc _).alloc _).alloc _).drew⟩

set_option maxHeartbeats 2000000 in
set_option maxRecDepth 100000 in
theorem same_5 (x y : PlV) (w : World) (hx : Ints w x.av x.m.args) (hy : Ints w y.av y.m.args) (h0 : (x.src == y.src) = true) (h1 : (x.m.op == y.m.op) = true) (h2 : (x.m.d == y.m.d) = true) (h3 : (x.m.e == y.m.e) = true) (h4 : (x.m.a == y.m.a) = true) (h5 : (x.m.b == y.m.b) = false) : Calls Try.prog 130 #[plv x, plv y] w (TellsS false w) := by
  obtain ⟨⟨o1, d1, e1, a1, b1, c1, i1, l1⟩, v1, s1⟩ := x
  obtain ⟨⟨o2, d2, e2, a2, b2, c2, i2, l2⟩, v2, s2⟩ := y
  obtain ⟨q1, k1, hv1⟩ := nums_lenI hx
  obtain ⟨q2, k2, hv2⟩ := nums_lenI hy
  dsimp only at hv1 hv2 h0 h1 h2 h3 h4 h5
  subst hv1
  subst hv2
  have HX := Lib.hid hx
  have HY := Lib.hid hy
  clear hx hy
  unfold plv
  dsimp only
  go_enter Try.func130, Try.ntmps130
  go_wp2_with fail
  go_region
  all_goals go_wp2
  all_goals go_ret
  all_goals exact ⟨rfl, (((((Since.refl _).alloc _).alloc _).alloc _).alloc _).drew⟩

set_option maxHeartbeats 2000000 in
set_option maxRecDepth 100000 in
theorem same_6 (x y : PlV) (w : World) (hx : Ints w x.av x.m.args) (hy : Ints w y.av y.m.args) (h0 : (x.src == y.src) = true) (h1 : (x.m.op == y.m.op) = true) (h2 : (x.m.d == y.m.d) = true) (h3 : (x.m.e == y.m.e) = true) (h4 : (x.m.a == y.m.a) = true) (h5 : (x.m.b == y.m.b) = true) (h6 : (x.m.c == y.m.c) = false) : Calls Try.prog 130 #[plv x, plv y] w (TellsS false w) := by
  obtain ⟨⟨o1, d1, e1, a1, b1, c1, i1, l1⟩, v1, s1⟩ := x
  obtain ⟨⟨o2, d2, e2, a2, b2, c2, i2, l2⟩, v2, s2⟩ := y
  obtain ⟨q1, k1, hv1⟩ := nums_lenI hx
  obtain ⟨q2, k2, hv2⟩ := nums_lenI hy
  dsimp only at hv1 hv2 h0 h1 h2 h3 h4 h5 h6
  subst hv1
  subst hv2
  have HX := Lib.hid hx
  have HY := Lib.hid hy
  clear hx hy
  unfold plv
  dsimp only
  go_enter Try.func130, Try.ntmps130
  go_wp2_with fail
  go_region
  all_goals go_wp2
  all_goals go_ret
  all_goals exact ⟨rfl, (((((Since.refl _).alloc _).alloc _).alloc _).alloc _).drew⟩

set_option maxHeartbeats 2000000 in
set_option maxRecDepth 100000 in
theorem same_7 (x y : PlV) (w : World) (hx : Ints w x.av x.m.args) (hy : Ints w y.av y.m.args) (h0 : (x.src == y.src) = true) (h1 : (x.m.op == y.m.op) = true) (h2 : (x.m.d == y.m.d) = true) (h3 : (x.m.e == y.m.e) = true) (h4 : (x.m.a == y.m.a) = true) (h5 : (x.m.b == y.m.b) = true) (h6 : (x.m.c == y.m.c) = true) (h7 : (x.m.imm == y.m.imm) = false) : Calls Try.prog 130 #[plv x, plv y] w (TellsS false w) := by
  obtain ⟨⟨o1, d1, e1, a1, b1, c1, i1, l1⟩, v1, s1⟩ := x
  obtain ⟨⟨o2, d2, e2, a2, b2, c2, i2, l2⟩, v2, s2⟩ := y
  obtain ⟨q1, k1, hv1⟩ := nums_lenI hx
  obtain ⟨q2, k2, hv2⟩ := nums_lenI hy
  dsimp only at hv1 hv2 h0 h1 h2 h3 h4 h5 h6 h7
  subst hv1
  subst hv2
  have HX := Lib.hid hx
  have HY := Lib.hid hy
  clear hx hy
  unfold plv
  dsimp only
  go_enter Try.func130, Try.ntmps130
  go_wp2_with fail
  go_region
  all_goals go_wp2
  all_goals go_ret
  all_goals exact ⟨rfl, (((((Since.refl _).alloc _).alloc _).alloc _).alloc _).drew⟩

set_option maxHeartbeats 2000000 in
set_option maxRecDepth 100000 in
theorem same_8 (x y : PlV) (w : World) (hx : Ints w x.av x.m.args) (hy : Ints w y.av y.m.args) (h0 : (x.src == y.src) = true) (h1 : (x.m.op == y.m.op) = true) (h2 : (x.m.d == y.m.d) = true) (h3 : (x.m.e == y.m.e) = true) (h4 : (x.m.a == y.m.a) = true) (h5 : (x.m.b == y.m.b) = true) (h6 : (x.m.c == y.m.c) = true) (h7 : (x.m.imm == y.m.imm) = true) : Calls Try.prog 130 #[plv x, plv y] w (TellsS (numsB x.m.args y.m.args) w) := by
  obtain ⟨⟨o1, d1, e1, a1, b1, c1, i1, l1⟩, v1, s1⟩ := x
  obtain ⟨⟨o2, d2, e2, a2, b2, c2, i2, l2⟩, v2, s2⟩ := y
  obtain ⟨q1, k1, hv1⟩ := nums_lenI hx
  obtain ⟨q2, k2, hv2⟩ := nums_lenI hy
  dsimp only at hv1 hv2 h0 h1 h2 h3 h4 h5 h6 h7
  subst hv1
  subst hv2
  have HX := Lib.hid hx
  have HY := Lib.hid hy
  clear hx hy
  unfold plv
  dsimp only
  go_enter Try.func130, Try.ntmps130
  go_wp2_with fail
  go_region
  all_goals
    go_wp2_with fail
    refine (equal_any _ _ _ _ _ (HX.out.keep (((((Since.refl _).alloc _).alloc _).alloc _).alloc _).drew) (HY.out.keep (((((Since.refl _).alloc _).alloc _).alloc _).alloc _).drew)).mono ?_
    rintro e w1 ⟨rfl, hs1⟩
    go_wp2
    go_ret
    exact ⟨rfl, (((((Since.refl _).alloc _).alloc _).alloc _).alloc _).drew.trans hs1⟩

theorem same_any (x y : PlV) (w : World) (hx : Ints w x.av x.m.args) (hy : Ints w y.av y.m.args) : Calls Try.prog 130 #[plv x, plv y] w (TellsS (sameB x y) w) := by
  unfold sameB sameM
  cases h0 : (x.src == y.src) with
  | false => exact same_0 x y w hx hy h0
  | true =>
    cases h1 : (x.m.op == y.m.op) with
    | false => exact same_1 x y w hx hy h0 h1
    | true =>
      cases h2 : (x.m.d == y.m.d) with
      | false => exact same_2 x y w hx hy h0 h1 h2
      | true =>
        cases h3 : (x.m.e == y.m.e) with
        | false => exact same_3 x y w hx hy h0 h1 h2 h3
        | true =>
          cases h4 : (x.m.a == y.m.a) with
          | false => exact same_4 x y w hx hy h0 h1 h2 h3 h4
          | true =>
            cases h5 : (x.m.b == y.m.b) with
            | false => exact same_5 x y w hx hy h0 h1 h2 h3 h4 h5
            | true =>
              cases h6 : (x.m.c == y.m.c) with
              | false => exact same_6 x y w hx hy h0 h1 h2 h3 h4 h5 h6
              | true =>
                cases h7 : (x.m.imm == y.m.imm) with
                | false => exact same_7 x y w hx hy h0 h1 h2 h3 h4 h5 h6 h7
                | true =>
                  exact same_8 x y w hx hy h0 h1 h2 h3 h4 h5 h6 h7

set_option maxHeartbeats 2000000 in
set_option maxRecDepth 100000 in
theorem sameend_0 (x y : EndV) (w : World) (hx : Ints w x.tov x.to) (hy : Ints w y.tov y.to) (h0 : (x.op == y.op) = false) : Calls Try.prog 96 #[endv x, endv y] w (TellsS false w) := by
  obtain ⟨o1, a1, b1, l1, v1, i1⟩ := x
  obtain ⟨o2, a2, b2, l2, v2, i2⟩ := y
  obtain ⟨q1, k1, hv1⟩ := nums_lenI hx
  obtain ⟨q2, k2, hv2⟩ := nums_lenI hy
  dsimp only at hv1 hv2 h0
  subst hv1
  subst hv2
  have HX := Lib.hid hx
  have HY := Lib.hid hy
  clear hx hy
  unfold endv
  dsimp only
  go_enter Try.func96, Try.ntmps96
  go_wp2
  go_ret
  exact ⟨rfl, (((Since.refl _).alloc _).alloc _)⟩

set_option maxHeartbeats 2000000 in
set_option maxRecDepth 100000 in
theorem sameend_1 (x y : EndV) (w : World) (hx : Ints w x.tov x.to) (hy : Ints w y.tov y.to) (h0 : (x.op == y.op) = true) (h1 : (x.a == y.a) = false) : Calls Try.prog 96 #[endv x, endv y] w (TellsS false w) := by
  obtain ⟨o1, a1, b1, l1, v1, i1⟩ := x
  obtain ⟨o2, a2, b2, l2, v2, i2⟩ := y
  obtain ⟨q1, k1, hv1⟩ := nums_lenI hx
  obtain ⟨q2, k2, hv2⟩ := nums_lenI hy
  dsimp only at hv1 hv2 h0 h1
  subst hv1
  subst hv2
  have HX := Lib.hid hx
  have HY := Lib.hid hy
  clear hx hy
  unfold endv
  dsimp only
  go_enter Try.func96, Try.ntmps96
  go_wp2
  go_ret
  exact ⟨rfl, (((Since.refl _).alloc _).alloc _)⟩

set_option maxHeartbeats 2000000 in
set_option maxRecDepth 100000 in
theorem sameend_2 (x y : EndV) (w : World) (hx : Ints w x.tov x.to) (hy : Ints w y.tov y.to) (h0 : (x.op == y.op) = true) (h1 : (x.a == y.a) = true) (h2 : (x.b == y.b) = false) : Calls Try.prog 96 #[endv x, endv y] w (TellsS false w) := by
  obtain ⟨o1, a1, b1, l1, v1, i1⟩ := x
  obtain ⟨o2, a2, b2, l2, v2, i2⟩ := y
  obtain ⟨q1, k1, hv1⟩ := nums_lenI hx
  obtain ⟨q2, k2, hv2⟩ := nums_lenI hy
  dsimp only at hv1 hv2 h0 h1 h2
  subst hv1
  subst hv2
  have HX := Lib.hid hx
  have HY := Lib.hid hy
  clear hx hy
  unfold endv
  dsimp only
  go_enter Try.func96, Try.ntmps96
  go_wp2
  go_ret
  exact ⟨rfl, (((Since.refl _).alloc _).alloc _)⟩

set_option maxHeartbeats 2000000 in
set_option maxRecDepth 100000 in
theorem sameend_3 (x y : EndV) (w : World) (hx : Ints w x.tov x.to) (hy : Ints w y.tov y.to) (h0 : (x.op == y.op) = true) (h1 : (x.a == y.a) = true) (h2 : (x.b == y.b) = true) (h3 : (x.imm == y.imm) = false) : Calls Try.prog 96 #[endv x, endv y] w (TellsS false w) := by
  obtain ⟨o1, a1, b1, l1, v1, i1⟩ := x
  obtain ⟨o2, a2, b2, l2, v2, i2⟩ := y
  obtain ⟨q1, k1, hv1⟩ := nums_lenI hx
  obtain ⟨q2, k2, hv2⟩ := nums_lenI hy
  dsimp only at hv1 hv2 h0 h1 h2 h3
  subst hv1
  subst hv2
  have HX := Lib.hid hx
  have HY := Lib.hid hy
  clear hx hy
  unfold endv
  dsimp only
  go_enter Try.func96, Try.ntmps96
  go_wp2
  go_ret
  exact ⟨rfl, (((Since.refl _).alloc _).alloc _)⟩

set_option maxHeartbeats 2000000 in
set_option maxRecDepth 100000 in
theorem sameend_4 (x y : EndV) (w : World) (hx : Ints w x.tov x.to) (hy : Ints w y.tov y.to) (h0 : (x.op == y.op) = true) (h1 : (x.a == y.a) = true) (h2 : (x.b == y.b) = true) (h3 : (x.imm == y.imm) = true) : Calls Try.prog 96 #[endv x, endv y] w (TellsS (numsB x.to y.to) w) := by
  obtain ⟨o1, a1, b1, l1, v1, i1⟩ := x
  obtain ⟨o2, a2, b2, l2, v2, i2⟩ := y
  obtain ⟨q1, k1, hv1⟩ := nums_lenI hx
  obtain ⟨q2, k2, hv2⟩ := nums_lenI hy
  dsimp only at hv1 hv2 h0 h1 h2 h3
  subst hv1
  subst hv2
  have HX := Lib.hid hx
  have HY := Lib.hid hy
  clear hx hy
  unfold endv
  dsimp only
  go_enter Try.func96, Try.ntmps96
  go_wp2_with fail
  refine (equal_any _ _ _ _ _ (HX.out.keep (((Since.refl _).alloc _).alloc _)) (HY.out.keep (((Since.refl _).alloc _).alloc _))).mono ?_
  rintro e w1 ⟨rfl, hs1⟩
  go_wp2
  go_ret
  exact ⟨rfl, (((Since.refl _).alloc _).alloc _).trans hs1⟩

theorem sameend_any (x y : EndV) (w : World) (hx : Ints w x.tov x.to) (hy : Ints w y.tov y.to) : Calls Try.prog 96 #[endv x, endv y] w (TellsS (sameEndB x y) w) := by
  unfold sameEndB
  cases h0 : (x.op == y.op) with
  | false => exact sameend_0 x y w hx hy h0
  | true =>
    cases h1 : (x.a == y.a) with
    | false => exact sameend_1 x y w hx hy h0 h1
    | true =>
      cases h2 : (x.b == y.b) with
      | false => exact sameend_2 x y w hx hy h0 h1 h2
      | true =>
        cases h3 : (x.imm == y.imm) with
        | false => exact sameend_3 x y w hx hy h0 h1 h2 h3
        | true =>
          exact sameend_4 x y w hx hy h0 h1 h2 h3
end Go.Proofs.Ytkpbmbhejpmboaa
