/- jacquardlaw17.awake. -/
import Derived.Test.YtkpbmbhejpmboaaOrders
namespace Go.Proofs.Ytkpbmbhejpmboaa
open Go.RowKit
set_option linter.unusedVariables false

def nilv : Value := .slice none 0 0
def aM0 : Mach := ⟨3, 1, 0, 0, 0, 0, 0, []⟩
def aM1 : Mach := ⟨3, 2, 0, 0, 0, 0, 0, []⟩
def aM2 : Mach := ⟨5, 3, 0, 1, 2, 0, 0, []⟩
def aMA : Mach := ⟨24, 1, 0, 3, 0, 0, 0, []⟩
def aMB : Mach := ⟨24, 2, 0, 4, 0, 0, 0, []⟩
def aMS : Mach := ⟨26, 0, 0, 5, 6, 0, 0, []⟩
theorem fine_none {m : Mach} (h : m.args = []) (hi : -2147483648 ≤ m.imm ∧ m.imm ≤ 2147483647) : Fine m := by
  exact ⟨hi.1, hi.2, by rw [h]; decide⟩
theorem machs_awake (w : World) : Machs (w.alloc (.cells #[.int .i64 3, .int .i64 1, .int .i64 0, .int .i64 0, .int .i64 0, .int .i64 0, .int .i32 0, .slice none 0 0, .int .i64 3, .int .i64 2, .int .i64 0, .int .i64 0, .int .i64 0, .int .i64 0, .int .i32 0, .slice none 0 0, .int .i64 5, .int .i64 3, .int .i64 0, .int .i64 1, .int .i64 2, .int .i64 0, .int .i32 0, .slice none 0 0] 46)) (.slice (some ⟨w.heap.size, 0, none⟩) 3 3) [(aM0, nilv), (aM1, nilv), (aM2, nilv)] := by
  refine .inr ⟨w.heap.size, 0, 3, rfl, by simp, ?_⟩
  intro j x hj
  have hb := heap_last w (.cells #[.int .i64 3, .int .i64 1, .int .i64 0, .int .i64 0, .int .i64 0, .int .i64 0, .int .i32 0, .slice none 0 0, .int .i64 3, .int .i64 2, .int .i64 0, .int .i64 0, .int .i64 0, .int .i64 0, .int .i32 0, .slice none 0 0, .int .i64 5, .int .i64 3, .int .i64 0, .int .i64 1, .int .i64 2, .int .i64 0, .int .i32 0, .slice none 0 0] 46)
  match j, hj with
  | 0, hj => cases hj; constructor <;> first | exact .nil _ _ | exact fine_none rfl (by decide) | (unfold World.cell?; rw [hb]; rfl)
  | 1, hj => cases hj; constructor <;> first | exact .nil _ _ | exact fine_none rfl (by decide) | (unfold World.cell?; rw [hb]; rfl)
  | 2, hj => cases hj; constructor <;> first | exact .nil _ _ | exact fine_none rfl (by decide) | (unfold World.cell?; rw [hb]; rfl)
  | j + 3, hj => simp at hj
theorem orders_awake : ordersI (depAt [(aM0, nilv), (aM1, nilv), (aM2, nilv)]) 3 = 2 := by decide +kernel

set_option maxHeartbeats 4000000 in
set_option maxRecDepth 100000 in
theorem awake_any (w : World) : Calls Try.prog 27 #[] w (TellsS true w) := by
  have D1 := fun w1 => depends_any aMS aMA nilv nilv w1 (.nil _ _) (.nil _ _) (fine_none rfl (by decide)) (fine_none rfl (by decide))
  have D2 := fun w1 => depends_any aMA aMB nilv nilv w1 (.nil _ _) (.nil _ _) (fine_none rfl (by decide)) (fine_none rfl (by decide))
  have D3 := fun w1 => depends_any aM0 aM2 nilv nilv w1 (.nil _ _) (.nil _ _) (fine_none rfl (by decide)) (fine_none rfl (by decide))
  have D4 := fun w1 => depends_any aM0 aM1 nilv nilv w1 (.nil _ _) (.nil _ _) (fine_none rfl (by decide)) (fine_none rfl (by decide))
  rw [show dependsB aMS aMA = true from by decide +kernel] at D1
  rw [show dependsB aMA aMB = false from by decide +kernel] at D2
  rw [show dependsB aM0 aM2 = true from by decide +kernel] at D3
  rw [show dependsB aM0 aM1 = false from by decide +kernel] at D4
  simp only [mv, nilv, aM0, aM1, aM2, aMA, aMB, aMS] at D1 D2 D3 D4
  have HD1 := Lib.hid D1
  have HD2 := Lib.hid D2
  have HD3 := Lib.hid D3
  have HD4 := Lib.hid D4
  clear D1 D2 D3 D4
  go_enter Try.func27, Try.ntmps27
  go_wp2
  refine wp_region_list_facts rfl (by decide +kernel) (by decide +kernel)
    [Is (.slice (some ⟨w.heap.size, 0, none⟩) 3 3), Is (.int .i64 2), Is (.bool true), Is (.bool true), Is (.agg #[.int .i64 26, .int .i64 0, .int .i64 0, .int .i64 5, .int .i64 6, .int .i64 0, .int .i32 0, .slice none 0 0]), Is (.agg #[.int .i64 24, .int .i64 1, .int .i64 0, .int .i64 3, .int .i64 0, .int .i64 0, .int .i32 0, .slice none 0 0]), Is (.bool true), Is (.bool true), Is (.bool true), Is (.agg #[.int .i64 24, .int .i64 1, .int .i64 0, .int .i64 3, .int .i64 0, .int .i64 0, .int .i32 0, .slice none 0 0]), Is (.agg #[.int .i64 24, .int .i64 2, .int .i64 0, .int .i64 4, .int .i64 0, .int .i64 0, .int .i32 0, .slice none 0 0]), Is (.bool false), Is (.bool true), Is (.bool true), Is (.bool true), Is (.slice (some ⟨w.heap.size, 0, none⟩) 3 3), Is (.pointer (some ⟨w.heap.size, 0, none⟩)), Is (.agg #[.int .i64 3, .int .i64 1, .int .i64 0, .int .i64 0, .int .i64 0, .int .i64 0, .int .i32 0, .slice none 0 0]), Is (.slice (some ⟨w.heap.size, 0, none⟩) 3 3), Is (.pointer (some ⟨w.heap.size, 16, none⟩)), Is (.agg #[.int .i64 5, .int .i64 3, .int .i64 0, .int .i64 1, .int .i64 2, .int .i64 0, .int .i32 0, .slice none 0 0]), Is (.bool true), Is (.bool true), Is (.bool true), Is (.slice (some ⟨w.heap.size, 0, none⟩) 3 3), Is (.pointer (some ⟨w.heap.size, 0, none⟩)), Is (.agg #[.int .i64 3, .int .i64 1, .int .i64 0, .int .i64 0, .int .i64 0, .int .i64 0, .int .i32 0, .slice none 0 0]), Is (.slice (some ⟨w.heap.size, 0, none⟩) 3 3), Is (.pointer (some ⟨w.heap.size, 8, none⟩)), Is (.agg #[.int .i64 3, .int .i64 2, .int .i64 0, .int .i64 0, .int .i64 0, .int .i64 0, .int .i32 0, .slice none 0 0]), Is (.bool false), Is (.bool true), Is (.bool true), Is (.bool true)]
    (by repeat (first | exact trivial | refine ⟨Is.stable _, ?_⟩)) ⟨?_, ?_, ?_, ?_, ?_, ?_, ?_, ?_, ?_, ?_, ?_, ?_, ?_, ?_, ?_, ?_, ?_, ?_, ?_, ?_, ?_, ?_, ?_, ?_, ?_, ?_, ?_, ?_, ?_, ?_, ?_, ?_, ?_, ?_, trivial⟩ ?_
  all_goals
    intro vs w1 hs hk
    have hc0 : ∀ i, w1.cell? ⟨w.heap.size, i, none⟩ = _ := fun i => hs.cell (p := ⟨w.heap.size, i, none⟩) (by simp <;> omega)
    have hc1 : ∀ i, w1.cell? ⟨w.heap.size + 1, i, none⟩ = _ := fun i => hs.cell (p := ⟨w.heap.size + 1, i, none⟩) (by simp <;> omega)
    have hc2 : ∀ i, w1.cell? ⟨w.heap.size + 1 + 1, i, none⟩ = _ := fun i => hs.cell (p := ⟨w.heap.size + 1 + 1, i, none⟩) (by simp <;> omega)
    have HS := Lib.hid hs
    clear hs
    simp only [putAll, Act.put, Knows, KnowsAll, nthF, Is, List.setIfInBounds_toArray, List.set_cons_zero, List.set_cons_succ, Nat.reduceAdd, List.length_cons, List.length_nil] at hk ⊢
    try simp only [hk]
    clear hk
  · go_wp2
    exact ⟨_, rfl, rfl, Since.refl _⟩
  · have hcall := orders_any (.slice (some ⟨w.heap.size, 0, none⟩) 3 3) [(aM0, nilv), (aM1, nilv), (aM2, nilv)] w1 (Machs.keep (machs_awake w) (Since.trans (((Since.refl _).alloc _).alloc _) HS.out)) (by decide)
    rw [show ([(aM0, nilv), (aM1, nilv), (aM2, nilv)] : List (Mach × Value)).length = 3 from rfl, orders_awake] at hcall
    have HC := Lib.hid hcall; clear hcall
    go_wp2_with fail
    refine HC.out.mono ?_
    rintro e w2 ⟨rfl, hs2⟩
    go_wp2
    exact ⟨_, rfl, rfl, hs2⟩
  · go_wp2
    exact ⟨_, rfl, rfl, Since.refl _⟩
  · go_wp2
    exact ⟨_, rfl, rfl, Since.refl _⟩
  · go_wp2
    exact ⟨_, rfl, rfl, Since.refl _⟩
  · go_wp2
    exact ⟨_, rfl, rfl, Since.refl _⟩
  · go_wp2_with fail
    refine (HD1.out _).mono ?_
    rintro e w2 ⟨rfl, hs2⟩
    go_wp2
    exact ⟨_, rfl, rfl, hs2⟩
  · go_wp2
    exact ⟨_, rfl, rfl, Since.refl _⟩
  · go_wp2
    exact ⟨_, rfl, rfl, Since.refl _⟩
  · go_wp2
    exact ⟨_, rfl, rfl, Since.refl _⟩
  · go_wp2
    exact ⟨_, rfl, rfl, Since.refl _⟩
  · go_wp2_with fail
    refine (HD2.out _).mono ?_
    rintro e w2 ⟨rfl, hs2⟩
    go_wp2
    exact ⟨_, rfl, rfl, hs2⟩
  · go_wp2
    exact ⟨_, rfl, rfl, Since.refl _⟩
  · go_wp2
    exact ⟨_, rfl, rfl, Since.refl _⟩
  · go_wp2
    exact ⟨_, rfl, rfl, Since.refl _⟩
  · go_wp2
    exact ⟨_, rfl, rfl, Since.refl _⟩
  · go_wp2
    exact ⟨_, rfl, rfl, Since.refl _⟩
  · go_wp2
    exact ⟨_, rfl, rfl, Since.refl _⟩
  · go_wp2
    exact ⟨_, rfl, rfl, Since.refl _⟩
  · go_wp2
    exact ⟨_, rfl, rfl, Since.refl _⟩
  · go_wp2
    exact ⟨_, rfl, rfl, Since.refl _⟩
  · go_wp2_with fail
    refine (HD3.out _).mono ?_
    rintro e w2 ⟨rfl, hs2⟩
    go_wp2
    exact ⟨_, rfl, rfl, hs2⟩
  · go_wp2
    exact ⟨_, rfl, rfl, Since.refl _⟩
  · go_wp2
    exact ⟨_, rfl, rfl, Since.refl _⟩
  · go_wp2
    exact ⟨_, rfl, rfl, Since.refl _⟩
  · go_wp2
    exact ⟨_, rfl, rfl, Since.refl _⟩
  · go_wp2
    exact ⟨_, rfl, rfl, Since.refl _⟩
  · go_wp2
    exact ⟨_, rfl, rfl, Since.refl _⟩
  · go_wp2
    exact ⟨_, rfl, rfl, Since.refl _⟩
  · go_wp2
    exact ⟨_, rfl, rfl, Since.refl _⟩
  · go_wp2_with fail
    refine (HD4.out _).mono ?_
    rintro e w2 ⟨rfl, hs2⟩
    go_wp2
    exact ⟨_, rfl, rfl, hs2⟩
  · go_wp2
    exact ⟨_, rfl, rfl, Since.refl _⟩
  · go_wp2
    exact ⟨_, rfl, rfl, Since.refl _⟩
  · go_wp2
    exact ⟨_, rfl, rfl, Since.refl _⟩
  · go_wp2
    go_ret
    exact ⟨rfl, Since.trans ((((Since.refl _).alloc _).alloc _).alloc _) HS.out⟩
end Go.Proofs.Ytkpbmbhejpmboaa
