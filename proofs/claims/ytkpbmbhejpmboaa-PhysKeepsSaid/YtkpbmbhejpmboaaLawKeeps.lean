/- jacquardlaw12.PhysKeeps, of all values that may come in. -/
import Derived.Test.YtkpbmbhejpmboaaWalkKeeps
import Derived.Test.YtkpbmbhejpmboaaOpen
namespace Go.Proofs.Ytkpbmbhejpmboaa
open Go.RowKit Go.ChangeShapes Go.WideShapes
set_option linter.unusedVariables false

set_option maxHeartbeats 8000000 in
set_option maxRecDepth 100000 in
theorem walk_keeps_mem (m : Mach) (av wv : Value) (ws : List Int) (other : Int) (w : World) (ha : Ints w av m.args) (hw : Nums .i32 w wv ws) (hmem : memOp m = true) :
    Calls Try.prog 4 #[mv m av, wv, .int .i64 other] w (TellsS true w) := by
  obtain ⟨op, d, e, a, b, c, imm, args⟩ := m
  have hop : op = 24 ∨ op = 25 ∨ op = 26 ∨ op = 27 := by
    unfold memOp at hmem; simp at hmem; omega
  dsimp only at ha
  clear hmem
  obtain ⟨aa, ac, rfl⟩ := nums_lenI ha
  obtain ⟨wa, wc, rfl⟩ := nums_lenI hw
  obtain ⟨_, hac1, hac2⟩ := nums_caps ha
  obtain ⟨N, hN⟩ : ∃ N, N = min args.length 6 := ⟨_, rfl⟩
  have hm6 : (if (6 : Int) < (args.length : Int) then (6 : Int) else (args.length : Int)) = (N : Int) := by split <;> omega
  have hN1 : N ≤ args.length := by omega
  have hN2 : N ≤ ac := by omega
  have hN6 : N ≤ 6 := by omega
  have hXX : Ints w (.slice aa N ac) (args.take 6) := by
    have h := nums_take ha N hN1
    rw [show args.take N = args.take 6 from by rw [hN]; by_cases h6 : args.length ≤ 6; (rw [Nat.min_eq_left h6, List.take_of_length_le h6, List.take_of_length_le (Nat.le_refl _)]); (rw [Nat.min_eq_right (by omega)])] at h
    exact h
  have hXl : (args.take 6).length = N := by rw [List.length_take]; omega
  generalize args.take 6 = X at *
  have HX := Lib.hid hXX
  have HXL := Lib.hid hXl
  have HN6 := Lib.hid hN6
  clear hN ha hw hXX hXl hN6
  unfold mv
  rcases hop with rfl | rfl | rfl | rfl
  all_goals
    go_enter Try.func4, Try.ntmps4
    go_wp2_with fail
    refine (shown_any _).mono ?_
    rintro e0 w1 ⟨rfl, hs1⟩
    dsimp only at hs1 ⊢
    have hb1 : HeapIs w1 w.heap.size #[.int .i64 _, .int .i64 d, .int .i64 e, .int .i64 a, .int .i64 b, .int .i64 c, .int .i32 imm, .slice aa args.length ac] 46 := (HeapIs.new _ _ _).keep hs1
    have hq1 : Since w w1 := ((Since.refl w).alloc _).trans hs1
    have HS1 := Lib.hid hq1
    have HB1 := Lib.hid hb1
    have hl1 := hb1.lt
    have hc7 : w1.cell? ⟨w.heap.size, 7, none⟩ = some (.slice aa args.length ac) := hb1.cell 7
    clear hs1 hb1 hq1
    go_wp2_with (at_builtin; go_loud (refine wpList_append_nums (w0 := w1) .i64 rfl _ _ 25 rfl 3 (.int .i64 0) 8 Try.underlying25 Try.info3 rfl (by decide) (.slice (some ⟨w1.heap.size, 0, none⟩) 0 0) (.slice aa N ac) [] X rfl rfl (own_empty rfl (Nat.le_refl _) _ _) (HX.out.keep (HS1.out.alloc _)) (by have := HXL.out; have := HN6.out; simp; omega) ((Since.refl _).alloc _) ?_); intro v2 w2 hown2 hs2; rw [List.nil_append] at hown2; obtain ⟨a2, c2, hv2⟩ := own_shape hown2; rw [HXL.out] at hv2; subst hv2; have hb2 := HB1.out.keep hs2; have HB2 := Lib.hid hb2; have HO2 := Lib.hid hown2; have HS2 := Lib.hid hs2; have k0 : w2.cell? ⟨w.heap.size, 0, none⟩ = some (.int .i64 _) := hb2.cell 0; have k1 : w2.cell? ⟨w.heap.size, 1, none⟩ = some (.int .i64 d) := hb2.cell 1; have k2 : w2.cell? ⟨w.heap.size, 2, none⟩ = some (.int .i64 e) := hb2.cell 2; have k3 : w2.cell? ⟨w.heap.size, 3, none⟩ = some (.int .i64 a) := hb2.cell 3; have k4 : w2.cell? ⟨w.heap.size, 4, none⟩ = some (.int .i64 b) := hb2.cell 4; have k5 : w2.cell? ⟨w.heap.size, 5, none⟩ = some (.int .i64 c) := hb2.cell 5; have k6 : w2.cell? ⟨w.heap.size, 6, none⟩ = some (.int .i32 imm) := hb2.cell 6; have k7 : w2.cell? ⟨w.heap.size, 7, none⟩ = some (.slice aa args.length ac) := hb2.cell 7; have hl2 := hb2.lt; have hz2 := hb2.frozen; clear hb2 hown2 hs2 hc7 hl1)
    clear k0 k1 k2 k3 k4 k5 k6 k7 hz2
    go_ret
    exact ⟨rfl, ((Turn.refl (fun q => q = w.heap.size) w2).setCell (p := ⟨w.heap.size, 7, none⟩) rfl _).toSince (HS1.out.trans HS2.out) (fun q hq e => by omega)⟩
theorem wf_32k {n : Int} (h : (Lit.int .i32 n).wf = true) : In32 n := by
  have e : IntKind.i32.min = -2147483648 := by decide
  have e2 : IntKind.i32.max = 2147483647 := by decide
  simp only [Lit.wf, Bool.and_eq_true, decide_eq_true_eq, e, e2] at h
  exact h
set_option maxRecDepth 100000 in
theorem words_openk {H : Type} {enc : TypeId × Value → H} {w : World} {base : Nat} {held : Bool} {v : Value} {d : DataW H} {p : List MemPlace} {r : Reach} {b0 : Nat} (hv : Value.okWide Try.prog w r b0 34 v)
    (h : DataW.Trod enc Try.prog w base (fun _ => true) held 34 v d p) : ∃ l : List Int, Nums .i32 w v l ∧ ∀ n ∈ l, In32 n := by
  obtain ⟨a, len, cap, rfl⟩ := okWide_slice Try.underlying34 hv
  obtain ⟨fuel, hf⟩ := h
  obtain ⟨l, h1, h2⟩ := nums_trod Try.underlying34 Try.underlying21 Try.cellsInt32 (by simpa [Value.cells] using hf)
  exact ⟨l, h1, fun n hn => wf_32k (h2 n hn)⟩
set_option maxRecDepth 100000 in
theorem law_keeps {H : Type} {enc : TypeId × Value → H} {W : World} {base : Nat} {held : Bool} {r r2 : Reach} {b0 b2 : Nat} {d d2 : DataW H} {p p2 : List MemPlace} (v0 v1 : Value) (n : Int)
    (k0 : Value.okWide Try.prog W r b0 46 v0) (h0 : DataW.Trod enc Try.prog W base (fun _ => true) held 46 v0 d p)
    (k1 : Value.okWide Try.prog W r2 b2 34 v1) (h1 : DataW.Trod enc Try.prog W base (fun _ => true) held 34 v1 d2 p2) (hn : (Lit.int .i64 n).wf = true) :
    Calls Try.prog 4 #[v0, v1, .int .i64 n] W (TellsS true W) := by
  obtain ⟨m, av, rfl, hm, wm⟩ := mach_open k0 h0
  obtain ⟨l1, h1', w1⟩ := words_openk k1 h1
  cases hmem : memOp m with
  | true => exact walk_keeps_mem m av v1 l1 n W hm h1' hmem
  | false => exact walk_keeps m av v1 l1 n W hm wm h1' w1 hmem
end Go.Proofs.Ytkpbmbhejpmboaa
