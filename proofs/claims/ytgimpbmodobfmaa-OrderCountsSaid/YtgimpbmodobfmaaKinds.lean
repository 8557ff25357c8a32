/- What the closures of mach.kindOf hand back. -/
import Derived.Test.YtgimpbmodobfmaaBase
namespace Go.Proofs.Ytgimpbmodobfmaa
open Go.RowKit
set_option linter.unusedVariables false

/-- A call of function f enters its body. -/
def Enters (f : Nat) : Prop := ∀ (args : Array Value) (w : World), (callFunc f args).run Try.prog w = .ok (.enter f args) w

/-- A function of an instruction that hands back numbers of it. -/
def KindFn (f : Nat) (g : Mach → List Int) : Prop := Enters f ∧ ∀ (m : Mach) (av : Value) (w : World), Ints w av m.args → m.args.length ≤ 1000 → Calls Try.prog f #[mv m av] w (Gives w (g m))

set_option maxHeartbeats 400000 in
theorem k_none : KindFn 39 (fun m => []) := by
  refine ⟨fun _ _ => by kernel_rfl, ?_⟩
  rintro ⟨op, d, e, a, b, c, imm, args⟩ av w h _
  unfold mv
  go_enter Try.func39, Try.ntmps39
  go_wp2
  go_ret
  exact gives_none ((Since.refl _).alloc _)

set_option maxHeartbeats 400000 in
theorem k_d : KindFn 40 (fun m => [m.d]) := by
  refine ⟨fun _ _ => by kernel_rfl, ?_⟩
  rintro ⟨op, d, e, a, b, c, imm, args⟩ av w h _
  unfold mv
  go_enter Try.func40, Try.ntmps40
  go_wp2
  go_ret
  exact gives_last ((Since.refl _).alloc _) _ _ (by simp) rfl (by simp [maxLen]) rfl

set_option maxHeartbeats 400000 in
theorem k_a : KindFn 41 (fun m => [m.a]) := by
  refine ⟨fun _ _ => by kernel_rfl, ?_⟩
  rintro ⟨op, d, e, a, b, c, imm, args⟩ av w h _
  unfold mv
  go_enter Try.func41, Try.ntmps41
  go_wp2
  go_ret
  exact gives_last ((Since.refl _).alloc _) _ _ (by simp) rfl (by simp [maxLen]) rfl

set_option maxHeartbeats 400000 in
theorem k_ab : KindFn 42 (fun m => [m.a, m.b]) := by
  refine ⟨fun _ _ => by kernel_rfl, ?_⟩
  rintro ⟨op, d, e, a, b, c, imm, args⟩ av w h _
  unfold mv
  go_enter Try.func42, Try.ntmps42
  go_wp2
  go_ret
  exact gives_last ((Since.refl _).alloc _) _ _ (by simp) rfl (by simp [maxLen]) rfl

set_option maxHeartbeats 400000 in
theorem k_abc : KindFn 43 (fun m => [m.a, m.b, m.c]) := by
  refine ⟨fun _ _ => by kernel_rfl, ?_⟩
  rintro ⟨op, d, e, a, b, c, imm, args⟩ av w h _
  unfold mv
  go_enter Try.func43, Try.ntmps43
  go_wp2
  go_ret
  exact gives_last ((Since.refl _).alloc _) _ _ (by simp) rfl (by simp [maxLen]) rfl

set_option maxHeartbeats 400000 in
theorem k_de : KindFn 46 (fun m => [m.d, m.e]) := by
  refine ⟨fun _ _ => by kernel_rfl, ?_⟩
  rintro ⟨op, d, e, a, b, c, imm, args⟩ av w h _
  unfold mv
  go_enter Try.func46, Try.ntmps46
  go_wp2
  go_ret
  exact gives_last ((Since.refl _).alloc _) _ _ (by simp) rfl (by simp [maxLen]) rfl

end Go.Proofs.Ytgimpbmodobfmaa
