/- What the closures of mach.kindOf hand back. -/
import Derived.Test.YtkpbmbhejpmboaaBase
namespace Go.Proofs.Ytkpbmbhejpmboaa
open Go.RowKit
set_option linter.unusedVariables false

/-- A call of function f enters its body. -/
def Enters (f : Nat) : Prop := ∀ (args : Array Value) (w : World), (callFunc f args).run Try.prog w = .ok (.enter f args) w

/-- A function of an instruction that hands back numbers of it. -/
def KindFn (f : Nat) (g : Mach → List Int) : Prop := Enters f ∧ ∀ (m : Mach) (av : Value) (w : World), Ints w av m.args → m.args.length ≤ 1000 → Calls Try.prog f #[mv m av] w (Gives w (g m))

set_option maxHeartbeats 400000 in
set_option maxRecDepth 100000 in
theorem k_none : KindFn 106 (fun m => []) := by
  refine ⟨fun _ _ => by kernel_rfl, ?_⟩
  rintro ⟨op, d, e, a, b, c, imm, args⟩ av w h _
  unfold mv
  go_enter Try.func106, Try.ntmps106
  go_wp2
  go_ret
  exact gives_none ((Since.refl _).alloc _)

set_option maxHeartbeats 400000 in
set_option maxRecDepth 100000 in
theorem k_d : KindFn 107 (fun m => [m.d]) := by
  refine ⟨fun _ _ => by kernel_rfl, ?_⟩
  rintro ⟨op, d, e, a, b, c, imm, args⟩ av w h _
  unfold mv
  go_enter Try.func107, Try.ntmps107
  go_wp2
  go_ret
  exact gives_last ((Since.refl _).alloc _) _ _ (by simp) rfl (by simp [maxLen]) rfl

set_option maxHeartbeats 400000 in
set_option maxRecDepth 100000 in
theorem k_a : KindFn 108 (fun m => [m.a]) := by
  refine ⟨fun _ _ => by kernel_rfl, ?_⟩
  rintro ⟨op, d, e, a, b, c, imm, args⟩ av w h _
  unfold mv
  go_enter Try.func108, Try.ntmps108
  go_wp2
  go_ret
  exact gives_last ((Since.refl _).alloc _) _ _ (by simp) rfl (by simp [maxLen]) rfl

set_option maxHeartbeats 400000 in
set_option maxRecDepth 100000 in
theorem k_ab : KindFn 109 (fun m => [m.a, m.b]) := by
  refine ⟨fun _ _ => by kernel_rfl, ?_⟩
  rintro ⟨op, d, e, a, b, c, imm, args⟩ av w h _
  unfold mv
  go_enter Try.func109, Try.ntmps109
  go_wp2
  go_ret
  exact gives_last ((Since.refl _).alloc _) _ _ (by simp) rfl (by simp [maxLen]) rfl

set_option maxHeartbeats 400000 in
set_option maxRecDepth 100000 in
theorem k_abc : KindFn 110 (fun m => [m.a, m.b, m.c]) := by
  refine ⟨fun _ _ => by kernel_rfl, ?_⟩
  rintro ⟨op, d, e, a, b, c, imm, args⟩ av w h _
  unfold mv
  go_enter Try.func110, Try.ntmps110
  go_wp2
  go_ret
  exact gives_last ((Since.refl _).alloc _) _ _ (by simp) rfl (by simp [maxLen]) rfl

set_option maxHeartbeats 400000 in
set_option maxRecDepth 100000 in
theorem k_de : KindFn 113 (fun m => [m.d, m.e]) := by
  refine ⟨fun _ _ => by kernel_rfl, ?_⟩
  rintro ⟨op, d, e, a, b, c, imm, args⟩ av w h _
  unfold mv
  go_enter Try.func113, Try.ntmps113
  go_wp2
  go_ret
  exact gives_last ((Since.refl _).alloc _) _ _ (by simp) rfl (by simp [maxLen]) rfl

end Go.Proofs.Ytkpbmbhejpmboaa
