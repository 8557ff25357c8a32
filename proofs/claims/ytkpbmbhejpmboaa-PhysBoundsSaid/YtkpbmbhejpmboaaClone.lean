/- slices.Clone of numbers, and the last closure of mach.kindOf. -/
import Derived.Test.YtkpbmbhejpmboaaKinds
namespace Go.Proofs.Ytkpbmbhejpmboaa
open Go.RowKit
set_option linter.unusedVariables false

theorem Try.info3 : (Try.prog.info? 3).map (fun i => (i.zero, i.size, i.bytes)) = some (some (.int .i64 0), 1, 8) := by kernel_rfl

/-- []int{}: an empty row of the call's own. -/
theorem own_empty {w : World} {base b : Nat} (hbl : b = w.heap.size) (hb : base ≤ w.heap.size) (e : TypeId) (k : IntKind) :
    (w.alloc (.cells #[] e)).ownsRow base e 1 (.slice (some ⟨b, 0, none⟩) 0 0) ([] : List Int).length (([] : List Int).map (Value.int k)) := by
  subst hbl
  exact ⟨rfl, .inr ⟨w.heap.size, 0, #[], rfl, hb, heap_last _ _, Nat.le_refl _, Nat.zero_le _, rfl, rfl⟩⟩

set_option maxHeartbeats 400000 in
set_option maxRecDepth 100000 in
theorem clone_any (v : Value) (l : List Int) (w : World) (h : Nums .i64 w v l) (hl : l.length ≤ 1000) :
    Calls Try.prog 112 #[v] w (Gives w l) := by
  have h' := h
  have he := fun w a l c => Lib.run_eql_slice_nil (P := Try.prog) w 25 _ a l c 0 0 Try.underlying25
  rcases h with ⟨ad, rfl, rfl⟩ | ⟨b, off, cap, rfl, hcap, hmax, hb, hcell⟩
  · rcases ad with _ | ad
    rotate_left
    · go_enter Try.func112, Try.ntmps112
      go_wp2_with (at_builtin; refine wpList_append_nums (w0 := w) .i64 rfl _ _ 25 rfl 3 (.int .i64 0) 8 Try.underlying25 Try.info3 rfl (by decide) _ _ [] [] rfl rfl (own_empty rfl (Nat.le_refl _) _ _) (h'.keep ((Since.refl _).alloc _)) (by simp) ((Since.refl _).alloc _) ?_; intro v' w' hown hs)
      go_ret
      exact ⟨_, rfl, nums_of_own hown, hs⟩
    go_enter Try.func112, Try.ntmps112
    go_wp2
    go_ret
    exact gives_none (Since.refl _)
  · go_enter Try.func112, Try.ntmps112
    go_wp2_with (at_builtin; refine wpList_append_nums (w0 := w) .i64 rfl _ _ 25 rfl 3 (.int .i64 0) 8 Try.underlying25 Try.info3 rfl (by decide) _ _ [] l rfl rfl (own_empty rfl (Nat.le_refl _) _ _) (h'.keep ((Since.refl _).alloc _)) (by simp; omega) ((Since.refl _).alloc _) ?_; intro v' w' hown hs)
    go_ret
    exact ⟨_, rfl, nums_of_own hown, hs⟩
end Go.Proofs.Ytkpbmbhejpmboaa
