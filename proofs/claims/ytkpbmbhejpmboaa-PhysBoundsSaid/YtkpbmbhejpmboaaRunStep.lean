/- phys.machine.step, phys.who. -/
import Derived.Test.YtkpbmbhejpmboaaRunState
namespace Go.Proofs.Ytkpbmbhejpmboaa
open Go.RowKit
set_option linter.unusedVariables false

def StepQ (c : Cfg) (w : World) (s : St) (cv : Value) (st : Int) (e : Ending) (w' : World) : Prop :=
  e = .returned (.bool (!decide (c.steps ≤ st))) ∧ MRun c w' s cv (if c.steps ≤ st then 3 else 0) 0 (if c.steps ≤ st then st else st + 1) ∧ Turn (fun q => q = c.mb) w w'

set_option maxHeartbeats 1000000 in
set_option maxRecDepth 100000 in
theorem step_any (c : Cfg) (s : St) (cv : Value) (st : Int) (w : World) (h : MRun c w s cv 0 0 st) (hst : c.steps ≤ 1000000) (h0 : 0 ≤ st) :
    Calls Try.prog 79 #[.pointer (some ⟨c.mb, 0, none⟩)] w (StepQ c w s cv st) := by
  have g4 : w.cell? ⟨c.mb, 20, none⟩ = some (.int .i64 c.steps) := h.cellr 4
  have g9 : w.cell? ⟨c.mb, 25, none⟩ = some (.int .i64 st) := h.cellr 9
  have g5 : w.cell? ⟨c.mb, 21, none⟩ = some (.int .i64 0) := h.cellr 5
  have fz := h.mat.frozen
  have hm := h.most
  have hf := h.few
  unfold StepQ
  by_cases hd0 : c.steps ≤ st
  · have hd : decide (c.steps ≤ st) = true := decide_eq_true hd0
    rw [if_pos hd0, if_pos hd0, hd]
    have H := Lib.hid h; clear h
    generalize c.steps = cs at *
    go_enter Try.func79, Try.ntmps79
    go_wp2_with fail
    go_quiet (fail)
    go_wp2
    go_ret
    exact ⟨rfl, (H.out.keep (Since.drewN (Since.refl _) _)).set1 5 _ rfl hf hm, (Turn.since (S := fun q => q = c.mb) (Since.drewN (Since.refl _) _)).setCell (p := ⟨c.mb, 21, none⟩) rfl _⟩
  · have hd : decide (c.steps ≤ st) = false := decide_eq_false hd0
    rw [if_neg hd0, if_neg hd0, hd]
    have H := Lib.hid h; clear h
    have HM := Lib.hid hm; clear hm
    have hst3 : st < 1000000 := by omega
    generalize c.steps = cs at *
    go_enter Try.func79, Try.ntmps79
    go_wp2_with fail
    go_quiet (fail)
    go_wp2
    go_ret
    exact ⟨rfl, (H.out.keep (Since.drewN (Since.refl _) _)).set1 9 _ rfl (by omega) (by omega), (Turn.since (S := fun q => q = c.mb) (Since.drewN (Since.refl _) _)).setCell (p := ⟨c.mb, 25, none⟩) rfl _⟩
end Go.Proofs.Ytkpbmbhejpmboaa
