/- jacquardref06.Costs, Table: a table by numbers. -/
import Derived.Test.YtmhojfpidedjeaaDoorDz14
namespace Go.Proofs.YtmhojfpidedjeaaDoor
open Go.RowKit
set_option linter.unusedVariables false
def costL : List Int := [1, 2, 1, 1, 3, 1, 1, 1, 1, 1, 1, 1, 1, 1, 12, 1, 1, 1, 1, 1, 1, 3, 2, 2, 2, 4, 1, 1, 1, 3, 6, 4, 1, 1, 1, 1, 2]
def costA : Array Value := (costL.map (Value.int .i64)).toArray
def zeroA : Array Value := #[.int .i64 0, .int .i64 0, .int .i64 0, .int .i64 0, .int .i64 0, .int .i64 0, .int .i64 0, .int .i64 0, .int .i64 0, .int .i64 0, .int .i64 0, .int .i64 0, .int .i64 0, .int .i64 0, .int .i64 0, .int .i64 0, .int .i64 0, .int .i64 0, .int .i64 0, .int .i64 0, .int .i64 0, .int .i64 0, .int .i64 0, .int .i64 0, .int .i64 0, .int .i64 0, .int .i64 0, .int .i64 0, .int .i64 0, .int .i64 0, .int .i64 0, .int .i64 0, .int .i64 0, .int .i64 0, .int .i64 0, .int .i64 0, .int .i64 0]
theorem wpList_build_asC {P : Program} {ops : Array Oper} {rest : List Oper} {o : Oper} {a : Act} {w : World} {Q : Exit → Act → World → Prop} (hg : o.guard = none) (t : TypeId) (parts : Array (Nat × Operand)) (ho : o.op = .build t parts) (cs : Array Value)
    (hf : P.built t (parts.map fun (i, x) => (i, a.eval x)).toList = some cs) (h : wpList P ops Q rest (a.put o.dst (.agg cs)) w) : wpList P ops Q (o :: rest) a w :=
  wpList_build hg t parts ho (by rw [hf]; rfl) (by rw [hf]; exact h)
theorem since_setRowC {w0 w : World} (s : Since w0 w) {g : Nat} (hg : w0.heap.size ≤ g) (cs : Array Value) : Since w0 (w.setRow g cs) :=
  Below.trans s ⟨rfl, rfl, rfl, by simp [World.setRow], fun i hi => setRow_other w g i cs (by omega)⟩
set_option maxHeartbeats 1000000 in
set_option maxRecDepth 100000 in
theorem costs_any (w : World) : Calls Tryd.prog 17 #[] w fun e w' => e = .returned (.agg costA) ∧ Since w w' := by
  go_enter Tryd.func17, Tryd.ntmps17
  go_wp2_with (first
    | (refine wpList_build_asC rfl 61 _ rfl costA (by kernel_rfl) ?_)
    | (refine wpList_store_row rfl 61 _ _ rfl w.heap.size costA rfl rfl 61 _ (heap_last w _) (by kernel_rfl) (by kernel_rfl) (by kernel_rfl) ?_; generalize hW : (World.alloc w _).setRow w.heap.size costA = W; have HSW := Lib.hid (show Since w W from by rw [← hW]; exact since_setRowC ((Since.refl w).alloc _) (Nat.le_refl _) _); have HBW := Lib.hid (show HeapIs W w.heap.size costA 61 from by rw [← hW]; exact put_block (HeapIs.new w _ _) _); clear hW))
  refine bodyPost_ret (results_cell_row rfl _ _ w.heap.size 61 costA (0, 0) _ rfl HBW.out Tryd.underlying61 rfl (by kernel_rfl)) rfl ?_
  exact ⟨rfl, HSW.out⟩
end Go.Proofs.YtmhojfpidedjeaaDoor
