/- jacquardlaw25.TextWrong, of all values that may come in. -/
import Derived.Test.YtmhojfpidedjeaaDoorTxWrong
import Derived.Test.YtmhojfpidedjeaaDoorTxCardD
namespace Go.Proofs.YtmhojfpidedjeaaDoor
open Go.RowKit Go.ChangeShapes Go.WideShapes
set_option linter.unusedVariables false
theorem u8_in {a : Int} (h : (Lit.int .u8 a).wf = true) : 0 ≤ a ∧ a < 256 := by
  simp [Lit.wf, IntKind.min, IntKind.max, IntKind.signed, IntKind.bits] at h
  omega
theorem law_wrong (a n : Int) (wa : (Lit.int .u8 a).wf = true) (wn : (Lit.int .u8 n).wf = true) (w : World) (hL : LaidT w) :
    Calls Tryd.prog 3 #[.int .u8 a, .int .u8 n] w fun e w' => e = .returned (.bool true) ∧ Below w.heap.size w w' := walk_wrong a n (u8_in wa) (u8_in wn) w hL
end Go.Proofs.YtmhojfpidedjeaaDoor
