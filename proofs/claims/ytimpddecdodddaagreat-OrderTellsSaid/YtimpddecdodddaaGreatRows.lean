/-
  No cell of these rows narrows 'for every input' (looked for: loops, veiled, ifaces, maps, wideKeys, modest, calm, conditions, laid).
  DERIVED. THE GIVEN ROWS OF THIS SEAT. 4 by the template 'for every input the law returns true; each argument reads behind the call as it read before'; 0 by the template 'total and deterministic' (their statements: YtimpddecdodddaaGreatTotals.lean).
  GIVEN WITH THE SEED: the statements are not yours to turn. If you find one false, say at which input.
  Laid BY PROGRAM, IN A SANDBOX (cutbox-rows.mjs): the forced cells as the released guide's own fill.sh prints them over the translation adbae866ccb42402… (all of the seat's roots in one cut). By AI agents, Wed Nov 11 2026. No macro, syntax, notation, axiom, sorry.
-/
import Derived.Test.YtimpddecdodddaaGreatChecked
import GoSem.Claim
import GoSem.ClaimJoined
import GoSem.ClaimMapViews
import Derived.JoinedTies
import Derived.KernelRfl
namespace Go.Proofs.YtimpddecdodddaaGreat
/- THE CELL 'sum', in the pinned program and in every row, IS THE sha256 OF THE DUMP (.gsa) THAT YtimpddecdodddaaGreatProg.lean LOADS. Nothing in Lean hashes anything: it is a label: what it is worth is what the hold of that sum in a sandbox is worth. -/
noncomputable def Tryz.pinned : Pinned := { name := "ytimpddecdodddaagreat", sum := "adbae866ccb424024e6e79133c41dd3e2b805a6a185e2f89a9ab73f773129e36", checked := Tryz.checked }
namespace Rows
def none {H : Type} : Left H := { results := [], args := [] }

/-- 'jacquardlaw12.PhysSwaps': WHATEVER THE INPUT: true; the input reads as it did. -/
def physSwapsSpec : ChangeSpec := { name := "physSwaps", fn := fun _ => fun
  | [d1, d2, d3] => { results := [.lit (.bool true)], args := [d1, d2, d3] }
  | _ => none }
def physSwapsRow : OpenClaim := { program := "ytimpddecdodddaagreat", sum := "adbae866ccb424024e6e79133c41dd3e2b805a6a185e2f89a9ab73f773129e36", func := "jacquard/jacquardlaw12.PhysSwaps", spec := "physSwaps", unfollowed := true, recurses := true, apart := false }
def PhysSwapsSaid : Prop := physSwapsRow.holds Tryz.pinned (OpenSpec.ofChange physSwapsSpec)

/-- ITS FALSE NEIGHBOUR: 'it returns false'. Refute it at one input. -/
def physSwapsWrong : ChangeSpec := { name := "physSwaps", fn := fun _ => fun
  | [d1, d2, d3] => { results := [.lit (.bool false)], args := [d1, d2, d3] }
  | _ => none }
def PhysSwapsWrongFalsely : Prop := physSwapsRow.holds Tryz.pinned (OpenSpec.ofChange physSwapsWrong)

/-- 'jacquardlaw12.PhysTurned': WHATEVER THE INPUT: true; the input reads as it did. -/
def physTurnedSpec : ChangeSpec := { name := "physTurned", fn := fun _ => fun
  | [d1, d2, d3] => { results := [.lit (.bool true)], args := [d1, d2, d3] }
  | _ => none }
def physTurnedRow : OpenClaim := { program := "ytimpddecdodddaagreat", sum := "adbae866ccb424024e6e79133c41dd3e2b805a6a185e2f89a9ab73f773129e36", func := "jacquard/jacquardlaw12.PhysTurned", spec := "physTurned", unfollowed := true, recurses := true, apart := false }
def PhysTurnedSaid : Prop := physTurnedRow.holds Tryz.pinned (OpenSpec.ofChange physTurnedSpec)

/-- ITS FALSE NEIGHBOUR: 'it returns false'. Refute it at one input. -/
def physTurnedWrong : ChangeSpec := { name := "physTurned", fn := fun _ => fun
  | [d1, d2, d3] => { results := [.lit (.bool false)], args := [d1, d2, d3] }
  | _ => none }
def PhysTurnedWrongFalsely : Prop := physTurnedRow.holds Tryz.pinned (OpenSpec.ofChange physTurnedWrong)

/-- 'jacquardlaw17.OrderTells': WHATEVER THE INPUT: true; the input reads as it did. -/
def orderTellsSpec : ChangeSpec := { name := "orderTells", fn := fun _ => fun
  | [d1, d2, d3] => { results := [.lit (.bool true)], args := [d1, d2, d3] }
  | _ => none }
def orderTellsRow : OpenClaim := { program := "ytimpddecdodddaagreat", sum := "adbae866ccb424024e6e79133c41dd3e2b805a6a185e2f89a9ab73f773129e36", func := "jacquard/jacquardlaw17.OrderTells", spec := "orderTells", unfollowed := true, recurses := true, apart := false }
def OrderTellsSaid : Prop := orderTellsRow.holds Tryz.pinned (OpenSpec.ofChange orderTellsSpec)

/-- ITS FALSE NEIGHBOUR: 'it returns false'. Refute it at one input. -/
def orderTellsWrong : ChangeSpec := { name := "orderTells", fn := fun _ => fun
  | [d1, d2, d3] => { results := [.lit (.bool false)], args := [d1, d2, d3] }
  | _ => none }
def OrderTellsWrongFalsely : Prop := orderTellsRow.holds Tryz.pinned (OpenSpec.ofChange orderTellsWrong)

/-- 'jacquardlaw17.OrderRuns': WHATEVER THE INPUT: true; the input reads as it did. -/
def orderRunsSpec : ChangeSpec := { name := "orderRuns", fn := fun _ => fun
  | [d1, d2, d3] => { results := [.lit (.bool true)], args := [d1, d2, d3] }
  | _ => none }
def orderRunsRow : OpenClaim := { program := "ytimpddecdodddaagreat", sum := "adbae866ccb424024e6e79133c41dd3e2b805a6a185e2f89a9ab73f773129e36", func := "jacquard/jacquardlaw17.OrderRuns", spec := "orderRuns", unfollowed := true, recurses := true, apart := false }
def OrderRunsSaid : Prop := orderRunsRow.holds Tryz.pinned (OpenSpec.ofChange orderRunsSpec)

/-- ITS FALSE NEIGHBOUR: 'it returns false'. Refute it at one input. -/
def orderRunsWrong : ChangeSpec := { name := "orderRuns", fn := fun _ => fun
  | [d1, d2, d3] => { results := [.lit (.bool false)], args := [d1, d2, d3] }
  | _ => none }
def OrderRunsWrongFalsely : Prop := orderRunsRow.holds Tryz.pinned (OpenSpec.ofChange orderRunsWrong)

/- THE SECOND FORM. 'bulk': how many values and letters a reading holds, each counted each time it is reached (what is shared counts as often as it is met; a slice's spare places count too). A statement '..UptoSaid' is the law's where the arguments, and the package variables that the reading takes, are together of bulk at most 1048576: NARROWER than '..Said'. Prove '..Said' where nothing that the law and all that it calls make is longer than what came in: it says more and counts as full. Else prove '..UptoSaid'. A law counts once. -/
mutual
def uptoBulk {H : Type} : DataW H → Nat
  | .lit (.string bytes) => bytes.length + 1
  | .lit _ => 1
  | .nil => 1
  | .ptr d => uptoBulk d + 1
  | .slice elems spare => uptoBulkAll elems + uptoBulkAll spare + 1
  | .agg parts => uptoBulkAll parts + 1
  | .iface _ d => uptoBulk d + 1
  | .map entries => uptoBulkEntries entries + 1
  | .held _ => 1
def uptoBulkAll {H : Type} : List (DataW H) → Nat
  | [] => 0
  | d :: r => uptoBulk d + uptoBulkAll r
def uptoBulkEntries {H : Type} : List (Lit × DataW H) → Nat
  | [] => 0
  | x :: r => uptoBulkEntry x + uptoBulkEntries r
def uptoBulkEntry {H : Type} : Lit × DataW H → Nat
  | (.string bytes, d) => bytes.length + uptoBulk d + 1
  | (_, d) => uptoBulk d + 1
 end
def uptoSmall : (H : Type) → List (DataW H) → Bool := fun _ ds => decide (uptoBulkAll ds ≤ 1048576)
def OpenSpec.upto (s : _root_.Go.ChangeSpec) : _root_.Go.OpenSpec := { _root_.Go.OpenSpec.ofChange s with cond := some uptoSmall }

/-- 'jacquardlaw12.PhysSwaps', WHERE WHAT IT READS IS OF BULK AT MOST 1048576: true; the input reads as it did. -/
def physSwapsUptoRow : OpenClaim := { program := "ytimpddecdodddaagreat", sum := "adbae866ccb424024e6e79133c41dd3e2b805a6a185e2f89a9ab73f773129e36", func := "jacquard/jacquardlaw12.PhysSwaps", spec := "physSwaps", unfollowed := true, recurses := true, apart := false, narrowed := true }
def PhysSwapsUptoSaid : Prop := physSwapsUptoRow.holds Tryz.pinned (OpenSpec.upto physSwapsSpec)

/-- 'jacquardlaw12.PhysTurned', WHERE WHAT IT READS IS OF BULK AT MOST 1048576: true; the input reads as it did. -/
def physTurnedUptoRow : OpenClaim := { program := "ytimpddecdodddaagreat", sum := "adbae866ccb424024e6e79133c41dd3e2b805a6a185e2f89a9ab73f773129e36", func := "jacquard/jacquardlaw12.PhysTurned", spec := "physTurned", unfollowed := true, recurses := true, apart := false, narrowed := true }
def PhysTurnedUptoSaid : Prop := physTurnedUptoRow.holds Tryz.pinned (OpenSpec.upto physTurnedSpec)

/-- 'jacquardlaw17.OrderTells', WHERE WHAT IT READS IS OF BULK AT MOST 1048576: true; the input reads as it did. -/
def orderTellsUptoRow : OpenClaim := { program := "ytimpddecdodddaagreat", sum := "adbae866ccb424024e6e79133c41dd3e2b805a6a185e2f89a9ab73f773129e36", func := "jacquard/jacquardlaw17.OrderTells", spec := "orderTells", unfollowed := true, recurses := true, apart := false, narrowed := true }
def OrderTellsUptoSaid : Prop := orderTellsUptoRow.holds Tryz.pinned (OpenSpec.upto orderTellsSpec)

/-- 'jacquardlaw17.OrderRuns', WHERE WHAT IT READS IS OF BULK AT MOST 1048576: true; the input reads as it did. -/
def orderRunsUptoRow : OpenClaim := { program := "ytimpddecdodddaagreat", sum := "adbae866ccb424024e6e79133c41dd3e2b805a6a185e2f89a9ab73f773129e36", func := "jacquard/jacquardlaw17.OrderRuns", spec := "orderRuns", unfollowed := true, recurses := true, apart := false, narrowed := true }
def OrderRunsUptoSaid : Prop := orderRunsUptoRow.holds Tryz.pinned (OpenSpec.upto orderRunsSpec)

end Rows
end Go.Proofs.YtimpddecdodddaaGreat
