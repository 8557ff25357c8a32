/-
  No cell of these rows narrows 'for every input' (looked for: loops, veiled, ifaces, maps, wideKeys, modest, calm, conditions, laid).
  DERIVED. THE GIVEN ROWS OF THIS SEAT. 8 by the template 'for every input the law returns true; each argument reads behind the call as it read before'; 0 by the template 'total and deterministic' (their statements: YtkpbmbhejpmboaaTotals.lean).
  GIVEN WITH THE SEED: the statements are not yours to turn. If you find one false, say at which input.
  Laid BY PROGRAM, IN A SANDBOX (cutbox-rows.mjs): the forced cells as the released guide's own fill.sh prints them over the translation 7ee75bf8b812fe76… (all of the seat's roots in one cut). By AI agents, Wed Nov 11 2026. No macro, syntax, notation, axiom, sorry.
-/
import Derived.Test.YtkpbmbhejpmboaaChecked
import GoSem.Claim
import GoSem.ClaimJoined
import GoSem.ClaimMapViews
import Derived.JoinedTies
import Derived.KernelRfl
namespace Go.Proofs.Ytkpbmbhejpmboaa
/- THE CELL 'sum', in the pinned program and in every row, IS THE sha256 OF THE DUMP (.gsa) THAT YtkpbmbhejpmboaaProg.lean LOADS. Nothing in Lean hashes anything: it is a label: what it is worth is what the hold of that sum in a sandbox is worth. -/
noncomputable def Try.pinned : Pinned := { name := "ytkpbmbhejpmboaa", sum := "7ee75bf8b812fe76a12455c604bbc512c1666bf6eb4dbb37e693fca97015c666", checked := Try.checked }
namespace Rows
def none {H : Type} : Left H := { results := [], args := [] }

/-- 'jacquardlaw12.PhysTells': WHATEVER THE INPUT: true; the input reads as it did. -/
def physTellsSpec : ChangeSpec := { name := "physTells", fn := fun _ => fun
  | [d1, d2] => { results := [.lit (.bool true)], args := [d1, d2] }
  | _ => none }
def physTellsRow : OpenClaim := { program := "ytkpbmbhejpmboaa", sum := "7ee75bf8b812fe76a12455c604bbc512c1666bf6eb4dbb37e693fca97015c666", func := "jacquard/jacquardlaw12.PhysTells", spec := "physTells", unfollowed := true, recurses := true, apart := false }
def PhysTellsSaid : Prop := physTellsRow.holds Try.pinned (OpenSpec.ofChange physTellsSpec)

/-- ITS FALSE NEIGHBOUR: 'it returns false'. Refute it at one input. -/
def physTellsWrong : ChangeSpec := { name := "physTells", fn := fun _ => fun
  | [d1, d2] => { results := [.lit (.bool false)], args := [d1, d2] }
  | _ => none }
def PhysTellsWrongFalsely : Prop := physTellsRow.holds Try.pinned (OpenSpec.ofChange physTellsWrong)

/-- 'jacquardlaw12.PhysKeeps': WHATEVER THE INPUT: true; the input reads as it did. -/
def physKeepsSpec : ChangeSpec := { name := "physKeeps", fn := fun _ => fun
  | [d1, d2, d3] => { results := [.lit (.bool true)], args := [d1, d2, d3] }
  | _ => none }
def physKeepsRow : OpenClaim := { program := "ytkpbmbhejpmboaa", sum := "7ee75bf8b812fe76a12455c604bbc512c1666bf6eb4dbb37e693fca97015c666", func := "jacquard/jacquardlaw12.PhysKeeps", spec := "physKeeps", unfollowed := true, recurses := true, apart := false }
def PhysKeepsSaid : Prop := physKeepsRow.holds Try.pinned (OpenSpec.ofChange physKeepsSpec)

/-- ITS FALSE NEIGHBOUR: 'it returns false'. Refute it at one input. -/
def physKeepsWrong : ChangeSpec := { name := "physKeeps", fn := fun _ => fun
  | [d1, d2, d3] => { results := [.lit (.bool false)], args := [d1, d2, d3] }
  | _ => none }
def PhysKeepsWrongFalsely : Prop := physKeepsRow.holds Try.pinned (OpenSpec.ofChange physKeepsWrong)

/-- 'jacquardlaw12.PhysCalls': WHATEVER THE INPUT: true; the input reads as it did. -/
def physCallsSpec : ChangeSpec := { name := "physCalls", fn := fun _ => fun
  | [d1, d2, d3] => { results := [.lit (.bool true)], args := [d1, d2, d3] }
  | _ => none }
def physCallsRow : OpenClaim := { program := "ytkpbmbhejpmboaa", sum := "7ee75bf8b812fe76a12455c604bbc512c1666bf6eb4dbb37e693fca97015c666", func := "jacquard/jacquardlaw12.PhysCalls", spec := "physCalls", unfollowed := true, recurses := true, apart := false }
def PhysCallsSaid : Prop := physCallsRow.holds Try.pinned (OpenSpec.ofChange physCallsSpec)

/-- ITS FALSE NEIGHBOUR: 'it returns false'. Refute it at one input. -/
def physCallsWrong : ChangeSpec := { name := "physCalls", fn := fun _ => fun
  | [d1, d2, d3] => { results := [.lit (.bool false)], args := [d1, d2, d3] }
  | _ => none }
def PhysCallsWrongFalsely : Prop := physCallsRow.holds Try.pinned (OpenSpec.ofChange physCallsWrong)

/-- 'jacquardlaw12.PhysBounds': WHATEVER THE INPUT: true; the input reads as it did. -/
def physBoundsSpec : ChangeSpec := { name := "physBounds", fn := fun _ => fun
  | [d1, d2, d3] => { results := [.lit (.bool true)], args := [d1, d2, d3] }
  | _ => none }
def physBoundsRow : OpenClaim := { program := "ytkpbmbhejpmboaa", sum := "7ee75bf8b812fe76a12455c604bbc512c1666bf6eb4dbb37e693fca97015c666", func := "jacquard/jacquardlaw12.PhysBounds", spec := "physBounds", unfollowed := true, recurses := true, apart := false }
def PhysBoundsSaid : Prop := physBoundsRow.holds Try.pinned (OpenSpec.ofChange physBoundsSpec)

/-- ITS FALSE NEIGHBOUR: 'it returns false'. Refute it at one input. -/
def physBoundsWrong : ChangeSpec := { name := "physBounds", fn := fun _ => fun
  | [d1, d2, d3] => { results := [.lit (.bool false)], args := [d1, d2, d3] }
  | _ => none }
def PhysBoundsWrongFalsely : Prop := physBoundsRow.holds Try.pinned (OpenSpec.ofChange physBoundsWrong)

/-- 'jacquardlaw17.OrderBeside': WHATEVER THE INPUT: true; the input reads as it did. -/
def orderBesideSpec : ChangeSpec := { name := "orderBeside", fn := fun _ => fun
  | [d1, d2] => { results := [.lit (.bool true)], args := [d1, d2] }
  | _ => none }
def orderBesideRow : OpenClaim := { program := "ytkpbmbhejpmboaa", sum := "7ee75bf8b812fe76a12455c604bbc512c1666bf6eb4dbb37e693fca97015c666", func := "jacquard/jacquardlaw17.OrderBeside", spec := "orderBeside", unfollowed := true, recurses := true, apart := false }
def OrderBesideSaid : Prop := orderBesideRow.holds Try.pinned (OpenSpec.ofChange orderBesideSpec)

/-- ITS FALSE NEIGHBOUR: 'it returns false'. Refute it at one input. -/
def orderBesideWrong : ChangeSpec := { name := "orderBeside", fn := fun _ => fun
  | [d1, d2] => { results := [.lit (.bool false)], args := [d1, d2] }
  | _ => none }
def OrderBesideWrongFalsely : Prop := orderBesideRow.holds Try.pinned (OpenSpec.ofChange orderBesideWrong)

/-- 'jacquardlaw17.OrderTurns': WHATEVER THE INPUT: true; the input reads as it did. -/
def orderTurnsSpec : ChangeSpec := { name := "orderTurns", fn := fun _ => fun
  | [d1, d2] => { results := [.lit (.bool true)], args := [d1, d2] }
  | _ => none }
def orderTurnsRow : OpenClaim := { program := "ytkpbmbhejpmboaa", sum := "7ee75bf8b812fe76a12455c604bbc512c1666bf6eb4dbb37e693fca97015c666", func := "jacquard/jacquardlaw17.OrderTurns", spec := "orderTurns", unfollowed := true, recurses := true, apart := false }
def OrderTurnsSaid : Prop := orderTurnsRow.holds Try.pinned (OpenSpec.ofChange orderTurnsSpec)

/-- ITS FALSE NEIGHBOUR: 'it returns false'. Refute it at one input. -/
def orderTurnsWrong : ChangeSpec := { name := "orderTurns", fn := fun _ => fun
  | [d1, d2] => { results := [.lit (.bool false)], args := [d1, d2] }
  | _ => none }
def OrderTurnsWrongFalsely : Prop := orderTurnsRow.holds Try.pinned (OpenSpec.ofChange orderTurnsWrong)

/-- 'jacquardlaw17.OrderAll': WHATEVER THE INPUT: true; the input reads as it did. -/
def orderAllSpec : ChangeSpec := { name := "orderAll", fn := fun _ => fun
  | [d] => { results := [.lit (.bool true)], args := [d] }
  | _ => none }
def orderAllRow : OpenClaim := { program := "ytkpbmbhejpmboaa", sum := "7ee75bf8b812fe76a12455c604bbc512c1666bf6eb4dbb37e693fca97015c666", func := "jacquard/jacquardlaw17.OrderAll", spec := "orderAll", unfollowed := true, recurses := true, apart := false }
def OrderAllSaid : Prop := orderAllRow.holds Try.pinned (OpenSpec.ofChange orderAllSpec)

/-- ITS FALSE NEIGHBOUR: 'it returns false'. Refute it at one input. -/
def orderAllWrong : ChangeSpec := { name := "orderAll", fn := fun _ => fun
  | [d] => { results := [.lit (.bool false)], args := [d] }
  | _ => none }
def OrderAllWrongFalsely : Prop := orderAllRow.holds Try.pinned (OpenSpec.ofChange orderAllWrong)

/-- 'jacquardlaw17.OrderOther': WHATEVER THE INPUT: true; the input reads as it did. -/
def orderOtherSpec : ChangeSpec := { name := "orderOther", fn := fun _ => fun
  | [d1, d2, d3] => { results := [.lit (.bool true)], args := [d1, d2, d3] }
  | _ => none }
def orderOtherRow : OpenClaim := { program := "ytkpbmbhejpmboaa", sum := "7ee75bf8b812fe76a12455c604bbc512c1666bf6eb4dbb37e693fca97015c666", func := "jacquard/jacquardlaw17.OrderOther", spec := "orderOther", unfollowed := true, recurses := true, apart := false }
def OrderOtherSaid : Prop := orderOtherRow.holds Try.pinned (OpenSpec.ofChange orderOtherSpec)

/-- ITS FALSE NEIGHBOUR: 'it returns false'. Refute it at one input. -/
def orderOtherWrong : ChangeSpec := { name := "orderOther", fn := fun _ => fun
  | [d1, d2, d3] => { results := [.lit (.bool false)], args := [d1, d2, d3] }
  | _ => none }
def OrderOtherWrongFalsely : Prop := orderOtherRow.holds Try.pinned (OpenSpec.ofChange orderOtherWrong)

/- THE SECOND FORM. 'bulk': how many values and letters a reading holds, each counted each time it is reached (what is shared counts as often as it is met; a slice's spare places count too). A statement '..UptoSaid' is the law's where the arguments, and the package variables that the reading takes, are together of bulk at most 1048576: NARROWER than '..Said'. Prove '..Said' where nothing that the law and all that it calls make is longer than what came in: it says more and counts as full. Else prove '..UptoSaid'. A law counts once. -/
mutual
def uptoBulk {H : Type} : DataW H → Nat
  | .lit (.string bytes) => bytes.length + 1
  | .lit _ => 1
  | .nil => 1
  | .ptr d => uptoBulk d + 1
  | .slice elems spare => uptoBulkAll elems + uptoBulkAll spare + 1
  | .agg parts => uptoBulkAll parts + 1
  | .iface _ d => uptoBulk d + 1
  | .map entries => uptoBulkEntries entries + 1
  | .held _ => 1
def uptoBulkAll {H : Type} : List (DataW H) → Nat
  | [] => 0
  | d :: r => uptoBulk d + uptoBulkAll r
def uptoBulkEntries {H : Type} : List (Lit × DataW H) → Nat
  | [] => 0
  | x :: r => uptoBulkEntry x + uptoBulkEntries r
def uptoBulkEntry {H : Type} : Lit × DataW H → Nat
  | (.string bytes, d) => bytes.length + uptoBulk d + 1
  | (_, d) => uptoBulk d + 1
 end
def uptoSmall : (H : Type) → List (DataW H) → Bool := fun _ ds => decide (uptoBulkAll ds ≤ 1048576)
def OpenSpec.upto (s : _root_.Go.ChangeSpec) : _root_.Go.OpenSpec := { _root_.Go.OpenSpec.ofChange s with cond := some uptoSmall }

/-- 'jacquardlaw12.PhysTells', WHERE WHAT IT READS IS OF BULK AT MOST 1048576: true; the input reads as it did. -/
def physTellsUptoRow : OpenClaim := { program := "ytkpbmbhejpmboaa", sum := "7ee75bf8b812fe76a12455c604bbc512c1666bf6eb4dbb37e693fca97015c666", func := "jacquard/jacquardlaw12.PhysTells", spec := "physTells", unfollowed := true, recurses := true, apart := false, narrowed := true }
def PhysTellsUptoSaid : Prop := physTellsUptoRow.holds Try.pinned (OpenSpec.upto physTellsSpec)

/-- 'jacquardlaw12.PhysKeeps', WHERE WHAT IT READS IS OF BULK AT MOST 1048576: true; the input reads as it did. -/
def physKeepsUptoRow : OpenClaim := { program := "ytkpbmbhejpmboaa", sum := "7ee75bf8b812fe76a12455c604bbc512c1666bf6eb4dbb37e693fca97015c666", func := "jacquard/jacquardlaw12.PhysKeeps", spec := "physKeeps", unfollowed := true, recurses := true, apart := false, narrowed := true }
def PhysKeepsUptoSaid : Prop := physKeepsUptoRow.holds Try.pinned (OpenSpec.upto physKeepsSpec)

/-- 'jacquardlaw12.PhysCalls', WHERE WHAT IT READS IS OF BULK AT MOST 1048576: true; the input reads as it did. -/
def physCallsUptoRow : OpenClaim := { program := "ytkpbmbhejpmboaa", sum := "7ee75bf8b812fe76a12455c604bbc512c1666bf6eb4dbb37e693fca97015c666", func := "jacquard/jacquardlaw12.PhysCalls", spec := "physCalls", unfollowed := true, recurses := true, apart := false, narrowed := true }
def PhysCallsUptoSaid : Prop := physCallsUptoRow.holds Try.pinned (OpenSpec.upto physCallsSpec)

/-- 'jacquardlaw12.PhysBounds', WHERE WHAT IT READS IS OF BULK AT MOST 1048576: true; the input reads as it did. -/
def physBoundsUptoRow : OpenClaim := { program := "ytkpbmbhejpmboaa", sum := "7ee75bf8b812fe76a12455c604bbc512c1666bf6eb4dbb37e693fca97015c666", func := "jacquard/jacquardlaw12.PhysBounds", spec := "physBounds", unfollowed := true, recurses := true, apart := false, narrowed := true }
def PhysBoundsUptoSaid : Prop := physBoundsUptoRow.holds Try.pinned (OpenSpec.upto physBoundsSpec)

/-- 'jacquardlaw17.OrderBeside', WHERE WHAT IT READS IS OF BULK AT MOST 1048576: true; the input reads as it did. -/
def orderBesideUptoRow : OpenClaim := { program := "ytkpbmbhejpmboaa", sum := "7ee75bf8b812fe76a12455c604bbc512c1666bf6eb4dbb37e693fca97015c666", func := "jacquard/jacquardlaw17.OrderBeside", spec := "orderBeside", unfollowed := true, recurses := true, apart := false, narrowed := true }
def OrderBesideUptoSaid : Prop := orderBesideUptoRow.holds Try.pinned (OpenSpec.upto orderBesideSpec)

/-- 'jacquardlaw17.OrderTurns', WHERE WHAT IT READS IS OF BULK AT MOST 1048576: true; the input reads as it did. -/
def orderTurnsUptoRow : OpenClaim := { program := "ytkpbmbhejpmboaa", sum := "7ee75bf8b812fe76a12455c604bbc512c1666bf6eb4dbb37e693fca97015c666", func := "jacquard/jacquardlaw17.OrderTurns", spec := "orderTurns", unfollowed := true, recurses := true, apart := false, narrowed := true }
def OrderTurnsUptoSaid : Prop := orderTurnsUptoRow.holds Try.pinned (OpenSpec.upto orderTurnsSpec)

/-- 'jacquardlaw17.OrderAll', WHERE WHAT IT READS IS OF BULK AT MOST 1048576: true; the input reads as it did. -/
def orderAllUptoRow : OpenClaim := { program := "ytkpbmbhejpmboaa", sum := "7ee75bf8b812fe76a12455c604bbc512c1666bf6eb4dbb37e693fca97015c666", func := "jacquard/jacquardlaw17.OrderAll", spec := "orderAll", unfollowed := true, recurses := true, apart := false, narrowed := true }
def OrderAllUptoSaid : Prop := orderAllUptoRow.holds Try.pinned (OpenSpec.upto orderAllSpec)

/-- 'jacquardlaw17.OrderOther', WHERE WHAT IT READS IS OF BULK AT MOST 1048576: true; the input reads as it did. -/
def orderOtherUptoRow : OpenClaim := { program := "ytkpbmbhejpmboaa", sum := "7ee75bf8b812fe76a12455c604bbc512c1666bf6eb4dbb37e693fca97015c666", func := "jacquard/jacquardlaw17.OrderOther", spec := "orderOther", unfollowed := true, recurses := true, apart := false, narrowed := true }
def OrderOtherUptoSaid : Prop := orderOtherUptoRow.holds Try.pinned (OpenSpec.upto orderOtherSpec)

end Rows
end Go.Proofs.Ytkpbmbhejpmboaa
