/- Plain: how long a function's text is at most. -/
import Derived.Test.YtmhojfpidedjeaaGreatDoorTb05
namespace Go.Proofs.YtmhojfpidedjeaaGreatDoor
open Go.RowKit
set_option linter.unusedVariables false
theorem flat_le {α:Type} (f:α→Bs) (k:Nat):∀ (l:List α),(∀ x∈l,(f x).length≤k)→(l.flatMap f).length≤k*l.length
 | [],_=>by simp
 | x::r,h=>by
  rw[List.flatMap_cons,List.length_append,List.length_cons,Nat.mul_succ]
  have h1:=h x (List.mem_cons_self ..)
  have h2:=flat_le f k r fun y hy=>h y (List.mem_cons_of_mem _ hy)
  omega
theorem flat_le2 {α:Type} (f:α→Bs) (k n:Nat) (l:List α) (h:∀ x∈l,(f x).length≤k) (hn:l.length≤n):(l.flatMap f).length≤k*n:=
 Nat.le_trans (flat_le f k l h) (Nat.mul_le_mul_left k hn)
theorem names_le:∀ i,i<18→(opNames.getD i ByteArray.empty).data.toList.length≤6:=by decide
theorem opS_le (op:Int):(opS op).length≤6:=by
 unfold opS nameF
 split
 ·decide
 ·exact names_le _ (by omega)
theorem terms_le:∀ i,i<5→(termNames.getD i ByteArray.empty).data.toList.length≤6:=by decide
theorem termB_le (k:Int):(termB k).data.toList.length≤6:=by
 unfold termB
 split
 ·decide
 ·exact terms_le _ (by omega)
end Go.Proofs.YtmhojfpidedjeaaGreatDoor
