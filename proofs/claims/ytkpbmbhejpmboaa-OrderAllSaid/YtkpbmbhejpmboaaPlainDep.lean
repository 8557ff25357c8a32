/- Plain: both Depends say the same, and go both ways. -/
import Derived.Test.YtkpbmbhejpmboaaRefDepends
namespace Go.Proofs.Ytkpbmbhejpmboaa
open Go.RowKit

theorem meetB_append (l a b : List Int) : meetB l (a ++ b) = (meetB l a || meetB l b) := by
  unfold meetB
  induction l with
  | nil => rfl
  | cons x r ih =>
    rw [List.any_cons, List.any_cons, List.any_cons, ih, List.any_append]
    generalize (a.any fun y => x == y) = p
    generalize (b.any fun y => x == y) = q
    generalize (r.any fun x => a.any fun y => x == y) = s
    generalize (r.any fun x => b.any fun y => x == y) = t
    cases p <;> cases q <;> cases s <;> cases t <;> rfl
theorem meetB_comm (l a : List Int) : meetB l a = meetB a l := by
  unfold meetB
  rw [Bool.eq_iff_iff, List.any_eq_true, List.any_eq_true]
  constructor
  · rintro ⟨x, hx, h⟩
    obtain ⟨y, hy, he⟩ := List.any_eq_true.1 h
    exact ⟨y, hy, List.any_eq_true.2 ⟨x, hx, beq_iff_eq.2 (eq_of_beq he).symm⟩⟩
  · rintro ⟨x, hx, h⟩
    obtain ⟨y, hy, he⟩ := List.any_eq_true.1 h
    exact ⟨y, hy, List.any_eq_true.2 ⟨x, hx, beq_iff_eq.2 (eq_of_beq he).symm⟩⟩
theorem depends_eq (m n : Mach) : dependsB m n = rdependsB m n := by
  unfold dependsB rdependsB
  rw [meetB_append]
  generalize meetB (changes m) (changes n) = a
  generalize meetB (changes m) (takes n) = b
  generalize meetB (changes n) (takes m) = c
  generalize (strictB m.op && strictB n.op) = d
  generalize (!(loadB m.op && loadB n.op)) = e
  cases a <;> cases b <;> cases c <;> cases d <;> cases e <;> rfl
theorem depends_comm (m n : Mach) : dependsB m n = dependsB n m := by
  unfold dependsB
  rw [meetB_comm (changes m) (changes n), Bool.and_comm (strictB m.op), Bool.and_comm (loadB m.op)]
  generalize meetB (changes n) (changes m) = a
  generalize meetB (changes m) (takes n) = b
  generalize meetB (changes n) (takes m) = c
  generalize (strictB n.op && strictB m.op) = d
  generalize (!(loadB n.op && loadB m.op)) = e
  cases a <;> cases b <;> cases c <;> cases d <;> cases e <;> rfl
end Go.Proofs.Ytkpbmbhejpmboaa
