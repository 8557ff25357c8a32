/- mach.Do: all operations. -/
import Derived.Test.YtkpbmbhejpmboaaMachDo4
namespace Go.Proofs.Ytkpbmbhejpmboaa
open Go.RowKit
set_option linter.unusedVariables false

theorem do7_any (m : Mach) (av mv0 : Value) (R M : List Int) (rb rc : Nat) (rest : List Value) (T : TypeId) (w : World) (h : Ints w av m.args) (hf : Fine m) (hw : WAt w rb R rest T) (hR : ∀ x ∈ R, In32 x) (hl : R.length ≤ 1000) (hm : MemIs w mv0 M)
    (hsep : (∀ q, av.ownBlock = some q → q ≠ rb ∧ mv0.ownBlock ≠ some q) ∧ mv0.ownBlock ≠ some rb) :
    Calls Try.prog 168 #[mv m av, .slice (some ⟨rb, 0, none⟩) R.length rc, mv0] w (DoneP (doM m R M).1 (doM m R M).2.1 (doM m R M).2.2 rb rest T mv0 w) := by
  have key : m.op = 1 ∨ m.op = 2 ∨ (m.op = 3 ∨ m.op = 4) ∨ (5 ≤ m.op ∧ m.op ≤ 17) ∨ m.op = 18 ∨ m.op = 19 ∨ m.op = 20 ∨ m.op = 21 ∨ m.op = 22 ∨ m.op = 23 ∨ m.op = 24 ∨ m.op = 25 ∨ m.op = 26 ∨ m.op = 27 ∨ m.op = 29 ∨ (m.op < 1 ∨ m.op = 28 ∨ 30 ≤ m.op) := by omega
  rcases key with ho | ho | ho | ho | ho | ho | ho | ho | ho | ho | ho | ho | ho | ho | ho | ho
  · have e : doM m R M = (none, setR R m.d (getR R m.a), M) := by unfold doM; dsimp only; rw [if_pos (by omega)]
    rw [e]; exact do7_1 m av mv0 R M rb rc rest T w h hf hw hR hl hm hsep ho
  · have e : doM m R M = (none, setR (setR R m.a (getR R m.b)) m.b (getR R m.a), M) := by unfold doM; dsimp only; rw [if_neg (by omega), if_pos (by omega)]
    rw [e]; exact do7_2 m av mv0 R M rb rc rest T w h hf hw hR hl hm hsep ho
  · have e : doM m R M = (none, setR R m.d m.imm, M) := by unfold doM; dsimp only; rw [if_neg (by omega), if_neg (by omega), if_pos (by omega)]
    rw [e]; exact do7_34 m av mv0 R M rb rc rest T w h hf hw hR hl hm hsep ho
  · have e : doM m R M = (match doI (m.op - 5 + 2) (getR R m.a) (getR R m.b) with | none => (some (-1), R, M) | some v => (none, setR R m.d v, M)) := by unfold doM; dsimp only; rw [if_neg (by omega), if_neg (by omega), if_neg (by omega), if_pos (by omega), show m.op - 3 = m.op - 5 + 2 from by omega]; cases doI (m.op - 5 + 2) (getR R m.a) (getR R m.b) <;> rfl
    rw [e]
    cases hv : doI (m.op - 5 + 2) (getR R m.a) (getR R m.b) with
    | none => exact do7_trap m av mv0 R M rb rc rest T w h hf hw hR hl hm hsep ho hv
    | some v => exact do7_alu m av mv0 R M rb rc rest T w h hf hw hR hl hm hsep ho v hv
  · obtain ⟨op, xd, xe, xa, xb, xc, ximm, xargs⟩ := m
    dsimp only at ho
    subst ho
    exact do7_18 xd xe xa xb xc ximm xargs av mv0 R M rb rc rest T w h hf hw hR hl hm hsep
  · obtain ⟨op, xd, xe, xa, xb, xc, ximm, xargs⟩ := m
    dsimp only at ho
    subst ho
    exact do7_19 xd xe xa xb xc ximm xargs av mv0 R M rb rc rest T w h hf hw hR hl hm hsep
  · obtain ⟨op, xd, xe, xa, xb, xc, ximm, xargs⟩ := m
    dsimp only at ho
    subst ho
    exact do7_20 xd xe xa xb xc ximm xargs av mv0 R M rb rc rest T w h hf hw hR hl hm hsep
  · obtain ⟨op, xd, xe, xa, xb, xc, ximm, xargs⟩ := m
    dsimp only at ho
    subst ho
    exact do7_21 xd xe xa xb xc ximm xargs av mv0 R M rb rc rest T w h hf hw hR hl hm hsep
  · obtain ⟨op, xd, xe, xa, xb, xc, ximm, xargs⟩ := m
    dsimp only at ho
    subst ho
    exact do7_22 xd xe xa xb xc ximm xargs av mv0 R M rb rc rest T w h hf hw hR hl hm hsep
  · have e : doM m R M = (none, setR R m.d (wrap32 (wrap32 (getR R m.a * getR R m.b) + getR R m.c)), M) := by unfold doM; dsimp only; rw [if_neg (by omega), if_neg (by omega), if_neg (by omega), if_neg (by omega), if_neg (by omega), if_pos (by omega)]
    rw [e]; exact do7_23 m av mv0 R M rb rc rest T w h hf hw hR hl hm hsep ho
  · have e : doM m R M = if 0 ≤ wrap32 (getR R m.a + m.imm) ∧ wrap32 (getR R m.a + m.imm) < (M.length : Int) then (none, setR R m.d (M.getD (wrap32 (getR R m.a + m.imm)).toNat 0), M) else (some (-2), R, M) := by
      obtain ⟨op, xd, xe, xa, xb, xc, ximm, xargs⟩ := m
      dsimp only at ho
      subst ho
      rfl
    rw [e]
    by_cases hin : 0 ≤ wrap32 (getR R m.a + m.imm) ∧ wrap32 (getR R m.a + m.imm) < (M.length : Int)
    · rw [if_pos hin]; exact do7_24_ok m av mv0 R M rb rc rest T w h hf hw hR hl hm hsep ho hin
    · rw [if_neg hin]; exact do7_24_no m av mv0 R M rb rc rest T w h hf hw hR hl hm hsep ho hin
  · have e : doM m R M = if 0 ≤ wrap32 (getR R m.a + getR R m.b) ∧ wrap32 (getR R m.a + getR R m.b) < (M.length : Int) then (none, setR R m.d (M.getD (wrap32 (getR R m.a + getR R m.b)).toNat 0), M) else (some (-2), R, M) := by
      obtain ⟨op, xd, xe, xa, xb, xc, ximm, xargs⟩ := m
      dsimp only at ho
      subst ho
      rfl
    rw [e]
    by_cases hin : 0 ≤ wrap32 (getR R m.a + getR R m.b) ∧ wrap32 (getR R m.a + getR R m.b) < (M.length : Int)
    · rw [if_pos hin]; exact do7_25_ok m av mv0 R M rb rc rest T w h hf hw hR hl hm hsep ho hin
    · rw [if_neg hin]; exact do7_25_no m av mv0 R M rb rc rest T w h hf hw hR hl hm hsep ho hin
  · have e : doM m R M = if 0 ≤ wrap32 (getR R m.a + m.imm) ∧ wrap32 (getR R m.a + m.imm) < (M.length : Int) then (none, R, M.set (wrap32 (getR R m.a + m.imm)).toNat (getR R m.b)) else (some (-2), R, M) := by
      obtain ⟨op, xd, xe, xa, xb, xc, ximm, xargs⟩ := m
      dsimp only at ho
      subst ho
      rfl
    rw [e]
    by_cases hin : 0 ≤ wrap32 (getR R m.a + m.imm) ∧ wrap32 (getR R m.a + m.imm) < (M.length : Int)
    · rw [if_pos hin]; exact do7_26_ok m av mv0 R M rb rc rest T w h hf hw hR hl hm hsep ho hin
    · rw [if_neg hin]; exact do7_26_no m av mv0 R M rb rc rest T w h hf hw hR hl hm hsep ho hin
  · have e : doM m R M = if 0 ≤ wrap32 (getR R m.a + getR R m.b) ∧ wrap32 (getR R m.a + getR R m.b) < (M.length : Int) then (none, R, M.set (wrap32 (getR R m.a + getR R m.b)).toNat (getR R m.c)) else (some (-2), R, M) := by
      obtain ⟨op, xd, xe, xa, xb, xc, ximm, xargs⟩ := m
      dsimp only at ho
      subst ho
      rfl
    rw [e]
    by_cases hin : 0 ≤ wrap32 (getR R m.a + getR R m.b) ∧ wrap32 (getR R m.a + getR R m.b) < (M.length : Int)
    · rw [if_pos hin]; exact do7_27_ok m av mv0 R M rb rc rest T w h hf hw hR hl hm hsep ho hin
    · rw [if_neg hin]; exact do7_27_no m av mv0 R M rb rc rest T w h hf hw hR hl hm hsep ho hin
  · have e : doM m R M = (none, setR (setR R m.d (lowI (getR R m.a) (getR R m.b))) m.e (highI (getR R m.a) (getR R m.b)), M) := by unfold doM; dsimp only; rw [if_neg (by omega), if_neg (by omega), if_neg (by omega), if_neg (by omega), if_neg (by omega), if_neg (by omega), if_neg (by omega), if_neg (by omega), if_pos (by omega)]
    rw [e]; exact do7_29 m av mv0 R M rb rc rest T w h hf hw hR hl hm hsep ho
  · have e : doM m R M = (none, R, M) := by unfold doM; dsimp only; rw [if_neg (by omega), if_neg (by omega), if_neg (by omega), if_neg (by omega), if_neg (by omega), if_neg (by omega), if_neg (by omega), if_neg (by omega), if_neg (by omega)]
    rw [e]; exact do7_none m av mv0 R M rb rc rest T w h hf hw hR hl hm hsep ho
end Go.Proofs.Ytkpbmbhejpmboaa
