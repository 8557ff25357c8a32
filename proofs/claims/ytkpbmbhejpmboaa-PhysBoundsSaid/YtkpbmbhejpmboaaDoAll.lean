/- Every worker does what stepM says. -/
import Derived.Test.YtkpbmbhejpmboaaWho
namespace Go.Proofs.Ytkpbmbhejpmboaa
open Go.RowKit
set_option linter.unusedVariables false

theorem getR_nat {R : List Int} {i : Nat} (h : i < R.length) : getR R (i : Int) = R.getD i 0 := getR_in h
theorem setR_nat {R : List Int} {i : Nat} (h : i < R.length) (v : Int) : setR R (i : Int) v = R.set i v := by unfold setR; rw [if_pos (by omega)]; simp

theorem do_swap (c : Cfg) (s : St) (cv : Value) (st : Int) (m : Mach) (av : Value) (w : World) {k sl : Int} (h : MRun c w s cv 0 0 st) (ho : m.op = 2) (hl : insE m k sl = 0) (hk : k ≤ 16) :
    Calls Try.prog 164 #[.agg #[], mv m av, MPtr c] w (DoQ c w cv st (stepM m c.ans s)) := by
  obtain ⟨⟨ha, ha2⟩, hb, hb2⟩ := legal_2 hl ho
  obtain ⟨op, d, e, a, b, cc, imm, args⟩ := m
  dsimp only at ho ha ha2 hb hb2
  obtain ⟨a, rfl⟩ := Int.eq_ofNat_of_zero_le ha
  obtain ⟨b, rfl⟩ := Int.eq_ofNat_of_zero_le hb
  have hla : a < s.regs.length := by rw [h.len]; omega
  have hlb : b < s.regs.length := by rw [h.len]; omega
  have e1 : stepM ⟨op, d, e, a, b, cc, imm, args⟩ c.ans s = (none, { s with regs := (s.regs.set a (s.regs.getD b 0)).set b (s.regs.getD a 0) }) := by
    unfold stepM doM
    dsimp only
    rw [if_neg (by omega), if_neg (by omega), if_neg (by omega), if_neg (by omega), if_pos ho]
    dsimp only
    rw [getR_nat hla, getR_nat hlb, setR_nat hla, setR_nat (by rw [List.length_set]; exact hlb)]
  rw [e1]
  exact swap_any c s cv st op d e a b cc imm args av w h (by omega) (by omega)

theorem do_ld (c : Cfg) (s : St) (cv : Value) (st : Int) (m : Mach) (av : Value) (w : World) {k sl : Int} (h : MRun c w s cv 0 0 st) (ho : m.op = 30) (hl : insE m k sl = 0) (hk : k ≤ 16) (hs : s.slots.length = sl.toNat) :
    Calls Try.prog 165 #[.agg #[], mv m av, MPtr c] w (DoQ c w cv st (stepM m c.ans s)) := by
  obtain ⟨⟨ha, ha2⟩, hb, hb2⟩ := legal_30 hl ho
  obtain ⟨op, d, e, a, b, cc, imm, args⟩ := m
  dsimp only at ho ha ha2 hb hb2
  subst ho
  obtain ⟨d, rfl⟩ := Int.eq_ofNat_of_zero_le ha
  obtain ⟨i, rfl⟩ := Int.eq_ofNat_of_zero_le hb
  have e1 : stepM ⟨30, d, e, a, b, cc, i, args⟩ c.ans s = (none, { s with regs := s.regs.set d (s.slots.getD i 0) }) := by
    unfold stepM
    dsimp only
    rw [if_pos rfl]
    rw [Int.toNat_natCast, Int.toNat_natCast]
  rw [e1]
  exact stack_ld c s cv st e a b cc d i args av w h (by omega) (by omega)

theorem do_st (c : Cfg) (s : St) (cv : Value) (st : Int) (m : Mach) (av : Value) (w : World) {k sl : Int} (h : MRun c w s cv 0 0 st) (ho : m.op = 31) (hl : insE m k sl = 0) (hk : k ≤ 16) (hs : s.slots.length = sl.toNat) :
    Calls Try.prog 165 #[.agg #[], mv m av, MPtr c] w (DoQ c w cv st (stepM m c.ans s)) := by
  obtain ⟨⟨ha, ha2⟩, hb, hb2⟩ := legal_31 hl ho
  obtain ⟨op, d, e, a, b, cc, imm, args⟩ := m
  dsimp only at ho ha ha2 hb hb2
  subst ho
  obtain ⟨a, rfl⟩ := Int.eq_ofNat_of_zero_le ha
  obtain ⟨i, rfl⟩ := Int.eq_ofNat_of_zero_le hb
  have e1 : stepM ⟨31, d, e, a, b, cc, i, args⟩ c.ans s = (none, { s with slots := s.slots.set i (s.regs.getD a 0) }) := by
    unfold stepM
    dsimp only
    rw [if_neg (by decide), if_pos rfl]
    rw [Int.toNat_natCast, Int.toNat_natCast]
  rw [e1]
  exact stack_st c s cv st d e b cc a i args av w h (by omega) (by omega)

theorem do_call (c : Cfg) (s : St) (cv : Value) (st : Int) (m : Mach) (av : Value) (w : World) {k sl : Int} (h : MRun c w s cv 0 0 st) (hst : (s.calls.length : Int) < st) (ho : m.op = 28) (hl : insE m k sl = 0) (hi : Ints c.w0 av m.args) (hf : Fine m) :
    Calls Try.prog 166 #[.agg #[], mv m av, MPtr c] w (DoQ c w cv st (stepM m c.ans s)) := by
  obtain ⟨h1, h2⟩ := legal_28 hl ho
  obtain ⟨op, d, e, a, b, cc, imm, args⟩ := m
  dsimp only at ho h1 h2 hi
  subst ho
  have e1 : stepM ⟨28, d, e, a, b, cc, imm, args⟩ c.ans s = (none, callS s c.ans imm args) := by
    unfold stepM callS
    dsimp only
    rw [if_neg (by decide), if_neg (by decide), if_pos rfl]
  rw [e1]
  exact call_any c s cv st d e a b cc imm args av w h hst hi h1 h2 ⟨hf.1, hf.2.1⟩

theorem do_plain (c : Cfg) (s : St) (cv : Value) (st : Int) (m : Mach) (av : Value) (w : World) (h : MRun c w s cv 0 0 st) (ho : m.op ≠ 2 ∧ m.op ≠ 30 ∧ m.op ≠ 31 ∧ m.op ≠ 28) (hi : Ints c.w0 av m.args) (hf : Fine m) (hav : ∀ q, av.ownBlock = some q → q < c.w0.heap.size) :
    Calls Try.prog 167 #[.agg #[], mv m av, MPtr c] w (DoQ c w cv st (stepM m c.ans s)) := by
  have e1 : stepM m c.ans s = ((doM m s.regs s.mem).1, { s with regs := (doM m s.regs s.mem).2.1, mem := (doM m s.regs s.mem).2.2 }) := by
    unfold stepM
    rw [if_neg ho.2.1, if_neg ho.2.2.1, if_neg ho.2.2.2]
  rw [e1]
  exact plain_any c s cv st m av w h hi hf hav
end Go.Proofs.Ytkpbmbhejpmboaa
