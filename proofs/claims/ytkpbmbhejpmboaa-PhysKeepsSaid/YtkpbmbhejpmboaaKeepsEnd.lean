/- Plain: what jacquardlaw12.probe's program does (for PhysKeeps). Plain: an instruction turns no place but those that it makes or spoils; what it makes hangs on the places that it takes alone. Plain: stepM lays what ups says. Plain: what a probe's run says, and what PhysKeeps asks of it. -/
import Derived.Test.YtkpbmbhejpmboaaCallsPlain
namespace Go.Proofs.Ytkpbmbhejpmboaa
open Go.RowKit
set_option linter.unusedVariables false

def liwAt (d : Int) (x : Int) : PlV := ⟨⟨4, d, 0, 0, 0, 0, x, []⟩, .slice none 0 0, 0⟩
def sstAt (a : Int) (k : Int) : PlV := ⟨⟨31, 0, 0, a, 0, 0, k, []⟩, .slice none 0 0, 0⟩
def sldAt (d : Int) (k : Int) : PlV := ⟨⟨30, d, 0, 0, 0, 0, k, []⟩, .slice none 0 0, 0⟩
def mstAt (b : Int) (k : Int) : PlV := ⟨⟨26, 0, 0, 0, b, 0, k, []⟩, .slice none 0 0, 0⟩
def pre3 (W : List Int) (n : Nat) : List PlV := (List.range n).flatMap fun r => [liwAt 0 (W.getD (16 + r) 0), sstAt 0 r]
def preL (W : List Int) : List PlV := pre3 W 3 ++ (List.range 16).map fun (r : Nat) => liwAt r (W.getD r 0)
def sufA : List PlV := (List.range 16).map fun (r : Nat) => sstAt r (3 + (r : Int))
def slotOf (r : Nat) : Int := if 16 ≤ r then (r : Int) - 16 else 3 + (r : Int)
def sufB (n : Nat) : List PlV := (List.range n).flatMap fun (r : Nat) => [sldAt 1 (slotOf r), mstAt 1 r]
def sufL : List PlV := sufA ++ (⟨⟨3, 0, 0, 0, 0, 0, 0, []⟩, .slice none 0 0, 0⟩ :: sufB 19)
def probeB (W : List Int) (i : PlV) (x : Value) : BlkV := ⟨preL W ++ i :: sufL, x, ⟨7, -1, 0, [], .slice none 0 0, 0⟩⟩
def probeP (W : List Int) (i : PlV) (x y : Value) : PrgV := ⟨0, 16, 20, [probeB W i x], y⟩
def regsW (W : List Int) : List Int := (List.range 16).map fun r => W.getD r 0
def slotsW (W : List Int) : List Int := [W.getD 16 0, W.getD 17 0, W.getD 18 0] ++ List.replicate 17 0
def stW (W : List Int) : St := ⟨regsW W, slotsW W, List.replicate 19 0, []⟩
theorem run_pre (p : PrgV) (ans : List Int) (f : Nat) (W : List Int) (b : BlkV) (rest : List PlV) : runAt p ans (f + 22) ⟨List.replicate 16 0, List.replicate 20 0, List.replicate 19 0, []⟩ b (preL W ++ rest) = runAt p ans f (stW W) b rest := by kernel_rfl
theorem run_suf (p : PrgV) (ans : List Int) (f : Nat) (x0 x1 x2 x3 x4 x5 x6 x7 x8 x9 x10 x11 x12 x13 x14 x15 y0 y1 y2 : Int) (z : List Int) (hz : z.length = 17) (c : List (Int × List Int)) (b : BlkV) (hb : b.fin = ⟨7, -1, 0, [], .slice none 0 0, 0⟩) :
    ∃ s', runAt p ans (f + 56) ⟨[x0, x1, x2, x3, x4, x5, x6, x7, x8, x9, x10, x11, x12, x13, x14, x15], y0 :: y1 :: y2 :: z, List.replicate 19 0, c⟩ b sufL = ⟨1, 0, s', f⟩ ∧ s'.mem = [x0, x1, x2, x3, x4, x5, x6, x7, x8, x9, x10, x11, x12, x13, x14, x15, y0, y1, y2] ∧ s'.calls = c := by
  match z, hz with
  | [z0, z1, z2, z3, z4, z5, z6, z7, z8, z9, z10, z11, z12, z13, z14, z15, z16], _ =>
    obtain ⟨ins, insv, fin⟩ := b
    dsimp only at hb
    subst hb
    exact ⟨⟨[0, y2, x2, x3, x4, x5, x6, x7, x8, x9, x10, x11, x12, x13, x14, x15], [y0, y1, y2, x0, x1, x2, x3, x4, x5, x6, x7, x8, x9, x10, x11, x12, x13, x14, x15, z16], [x0, x1, x2, x3, x4, x5, x6, x7, x8, x9, x10, x11, x12, x13, x14, x15, y0, y1, y2], c⟩, by kernel_rfl, rfl, rfl⟩

theorem list16 {l : List Int} (h : l.length = 16) : ∃ x0 x1 x2 x3 x4 x5 x6 x7 x8 x9 x10 x11 x12 x13 x14 x15, l = [x0, x1, x2, x3, x4, x5, x6, x7, x8, x9, x10, x11, x12, x13, x14, x15] := by
  match l, h with
  | [x0, x1, x2, x3, x4, x5, x6, x7, x8, x9, x10, x11, x12, x13, x14, x15], _ => exact ⟨_, _, _, _, _, _, _, _, _, _, _, _, _, _, _, _, rfl⟩
theorem list20 {l : List Int} (h : l.length = 20) : ∃ y0 y1 y2 z, l = y0 :: y1 :: y2 :: z ∧ z.length = 17 := by
  rcases l with _ | ⟨y0, _ | ⟨y1, _ | ⟨y2, z⟩⟩⟩
  · simp at h
  · simp at h
  · simp at h
  · exact ⟨y0, y1, y2, z, rfl, by simpa using h⟩
/-- What memory has behind a probe. -/
def afterL (s : St) : List Int := s.regs ++ s.slots.take 3
def memOp (m : Mach) : Bool := m.op == 24 || m.op == 25 || m.op == 26 || m.op == 27
theorem doM_shape (m : Mach) (R M : List Int) (h : memOp m = false) : (doM m R M).2.1.length = R.length ∧ (doM m R M).2.2 = M := by
  have hn : ¬ (m.op = 24 ∨ m.op = 25) ∧ ¬ (m.op = 26 ∨ m.op = 27) := by unfold memOp at h; simp at h; omega
  unfold doM
  dsimp only
  by_cases c1 : m.op = 1
  · rw [if_pos c1]; exact ⟨setR_len _ _ _, rfl⟩
  rw [if_neg c1]
  by_cases c2 : m.op = 2
  · rw [if_pos c2]; exact ⟨by rw [setR_len, setR_len], rfl⟩
  rw [if_neg c2]
  by_cases c3 : m.op = 3 ∨ m.op = 4
  · rw [if_pos c3]; exact ⟨setR_len _ _ _, rfl⟩
  rw [if_neg c3]
  by_cases c4 : 5 ≤ m.op ∧ m.op ≤ 17
  · rw [if_pos c4]
    cases hv : doI (m.op - 3) (getR R m.a) (getR R m.b) with
    | none => exact ⟨rfl, rfl⟩
    | some v => exact ⟨setR_len _ _ _, rfl⟩
  rw [if_neg c4]
  by_cases c5 : 18 ≤ m.op ∧ m.op ≤ 22
  · rw [if_pos c5]; exact ⟨setR_len _ _ _, rfl⟩
  rw [if_neg c5]
  by_cases c6 : m.op = 23
  · rw [if_pos c6]; exact ⟨setR_len _ _ _, rfl⟩
  rw [if_neg c6, if_neg hn.1, if_neg hn.2]
  by_cases c10 : m.op = 29
  · rw [if_pos c10]; exact ⟨by rw [setR_len, setR_len], rfl⟩
  · rw [if_neg c10]; exact ⟨rfl, rfl⟩
theorem stepM_shape (m : Mach) (ans : List Int) (s : St) (h : memOp m = false) : (stepM m ans s).2.regs.length = s.regs.length ∧ (stepM m ans s).2.slots.length = s.slots.length ∧ (stepM m ans s).2.mem = s.mem := by
  unfold stepM
  by_cases c1 : m.op = 30
  · rw [if_pos c1]; exact ⟨by simp, rfl, rfl⟩
  rw [if_neg c1]
  by_cases c2 : m.op = 31
  · rw [if_pos c2]; exact ⟨rfl, by simp, rfl⟩
  rw [if_neg c2]
  by_cases c3 : m.op = 28
  · rw [if_pos c3]; exact ⟨by simp, rfl, rfl⟩
  rw [if_neg c3]
  have := doM_shape m s.regs s.mem h
  exact ⟨this.1, rfl, this.2⟩
/-- A probe of one instruction, from where it stands. -/
theorem run_probe (p : PrgV) (ans : List Int) (W : List Int) (i : PlV) (x : Value) (f : Nat) (hm : memOp i.m = false) :
    ∃ r : EndSt, runAt p ans (f + 79) ⟨List.replicate 16 0, List.replicate 20 0, List.replicate 19 0, []⟩ (probeB W i x) (preL W ++ i :: sufL) = r ∧
      (∀ t, (stepM i.m ans (stW W)).1 = some t → r.e = 2 ∧ r.v = t) ∧ ((stepM i.m ans (stW W)).1 = none → r.e = 1 ∧ r.s.mem = afterL (stepM i.m ans (stW W)).2 ∧ r.left = f) := by
  refine ⟨_, rfl, ?_⟩
  have h1 := run_pre p ans (f + 57) W (probeB W i x) (i :: sufL)
  rw [show f + 57 + 22 = f + 79 from by omega] at h1
  rw [h1]
  have hsh := stepM_shape i.m ans (stW W) hm
  have h2 : runAt p ans (f + 57) (stW W) (probeB W i x) (i :: sufL) = (match stepM i.m ans (stW W) with
    | (some t, s') => ⟨2, t, s', f + 56⟩
    | (none, s') => runAt p ans (f + 56) s' (probeB W i x) sufL) := rfl
  rw [h2]
  generalize stepM i.m ans (stW W) = D at *
  obtain ⟨tr, s'⟩ := D
  cases tr with
  | some t => exact ⟨fun t' ht => (by cases ht; exact ⟨rfl, rfl⟩), fun h => (by cases h)⟩
  | none =>
    refine ⟨fun t' ht => (by cases ht), fun _ => ?_⟩
    obtain ⟨hr, hs, hmm⟩ := hsh
    obtain ⟨R, Sl, M, C⟩ := s'
    dsimp only at hr hs hmm ⊢
    have hr' : R.length = 16 := by rw [hr]; rfl
    obtain ⟨x0, x1, x2, x3, x4, x5, x6, x7, x8, x9, x10, x11, x12, x13, x14, x15, rfl⟩ := list16 hr'
    have hs' : Sl.length = 20 := by rw [hs]; rfl
    obtain ⟨y0, y1, y2, z, rfl, hz⟩ := list20 hs'
    have hM : M = List.replicate 19 0 := hmm
    subst hM
    obtain ⟨s2, e1, e2, _⟩ := run_suf p ans f x0 x1 x2 x3 x4 x5 x6 x7 x8 x9 x10 x11 x12 x13 x14 x15 y0 y1 y2 z hz C (probeB W i x) rfl
    rw [e1]
    exact ⟨rfl, e2, rfl⟩
end Go.Proofs.Ytkpbmbhejpmboaa

namespace Go.Proofs.Ytkpbmbhejpmboaa
open Go.RowKit
set_option linter.unusedVariables false

/-- What is laid where, of the places' words. -/
def ups (m : Mach) (c : Int) (P : Int → Int) : Option (List (Int × Int)) :=
  if m.op = 1 then some [(m.d, P m.a)]
  else if m.op = 2 then some [(m.a, P m.b), (m.b, P m.a)]
  else if m.op = 3 ∨ m.op = 4 then some [(m.d, m.imm)]
  else if 5 ≤ m.op ∧ m.op ≤ 17 then (doI (m.op - 3) (P m.a) (P m.b)).map fun v => [(m.d, v)]
  else if 18 ≤ m.op ∧ m.op ≤ 22 then some [(m.d, (doI (aluOp m.op) (P m.a) m.imm).getD 0)]
  else if m.op = 23 then some [(m.d, wrap32 (wrap32 (P m.a * P m.b) + P m.c))]
  else if m.op = 28 then some [(0, c), (1, 24302), (2, 24303), (3, 24304)]
  else if m.op = 29 then some [(m.d, lowI (P m.a) (P m.b)), (m.e, highI (P m.a) (P m.b))]
  else if m.op = 30 then some [(m.d, P (16 + m.imm))]
  else if m.op = 31 then some [(16 + m.imm, P m.a)]
  else some []
def lay (P : Int → Int) : List (Int × Int) → Int → Int
  | [], r => P r
  | (q, v) :: l, r => lay (fun x => if x = q then v else P x) l r
theorem lay_out : ∀ (l : List (Int × Int)) (P : Int → Int) (r : Int), r ∉ l.map (·.1) → lay P l r = P r
  | [], _, _, _ => rfl
  | (q, v) :: l, P, r, h => by
    rw [List.map_cons, List.mem_cons] at h
    unfold lay
    rw [lay_out l _ r (fun hx => h (.inr hx)), if_neg (fun e => h (.inl e))]
theorem lay_same : ∀ (l : List (Int × Int)) (P P' : Int → Int) (r : Int), r ∈ l.map (·.1) ∨ P r = P' r → lay P l r = lay P' l r
  | [], _, _, r, h => by
    rcases h with h | h
    · cases h
    · exact h
  | (q, v) :: l, P, P', r, h => by
    unfold lay
    refine lay_same l _ _ r ?_
    by_cases e : r = q
    · right; rw [if_pos e, if_pos e]
    · rw [if_neg e, if_neg e]
      rw [List.map_cons, List.mem_cons] at h
      rcases h with (h | h) | h
      · exact absurd h e
      · exact .inl h
      · exact .inr h
theorem ups_cong {m : Mach} {c : Int} {P P' : Int → Int} (h : ∀ x ∈ takes m, P x = P' x) : ups m c P = ups m c P' := by
  unfold takes takes7 at h
  unfold ups
  by_cases c1 : m.op = 1
  · rw [if_neg (by omega), if_neg (by omega), if_pos (by omega)] at h
    rw [if_pos c1, if_pos c1, h m.a (by simp)]
  rw [if_neg c1, if_neg c1]
  by_cases c2 : m.op = 2
  · rw [if_pos c2] at h
    rw [if_pos c2, if_pos c2, h m.a (by simp), h m.b (by simp)]
  rw [if_neg c2, if_neg c2]
  rw [if_neg c2] at h
  by_cases c3 : m.op = 3 ∨ m.op = 4
  · rw [if_pos c3, if_pos c3]
  rw [if_neg c3, if_neg c3]
  by_cases c4 : 5 ≤ m.op ∧ m.op ≤ 17
  · rw [if_neg (by omega), if_neg (by omega), if_pos (by omega)] at h
    rw [if_pos c4, if_pos c4, h m.a (by simp), h m.b (by simp)]
  rw [if_neg c4, if_neg c4]
  by_cases c5 : 18 ≤ m.op ∧ m.op ≤ 22
  · rw [if_neg (by omega), if_pos (by omega)] at h
    rw [if_pos c5, if_pos c5, h m.a (by simp)]
  rw [if_neg c5, if_neg c5]
  by_cases c6 : m.op = 23
  · rw [if_neg (by omega), if_neg (by omega), if_neg (by omega), if_pos (by omega)] at h
    rw [if_pos c6, if_pos c6, h m.a (by simp), h m.b (by simp), h m.c (by simp)]
  rw [if_neg c6, if_neg c6]
  by_cases c7 : m.op = 28
  · rw [if_pos c7, if_pos c7]
  rw [if_neg c7, if_neg c7]
  by_cases c8 : m.op = 29
  · rw [if_neg (by omega), if_neg (by omega), if_pos (by omega)] at h
    rw [if_pos c8, if_pos c8, h m.a (by simp), h m.b (by simp)]
  rw [if_neg c8, if_neg c8]
  by_cases c9 : m.op = 30
  · rw [if_pos c9] at h
    rw [if_pos c9, if_pos c9, h (16 + m.imm) (by simp)]
  rw [if_neg c9, if_neg c9]
  by_cases c10 : m.op = 31
  · rw [if_neg c9, if_pos (by omega)] at h
    rw [if_pos c10, if_pos c10, h m.a (by simp)]
  rw [if_neg c10, if_neg c10]
theorem ups_places {m : Mach} {c : Int} {P : Int → Int} {l : List (Int × Int)} {k sl : Int} (hl : insE m k sl = 0) (hm : memOp m = false) (h : ups m c P = some l) : l.map (·.1) = makes m ++ spoils m := by
  have hn : m.op ≠ 24 ∧ m.op ≠ 25 ∧ m.op ≠ 26 ∧ m.op ≠ 27 := by unfold memOp at hm; simp at hm; omega
  have hs := (insE_0 hl).1
  unfold shapeB at hs
  unfold ups at h
  by_cases c7 : m.op = 28
  · rw [if_pos c7] at hs
    simp only [Bool.and_eq_true, beq_iff_eq] at hs
    rw [if_neg (by omega), if_neg (by omega), if_neg (by omega), if_neg (by omega), if_neg (by omega), if_neg (by omega), if_pos c7] at h
    cases h
    unfold makes makes7 spoils
    rw [if_neg (by omega), if_neg (by omega), if_neg (by omega), if_neg (by omega), if_neg (by omega), if_pos c7, hs.2]
    rfl
  have hsp : spoils m = [] := by unfold spoils; rw [if_neg c7]
  rw [if_neg c7] at hs
  rw [hsp, List.append_nil]
  unfold makes makes7
  by_cases c8 : m.op = 29
  · rw [if_neg (by omega), if_neg (by omega), if_neg (by omega), if_neg (by omega), if_neg (by omega), if_neg (by omega), if_neg (by omega), if_pos c8] at h
    cases h
    rw [if_neg (by omega), if_neg (by omega), if_neg (by omega), if_pos c8]
    rfl
  rw [if_neg c8] at hs
  simp only [Bool.and_eq_true, decide_eq_true_eq] at hs
  by_cases c2 : m.op = 2
  · rw [if_neg (by omega), if_pos c2] at h
    cases h
    rw [if_pos c2]; rfl
  rw [if_neg c2]
  by_cases c10 : m.op = 31
  · rw [if_neg (by omega), if_neg (by omega), if_neg (by omega), if_neg (by omega), if_neg (by omega), if_neg (by omega), if_neg (by omega), if_neg (by omega), if_neg (by omega), if_pos c10] at h
    cases h
    rw [if_pos c10]; rfl
  rw [if_neg c10, if_neg c2, if_neg c8, if_neg (by omega)]
  by_cases c1 : m.op = 1
  · rw [if_pos c1] at h; cases h; rfl
  rw [if_neg c1, if_neg c2] at h
  by_cases c3 : m.op = 3 ∨ m.op = 4
  · rw [if_pos c3] at h; cases h; rfl
  rw [if_neg c3] at h
  by_cases c4 : 5 ≤ m.op ∧ m.op ≤ 17
  · rw [if_pos c4] at h
    obtain ⟨v, _, rfl⟩ := Option.map_eq_some_iff.1 h
    rfl
  rw [if_neg c4] at h
  by_cases c5 : 18 ≤ m.op ∧ m.op ≤ 22
  · rw [if_pos c5] at h; cases h; rfl
  rw [if_neg c5] at h
  by_cases c6 : m.op = 23
  · rw [if_pos c6] at h; cases h; rfl
  rw [if_neg c6, if_neg c7, if_neg c8] at h
  have c9 : m.op = 30 := by omega
  rw [if_pos c9] at h; cases h; rfl
end Go.Proofs.Ytkpbmbhejpmboaa

namespace Go.Proofs.Ytkpbmbhejpmboaa
open Go.RowKit
set_option linter.unusedVariables false

def PL (s : St) (x : Int) : Int := if x < 16 then s.regs.getD x.toNat 0 else s.slots.getD (x - 16).toNat 0
theorem getD_set (l : List Int) (i j : Nat) (v : Int) (hi : i < l.length) : (l.set i v).getD j 0 = if j = i then v else l.getD j 0 := by
  rw [List.getD_eq_getElem?_getD, List.getElem?_set]
  by_cases h : i = j
  · subst h; rw [if_pos rfl, if_pos hi, if_pos rfl]; rfl
  · rw [if_neg h, if_neg (fun e => h e.symm), List.getD_eq_getElem?_getD]
theorem PL_reg (s : St) (h16 : s.regs.length = 16) {d : Int} (hd : 0 ≤ d ∧ d < 16) (v x : Int) (hx : 0 ≤ x) : PL { s with regs := s.regs.set d.toNat v } x = if x = d then v else PL s x := by
  unfold PL
  dsimp only
  by_cases h : x < 16
  · rw [if_pos h, if_pos h, getD_set _ _ _ _ (by omega)]
    by_cases e : x = d
    · rw [if_pos e, if_pos (by omega)]
    · rw [if_neg e, if_neg (by omega)]
  · rw [if_neg h, if_neg h, if_neg (by omega)]
theorem PL_slot (s : St) (h20 : s.slots.length = 20) {i : Int} (hi : 0 ≤ i ∧ i < 20) (v x : Int) (hx : 0 ≤ x) : PL { s with slots := s.slots.set i.toNat v } x = if x = 16 + i then v else PL s x := by
  unfold PL
  dsimp only
  by_cases h : x < 16
  · rw [if_pos h, if_pos h, if_neg (by omega)]
  · rw [if_neg h, if_neg h, getD_set _ _ _ _ (by omega)]
    by_cases e : x = 16 + i
    · rw [if_pos e, if_pos (by omega)]
    · rw [if_neg e, if_neg (by omega)]
theorem getR_PL (s : St) (h16 : s.regs.length = 16) {a : Int} (ha : 0 ≤ a ∧ a < 16) : getR s.regs a = PL s a := by
  unfold getR PL
  rw [if_pos (by omega), if_pos ha.2]
theorem setR_set {R : List Int} (h16 : R.length = 16) {d : Int} (hd : 0 ≤ d ∧ d < 16) (v : Int) : setR R d v = R.set d.toNat v := by unfold setR; rw [if_pos (by omega)]

theorem stepM_plain {m : Mach} {ans : List Int} {s : St} {tr : Option Int} {R' : List Int} (h : m.op ≠ 30 ∧ m.op ≠ 31 ∧ m.op ≠ 28) (e : doM m s.regs s.mem = (tr, R', s.mem)) : stepM m ans s = (tr, { s with regs := R' }) := by
  unfold stepM
  rw [if_neg h.1, if_neg h.2.1, if_neg h.2.2, e]
/-- What an instruction that may be leaves, place by place. -/
def StepUps (m : Mach) (ans : List Int) (s : St) : Prop :=
  (ups m (ans.getD s.calls.length 0) (PL s) = none → (stepM m ans s).1 = some (-1)) ∧
      ∀ l, ups m (ans.getD s.calls.length 0) (PL s) = some l → (stepM m ans s).1 = none ∧ ∀ x, 0 ≤ x → x < 19 → PL (stepM m ans s).2 x = lay (PL s) l x
theorem stepUps_some {m : Mach} {ans : List Int} {s s' : St} {l : List (Int × Int)} (e1 : ups m (ans.getD s.calls.length 0) (PL s) = some l) (e2 : stepM m ans s = (none, s')) (h : ∀ x, 0 ≤ x → x < 19 → PL s' x = lay (PL s) l x) : StepUps m ans s := by
  unfold StepUps
  rw [e1, e2]
  exact ⟨fun h => (by cases h), fun l' hl => by cases hl; exact ⟨rfl, h⟩⟩
theorem step_ups (m : Mach) (ans : List Int) (s : St) (h16 : s.regs.length = 16) (h20 : s.slots.length = 20) (hl : insE m 16 3 = 0) (hm : memOp m = false) : StepUps m ans s := by
  have hn : m.op ≠ 24 ∧ m.op ≠ 25 ∧ m.op ≠ 26 ∧ m.op ≠ 27 := by unfold memOp at hm; simp at hm; omega
  have hr : ∀ x ∈ regsOf m, 0 ≤ x ∧ x < 16 := fun x hx => badReg_mem (insE_0 hl).2.1 hx
  unfold regsOf at hr
  by_cases c9 : m.op = 30
  · obtain ⟨hd, hi⟩ := legal_30 hl c9
    have e : s.slots.getD m.imm.toNat 0 = PL s (16 + m.imm) := by unfold PL; rw [if_neg (by omega), show 16 + m.imm - 16 = m.imm from by omega]
    refine stepUps_some (s' := { s with regs := s.regs.set m.d.toNat (PL s (16 + m.imm)) }) (by unfold ups; rw [if_neg (by omega), if_neg (by omega), if_neg (by omega), if_neg (by omega), if_neg (by omega), if_neg (by omega), if_neg (by omega), if_neg (by omega), if_pos c9]) (by unfold stepM; rw [if_pos c9, e]) (fun x hx _ => PL_reg s h16 hd _ x hx)
  by_cases c10 : m.op = 31
  · obtain ⟨ha, hi⟩ := legal_31 hl c10
    have e : s.regs.getD m.a.toNat 0 = PL s m.a := by unfold PL; rw [if_pos ha.2]
    refine stepUps_some (s' := { s with slots := s.slots.set m.imm.toNat (PL s m.a) }) (by unfold ups; rw [if_neg (by omega), if_neg (by omega), if_neg (by omega), if_neg (by omega), if_neg (by omega), if_neg (by omega), if_neg (by omega), if_neg (by omega), if_neg (by omega), if_pos c10]) (by unfold stepM; rw [if_neg c9, if_pos c10, e]) (fun x hx _ => PL_slot s h20 ⟨hi.1, by omega⟩ _ x hx)
  rw [if_neg (show ¬ (m.op = 30 ∨ m.op = 31) by omega)] at hr
  by_cases c7 : m.op = 28
  · refine stepUps_some (s' := { s with regs := (((s.regs.set 0 (ans.getD s.calls.length 0)).set 1 24302).set 2 24303).set 3 24304, calls := s.calls ++ [(m.imm, m.args.map fun r => s.regs.getD r.toNat 0)] }) (by unfold ups; rw [if_neg (by omega), if_neg (by omega), if_neg (by omega), if_neg (by omega), if_neg (by omega), if_neg (by omega), if_pos c7]) (by unfold stepM; rw [if_neg c9, if_neg c10, if_pos c7]) (fun x hx _ => ?_)
    generalize ans.getD s.calls.length 0 = c
    have f0 : PL { s with regs := s.regs.set 0 c } x = if x = 0 then c else PL s x := PL_reg s h16 (d := 0) (by decide) c x hx
    have f1 : PL { s with regs := (s.regs.set 0 c).set 1 24302 } x = if x = 1 then 24302 else PL { s with regs := s.regs.set 0 c } x := PL_reg { s with regs := s.regs.set 0 c } (by simpa using h16) (d := 1) (by decide) 24302 x hx
    have f2 : PL { s with regs := ((s.regs.set 0 c).set 1 24302).set 2 24303 } x = if x = 2 then 24303 else PL { s with regs := (s.regs.set 0 c).set 1 24302 } x := PL_reg { s with regs := (s.regs.set 0 c).set 1 24302 } (by simpa using h16) (d := 2) (by decide) 24303 x hx
    have f3 : PL { s with regs := (((s.regs.set 0 c).set 1 24302).set 2 24303).set 3 24304 } x = if x = 3 then 24304 else PL { s with regs := ((s.regs.set 0 c).set 1 24302).set 2 24303 } x := PL_reg { s with regs := ((s.regs.set 0 c).set 1 24302).set 2 24303 } (by simpa using h16) (d := 3) (by decide) 24304 x hx
    rw [f2, f1, f0] at f3
    exact f3
  have h3 : m.op ≠ 30 ∧ m.op ≠ 31 ∧ m.op ≠ 28 := ⟨c9, c10, c7⟩
  have one : ∀ (d v : Int), (0 ≤ d ∧ d < 16) → ∀ x, 0 ≤ x → x < 19 → PL { s with regs := s.regs.set d.toNat v } x = lay (PL s) [(d, v)] x := fun d v hd x hx _ => PL_reg s h16 hd v x hx
  have two : ∀ (d v d' v' : Int), (0 ≤ d ∧ d < 16) → (0 ≤ d' ∧ d' < 16) → ∀ x, 0 ≤ x → x < 19 → PL { s with regs := (s.regs.set d.toNat v).set d'.toNat v' } x = lay (PL s) [(d, v), (d', v')] x := fun d v d' v' hd hd' x hx _ => by
    have g1 := PL_reg { s with regs := s.regs.set d.toNat v } (by simpa using h16) hd' v' x hx
    have g0 := PL_reg s h16 hd v x hx
    dsimp only at g1
    rw [g1, g0]; rfl
  by_cases c1 : m.op = 1
  · have ha := hr m.a (by unfold takes takes7; rw [if_neg (by omega), if_neg (by omega), if_pos (by omega)]; simp)
    have hd := hr m.d (by unfold makes makes7; rw [if_neg (by omega), if_neg (by omega), if_neg (by omega), if_neg (by omega), if_neg (by omega)]; simp)
    exact stepUps_some (by unfold ups; rw [if_pos c1]) (stepM_plain h3 (by unfold doM; dsimp only; rw [if_pos c1, getR_PL s h16 ha, setR_set h16 hd])) (one _ _ hd)
  by_cases c2 : m.op = 2
  · obtain ⟨ha, hb⟩ := legal_2 hl c2
    exact stepUps_some (by unfold ups; rw [if_neg (by omega), if_pos c2]) (stepM_plain h3 (by unfold doM; dsimp only; rw [if_neg (by omega), if_pos c2, getR_PL s h16 ha, getR_PL s h16 hb, setR_set h16 ha, setR_set (by simpa using h16) hb])) (two _ _ _ _ ha hb)
  by_cases c3 : m.op = 3 ∨ m.op = 4
  · have hd := hr m.d (by unfold makes makes7; rw [if_neg (by omega), if_neg (by omega), if_neg (by omega), if_neg (by omega), if_neg (by omega)]; simp)
    exact stepUps_some (by unfold ups; rw [if_neg (by omega), if_neg (by omega), if_pos c3]) (stepM_plain h3 (by unfold doM; dsimp only; rw [if_neg (by omega), if_neg (by omega), if_pos c3, setR_set h16 hd])) (one _ _ hd)
  by_cases c4 : 5 ≤ m.op ∧ m.op ≤ 17
  · have ha := hr m.a (by unfold takes takes7; rw [if_neg (by omega), if_neg (by omega), if_neg (by omega), if_pos (by omega)]; simp)
    have hb := hr m.b (by unfold takes takes7; rw [if_neg (by omega), if_neg (by omega), if_neg (by omega), if_pos (by omega)]; simp)
    have hd := hr m.d (by unfold makes makes7; rw [if_neg (by omega), if_neg (by omega), if_neg (by omega), if_neg (by omega), if_neg (by omega)]; simp)
    have eD : doM m s.regs s.mem = (match doI (m.op - 3) (PL s m.a) (PL s m.b) with | none => (some (-1), s.regs, s.mem) | some v => (none, setR s.regs m.d v, s.mem)) := by
      unfold doM; dsimp only; rw [if_neg (by omega), if_neg (by omega), if_neg (by omega), if_pos c4, getR_PL s h16 ha, getR_PL s h16 hb]; cases doI (m.op - 3) (PL s m.a) (PL s m.b) <;> rfl
    have eU : ups m (ans.getD s.calls.length 0) (PL s) = (doI (m.op - 3) (PL s m.a) (PL s m.b)).map fun v => [(m.d, v)] := by unfold ups; rw [if_neg (by omega), if_neg (by omega), if_neg (by omega), if_pos c4]
    cases hv : doI (m.op - 3) (PL s m.a) (PL s m.b) with
    | none =>
      rw [hv] at eD eU
      unfold StepUps
      rw [eU, stepM_plain h3 eD]
      exact ⟨fun _ => rfl, fun l hl => (by cases hl)⟩
    | some v =>
      rw [hv] at eD eU
      dsimp only at eD
      rw [setR_set h16 hd] at eD
      exact stepUps_some eU (stepM_plain h3 eD) (one _ _ hd)
  by_cases c5 : 18 ≤ m.op ∧ m.op ≤ 22
  · have ha := hr m.a (by unfold takes takes7; rw [if_neg (by omega), if_neg (by omega), if_pos (by omega)]; simp)
    have hd := hr m.d (by unfold makes makes7; rw [if_neg (by omega), if_neg (by omega), if_neg (by omega), if_neg (by omega), if_neg (by omega)]; simp)
    exact stepUps_some (by unfold ups; rw [if_neg (by omega), if_neg (by omega), if_neg (by omega), if_neg (by omega), if_pos c5]) (stepM_plain h3 (by unfold doM; dsimp only; rw [if_neg (by omega), if_neg (by omega), if_neg (by omega), if_neg (by omega), if_pos c5, getR_PL s h16 ha, setR_set h16 hd])) (one _ _ hd)
  by_cases c6 : m.op = 23
  · have ha := hr m.a (by unfold takes takes7; rw [if_neg (by omega), if_neg (by omega), if_neg (by omega), if_neg (by omega), if_pos (by omega)]; simp)
    have hb := hr m.b (by unfold takes takes7; rw [if_neg (by omega), if_neg (by omega), if_neg (by omega), if_neg (by omega), if_pos (by omega)]; simp)
    have hc := hr m.c (by unfold takes takes7; rw [if_neg (by omega), if_neg (by omega), if_neg (by omega), if_neg (by omega), if_pos (by omega)]; simp)
    have hd := hr m.d (by unfold makes makes7; rw [if_neg (by omega), if_neg (by omega), if_neg (by omega), if_neg (by omega), if_neg (by omega)]; simp)
    exact stepUps_some (by unfold ups; rw [if_neg (by omega), if_neg (by omega), if_neg (by omega), if_neg (by omega), if_neg (by omega), if_pos c6]) (stepM_plain h3 (by unfold doM; dsimp only; rw [if_neg (by omega), if_neg (by omega), if_neg (by omega), if_neg (by omega), if_neg (by omega), if_pos c6, getR_PL s h16 ha, getR_PL s h16 hb, getR_PL s h16 hc, setR_set h16 hd])) (one _ _ hd)
  by_cases c8 : m.op = 29
  · have ha := hr m.a (by unfold takes takes7; rw [if_neg (by omega), if_neg (by omega), if_neg (by omega), if_pos (by omega)]; simp)
    have hb := hr m.b (by unfold takes takes7; rw [if_neg (by omega), if_neg (by omega), if_neg (by omega), if_pos (by omega)]; simp)
    have hd := hr m.d (by unfold makes makes7; rw [if_neg (by omega), if_neg (by omega), if_neg (by omega), if_pos (by omega)]; simp)
    have he := hr m.e (by unfold makes makes7; rw [if_neg (by omega), if_neg (by omega), if_neg (by omega), if_pos (by omega)]; simp)
    exact stepUps_some (by unfold ups; rw [if_neg (by omega), if_neg (by omega), if_neg (by omega), if_neg (by omega), if_neg (by omega), if_neg (by omega), if_neg (by omega), if_pos c8]) (stepM_plain h3 (by unfold doM; dsimp only; rw [if_neg (by omega), if_neg (by omega), if_neg (by omega), if_neg (by omega), if_neg (by omega), if_neg (by omega), if_neg (by omega), if_neg (by omega), if_pos c8, getR_PL s h16 ha, getR_PL s h16 hb, setR_set h16 hd, setR_set (by simpa using h16) he])) (two _ _ _ _ hd he)
  exfalso
  have hs := (insE_0 hl).1
  unfold shapeB at hs
  rw [if_neg c7, if_neg c8] at hs
  simp at hs
  omega
end Go.Proofs.Ytkpbmbhejpmboaa

namespace Go.Proofs.Ytkpbmbhejpmboaa
open Go.RowKit
set_option linter.unusedVariables false

theorem PL_stW (W : List Int) (n : Nat) (h : n < 19) : PL (stW W) (n : Int) = W.getD n 0 := by
  unfold PL stW
  dsimp only
  by_cases c : n < 16
  · rw [if_pos (by omega), Int.toNat_natCast]
    unfold regsW
    rw [List.getD_eq_getElem?_getD, List.getElem?_map, List.getElem?_range c]
    rfl
  · rw [if_neg (by omega)]
    obtain rfl | rfl | rfl : n = 16 ∨ n = 17 ∨ n = 18 := by omega
    all_goals rfl
theorem after_PL (s : St) (h16 : s.regs.length = 16) (h20 : s.slots.length = 20) (n : Nat) (h : n < 19) : (afterL s).getD n 0 = PL s (n : Int) := by
  unfold PL afterL
  by_cases c : n < 16
  · rw [if_pos (by omega), Int.toNat_natCast, List.getD_eq_getElem?_getD, List.getElem?_append_left (by omega), List.getD_eq_getElem?_getD]
  · rw [if_neg (by omega), List.getD_eq_getElem?_getD, List.getElem?_append_right (by omega), h16, List.getElem?_take_of_lt (by omega), List.getD_eq_getElem?_getD, show ((n : Int) - 16).toNat = n - 16 from by omega]
theorem after_len (s : St) (h16 : s.regs.length = 16) (h20 : s.slots.length = 20) : (afterL s).length = 19 := by
  unfold afterL; simp [h16, h20]
theorem insList_ok {k sl : Int} : ∀ (l : List PlV) (i : Nat), (∀ x ∈ l, insE x.m k sl = 0) → insList k sl l i = none
  | [], _, _ => rfl
  | x :: r, i, h => by
    unfold insList
    rw [if_pos (h x (by simp))]
    exact insList_ok r (i + 1) fun y hy => h y (by simp [hy])
theorem insE_more {m : Mach} (h : insE m 16 3 = 0) : insE m 16 20 = 0 := by
  obtain ⟨h1, h2, h3⟩ := insE_0 h
  unfold insE at h ⊢
  rw [if_neg (by rw [h1]; simp), if_neg (by rw [h2]; simp)] at h ⊢
  by_cases c3 : (stackB m && (decide (m.imm < 0) || decide ((3 : Int) ≤ m.imm))) = true
  · rw [if_pos c3] at h; omega
  · rw [if_neg c3] at h
    rw [if_neg ?_]
    · exact h
    · intro hc
      simp only [Bool.and_eq_true, Bool.or_eq_true, decide_eq_true_eq] at hc
      have := h3 hc.1
      omega
theorem preL_ok (W : List Int) : (preL W).all (fun x => insE x.m 16 20 == 0) = true := by kernel_rfl
theorem sufL_ok : sufL.all (fun x => insE x.m 16 20 == 0) = true := by kernel_rfl
theorem probe_right (W : List Int) (i : PlV) (x y : Value) (h : insE i.m 16 20 = 0) : rightB (probeP W i x y) = true := by
  have hl : ∀ z ∈ preL W ++ i :: sufL, insE z.m 16 20 = 0 := by
    intro z hz
    rw [List.mem_append, List.mem_cons] at hz
    rcases hz with hz | rfl | hz
    · exact eq_of_beq (List.all_eq_true.1 (preL_ok W) z hz)
    · exact h
    · exact eq_of_beq (List.all_eq_true.1 sufL_ok z hz)
  have hb : blkE 16 20 1 (probeB W i x) = none := by
    unfold blkE probeB
    dsimp only
    rw [insList_ok _ _ hl]
    rfl
  have hn : (preL W ++ i :: sufL).length = 78 := by
    rw [List.length_append, List.length_cons]
    rfl
  unfold rightB funcE
  have hh : headE (probeP W i x y) = 0 := by
    unfold headE probeP ptotal probeB
    dsimp only
    simp only [List.length_cons, List.length_nil, List.map_cons, List.map_nil, List.sum_cons, List.sum_nil, hn]
    decide
  rw [if_pos hh]
  show (((blkList 16 20 1 [probeB W i x] 0).getD (0, 0, 0)).1 == 0) = true
  unfold blkList
  rw [hb]
  rfl
/-- What a probe's run answers. -/
def ProbeR (m : Mach) (W : List Int) (o : OutP) : Prop :=
  (∀ t, (stepM m [77] (stW W)).1 = some t → o.e = 2 ∧ o.v = t) ∧ ((stepM m [77] (stW W)).1 = none → o.e = 1 ∧ o.mem = afterL (stepM m [77] (stW W)).2)
theorem probe_runP (m : Mach) (av x y mvv nv : Value) (W : List Int) (hl : insE m 16 3 = 0) (hm : memOp m = false) :
    ProbeR m W (runP (probeP W ⟨m, av, 0⟩ x y) ⟨[], .slice none 0 0, List.replicate 19 0, mvv, [77], nv, 200⟩) := by
  have hr := probe_right W ⟨m, av, 0⟩ x y (insE_more hl)
  have e : runP (probeP W ⟨m, av, 0⟩ x y) ⟨[], .slice none 0 0, List.replicate 19 0, mvv, [77], nv, 200⟩ = outOf 200 (runAt (probeP W ⟨m, av, 0⟩ x y) [77] (121 + 79) ⟨List.replicate 16 0, List.replicate 20 0, List.replicate 19 0, []⟩ (probeB W ⟨m, av, 0⟩ x) (preL W ++ ⟨m, av, 0⟩ :: sufL)) := by
    unfold runP
    rw [hr]
    rfl
  obtain ⟨r, h1, h2, h3⟩ := run_probe (probeP W ⟨m, av, 0⟩ x y) [77] W ⟨m, av, 0⟩ x 121 hm
  rw [e, h1]
  exact ⟨h2, fun h => ⟨(h3 h).1, (h3 h).2.1⟩⟩
theorem stW_len (W : List Int) : (stW W).regs.length = 16 ∧ (stW W).slots.length = 20 := ⟨rfl, rfl⟩
theorem ups_none {m : Mach} {c : Int} {P : Int → Int} (h : ups m c P = none) : m.op = 17 ∧ P m.b = 0 := by
  unfold ups at h
  by_cases c4 : 5 ≤ m.op ∧ m.op ≤ 17
  · rw [if_neg (by omega), if_neg (by omega), if_neg (by omega), if_pos c4] at h
    rw [Option.map_eq_none_iff] at h
    unfold doI at h
    by_cases c : m.op = 17
    · rw [c] at h
      simp at h
      exact ⟨c, h⟩
    · exfalso
      have : m.op - 3 = 2 ∨ m.op - 3 = 3 ∨ m.op - 3 = 4 ∨ m.op - 3 = 5 ∨ m.op - 3 = 6 ∨ m.op - 3 = 7 ∨ m.op - 3 = 8 ∨ m.op - 3 = 9 ∨ m.op - 3 = 10 ∨ m.op - 3 = 11 ∨ m.op - 3 = 12 ∨ m.op - 3 = 13 := by omega
      rcases this with e | e | e | e | e | e | e | e | e | e | e | e <;> rw [e] at h <;> simp at h
  · exfalso
    repeat' split at h
    all_goals first | (cases h; done) | contradiction
theorem makes_places {m : Mach} {l : List (Int × Int)} {c : Int} {P : Int → Int} (hl : insE m 16 3 = 0) (hm : memOp m = false) (h : ups m c P = some l) : l.map (·.1) = makes m ++ spoils m := ups_places hl hm h
/-- PhysKeeps' first half: a trap, or what stays. -/
theorem keeps_one {m : Mach} {W : List Int} {o : OutP} (hl : insE m 16 3 = 0) (hm : memOp m = false) (h : ProbeR m W o) :
    (o.e = 2 ∧ o.v = -1 ∧ m.op = 17 ∧ (0 ≤ m.b ∧ m.b < 16) ∧ W.getD m.b.toNat 0 = 0) ∨
    (o.e = 1 ∧ o.mem.length = 19 ∧ ∀ n : Nat, n < 19 → (n : Int) ∉ makes m ++ spoils m → o.mem.getD n 0 = W.getD n 0) := by
  obtain ⟨h16, h20⟩ := stW_len W
  obtain ⟨u1, u2⟩ := step_ups m [77] (stW W) h16 h20 hl hm
  have hsh := stepM_shape m [77] (stW W) hm
  cases hu : ups m (([77] : List Int).getD (stW W).calls.length 0) (PL (stW W)) with
  | none =>
    left
    obtain ⟨h1, h2⟩ := h.1 _ (u1 hu)
    obtain ⟨g1, g2⟩ := ups_none hu
    have hb : 0 ≤ m.b ∧ m.b < 16 := by
      refine badReg_mem (insE_0 hl).2.1 (r := m.b) ?_
      unfold regsOf
      rw [if_neg (by omega)]
      unfold takes takes7
      rw [if_neg (by omega), if_neg (by omega), if_neg (by omega), if_pos (by omega)]
      simp
    obtain ⟨n, hn⟩ := Int.eq_ofNat_of_zero_le hb.1
    have hP := PL_stW W n (by omega)
    rw [← hn] at hP
    exact ⟨h1, h2, g1, hb, by rw [hn, Int.toNat_natCast, ← hP, g2]⟩
  | some l =>
    right
    obtain ⟨g1, g2⟩ := u2 l hu
    obtain ⟨h1, h2⟩ := h.2 g1
    have hlen16 : (stepM m [77] (stW W)).2.regs.length = 16 := by rw [hsh.1]; exact h16
    have hlen20 : (stepM m [77] (stW W)).2.slots.length = 20 := by rw [hsh.2.1]; exact h20
    refine ⟨h1, by rw [h2, after_len _ hlen16 hlen20], fun n hn hno => ?_⟩
    rw [h2, after_PL _ hlen16 hlen20 n hn, g2 n (by omega) (by omega), lay_out _ _ _ (by rw [ups_places hl hm hu]; exact hno), PL_stW W n hn]
theorem takes_range {m : Mach} (hl : insE m 16 3 = 0) {x : Int} (hx : x ∈ takes m) : 0 ≤ x ∧ x < 19 := by
  by_cases c : m.op = 30
  · have h := (legal_30 hl c).2
    unfold takes at hx
    rw [if_neg (by omega), if_pos c, List.mem_singleton] at hx
    omega
  · have h : x ∈ regsOf m := by
      unfold regsOf
      by_cases c2 : m.op = 31
      · unfold takes at hx
        rw [if_neg (by omega), if_neg c] at hx
        rw [if_pos (.inr c2)]
        exact List.mem_append_left _ hx
      · rw [if_neg (by omega)]
        exact List.mem_append_left _ hx
    have := badReg_mem (insE_0 hl).2.1 h
    omega
/-- PhysKeeps' second half. -/
theorem keeps_two {m : Mach} {W V : List Int} {o o' : OutP} {k : Nat} (hl : insE m 16 3 = 0) (hm : memOp m = false) (hk : (k : Int) ∉ takes m) (hV : ∀ n : Nat, n ≠ k → V.getD n 0 = W.getD n 0) (h : ProbeR m W o) (h' : ProbeR m V o') (he : o.e = 1) :
    o'.e = 1 ∧ o'.mem.length = 19 ∧ ∀ n : Nat, n < 19 → (n : Int) ∈ makes m ++ spoils m → o.mem.getD n 0 = o'.mem.getD n 0 := by
  obtain ⟨h16, h20⟩ := stW_len W
  obtain ⟨h16', h20'⟩ := stW_len V
  obtain ⟨u1, u2⟩ := step_ups m [77] (stW W) h16 h20 hl hm
  obtain ⟨v1, v2⟩ := step_ups m [77] (stW V) h16' h20' hl hm
  have hsh := stepM_shape m [77] (stW W) hm
  have hsh' := stepM_shape m [77] (stW V) hm
  have hc : ups m (([77] : List Int).getD (stW W).calls.length 0) (PL (stW W)) = ups m (([77] : List Int).getD (stW V).calls.length 0) (PL (stW V)) := ups_cong fun x hx => by
    obtain ⟨hx0, hx1⟩ := takes_range hl hx
    obtain ⟨n, rfl⟩ := Int.eq_ofNat_of_zero_le hx0
    rw [PL_stW W n (by omega), PL_stW V n (by omega), hV n fun e => hk (by rw [← e]; exact hx)]
  cases hu : ups m (([77] : List Int).getD (stW W).calls.length 0) (PL (stW W)) with
  | none =>
    have := (h.1 _ (u1 hu)).1
    omega
  | some l =>
    obtain ⟨g1, g2⟩ := u2 l hu
    obtain ⟨g1', g2'⟩ := v2 l (hc ▸ hu)
    obtain ⟨h1, h2⟩ := h.2 g1
    obtain ⟨h1', h2'⟩ := h'.2 g1'
    have hlen16 : (stepM m [77] (stW W)).2.regs.length = 16 := by rw [hsh.1]; exact h16
    have hlen20 : (stepM m [77] (stW W)).2.slots.length = 20 := by rw [hsh.2.1]; exact h20
    have hlen16' : (stepM m [77] (stW V)).2.regs.length = 16 := by rw [hsh'.1]; exact h16'
    have hlen20' : (stepM m [77] (stW V)).2.slots.length = 20 := by rw [hsh'.2.1]; exact h20'
    refine ⟨h1', by rw [h2', after_len _ hlen16' hlen20'], fun n hn hin => ?_⟩
    rw [h2, h2', after_PL _ hlen16 hlen20 n hn, after_PL _ hlen16' hlen20' n hn, g2 n (by omega) (by omega), g2' n (by omega) (by omega)]
    exact lay_same l _ _ _ (.inl (by rw [ups_places hl hm hu]; exact hin))
end Go.Proofs.Ytkpbmbhejpmboaa
