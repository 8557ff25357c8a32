/- phys.plain.do. -/
import Derived.Test.YtkpbmbhejpmboaaRunStack
namespace Go.Proofs.Ytkpbmbhejpmboaa
open Go.RowKit
set_option linter.unusedVariables false

theorem setR_32 {R : List Int} (h : ∀ x ∈ R, In32 x) {i v : Int} (hv : In32 v) : ∀ x ∈ setR R i v, In32 x := by
  unfold setR
  split
  · intro x hx
    rcases List.mem_or_eq_of_mem_set hx with hx | rfl
    · exact h x hx
    · exact hv
  · exact h
theorem highI_32 (a b : Int) (ha : In32 a) (hb : In32 b) : In32 (highI a b) := by
  have := mul_range a b ha.1 ha.2 hb.1 hb.2
  unfold In32 highI; omega
theorem doI_32 {op a b v : Int} (ha : In32 a) (hb : In32 b) (h : doI op a b = some v) : In32 v := by
  have ea : (BitVec.ofInt 32 a).toInt = a := by rw [BitVec.toInt_ofInt]; unfold In32 at ha; exact Int.bmod_eq_of_le (by omega) (by omega)
  have eb : (BitVec.ofInt 32 b).toInt = b := by rw [BitVec.toInt_ofInt]; unfold In32 at hb; exact Int.bmod_eq_of_le (by omega) (by omega)
  have := doI_doB op (BitVec.ofInt 32 a) (BitVec.ofInt 32 b)
  rw [ea, eb, h] at this
  obtain ⟨x, _, hx⟩ := Option.map_eq_some_iff.1 this.symm
  have h1 := BitVec.toInt_lt (x := x)
  have h2 := BitVec.le_toInt (x := x)
  rw [hx] at h1 h2
  unfold In32
  omega
/-- What mach.Do leaves are words, as many as there were. -/
theorem doM_ok (m : Mach) (R M : List Int) (hf : Fine m) (hR : ∀ x ∈ R, In32 x) (hM : ∀ x ∈ M, In32 x) :
    (doM m R M).2.1.length = R.length ∧ (∀ x ∈ (doM m R M).2.1, In32 x) ∧ (∀ x ∈ (doM m R M).2.2, In32 x) ∧ In32 ((doM m R M).1.getD 0) := by
  have hA := getR_32 hR m.a
  have hB := getR_32 hR m.b
  have hC := getR_32 hR m.c
  have hI : In32 m.imm := ⟨hf.1, hf.2.1⟩
  have h0 : In32 0 := ⟨by omega, by omega⟩
  have hset : ∀ (l : List Int) (i : Nat) (v : Int), (∀ x ∈ l, In32 x) → In32 v → ∀ x ∈ l.set i v, In32 x := fun l i v hl hv x hx => by
    rcases List.mem_or_eq_of_mem_set hx with hx | rfl
    · exact hl x hx
    · exact hv
  unfold doM
  dsimp only
  by_cases c1 : m.op = 1
  · rw [if_pos c1]; exact ⟨setR_len _ _ _, setR_32 hR hA, hM, h0⟩
  rw [if_neg c1]
  by_cases c2 : m.op = 2
  · rw [if_pos c2]; exact ⟨by rw [setR_len, setR_len], setR_32 (setR_32 hR hB) hA, hM, h0⟩
  rw [if_neg c2]
  by_cases c3 : m.op = 3 ∨ m.op = 4
  · rw [if_pos c3]; exact ⟨setR_len _ _ _, setR_32 hR hI, hM, h0⟩
  rw [if_neg c3]
  by_cases c4 : 5 ≤ m.op ∧ m.op ≤ 17
  · rw [if_pos c4]
    cases hv : doI (m.op - 3) (getR R m.a) (getR R m.b) with
    | none => exact ⟨rfl, hR, hM, by unfold In32; simp⟩
    | some v => exact ⟨setR_len _ _ _, setR_32 hR (doI_32 hA hB hv), hM, h0⟩
  rw [if_neg c4]
  by_cases c5 : 18 ≤ m.op ∧ m.op ≤ 22
  · rw [if_pos c5]
    refine ⟨setR_len _ _ _, setR_32 hR ?_, hM, h0⟩
    cases hv : doI (aluOp m.op) (getR R m.a) m.imm with
    | none => exact h0
    | some v => exact doI_32 hA hI hv
  rw [if_neg c5]
  by_cases c6 : m.op = 23
  · rw [if_pos c6]; exact ⟨setR_len _ _ _, setR_32 hR (in32_wrap _), hM, h0⟩
  rw [if_neg c6]
  by_cases c7 : m.op = 24 ∨ m.op = 25
  · rw [if_pos c7]
    generalize wrap32 _ = at'
    by_cases hin : 0 ≤ at' ∧ at' < (M.length : Int)
    · rw [if_pos hin]; exact ⟨setR_len _ _ _, setR_32 hR (in32_getD hM _), hM, h0⟩
    · rw [if_neg hin]; exact ⟨rfl, hR, hM, by unfold In32; simp⟩
  rw [if_neg c7]
  by_cases c8 : m.op = 26 ∨ m.op = 27
  · rw [if_pos c8]
    generalize wrap32 _ = at'
    by_cases hin : 0 ≤ at' ∧ at' < (M.length : Int)
    · rw [if_pos hin]
      refine ⟨rfl, hR, hset _ _ _ hM ?_, h0⟩
      by_cases c9 : m.op = 26
      · rw [if_pos c9]; exact hB
      · rw [if_neg c9]; exact hC
    · rw [if_neg hin]; exact ⟨rfl, hR, hM, by unfold In32; simp⟩
  rw [if_neg c8]
  by_cases c10 : m.op = 29
  · rw [if_pos c10]; exact ⟨by rw [setR_len, setR_len], setR_32 (setR_32 hR (in32_wrap _)) (highI_32 _ _ hA hB), hM, h0⟩
  · rw [if_neg c10]; exact ⟨rfl, hR, hM, h0⟩

set_option maxHeartbeats 1000000 in
set_option maxRecDepth 100000 in
theorem plain_any (c : Cfg) (s : St) (cv : Value) (st : Int) (m : Mach) (av : Value) (w : World) (h : MRun c w s cv 0 0 st) (hi : Ints c.w0 av m.args) (hf : Fine m) (hav : ∀ q, av.ownBlock = some q → q < c.w0.heap.size) :
    Calls Try.prog 167 #[.agg #[], mv m av, MPtr c] w (DoQ c w cv st ((doM m s.regs s.mem).1, { s with regs := (doM m s.regs s.mem).2.1, mem := (doM m s.regs s.mem).2.2 })) := by
  have hsz := h.size
  have hsep : (∀ q, av.ownBlock = some q → q ≠ c.mb ∧ c.outm.ownBlock ≠ some q) ∧ c.outm.ownBlock ≠ some c.mb :=
    ⟨fun q hq => ⟨fun e => by have := hav q hq; have := h.new; omega, fun e => by have := hav q hq; have := (h.mown q e).1; omega⟩, fun e => (h.mown _ e).2.2.1 rfl⟩
  have hDO : ∀ w1, MRun c w1 s cv 0 0 st → Calls Try.prog 168 #[mv m av, .slice (some ⟨c.mb, 0, none⟩) 16 16, c.outm] w1 (fun e w' => e = .returned (.tuple #[.int .i32 ((doM m s.regs s.mem).1.getD 0), .bool (doM m s.regs s.mem).1.isNone]) ∧ MRun c w' { s with regs := (doM m s.regs s.mem).2.1, mem := (doM m s.regs s.mem).2.2 } cv 0 0 st ∧ Turn (Bz c cv) w1 w') := fun w1 h1 => by
    obtain ⟨ok1, ok2, ok3, _⟩ := doM_ok m s.regs s.mem hf h1.r32 h1.m32
    have hd := do7_any m av c.outm s.regs s.mem c.mb 16 _ _ w1 (hi.keep h1.old) hf h1.mat h1.r32 (by rw [h1.len]; decide) h1.mem hsep
    rw [h1.len] at hd
    refine hd.mono ?_
    rintro e w' ⟨rfl, hw', hm', t⟩
    refine ⟨rfl, h1.turn t (fun q hq => ?_) hw' (ok1.trans h1.len) ok2 (h1.slots.turn t fun q hq e => ?_) h1.s32 hm' ok3 rfl h1.few h1.most, t.mono fun q _ hq => .inl (hq.elim .inl fun h => .inr (.inr h))⟩
    · rcases hq with rfl | hq
      · exact ⟨h1.new, h1.lt⟩
      · exact ⟨(h1.mown q hq).1, (h1.mown q hq).2.1⟩
    · rcases e with rfl | e
      · exact (h1.sown _ hq).2.2 rfl
      · exact (h1.mown q e).2.2.2 hq
  have hval := (doM_ok m s.regs s.mem hf h.r32 h.m32).2.2.2
  have h23 : ∀ w1, MRun c w1 s cv 0 0 st → w1.cell? ⟨c.mb, 23, none⟩ = some c.outm := fun w1 h1 => h1.cellr 7
  have hf0 := h.few
  have hm0 := h.most
  obtain ⟨aa, ac, hav'⟩ := nums_lenI hi
  subst hav'
  unfold DoQ MPtr mv
  unfold mv at hDO
  generalize doM m s.regs s.mem = D at *
  obtain ⟨tr, R', M'⟩ := D
  dsimp only at hDO hval ⊢
  obtain ⟨ma, mc, hom, _⟩ := h.mem.shape
  rw [hom] at hDO h23
  have HDO := Lib.hid hDO; clear hDO
  have H := Lib.hid h; clear h
  have HV := Lib.hid hval; clear hval
  clear hsep hav hi hf
  go_enter Try.func167, Try.ntmps167
  go_wp2_with fail
  refine wp_region_phases [10] [0, 0, 0, 0, 0, 0, 0, 0, 0, 0, 0, 1, 1, 1, 1, 1] [0, 0, 0, 0, 0, 0, 0, 0, 0, 0, 0, 1, 1, 1, 1, 1] [0, 0, 0, 0, 0, 0, 0, 0, 0, 0, 1, 0, 0, 0, 0, 0] (fun p w1 => if p = 0 then BoxM c cv w w1 m (.slice aa m.args.length ac) ∧ MRun c w1 s cv 0 0 st else MRun c w1 { s with regs := R', mem := M' } cv 0 0 st ∧ Turn (Bz c cv) w w1) rfl (by decide +kernel) (by decide +kernel) (by decide +kernel)
    [Is (.agg #[.int .i64 m.op, .int .i64 m.d, .int .i64 m.e, .int .i64 m.a, .int .i64 m.b, .int .i64 m.c, .int .i32 m.imm, .slice aa m.args.length ac]), Is (.pointer (some ⟨c.mb, 0, none⟩)), Is (.pointer (some ⟨c.mb, 0, none⟩)), Is (.pointer (some ⟨c.mb, 0, none⟩)), Is (.slice (some ⟨c.mb, 0, none⟩) 16 16), Is (.pointer (some ⟨c.mb, 0, none⟩)), Is (.pointer (some ⟨c.mb, 0, none⟩)), Is (.pointer (some ⟨c.mb, 21, none⟩)), Is (.pointer (some ⟨c.mb, 23, none⟩)), Is (.slice ma s.mem.length mc), Is (.tuple #[.int .i32 (tr.getD 0), .bool tr.isNone]), Is (.tuple #[.int .i32 (tr.getD 0), .bool tr.isNone]), Is (.int .i32 (tr.getD 0)), Is (.bool tr.isNone), Is (.int .i32 (tr.getD 0)), Is (.bool tr.isNone)]
    (by repeat (first | exact trivial | refine ⟨Is.fixed _, ?_⟩ | refine ⟨Any.fixed, ?_⟩)) ⟨BoxM.new c cv w _ m (.slice aa m.args.length ac), H.out.keep (((Since.refl w).alloc _).alloc _).drew⟩ ⟨?_, ?_, ?_, ?_, ?_, ?_, ?_, ?_, ?_, ?_, ?_, ?_, ?_, ?_, ?_, ?_, trivial⟩ ?_
  rotate_right
  · intro vs w1 _ hph hk
    simp only [putAll, Act.put, KnowsAll, nthF, Is, List.setIfInBounds_toArray, List.set_cons_zero, List.set_cons_succ, Nat.reduceAdd, List.length_cons, List.length_nil] at hk ⊢
    try simp only [hk]
    have hm1 : MRun c w1 { s with regs := R', mem := M' } cv 0 0 st := hph.1
    have HT1 := Lib.hid (show Turn (Bz c cv) w w1 from hph.2)
    have hfz := hm1.mat.frozen
    have g5 : w1.cell? ⟨c.mb, 21, none⟩ = some (.int .i64 0) := hm1.cellr 5
    have g6 : w1.cell? ⟨c.mb, 22, none⟩ = some (.int .i32 0) := hm1.cellr 6
    have HM1 := Lib.hid hm1; clear hm1
    cases tr with
    | none =>
      dsimp only [Option.isNone, Option.getD]
      go_wp2
      go_ret
      exact ⟨rfl, ⟨cv, HM1.out⟩, HT1.out⟩
    | some t =>
      dsimp only [Option.isNone, Option.getD]
      go_wp2
      go_ret
      exact ⟨rfl, ⟨cv, (HM1.out.set1 5 _ rfl hf0 hm0).set1 6 _ rfl hf0 hm0⟩, (HT1.out.setCell (p := ⟨c.mb, 21, none⟩) (.inl (.inl rfl)) _).setCell (p := ⟨c.mb, 22, none⟩) (.inl (.inl rfl)) _⟩
  all_goals
    intro p vs w1 hlo hhi _ hph hk
    simp only [putAll, Act.put, Knows, nthF, Is, List.setIfInBounds_toArray, List.set_cons_zero, List.set_cons_succ, Nat.reduceAdd] at hk ⊢
    try simp only [hk]
  · obtain rfl : p = 0 := by omega
    have hm0 : BoxM c cv w w1 m (.slice aa m.args.length ac) ∧ _ := hph
    have hbx := hm0.1.2.1
    have hbs := hm0.1.1
    go_wp2
    exact ⟨_, rfl, rfl, trivial, hph⟩
  · go_wp2
    exact ⟨_, rfl, rfl, trivial, hph⟩
  · go_wp2
    exact ⟨_, rfl, rfl, trivial, hph⟩
  · go_wp2
    exact ⟨_, rfl, rfl, trivial, hph⟩
  · go_wp2
    exact ⟨_, rfl, rfl, trivial, hph⟩
  · go_wp2
    exact ⟨_, rfl, rfl, trivial, hph⟩
  · go_wp2
    exact ⟨_, rfl, rfl, trivial, hph⟩
  · go_wp2
    exact ⟨_, rfl, rfl, trivial, hph⟩
  · go_wp2
    exact ⟨_, rfl, rfl, trivial, hph⟩
  · obtain rfl : p = 0 := by omega
    have hm0 : BoxM c cv w w1 m (.slice aa m.args.length ac) ∧ _ := hph
    have hc := h23 w1 hm0.2
    go_wp2
    exact ⟨_, rfl, rfl, trivial, hph⟩
  · obtain rfl : p = 0 := by omega
    have hm0 : BoxM c cv w w1 m (.slice aa m.args.length ac) ∧ _ := hph
    have HC := Lib.hid (HDO.out w1 hm0.2)
    go_wp2_with fail
    refine HC.out.mono ?_
    rintro e w2 ⟨rfl, hw2, ht2⟩
    go_wp2
    exact ⟨_, rfl, rfl, trivial, hw2, hm0.1.2.2.trans ht2⟩
  · go_wp2
    exact ⟨_, rfl, rfl, trivial, hph⟩
  · go_wp2
    exact ⟨_, rfl, rfl, trivial, hph⟩
  · go_wp2
    exact ⟨_, rfl, rfl, trivial, hph⟩
  · go_wp2
    exact ⟨_, rfl, rfl, trivial, hph⟩
  · go_wp2
    exact ⟨_, rfl, rfl, trivial, hph⟩
end Go.Proofs.Ytkpbmbhejpmboaa
