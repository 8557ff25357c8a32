/- mach.Do: swaps, wide products, and operations with a number. mach.Do: all operations. -/
import Derived.Test.YtkpbmbhejpmboaaMachDo3
namespace Go.Proofs.Ytkpbmbhejpmboaa
open Go.RowKit
set_option linter.unusedVariables false

theorem setR_len (R : List Int) (i v : Int) : (setR R i v).length = R.length := by unfold setR; split <;> simp

set_option maxHeartbeats 1000000 in
set_option maxRecDepth 100000 in
theorem do7_2 (m : Mach) (av mv0 : Value) (R M : List Int) (rb rc : Nat) (rest : List Value) (T : TypeId) (w : World) (h : Ints w av m.args) (hf : Fine m) (hw : WAt w rb R rest T) (hR : ∀ x ∈ R, In32 x) (hl : R.length ≤ 1000) (hm : MemIs w mv0 M)
    (hsep : (∀ q, av.ownBlock = some q → q ≠ rb ∧ mv0.ownBlock ≠ some q) ∧ mv0.ownBlock ≠ some rb) (ho : m.op = 2) :
    Calls Try.prog 168 #[mv m av, .slice (some ⟨rb, 0, none⟩) R.length rc, mv0] w (DoneP none (setR (setR R m.a (getR R m.b)) m.b (getR R m.a)) M rb rest T mv0 w) := by
  have HGET := Lib.hid (fun r w h => get_any R rb rc rest T r w h (by omega))
  have HSET := Lib.hid (fun r v w bx h hx => set_any R rb rc bx rest T r v w h (by omega) hx)
  have HMK := Lib.hid (fun w h => makes7_any m av w h hf.2.2)
  have hA := getR_32 hR m.a
  have hB := getR_32 hR m.b
  have hC := getR_32 hR m.c
  obtain ⟨ma, mc, rfl, hml⟩ := hm.shape
  obtain ⟨aa, ac, hav⟩ := nums_lenI h
  subst hav
  have H := Lib.hid h
  have HW := Lib.hid hw
  have HM := Lib.hid hm
  have HSEP := Lib.hid hsep
  have HF := Lib.hid hf
  have HRB := Lib.hid hw.lt
  clear h hw hm hsep hf hR
  unfold mv at HMK
  unfold mv
  have HL := Lib.hid (show R.length ≤ 1000000 from by omega)
  have n1 : (m.op == 1) = false := beq_eq_false_iff_ne.2 (by omega)
  have y2 : (m.op == 2) = true := beq_iff_eq.2 (by omega)
  clear ho
  obtain ⟨hA1, hA2⟩ := hA
  obtain ⟨hB1, hB2⟩ := hB
  obtain ⟨hC1, hC2⟩ := hC
  go_enter Try.func168, Try.ntmps168
  go_wp2
  refine wp_region_list_facts rfl (by decide +kernel) (by decide +kernel)
    [Is (.slice (some ⟨rb, 0, none⟩) R.length rc), Is (.pointer (some ⟨w.heap.size, 3, none⟩)), Is (.int .i64 m.a), Is (.int .i32 (getR R m.a)), Is (.slice (some ⟨rb, 0, none⟩) R.length rc), Is (.pointer (some ⟨w.heap.size, 4, none⟩)), Is (.int .i64 m.b), Is (.int .i32 (getR R m.b)), Is (.slice (some ⟨rb, 0, none⟩) R.length rc), Is (.pointer (some ⟨w.heap.size, 5, none⟩)), Is (.int .i64 m.c), Is (.int .i32 (getR R m.c)), Is (.int .i32 (getR R m.a)), Is (.int .i32 (getR R m.b)), Is (.int .i32 (getR R m.c))]
    (by repeat (first | exact trivial | refine ⟨Is.stable _, ?_⟩ | refine ⟨IsNums.stable _ _, ?_⟩ | refine ⟨IsRows.stable _ _, ?_⟩)) ⟨?_, ?_, ?_, ?_, ?_, ?_, ?_, ?_, ?_, ?_, ?_, ?_, ?_, ?_, ?_, trivial⟩ ?_
  all_goals
    intro vs w1 hs hk
    have hbm : ∀ i, w1.cell? ⟨w.heap.size, i, none⟩ = _ := fun i => hs.cell (p := ⟨w.heap.size, i, none⟩) (by simp <;> omega)
    have hbr : ∀ i, w1.cell? ⟨w.heap.size + 1, i, none⟩ = _ := fun i => hs.cell (p := ⟨w.heap.size + 1, i, none⟩) (by simp)
    have HSZ := Lib.hid (show w.heap.size + 1 < w1.heap.size from by have := hs.size; simp at this; omega)
    have HS := Lib.hid (Since.trans (((Since.refl w).alloc _).alloc _) hs)
    clear hs
    simp only [putAll, Act.put, Knows, KnowsAll, nthF, Is, List.setIfInBounds_toArray, List.set_cons_zero, List.set_cons_succ, Nat.reduceAdd, List.length_cons, List.length_nil] at hk ⊢
    try simp only [hk]
  · go_wp2
    exact ⟨_, rfl, rfl, Since.refl _⟩
  · go_wp2
    exact ⟨_, rfl, rfl, Since.refl _⟩
  · go_wp2
    exact ⟨_, rfl, rfl, Since.refl _⟩
  · go_wp2_with fail
    refine (HGET.out _ w1 (HW.out.keep HS.out)).mono ?_
    rintro e w2 ⟨rfl, rfl⟩
    go_wp2
    exact ⟨_, rfl, rfl, Since.refl _⟩
  · go_wp2
    exact ⟨_, rfl, rfl, Since.refl _⟩
  · go_wp2
    exact ⟨_, rfl, rfl, Since.refl _⟩
  · go_wp2
    exact ⟨_, rfl, rfl, Since.refl _⟩
  · go_wp2_with fail
    refine (HGET.out _ w1 (HW.out.keep HS.out)).mono ?_
    rintro e w2 ⟨rfl, rfl⟩
    go_wp2
    exact ⟨_, rfl, rfl, Since.refl _⟩
  · go_wp2
    exact ⟨_, rfl, rfl, Since.refl _⟩
  · go_wp2
    exact ⟨_, rfl, rfl, Since.refl _⟩
  · go_wp2
    exact ⟨_, rfl, rfl, Since.refl _⟩
  · go_wp2_with fail
    refine (HGET.out _ w1 (HW.out.keep HS.out)).mono ?_
    rintro e w2 ⟨rfl, rfl⟩
    go_wp2
    exact ⟨_, rfl, rfl, Since.refl _⟩
  · go_wp2
    exact ⟨_, rfl, rfl, Since.refl _⟩
  · go_wp2
    exact ⟨_, rfl, rfl, Since.refl _⟩
  · go_wp2
    exact ⟨_, rfl, rfl, Since.refl _⟩
  · have HBM := Lib.hid hbm
    have HBR := Lib.hid hbr
    clear hk
    generalize getR R m.a = A at *
    generalize getR R m.b = B at *
    generalize getR R m.c = C at *
    have HT1 := Lib.hid (Turn.refl (fun k => k = rb) w1)
    have HBR1 := HBR
    go_wp2_with fail
    refine (set_any R rb rc (w.heap.size + 1) rest T m.a B _ (HW.out.keep HS.out) (by first | exact HL.out | (rw [setR_len]; exact HL.out) | (rw [setR_len, setR_len]; exact HL.out)) ((HBR1.out 0).trans (by first | exact cell_last2 _ _ _ _ | (rw [setR_len]; exact cell_last2 _ _ _ _)))).mono ?_
    rintro e2 w2 ⟨rfl, hw2⟩
    have hat2 := setW_at (HW.out.keep HS.out) m.a B
    rw [← hw2] at hat2
    have ht2 : Turn (fun k => k = rb) w1 w2 := HT1.out.trans (by rw [hw2]; exact setW_turn (S := fun k => k = rb) rfl _ _ _)
    have hbm2 : ∀ i, w2.cell? ⟨w.heap.size, i, none⟩ = _ := fun i => (ht2.cell (p := ⟨w.heap.size, i, none⟩) (Nat.lt_of_succ_lt HSZ.out) (fun e => by have := HRB.out; have e' : w.heap.size = rb := e; omega)).trans (HBM.out i)
    have hbr2 : ∀ i, w2.cell? ⟨w.heap.size + 1, i, none⟩ = _ := fun i => (ht2.cell (p := ⟨w.heap.size + 1, i, none⟩) HSZ.out (fun e => by have := HRB.out; have e' : w.heap.size + 1 = rb := e; omega)).trans (HBR.out i)
    have HT2 := Lib.hid ht2
    have HBR2 := Lib.hid hbr2
    have HAT2 := Lib.hid hat2
    clear ht2 hat2 hw2 hbm hbr
    go_wp2_with fail
    refine (set_any (setR R m.a B) rb rc (w.heap.size + 1) rest T m.b A _ HAT2.out (by first | exact HL.out | (rw [setR_len]; exact HL.out) | (rw [setR_len, setR_len]; exact HL.out)) ((HBR2.out 0).trans (by first | exact cell_last2 _ _ _ _ | (rw [setR_len]; exact cell_last2 _ _ _ _)))).mono ?_
    rintro e3 w3 ⟨rfl, hw3⟩
    have hat3 := setW_at HAT2.out m.b A
    rw [← hw3] at hat3
    have ht3 : Turn (fun k => k = rb) w1 w3 := HT2.out.trans (by rw [hw3]; exact setW_turn (S := fun k => k = rb) rfl _ _ _)
    have hbm3 : ∀ i, w3.cell? ⟨w.heap.size, i, none⟩ = _ := fun i => (ht3.cell (p := ⟨w.heap.size, i, none⟩) (Nat.lt_of_succ_lt HSZ.out) (fun e => by have := HRB.out; have e' : w.heap.size = rb := e; omega)).trans (HBM.out i)
    have hbr3 : ∀ i, w3.cell? ⟨w.heap.size + 1, i, none⟩ = _ := fun i => (ht3.cell (p := ⟨w.heap.size + 1, i, none⟩) HSZ.out (fun e => by have := HRB.out; have e' : w.heap.size + 1 = rb := e; omega)).trans (HBR.out i)
    have HT3 := Lib.hid ht3
    have HBR3 := Lib.hid hbr3
    have HAT3 := Lib.hid hat3
    clear ht3 hat3 hw3 hbm2 hbr2
    go_wp2
    go_ret2
    exact ⟨rfl, HAT3.out, (HM.out.keep HS.out).turn HT3.out (fun q hq e => HSEP.out.2 (by rw [hq, e])), (Turn.since HS.out).trans (HT3.out.mono fun _ _ h => .inl h)⟩


set_option maxHeartbeats 1000000 in
set_option maxRecDepth 100000 in
theorem do7_29 (m : Mach) (av mv0 : Value) (R M : List Int) (rb rc : Nat) (rest : List Value) (T : TypeId) (w : World) (h : Ints w av m.args) (hf : Fine m) (hw : WAt w rb R rest T) (hR : ∀ x ∈ R, In32 x) (hl : R.length ≤ 1000) (hm : MemIs w mv0 M)
    (hsep : (∀ q, av.ownBlock = some q → q ≠ rb ∧ mv0.ownBlock ≠ some q) ∧ mv0.ownBlock ≠ some rb) (ho : m.op = 29) :
    Calls Try.prog 168 #[mv m av, .slice (some ⟨rb, 0, none⟩) R.length rc, mv0] w (DoneP none (setR (setR R m.d (lowI (getR R m.a) (getR R m.b))) m.e (highI (getR R m.a) (getR R m.b))) M rb rest T mv0 w) := by
  have HGET := Lib.hid (fun r w h => get_any R rb rc rest T r w h (by omega))
  have HSET := Lib.hid (fun r v w bx h hx => set_any R rb rc bx rest T r v w h (by omega) hx)
  have HMK := Lib.hid (fun w h => makes7_any m av w h hf.2.2)
  have hA := getR_32 hR m.a
  have hB := getR_32 hR m.b
  have hC := getR_32 hR m.c
  obtain ⟨ma, mc, rfl, hml⟩ := hm.shape
  obtain ⟨aa, ac, hav⟩ := nums_lenI h
  subst hav
  have H := Lib.hid h
  have HW := Lib.hid hw
  have HM := Lib.hid hm
  have HSEP := Lib.hid hsep
  have HF := Lib.hid hf
  have HRB := Lib.hid hw.lt
  clear h hw hm hsep hf hR
  unfold mv at HMK
  unfold mv
  have HL := Lib.hid (show R.length ≤ 1000000 from by omega)
  have n1 : (m.op == 1) = false := beq_eq_false_iff_ne.2 (by omega)
  have n2 : (m.op == 2) = false := beq_eq_false_iff_ne.2 (by omega)
  have n3 : (m.op == 3) = false := beq_eq_false_iff_ne.2 (by omega)
  have n4 : (m.op == 4) = false := beq_eq_false_iff_ne.2 (by omega)
  have n23 : (m.op == 23) = false := beq_eq_false_iff_ne.2 (by omega)
  have n24 : (m.op == 24) = false := beq_eq_false_iff_ne.2 (by omega)
  have n25 : (m.op == 25) = false := beq_eq_false_iff_ne.2 (by omega)
  have n26 : (m.op == 26) = false := beq_eq_false_iff_ne.2 (by omega)
  have n27 : (m.op == 27) = false := beq_eq_false_iff_ne.2 (by omega)
  have y29 : (m.op == 29) = true := beq_iff_eq.2 (by omega)
  have g1 : ¬ m.op ≤ 17 := by omega
  have g2 : ¬ m.op ≤ 22 := by omega
  have g3 : 18 ≤ m.op := by omega
  have g4 : 5 ≤ m.op := by omega
  clear ho
  obtain ⟨hA1, hA2⟩ := hA
  obtain ⟨hB1, hB2⟩ := hB
  obtain ⟨hC1, hC2⟩ := hC
  go_enter Try.func168, Try.ntmps168
  go_wp2
  refine wp_region_list_facts rfl (by decide +kernel) (by decide +kernel)
    [Is (.slice (some ⟨rb, 0, none⟩) R.length rc), Is (.pointer (some ⟨w.heap.size, 3, none⟩)), Is (.int .i64 m.a), Is (.int .i32 (getR R m.a)), Is (.slice (some ⟨rb, 0, none⟩) R.length rc), Is (.pointer (some ⟨w.heap.size, 4, none⟩)), Is (.int .i64 m.b), Is (.int .i32 (getR R m.b)), Is (.slice (some ⟨rb, 0, none⟩) R.length rc), Is (.pointer (some ⟨w.heap.size, 5, none⟩)), Is (.int .i64 m.c), Is (.int .i32 (getR R m.c)), Is (.int .i32 (getR R m.a)), Is (.int .i32 (getR R m.b)), Is (.int .i32 (getR R m.c))]
    (by repeat (first | exact trivial | refine ⟨Is.stable _, ?_⟩ | refine ⟨IsNums.stable _ _, ?_⟩ | refine ⟨IsRows.stable _ _, ?_⟩)) ⟨?_, ?_, ?_, ?_, ?_, ?_, ?_, ?_, ?_, ?_, ?_, ?_, ?_, ?_, ?_, trivial⟩ ?_
  all_goals
    intro vs w1 hs hk
    have hbm : ∀ i, w1.cell? ⟨w.heap.size, i, none⟩ = _ := fun i => hs.cell (p := ⟨w.heap.size, i, none⟩) (by simp <;> omega)
    have hbr : ∀ i, w1.cell? ⟨w.heap.size + 1, i, none⟩ = _ := fun i => hs.cell (p := ⟨w.heap.size + 1, i, none⟩) (by simp)
    have HSZ := Lib.hid (show w.heap.size + 1 < w1.heap.size from by have := hs.size; simp at this; omega)
    have HS := Lib.hid (Since.trans (((Since.refl w).alloc _).alloc _) hs)
    clear hs
    simp only [putAll, Act.put, Knows, KnowsAll, nthF, Is, List.setIfInBounds_toArray, List.set_cons_zero, List.set_cons_succ, Nat.reduceAdd, List.length_cons, List.length_nil] at hk ⊢
    try simp only [hk]
  · go_wp2
    exact ⟨_, rfl, rfl, Since.refl _⟩
  · go_wp2
    exact ⟨_, rfl, rfl, Since.refl _⟩
  · go_wp2
    exact ⟨_, rfl, rfl, Since.refl _⟩
  · go_wp2_with fail
    refine (HGET.out _ w1 (HW.out.keep HS.out)).mono ?_
    rintro e w2 ⟨rfl, rfl⟩
    go_wp2
    exact ⟨_, rfl, rfl, Since.refl _⟩
  · go_wp2
    exact ⟨_, rfl, rfl, Since.refl _⟩
  · go_wp2
    exact ⟨_, rfl, rfl, Since.refl _⟩
  · go_wp2
    exact ⟨_, rfl, rfl, Since.refl _⟩
  · go_wp2_with fail
    refine (HGET.out _ w1 (HW.out.keep HS.out)).mono ?_
    rintro e w2 ⟨rfl, rfl⟩
    go_wp2
    exact ⟨_, rfl, rfl, Since.refl _⟩
  · go_wp2
    exact ⟨_, rfl, rfl, Since.refl _⟩
  · go_wp2
    exact ⟨_, rfl, rfl, Since.refl _⟩
  · go_wp2
    exact ⟨_, rfl, rfl, Since.refl _⟩
  · go_wp2_with fail
    refine (HGET.out _ w1 (HW.out.keep HS.out)).mono ?_
    rintro e w2 ⟨rfl, rfl⟩
    go_wp2
    exact ⟨_, rfl, rfl, Since.refl _⟩
  · go_wp2
    exact ⟨_, rfl, rfl, Since.refl _⟩
  · go_wp2
    exact ⟨_, rfl, rfl, Since.refl _⟩
  · go_wp2
    exact ⟨_, rfl, rfl, Since.refl _⟩
  · have HBM := Lib.hid hbm
    have HBR := Lib.hid hbr
    clear hk
    generalize getR R m.a = A at *
    generalize getR R m.b = B at *
    generalize getR R m.c = C at *
    have HT1 := Lib.hid (Turn.refl (fun k => k = rb) w1)
    have HBR1 := HBR
    go_wp2_with fail
    refine (wide_any A B _ hA1 hA2 hB1 hB2).mono ?_
    rintro e9 w9 ⟨rfl, rfl⟩
    generalize lowI A B = lo at *
    generalize highI A B = hi at *
    go_wp2_with fail
    refine (set_any R rb rc (w.heap.size + 1) rest T m.d lo _ (HW.out.keep HS.out) (by first | exact HL.out | (rw [setR_len]; exact HL.out) | (rw [setR_len, setR_len]; exact HL.out)) ((HBR1.out 0).trans (by first | exact cell_last2 _ _ _ _ | (rw [setR_len]; exact cell_last2 _ _ _ _)))).mono ?_
    rintro e2 w2 ⟨rfl, hw2⟩
    have hat2 := setW_at (HW.out.keep HS.out) m.d lo
    rw [← hw2] at hat2
    have ht2 : Turn (fun k => k = rb) w1 w2 := HT1.out.trans (by rw [hw2]; exact setW_turn (S := fun k => k = rb) rfl _ _ _)
    have hbm2 : ∀ i, w2.cell? ⟨w.heap.size, i, none⟩ = _ := fun i => (ht2.cell (p := ⟨w.heap.size, i, none⟩) (Nat.lt_of_succ_lt HSZ.out) (fun e => by have := HRB.out; have e' : w.heap.size = rb := e; omega)).trans (HBM.out i)
    have hbr2 : ∀ i, w2.cell? ⟨w.heap.size + 1, i, none⟩ = _ := fun i => (ht2.cell (p := ⟨w.heap.size + 1, i, none⟩) HSZ.out (fun e => by have := HRB.out; have e' : w.heap.size + 1 = rb := e; omega)).trans (HBR.out i)
    have HT2 := Lib.hid ht2
    have HBR2 := Lib.hid hbr2
    have HAT2 := Lib.hid hat2
    clear ht2 hat2 hw2 hbm hbr
    go_wp2_with fail
    refine (set_any (setR R m.d lo) rb rc (w.heap.size + 1) rest T m.e hi _ HAT2.out (by first | exact HL.out | (rw [setR_len]; exact HL.out) | (rw [setR_len, setR_len]; exact HL.out)) ((HBR2.out 0).trans (by first | exact cell_last2 _ _ _ _ | (rw [setR_len]; exact cell_last2 _ _ _ _)))).mono ?_
    rintro e3 w3 ⟨rfl, hw3⟩
    have hat3 := setW_at HAT2.out m.e hi
    rw [← hw3] at hat3
    have ht3 : Turn (fun k => k = rb) w1 w3 := HT2.out.trans (by rw [hw3]; exact setW_turn (S := fun k => k = rb) rfl _ _ _)
    have hbm3 : ∀ i, w3.cell? ⟨w.heap.size, i, none⟩ = _ := fun i => (ht3.cell (p := ⟨w.heap.size, i, none⟩) (Nat.lt_of_succ_lt HSZ.out) (fun e => by have := HRB.out; have e' : w.heap.size = rb := e; omega)).trans (HBM.out i)
    have hbr3 : ∀ i, w3.cell? ⟨w.heap.size + 1, i, none⟩ = _ := fun i => (ht3.cell (p := ⟨w.heap.size + 1, i, none⟩) HSZ.out (fun e => by have := HRB.out; have e' : w.heap.size + 1 = rb := e; omega)).trans (HBR.out i)
    have HT3 := Lib.hid ht3
    have HBR3 := Lib.hid hbr3
    have HAT3 := Lib.hid hat3
    clear ht3 hat3 hw3 hbm2 hbr2
    go_wp2
    go_ret2
    exact ⟨rfl, HAT3.out, (HM.out.keep HS.out).turn HT3.out (fun q hq e => HSEP.out.2 (by rw [hq, e])), (Turn.since HS.out).trans (HT3.out.mono fun _ _ h => .inl h)⟩


set_option maxHeartbeats 1000000 in
set_option maxRecDepth 100000 in
theorem do7_18 (xd xe xa xb xc ximm : Int) (xargs : List Int) (av mv0 : Value) (R M : List Int) (rb rc : Nat) (rest : List Value) (T : TypeId) (w : World) (h : Ints w av xargs) (hf : Fine ⟨18, xd, xe, xa, xb, xc, ximm, xargs⟩) (hw : WAt w rb R rest T) (hR : ∀ x ∈ R, In32 x) (hl : R.length ≤ 1000) (hm : MemIs w mv0 M)
    (hsep : (∀ q, av.ownBlock = some q → q ≠ rb ∧ mv0.ownBlock ≠ some q) ∧ mv0.ownBlock ≠ some rb)  :
    Calls Try.prog 168 #[mv ⟨18, xd, xe, xa, xb, xc, ximm, xargs⟩ av, .slice (some ⟨rb, 0, none⟩) R.length rc, mv0] w (DoneP none (setR R xd ((doI 2 (getR R xa) ximm).getD 0)) M rb rest T mv0 w) := by
  have HGET := Lib.hid (fun r w h => get_any R rb rc rest T r w h (by omega))
  have HSET := Lib.hid (fun r v w bx h hx => set_any R rb rc bx rest T r v w h (by omega) hx)
  have HMK := Lib.hid (fun w h => makes7_any ⟨18, xd, xe, xa, xb, xc, ximm, xargs⟩ av w h hf.2.2)
  have hA := getR_32 hR xa
  have hB := getR_32 hR xb
  have hC := getR_32 hR xc
  obtain ⟨ma, mc, rfl, hml⟩ := hm.shape
  obtain ⟨aa, ac, hav⟩ := nums_lenI h
  subst hav
  have H := Lib.hid h
  have HW := Lib.hid hw
  have HM := Lib.hid hm
  have HSEP := Lib.hid hsep
  have HF := Lib.hid hf
  have HRB := Lib.hid hw.lt
  clear h hw hm hsep hf hR
  unfold mv at HMK
  unfold mv
  have HMAKES := Lib.hid (show makes7 ⟨18, xd, xe, xa, xb, xc, ximm, xargs⟩ = [xd] from rfl)
  obtain ⟨hA1, hA2⟩ := hA
  obtain ⟨hB1, hB2⟩ := hB
  obtain ⟨hC1, hC2⟩ := hC
  go_enter Try.func168, Try.ntmps168
  go_wp2
  refine wp_region_list_facts rfl (by decide +kernel) (by decide +kernel)
    [Is (.slice (some ⟨rb, 0, none⟩) R.length rc), Is (.pointer (some ⟨w.heap.size, 3, none⟩)), Is (.int .i64 xa), Is (.int .i32 (getR R xa)), Is (.slice (some ⟨rb, 0, none⟩) R.length rc), Is (.pointer (some ⟨w.heap.size, 4, none⟩)), Is (.int .i64 xb), Is (.int .i32 (getR R xb)), Is (.slice (some ⟨rb, 0, none⟩) R.length rc), Is (.pointer (some ⟨w.heap.size, 5, none⟩)), Is (.int .i64 xc), Is (.int .i32 (getR R xc)), Is (.int .i32 (getR R xa)), Is (.int .i32 (getR R xb)), Is (.int .i32 (getR R xc))]
    (by repeat (first | exact trivial | refine ⟨Is.stable _, ?_⟩ | refine ⟨IsNums.stable _ _, ?_⟩ | refine ⟨IsRows.stable _ _, ?_⟩)) ⟨?_, ?_, ?_, ?_, ?_, ?_, ?_, ?_, ?_, ?_, ?_, ?_, ?_, ?_, ?_, trivial⟩ ?_
  all_goals
    intro vs w1 hs hk
    have hbm : ∀ i, w1.cell? ⟨w.heap.size, i, none⟩ = _ := fun i => hs.cell (p := ⟨w.heap.size, i, none⟩) (by simp <;> omega)
    have hbr : ∀ i, w1.cell? ⟨w.heap.size + 1, i, none⟩ = _ := fun i => hs.cell (p := ⟨w.heap.size + 1, i, none⟩) (by simp)
    have HSZ := Lib.hid (show w.heap.size + 1 < w1.heap.size from by have := hs.size; simp at this; omega)
    have HS := Lib.hid (Since.trans (((Since.refl w).alloc _).alloc _) hs)
    clear hs
    simp only [putAll, Act.put, Knows, KnowsAll, nthF, Is, List.setIfInBounds_toArray, List.set_cons_zero, List.set_cons_succ, Nat.reduceAdd, List.length_cons, List.length_nil] at hk ⊢
    try simp only [hk]
  · go_wp2
    exact ⟨_, rfl, rfl, Since.refl _⟩
  · go_wp2
    exact ⟨_, rfl, rfl, Since.refl _⟩
  · go_wp2
    exact ⟨_, rfl, rfl, Since.refl _⟩
  · go_wp2_with fail
    refine (HGET.out _ w1 (HW.out.keep HS.out)).mono ?_
    rintro e w2 ⟨rfl, rfl⟩
    go_wp2
    exact ⟨_, rfl, rfl, Since.refl _⟩
  · go_wp2
    exact ⟨_, rfl, rfl, Since.refl _⟩
  · go_wp2
    exact ⟨_, rfl, rfl, Since.refl _⟩
  · go_wp2
    exact ⟨_, rfl, rfl, Since.refl _⟩
  · go_wp2_with fail
    refine (HGET.out _ w1 (HW.out.keep HS.out)).mono ?_
    rintro e w2 ⟨rfl, rfl⟩
    go_wp2
    exact ⟨_, rfl, rfl, Since.refl _⟩
  · go_wp2
    exact ⟨_, rfl, rfl, Since.refl _⟩
  · go_wp2
    exact ⟨_, rfl, rfl, Since.refl _⟩
  · go_wp2
    exact ⟨_, rfl, rfl, Since.refl _⟩
  · go_wp2_with fail
    refine (HGET.out _ w1 (HW.out.keep HS.out)).mono ?_
    rintro e w2 ⟨rfl, rfl⟩
    go_wp2
    exact ⟨_, rfl, rfl, Since.refl _⟩
  · go_wp2
    exact ⟨_, rfl, rfl, Since.refl _⟩
  · go_wp2
    exact ⟨_, rfl, rfl, Since.refl _⟩
  · go_wp2
    exact ⟨_, rfl, rfl, Since.refl _⟩
  · have HBM := Lib.hid hbm
    have HBR := Lib.hid hbr
    clear hk
    generalize getR R xa = A at *
    generalize getR R xb = B at *
    generalize getR R xc = C at *
    have hdo := fun w => do_any 2 A ximm w hA1 hA2 HF.out.1 HF.out.2.1
    generalize doI 2 A ximm = V at *
    have HDO := Lib.hid hdo
    clear hdo
    have hix : ∀ w, (Instr.index 162 (.agg #[.int .i64 2, .int .i64 5, .int .i64 8, .int .i64 9, .int .i64 10]) (.int .i64 0)).run Try.prog w = .ok (.int .i64 2) w := fun _ => by kernel_rfl
    go_wp2
    refine wp_region_list_facts rfl (by decide +kernel) (by decide +kernel)
      [Is (.agg #[.int .i64 2, .int .i64 5, .int .i64 8, .int .i64 9, .int .i64 10]), Is (.pointer (some ⟨w.heap.size, 0, none⟩)), Is (.int .i64 18), Is (.int .i64 0), Is (.int .i64 2), Is (.int .i32 A), Is (.pointer (some ⟨w.heap.size, 6, none⟩)), Is (.int .i32 ximm), Is (.tuple #[.int .i32 (V.getD 0), .bool V.isSome]), Is (.tuple #[.int .i32 (V.getD 0), .bool V.isSome]), Is (.int .i32 (V.getD 0)), Is (.bool V.isSome), Is (.int .i32 (V.getD 0))]
      (by repeat (first | exact trivial | refine ⟨Is.stable _, ?_⟩ | refine ⟨IsNums.stable _ _, ?_⟩ | refine ⟨IsRows.stable _ _, ?_⟩)) ⟨?_, ?_, ?_, ?_, ?_, ?_, ?_, ?_, ?_, ?_, ?_, ?_, ?_, trivial⟩ ?_
    all_goals
      intro vs w2 hs hk
      have hbm2 : ∀ i, w2.cell? ⟨w.heap.size, i, none⟩ = _ := fun i => (hs.cell (p := ⟨w.heap.size, i, none⟩) (Nat.lt_of_succ_lt HSZ.out)).trans (HBM.out i)
      have HS2 := Lib.hid hs
      clear hs
      simp only [putAll, Act.put, Knows, KnowsAll, nthF, Is, List.setIfInBounds_toArray, List.set_cons_zero, List.set_cons_succ, Nat.reduceAdd, List.length_cons, List.length_nil] at hk ⊢
      try simp only [hk]
    · go_wp2
      exact ⟨_, rfl, rfl, Since.refl _⟩
    · go_wp2
      exact ⟨_, rfl, rfl, Since.refl _⟩
    · go_wp2
      exact ⟨_, rfl, rfl, Since.refl _⟩
    · go_wp2
      exact ⟨_, rfl, rfl, Since.refl _⟩
    · go_wp2
      exact ⟨_, rfl, rfl, Since.refl _⟩
    · go_wp2
      exact ⟨_, rfl, rfl, Since.refl _⟩
    · go_wp2
      exact ⟨_, rfl, rfl, Since.refl _⟩
    · go_wp2
      exact ⟨_, rfl, rfl, Since.refl _⟩
    · go_wp2_with fail
      refine (HDO.out w2).mono ?_
      rintro e3 w3 ⟨rfl, hs3⟩
      go_wp2
      exact ⟨_, rfl, rfl, hs3⟩
    · go_wp2
      exact ⟨_, rfl, rfl, Since.refl _⟩
    · go_wp2
      exact ⟨_, rfl, rfl, Since.refl _⟩
    · go_wp2
      exact ⟨_, rfl, rfl, Since.refl _⟩
    · go_wp2
      exact ⟨_, rfl, rfl, Since.refl _⟩
    · have hs2 := HS2.out
      clear hbm2 hk
      have hbm2 : ∀ i, w2.cell? ⟨w.heap.size, i, none⟩ = _ := fun i => (hs2.cell (p := ⟨w.heap.size, i, none⟩) (Nat.lt_of_succ_lt HSZ.out)).trans (HBM.out i)
      have hbr2 : ∀ i, w2.cell? ⟨w.heap.size + 1, i, none⟩ = _ := fun i => (hs2.cell (p := ⟨w.heap.size + 1, i, none⟩) HSZ.out).trans (HBR.out i)
      have HBM0 := HBM
      have HBR0 := HBR
      have HSZ0 := HSZ
      have HS0 := HS
      clear hbm hbr HBM HBR
      have HBM := Lib.hid hbm2
      have HBR := Lib.hid hbr2
      have HSZ := Lib.hid (Nat.lt_of_lt_of_le HSZ0.out hs2.size)
      have HS := Lib.hid (HS0.out.trans hs2)
      have hbm := hbm2
      have hbr := hbr2
      clear hbm2 hbr2 HBM0 HBR0 HSZ0 HS0 hs2
      go_wp2_with fail
      refine (HMK.out _ (H.out.keep HS.out)).mono ?_
      rw [HMAKES.out]
      rintro e5 w5 ⟨v5, rfl, hv5, hs5⟩
      obtain ⟨ka, kc, rfl⟩ := nums_lenI hv5
      obtain ⟨_, hcc⟩ := nums_cell hv5
      obtain ⟨kb, ko, rfl, _, hcell⟩ := hcc (by simp)
      have hk0 : w5.cell? ⟨kb, ko, none⟩ = some (.int .i64 xd) := hcell 0 _ rfl
      have HS5 := Lib.hid (HS.out.trans hs5)
      have hbr5 : w5.cell? ⟨w.heap.size + 1, 0, none⟩ = _ := (hs5.cell (p := ⟨w.heap.size + 1, 0, none⟩) HSZ.out).trans (HBR.out 0)
      have hcl := HSET.out xd (V.getD 0) w5 (w.heap.size + 1) (HW.out.keep HS5.out) (hbr5.trans (cell_last2 _ _ _ _))
      have HCL := Lib.hid hcl
      clear hcc hcell hv5 hs5 hbr5 hbm hbr hcl
      go_wp2
      go_loopw [189] (fun i wr => ∃ t : Nat, i = .int .i64 t ∧ (t = 0 ∧ wr = w5 ∨ t = 1 ∧ wr = setW w5 rb R xd (V.getD 0))) (fun i _ => 1 - (intOf i).toNat)
      case atStart => exact ⟨0, rfl, .inl ⟨rfl, rfl⟩⟩
      case round =>
        obtain ⟨t, rfl, ⟨rfl, rfl⟩ | ⟨rfl, hwr⟩⟩ := hrel
        · go_wp2_with fail
          refine HCL.out.mono ?_
          rintro e6 w6 ⟨rfl, hw6⟩
          have HW6 := Lib.hid hw6
          clear hw6
          go_wp2
          go_roundw
          case rel => exact ⟨1, rfl, .inr ⟨rfl, HW6.out⟩⟩
          case measure => simp [intOf]
        · have HWR := Lib.hid hwr
          clear hwr hk0
          go_wp2
          go_ret2
          exact ⟨rfl, by rw [HWR.out]; exact setW_at (HW.out.keep HS5.out) _ _, by rw [HWR.out]; exact (HM.out.keep HS5.out).turn (setW_turn (S := fun k => k = rb) rfl _ _ _) (fun q hq e => HSEP.out.2 (by rw [hq, e])), by rw [HWR.out]; exact (Turn.since HS5.out).trans (setW_turn (S := fun k => k = rb ∨ _) (.inl rfl) _ _ _)⟩


set_option maxHeartbeats 1000000 in
set_option maxRecDepth 100000 in
theorem do7_19 (xd xe xa xb xc ximm : Int) (xargs : List Int) (av mv0 : Value) (R M : List Int) (rb rc : Nat) (rest : List Value) (T : TypeId) (w : World) (h : Ints w av xargs) (hf : Fine ⟨19, xd, xe, xa, xb, xc, ximm, xargs⟩) (hw : WAt w rb R rest T) (hR : ∀ x ∈ R, In32 x) (hl : R.length ≤ 1000) (hm : MemIs w mv0 M)
    (hsep : (∀ q, av.ownBlock = some q → q ≠ rb ∧ mv0.ownBlock ≠ some q) ∧ mv0.ownBlock ≠ some rb)  :
    Calls Try.prog 168 #[mv ⟨19, xd, xe, xa, xb, xc, ximm, xargs⟩ av, .slice (some ⟨rb, 0, none⟩) R.length rc, mv0] w (DoneP none (setR R xd ((doI 5 (getR R xa) ximm).getD 0)) M rb rest T mv0 w) := by
  have HGET := Lib.hid (fun r w h => get_any R rb rc rest T r w h (by omega))
  have HSET := Lib.hid (fun r v w bx h hx => set_any R rb rc bx rest T r v w h (by omega) hx)
  have HMK := Lib.hid (fun w h => makes7_any ⟨19, xd, xe, xa, xb, xc, ximm, xargs⟩ av w h hf.2.2)
  have hA := getR_32 hR xa
  have hB := getR_32 hR xb
  have hC := getR_32 hR xc
  obtain ⟨ma, mc, rfl, hml⟩ := hm.shape
  obtain ⟨aa, ac, hav⟩ := nums_lenI h
  subst hav
  have H := Lib.hid h
  have HW := Lib.hid hw
  have HM := Lib.hid hm
  have HSEP := Lib.hid hsep
  have HF := Lib.hid hf
  have HRB := Lib.hid hw.lt
  clear h hw hm hsep hf hR
  unfold mv at HMK
  unfold mv
  have HMAKES := Lib.hid (show makes7 ⟨19, xd, xe, xa, xb, xc, ximm, xargs⟩ = [xd] from rfl)
  obtain ⟨hA1, hA2⟩ := hA
  obtain ⟨hB1, hB2⟩ := hB
  obtain ⟨hC1, hC2⟩ := hC
  go_enter Try.func168, Try.ntmps168
  go_wp2
  refine wp_region_list_facts rfl (by decide +kernel) (by decide +kernel)
    [Is (.slice (some ⟨rb, 0, none⟩) R.length rc), Is (.pointer (some ⟨w.heap.size, 3, none⟩)), Is (.int .i64 xa), Is (.int .i32 (getR R xa)), Is (.slice (some ⟨rb, 0, none⟩) R.length rc), Is (.pointer (some ⟨w.heap.size, 4, none⟩)), Is (.int .i64 xb), Is (.int .i32 (getR R xb)), Is (.slice (some ⟨rb, 0, none⟩) R.length rc), Is (.pointer (some ⟨w.heap.size, 5, none⟩)), Is (.int .i64 xc), Is (.int .i32 (getR R xc)), Is (.int .i32 (getR R xa)), Is (.int .i32 (getR R xb)), Is (.int .i32 (getR R xc))]
    (by repeat (first | exact trivial | refine ⟨Is.stable _, ?_⟩ | refine ⟨IsNums.stable _ _, ?_⟩ | refine ⟨IsRows.stable _ _, ?_⟩)) ⟨?_, ?_, ?_, ?_, ?_, ?_, ?_, ?_, ?_, ?_, ?_, ?_, ?_, ?_, ?_, trivial⟩ ?_
  all_goals
    intro vs w1 hs hk
    have hbm : ∀ i, w1.cell? ⟨w.heap.size, i, none⟩ = _ := fun i => hs.cell (p := ⟨w.heap.size, i, none⟩) (by simp <;> omega)
    have hbr : ∀ i, w1.cell? ⟨w.heap.size + 1, i, none⟩ = _ := fun i => hs.cell (p := ⟨w.heap.size + 1, i, none⟩) (by simp)
    have HSZ := Lib.hid (show w.heap.size + 1 < w1.heap.size from by have := hs.size; simp at this; omega)
    have HS := Lib.hid (Since.trans (((Since.refl w).alloc _).alloc _) hs)
    clear hs
    simp only [putAll, Act.put, Knows, KnowsAll, nthF, Is, List.setIfInBounds_toArray, List.set_cons_zero, List.set_cons_succ, Nat.reduceAdd, List.length_cons, List.length_nil] at hk ⊢
    try simp only [hk]
  · go_wp2
    exact ⟨_, rfl, rfl, Since.refl _⟩
  · go_wp2
    exact ⟨_, rfl, rfl, Since.refl _⟩
  · go_wp2
    exact ⟨_, rfl, rfl, Since.refl _⟩
  · go_wp2_with fail
    refine (HGET.out _ w1 (HW.out.keep HS.out)).mono ?_
    rintro e w2 ⟨rfl, rfl⟩
    go_wp2
    exact ⟨_, rfl, rfl, Since.refl _⟩
  · go_wp2
    exact ⟨_, rfl, rfl, Since.refl _⟩
  · go_wp2
    exact ⟨_, rfl, rfl, Since.refl _⟩
  · go_wp2
    exact ⟨_, rfl, rfl, Since.refl _⟩
  · go_wp2_with fail
    refine (HGET.out _ w1 (HW.out.keep HS.out)).mono ?_
    rintro e w2 ⟨rfl, rfl⟩
    go_wp2
    exact ⟨_, rfl, rfl, Since.refl _⟩
  · go_wp2
    exact ⟨_, rfl, rfl, Since.refl _⟩
  · go_wp2
    exact ⟨_, rfl, rfl, Since.refl _⟩
  · go_wp2
    exact ⟨_, rfl, rfl, Since.refl _⟩
  · go_wp2_with fail
    refine (HGET.out _ w1 (HW.out.keep HS.out)).mono ?_
    rintro e w2 ⟨rfl, rfl⟩
    go_wp2
    exact ⟨_, rfl, rfl, Since.refl _⟩
  · go_wp2
    exact ⟨_, rfl, rfl, Since.refl _⟩
  · go_wp2
    exact ⟨_, rfl, rfl, Since.refl _⟩
  · go_wp2
    exact ⟨_, rfl, rfl, Since.refl _⟩
  · have HBM := Lib.hid hbm
    have HBR := Lib.hid hbr
    clear hk
    generalize getR R xa = A at *
    generalize getR R xb = B at *
    generalize getR R xc = C at *
    have hdo := fun w => do_any 5 A ximm w hA1 hA2 HF.out.1 HF.out.2.1
    generalize doI 5 A ximm = V at *
    have HDO := Lib.hid hdo
    clear hdo
    have hix : ∀ w, (Instr.index 162 (.agg #[.int .i64 2, .int .i64 5, .int .i64 8, .int .i64 9, .int .i64 10]) (.int .i64 1)).run Try.prog w = .ok (.int .i64 5) w := fun _ => by kernel_rfl
    go_wp2
    refine wp_region_list_facts rfl (by decide +kernel) (by decide +kernel)
      [Is (.agg #[.int .i64 2, .int .i64 5, .int .i64 8, .int .i64 9, .int .i64 10]), Is (.pointer (some ⟨w.heap.size, 0, none⟩)), Is (.int .i64 19), Is (.int .i64 1), Is (.int .i64 5), Is (.int .i32 A), Is (.pointer (some ⟨w.heap.size, 6, none⟩)), Is (.int .i32 ximm), Is (.tuple #[.int .i32 (V.getD 0), .bool V.isSome]), Is (.tuple #[.int .i32 (V.getD 0), .bool V.isSome]), Is (.int .i32 (V.getD 0)), Is (.bool V.isSome), Is (.int .i32 (V.getD 0))]
      (by repeat (first | exact trivial | refine ⟨Is.stable _, ?_⟩ | refine ⟨IsNums.stable _ _, ?_⟩ | refine ⟨IsRows.stable _ _, ?_⟩)) ⟨?_, ?_, ?_, ?_, ?_, ?_, ?_, ?_, ?_, ?_, ?_, ?_, ?_, trivial⟩ ?_
    all_goals
      intro vs w2 hs hk
      have hbm2 : ∀ i, w2.cell? ⟨w.heap.size, i, none⟩ = _ := fun i => (hs.cell (p := ⟨w.heap.size, i, none⟩) (Nat.lt_of_succ_lt HSZ.out)).trans (HBM.out i)
      have HS2 := Lib.hid hs
      clear hs
      simp only [putAll, Act.put, Knows, KnowsAll, nthF, Is, List.setIfInBounds_toArray, List.set_cons_zero, List.set_cons_succ, Nat.reduceAdd, List.length_cons, List.length_nil] at hk ⊢
      try simp only [hk]
    · go_wp2
      exact ⟨_, rfl, rfl, Since.refl _⟩
    · go_wp2
      exact ⟨_, rfl, rfl, Since.refl _⟩
    · go_wp2
      exact ⟨_, rfl, rfl, Since.refl _⟩
    · go_wp2
      exact ⟨_, rfl, rfl, Since.refl _⟩
    · go_wp2
      exact ⟨_, rfl, rfl, Since.refl _⟩
    · go_wp2
      exact ⟨_, rfl, rfl, Since.refl _⟩
    · go_wp2
      exact ⟨_, rfl, rfl, Since.refl _⟩
    · go_wp2
      exact ⟨_, rfl, rfl, Since.refl _⟩
    · go_wp2_with fail
      refine (HDO.out w2).mono ?_
      rintro e3 w3 ⟨rfl, hs3⟩
      go_wp2
      exact ⟨_, rfl, rfl, hs3⟩
    · go_wp2
      exact ⟨_, rfl, rfl, Since.refl _⟩
    · go_wp2
      exact ⟨_, rfl, rfl, Since.refl _⟩
    · go_wp2
      exact ⟨_, rfl, rfl, Since.refl _⟩
    · go_wp2
      exact ⟨_, rfl, rfl, Since.refl _⟩
    · have hs2 := HS2.out
      clear hbm2 hk
      have hbm2 : ∀ i, w2.cell? ⟨w.heap.size, i, none⟩ = _ := fun i => (hs2.cell (p := ⟨w.heap.size, i, none⟩) (Nat.lt_of_succ_lt HSZ.out)).trans (HBM.out i)
      have hbr2 : ∀ i, w2.cell? ⟨w.heap.size + 1, i, none⟩ = _ := fun i => (hs2.cell (p := ⟨w.heap.size + 1, i, none⟩) HSZ.out).trans (HBR.out i)
      have HBM0 := HBM
      have HBR0 := HBR
      have HSZ0 := HSZ
      have HS0 := HS
      clear hbm hbr HBM HBR
      have HBM := Lib.hid hbm2
      have HBR := Lib.hid hbr2
      have HSZ := Lib.hid (Nat.lt_of_lt_of_le HSZ0.out hs2.size)
      have HS := Lib.hid (HS0.out.trans hs2)
      have hbm := hbm2
      have hbr := hbr2
      clear hbm2 hbr2 HBM0 HBR0 HSZ0 HS0 hs2
      go_wp2_with fail
      refine (HMK.out _ (H.out.keep HS.out)).mono ?_
      rw [HMAKES.out]
      rintro e5 w5 ⟨v5, rfl, hv5, hs5⟩
      obtain ⟨ka, kc, rfl⟩ := nums_lenI hv5
      obtain ⟨_, hcc⟩ := nums_cell hv5
      obtain ⟨kb, ko, rfl, _, hcell⟩ := hcc (by simp)
      have hk0 : w5.cell? ⟨kb, ko, none⟩ = some (.int .i64 xd) := hcell 0 _ rfl
      have HS5 := Lib.hid (HS.out.trans hs5)
      have hbr5 : w5.cell? ⟨w.heap.size + 1, 0, none⟩ = _ := (hs5.cell (p := ⟨w.heap.size + 1, 0, none⟩) HSZ.out).trans (HBR.out 0)
      have hcl := HSET.out xd (V.getD 0) w5 (w.heap.size + 1) (HW.out.keep HS5.out) (hbr5.trans (cell_last2 _ _ _ _))
      have HCL := Lib.hid hcl
      clear hcc hcell hv5 hs5 hbr5 hbm hbr hcl
      go_wp2
      go_loopw [189] (fun i wr => ∃ t : Nat, i = .int .i64 t ∧ (t = 0 ∧ wr = w5 ∨ t = 1 ∧ wr = setW w5 rb R xd (V.getD 0))) (fun i _ => 1 - (intOf i).toNat)
      case atStart => exact ⟨0, rfl, .inl ⟨rfl, rfl⟩⟩
      case round =>
        obtain ⟨t, rfl, ⟨rfl, rfl⟩ | ⟨rfl, hwr⟩⟩ := hrel
        · go_wp2_with fail
          refine HCL.out.mono ?_
          rintro e6 w6 ⟨rfl, hw6⟩
          have HW6 := Lib.hid hw6
          clear hw6
          go_wp2
          go_roundw
          case rel => exact ⟨1, rfl, .inr ⟨rfl, HW6.out⟩⟩
          case measure => simp [intOf]
        · have HWR := Lib.hid hwr
          clear hwr hk0
          go_wp2
          go_ret2
          exact ⟨rfl, by rw [HWR.out]; exact setW_at (HW.out.keep HS5.out) _ _, by rw [HWR.out]; exact (HM.out.keep HS5.out).turn (setW_turn (S := fun k => k = rb) rfl _ _ _) (fun q hq e => HSEP.out.2 (by rw [hq, e])), by rw [HWR.out]; exact (Turn.since HS5.out).trans (setW_turn (S := fun k => k = rb ∨ _) (.inl rfl) _ _ _)⟩


set_option maxHeartbeats 1000000 in
set_option maxRecDepth 100000 in
theorem do7_20 (xd xe xa xb xc ximm : Int) (xargs : List Int) (av mv0 : Value) (R M : List Int) (rb rc : Nat) (rest : List Value) (T : TypeId) (w : World) (h : Ints w av xargs) (hf : Fine ⟨20, xd, xe, xa, xb, xc, ximm, xargs⟩) (hw : WAt w rb R rest T) (hR : ∀ x ∈ R, In32 x) (hl : R.length ≤ 1000) (hm : MemIs w mv0 M)
    (hsep : (∀ q, av.ownBlock = some q → q ≠ rb ∧ mv0.ownBlock ≠ some q) ∧ mv0.ownBlock ≠ some rb)  :
    Calls Try.prog 168 #[mv ⟨20, xd, xe, xa, xb, xc, ximm, xargs⟩ av, .slice (some ⟨rb, 0, none⟩) R.length rc, mv0] w (DoneP none (setR R xd ((doI 8 (getR R xa) ximm).getD 0)) M rb rest T mv0 w) := by
  have HGET := Lib.hid (fun r w h => get_any R rb rc rest T r w h (by omega))
  have HSET := Lib.hid (fun r v w bx h hx => set_any R rb rc bx rest T r v w h (by omega) hx)
  have HMK := Lib.hid (fun w h => makes7_any ⟨20, xd, xe, xa, xb, xc, ximm, xargs⟩ av w h hf.2.2)
  have hA := getR_32 hR xa
  have hB := getR_32 hR xb
  have hC := getR_32 hR xc
  obtain ⟨ma, mc, rfl, hml⟩ := hm.shape
  obtain ⟨aa, ac, hav⟩ := nums_lenI h
  subst hav
  have H := Lib.hid h
  have HW := Lib.hid hw
  have HM := Lib.hid hm
  have HSEP := Lib.hid hsep
  have HF := Lib.hid hf
  have HRB := Lib.hid hw.lt
  clear h hw hm hsep hf hR
  unfold mv at HMK
  unfold mv
  have HMAKES := Lib.hid (show makes7 ⟨20, xd, xe, xa, xb, xc, ximm, xargs⟩ = [xd] from rfl)
  obtain ⟨hA1, hA2⟩ := hA
  obtain ⟨hB1, hB2⟩ := hB
  obtain ⟨hC1, hC2⟩ := hC
  go_enter Try.func168, Try.ntmps168
  go_wp2
  refine wp_region_list_facts rfl (by decide +kernel) (by decide +kernel)
    [Is (.slice (some ⟨rb, 0, none⟩) R.length rc), Is (.pointer (some ⟨w.heap.size, 3, none⟩)), Is (.int .i64 xa), Is (.int .i32 (getR R xa)), Is (.slice (some ⟨rb, 0, none⟩) R.length rc), Is (.pointer (some ⟨w.heap.size, 4, none⟩)), Is (.int .i64 xb), Is (.int .i32 (getR R xb)), Is (.slice (some ⟨rb, 0, none⟩) R.length rc), Is (.pointer (some ⟨w.heap.size, 5, none⟩)), Is (.int .i64 xc), Is (.int .i32 (getR R xc)), Is (.int .i32 (getR R xa)), Is (.int .i32 (getR R xb)), Is (.int .i32 (getR R xc))]
    (by repeat (first | exact trivial | refine ⟨Is.stable _, ?_⟩ | refine ⟨IsNums.stable _ _, ?_⟩ | refine ⟨IsRows.stable _ _, ?_⟩)) ⟨?_, ?_, ?_, ?_, ?_, ?_, ?_, ?_, ?_, ?_, ?_, ?_, ?_, ?_, ?_, trivial⟩ ?_
  all_goals
    intro vs w1 hs hk
    have hbm : ∀ i, w1.cell? ⟨w.heap.size, i, none⟩ = _ := fun i => hs.cell (p := ⟨w.heap.size, i, none⟩) (by simp <;> omega)
    have hbr : ∀ i, w1.cell? ⟨w.heap.size + 1, i, none⟩ = _ := fun i => hs.cell (p := ⟨w.heap.size + 1, i, none⟩) (by simp)
    have HSZ := Lib.hid (show w.heap.size + 1 < w1.heap.size from by have := hs.size; simp at this; omega)
    have HS := Lib.hid (Since.trans (((Since.refl w).alloc _).alloc _) hs)
    clear hs
    simp only [putAll, Act.put, Knows, KnowsAll, nthF, Is, List.setIfInBounds_toArray, List.set_cons_zero, List.set_cons_succ, Nat.reduceAdd, List.length_cons, List.length_nil] at hk ⊢
    try simp only [hk]
  · go_wp2
    exact ⟨_, rfl, rfl, Since.refl _⟩
  · go_wp2
    exact ⟨_, rfl, rfl, Since.refl _⟩
  · go_wp2
    exact ⟨_, rfl, rfl, Since.refl _⟩
  · go_wp2_with fail
    refine (HGET.out _ w1 (HW.out.keep HS.out)).mono ?_
    rintro e w2 ⟨rfl, rfl⟩
    go_wp2
    exact ⟨_, rfl, rfl, Since.refl _⟩
  · go_wp2
    exact ⟨_, rfl, rfl, Since.refl _⟩
  · go_wp2
    exact ⟨_, rfl, rfl, Since.refl _⟩
  · go_wp2
    exact ⟨_, rfl, rfl, Since.refl _⟩
  · go_wp2_with fail
    refine (HGET.out _ w1 (HW.out.keep HS.out)).mono ?_
    rintro e w2 ⟨rfl, rfl⟩
    go_wp2
    exact ⟨_, rfl, rfl, Since.refl _⟩
  · go_wp2
    exact ⟨_, rfl, rfl, Since.refl _⟩
  · go_wp2
    exact ⟨_, rfl, rfl, Since.refl _⟩
  · go_wp2
    exact ⟨_, rfl, rfl, Since.refl _⟩
  · go_wp2_with fail
    refine (HGET.out _ w1 (HW.out.keep HS.out)).mono ?_
    rintro e w2 ⟨rfl, rfl⟩
    go_wp2
    exact ⟨_, rfl, rfl, Since.refl _⟩
  · go_wp2
    exact ⟨_, rfl, rfl, Since.refl _⟩
  · go_wp2
    exact ⟨_, rfl, rfl, Since.refl _⟩
  · go_wp2
    exact ⟨_, rfl, rfl, Since.refl _⟩
  · have HBM := Lib.hid hbm
    have HBR := Lib.hid hbr
    clear hk
    generalize getR R xa = A at *
    generalize getR R xb = B at *
    generalize getR R xc = C at *
    have hdo := fun w => do_any 8 A ximm w hA1 hA2 HF.out.1 HF.out.2.1
    generalize doI 8 A ximm = V at *
    have HDO := Lib.hid hdo
    clear hdo
    have hix : ∀ w, (Instr.index 162 (.agg #[.int .i64 2, .int .i64 5, .int .i64 8, .int .i64 9, .int .i64 10]) (.int .i64 2)).run Try.prog w = .ok (.int .i64 8) w := fun _ => by kernel_rfl
    go_wp2
    refine wp_region_list_facts rfl (by decide +kernel) (by decide +kernel)
      [Is (.agg #[.int .i64 2, .int .i64 5, .int .i64 8, .int .i64 9, .int .i64 10]), Is (.pointer (some ⟨w.heap.size, 0, none⟩)), Is (.int .i64 20), Is (.int .i64 2), Is (.int .i64 8), Is (.int .i32 A), Is (.pointer (some ⟨w.heap.size, 6, none⟩)), Is (.int .i32 ximm), Is (.tuple #[.int .i32 (V.getD 0), .bool V.isSome]), Is (.tuple #[.int .i32 (V.getD 0), .bool V.isSome]), Is (.int .i32 (V.getD 0)), Is (.bool V.isSome), Is (.int .i32 (V.getD 0))]
      (by repeat (first | exact trivial | refine ⟨Is.stable _, ?_⟩ | refine ⟨IsNums.stable _ _, ?_⟩ | refine ⟨IsRows.stable _ _, ?_⟩)) ⟨?_, ?_, ?_, ?_, ?_, ?_, ?_, ?_, ?_, ?_, ?_, ?_, ?_, trivial⟩ ?_
    all_goals
      intro vs w2 hs hk
      have hbm2 : ∀ i, w2.cell? ⟨w.heap.size, i, none⟩ = _ := fun i => (hs.cell (p := ⟨w.heap.size, i, none⟩) (Nat.lt_of_succ_lt HSZ.out)).trans (HBM.out i)
      have HS2 := Lib.hid hs
      clear hs
      simp only [putAll, Act.put, Knows, KnowsAll, nthF, Is, List.setIfInBounds_toArray, List.set_cons_zero, List.set_cons_succ, Nat.reduceAdd, List.length_cons, List.length_nil] at hk ⊢
      try simp only [hk]
    · go_wp2
      exact ⟨_, rfl, rfl, Since.refl _⟩
    · go_wp2
      exact ⟨_, rfl, rfl, Since.refl _⟩
    · go_wp2
      exact ⟨_, rfl, rfl, Since.refl _⟩
    · go_wp2
      exact ⟨_, rfl, rfl, Since.refl _⟩
    · go_wp2
      exact ⟨_, rfl, rfl, Since.refl _⟩
    · go_wp2
      exact ⟨_, rfl, rfl, Since.refl _⟩
    · go_wp2
      exact ⟨_, rfl, rfl, Since.refl _⟩
    · go_wp2
      exact ⟨_, rfl, rfl, Since.refl _⟩
    · go_wp2_with fail
      refine (HDO.out w2).mono ?_
      rintro e3 w3 ⟨rfl, hs3⟩
      go_wp2
      exact ⟨_, rfl, rfl, hs3⟩
    · go_wp2
      exact ⟨_, rfl, rfl, Since.refl _⟩
    · go_wp2
      exact ⟨_, rfl, rfl, Since.refl _⟩
    · go_wp2
      exact ⟨_, rfl, rfl, Since.refl _⟩
    · go_wp2
      exact ⟨_, rfl, rfl, Since.refl _⟩
    · have hs2 := HS2.out
      clear hbm2 hk
      have hbm2 : ∀ i, w2.cell? ⟨w.heap.size, i, none⟩ = _ := fun i => (hs2.cell (p := ⟨w.heap.size, i, none⟩) (Nat.lt_of_succ_lt HSZ.out)).trans (HBM.out i)
      have hbr2 : ∀ i, w2.cell? ⟨w.heap.size + 1, i, none⟩ = _ := fun i => (hs2.cell (p := ⟨w.heap.size + 1, i, none⟩) HSZ.out).trans (HBR.out i)
      have HBM0 := HBM
      have HBR0 := HBR
      have HSZ0 := HSZ
      have HS0 := HS
      clear hbm hbr HBM HBR
      have HBM := Lib.hid hbm2
      have HBR := Lib.hid hbr2
      have HSZ := Lib.hid (Nat.lt_of_lt_of_le HSZ0.out hs2.size)
      have HS := Lib.hid (HS0.out.trans hs2)
      have hbm := hbm2
      have hbr := hbr2
      clear hbm2 hbr2 HBM0 HBR0 HSZ0 HS0 hs2
      go_wp2_with fail
      refine (HMK.out _ (H.out.keep HS.out)).mono ?_
      rw [HMAKES.out]
      rintro e5 w5 ⟨v5, rfl, hv5, hs5⟩
      obtain ⟨ka, kc, rfl⟩ := nums_lenI hv5
      obtain ⟨_, hcc⟩ := nums_cell hv5
      obtain ⟨kb, ko, rfl, _, hcell⟩ := hcc (by simp)
      have hk0 : w5.cell? ⟨kb, ko, none⟩ = some (.int .i64 xd) := hcell 0 _ rfl
      have HS5 := Lib.hid (HS.out.trans hs5)
      have hbr5 : w5.cell? ⟨w.heap.size + 1, 0, none⟩ = _ := (hs5.cell (p := ⟨w.heap.size + 1, 0, none⟩) HSZ.out).trans (HBR.out 0)
      have hcl := HSET.out xd (V.getD 0) w5 (w.heap.size + 1) (HW.out.keep HS5.out) (hbr5.trans (cell_last2 _ _ _ _))
      have HCL := Lib.hid hcl
      clear hcc hcell hv5 hs5 hbr5 hbm hbr hcl
      go_wp2
      go_loopw [189] (fun i wr => ∃ t : Nat, i = .int .i64 t ∧ (t = 0 ∧ wr = w5 ∨ t = 1 ∧ wr = setW w5 rb R xd (V.getD 0))) (fun i _ => 1 - (intOf i).toNat)
      case atStart => exact ⟨0, rfl, .inl ⟨rfl, rfl⟩⟩
      case round =>
        obtain ⟨t, rfl, ⟨rfl, rfl⟩ | ⟨rfl, hwr⟩⟩ := hrel
        · go_wp2_with fail
          refine HCL.out.mono ?_
          rintro e6 w6 ⟨rfl, hw6⟩
          have HW6 := Lib.hid hw6
          clear hw6
          go_wp2
          go_roundw
          case rel => exact ⟨1, rfl, .inr ⟨rfl, HW6.out⟩⟩
          case measure => simp [intOf]
        · have HWR := Lib.hid hwr
          clear hwr hk0
          go_wp2
          go_ret2
          exact ⟨rfl, by rw [HWR.out]; exact setW_at (HW.out.keep HS5.out) _ _, by rw [HWR.out]; exact (HM.out.keep HS5.out).turn (setW_turn (S := fun k => k = rb) rfl _ _ _) (fun q hq e => HSEP.out.2 (by rw [hq, e])), by rw [HWR.out]; exact (Turn.since HS5.out).trans (setW_turn (S := fun k => k = rb ∨ _) (.inl rfl) _ _ _)⟩


set_option maxHeartbeats 1000000 in
set_option maxRecDepth 100000 in
theorem do7_21 (xd xe xa xb xc ximm : Int) (xargs : List Int) (av mv0 : Value) (R M : List Int) (rb rc : Nat) (rest : List Value) (T : TypeId) (w : World) (h : Ints w av xargs) (hf : Fine ⟨21, xd, xe, xa, xb, xc, ximm, xargs⟩) (hw : WAt w rb R rest T) (hR : ∀ x ∈ R, In32 x) (hl : R.length ≤ 1000) (hm : MemIs w mv0 M)
    (hsep : (∀ q, av.ownBlock = some q → q ≠ rb ∧ mv0.ownBlock ≠ some q) ∧ mv0.ownBlock ≠ some rb)  :
    Calls Try.prog 168 #[mv ⟨21, xd, xe, xa, xb, xc, ximm, xargs⟩ av, .slice (some ⟨rb, 0, none⟩) R.length rc, mv0] w (DoneP none (setR R xd ((doI 9 (getR R xa) ximm).getD 0)) M rb rest T mv0 w) := by
  have HGET := Lib.hid (fun r w h => get_any R rb rc rest T r w h (by omega))
  have HSET := Lib.hid (fun r v w bx h hx => set_any R rb rc bx rest T r v w h (by omega) hx)
  have HMK := Lib.hid (fun w h => makes7_any ⟨21, xd, xe, xa, xb, xc, ximm, xargs⟩ av w h hf.2.2)
  have hA := getR_32 hR xa
  have hB := getR_32 hR xb
  have hC := getR_32 hR xc
  obtain ⟨ma, mc, rfl, hml⟩ := hm.shape
  obtain ⟨aa, ac, hav⟩ := nums_lenI h
  subst hav
  have H := Lib.hid h
  have HW := Lib.hid hw
  have HM := Lib.hid hm
  have HSEP := Lib.hid hsep
  have HF := Lib.hid hf
  have HRB := Lib.hid hw.lt
  clear h hw hm hsep hf hR
  unfold mv at HMK
  unfold mv
  have HMAKES := Lib.hid (show makes7 ⟨21, xd, xe, xa, xb, xc, ximm, xargs⟩ = [xd] from rfl)
  obtain ⟨hA1, hA2⟩ := hA
  obtain ⟨hB1, hB2⟩ := hB
  obtain ⟨hC1, hC2⟩ := hC
  go_enter Try.func168, Try.ntmps168
  go_wp2
  refine wp_region_list_facts rfl (by decide +kernel) (by decide +kernel)
    [Is (.slice (some ⟨rb, 0, none⟩) R.length rc), Is (.pointer (some ⟨w.heap.size, 3, none⟩)), Is (.int .i64 xa), Is (.int .i32 (getR R xa)), Is (.slice (some ⟨rb, 0, none⟩) R.length rc), Is (.pointer (some ⟨w.heap.size, 4, none⟩)), Is (.int .i64 xb), Is (.int .i32 (getR R xb)), Is (.slice (some ⟨rb, 0, none⟩) R.length rc), Is (.pointer (some ⟨w.heap.size, 5, none⟩)), Is (.int .i64 xc), Is (.int .i32 (getR R xc)), Is (.int .i32 (getR R xa)), Is (.int .i32 (getR R xb)), Is (.int .i32 (getR R xc))]
    (by repeat (first | exact trivial | refine ⟨Is.stable _, ?_⟩ | refine ⟨IsNums.stable _ _, ?_⟩ | refine ⟨IsRows.stable _ _, ?_⟩)) ⟨?_, ?_, ?_, ?_, ?_, ?_, ?_, ?_, ?_, ?_, ?_, ?_, ?_, ?_, ?_, trivial⟩ ?_
  all_goals
    intro vs w1 hs hk
    have hbm : ∀ i, w1.cell? ⟨w.heap.size, i, none⟩ = _ := fun i => hs.cell (p := ⟨w.heap.size, i, none⟩) (by simp <;> omega)
    have hbr : ∀ i, w1.cell? ⟨w.heap.size + 1, i, none⟩ = _ := fun i => hs.cell (p := ⟨w.heap.size + 1, i, none⟩) (by simp)
    have HSZ := Lib.hid (show w.heap.size + 1 < w1.heap.size from by have := hs.size; simp at this; omega)
    have HS := Lib.hid (Since.trans (((Since.refl w).alloc _).alloc _) hs)
    clear hs
    simp only [putAll, Act.put, Knows, KnowsAll, nthF, Is, List.setIfInBounds_toArray, List.set_cons_zero, List.set_cons_succ, Nat.reduceAdd, List.length_cons, List.length_nil] at hk ⊢
    try simp only [hk]
  · go_wp2
    exact ⟨_, rfl, rfl, Since.refl _⟩
  · go_wp2
    exact ⟨_, rfl, rfl, Since.refl _⟩
  · go_wp2
    exact ⟨_, rfl, rfl, Since.refl _⟩
  · go_wp2_with fail
    refine (HGET.out _ w1 (HW.out.keep HS.out)).mono ?_
    rintro e w2 ⟨rfl, rfl⟩
    go_wp2
    exact ⟨_, rfl, rfl, Since.refl _⟩
  · go_wp2
    exact ⟨_, rfl, rfl, Since.refl _⟩
  · go_wp2
    exact ⟨_, rfl, rfl, Since.refl _⟩
  · go_wp2
    exact ⟨_, rfl, rfl, Since.refl _⟩
  · go_wp2_with fail
    refine (HGET.out _ w1 (HW.out.keep HS.out)).mono ?_
    rintro e w2 ⟨rfl, rfl⟩
    go_wp2
    exact ⟨_, rfl, rfl, Since.refl _⟩
  · go_wp2
    exact ⟨_, rfl, rfl, Since.refl _⟩
  · go_wp2
    exact ⟨_, rfl, rfl, Since.refl _⟩
  · go_wp2
    exact ⟨_, rfl, rfl, Since.refl _⟩
  · go_wp2_with fail
    refine (HGET.out _ w1 (HW.out.keep HS.out)).mono ?_
    rintro e w2 ⟨rfl, rfl⟩
    go_wp2
    exact ⟨_, rfl, rfl, Since.refl _⟩
  · go_wp2
    exact ⟨_, rfl, rfl, Since.refl _⟩
  · go_wp2
    exact ⟨_, rfl, rfl, Since.refl _⟩
  · go_wp2
    exact ⟨_, rfl, rfl, Since.refl _⟩
  · have HBM := Lib.hid hbm
    have HBR := Lib.hid hbr
    clear hk
    generalize getR R xa = A at *
    generalize getR R xb = B at *
    generalize getR R xc = C at *
    have hdo := fun w => do_any 9 A ximm w hA1 hA2 HF.out.1 HF.out.2.1
    generalize doI 9 A ximm = V at *
    have HDO := Lib.hid hdo
    clear hdo
    have hix : ∀ w, (Instr.index 162 (.agg #[.int .i64 2, .int .i64 5, .int .i64 8, .int .i64 9, .int .i64 10]) (.int .i64 3)).run Try.prog w = .ok (.int .i64 9) w := fun _ => by kernel_rfl
    go_wp2
    refine wp_region_list_facts rfl (by decide +kernel) (by decide +kernel)
      [Is (.agg #[.int .i64 2, .int .i64 5, .int .i64 8, .int .i64 9, .int .i64 10]), Is (.pointer (some ⟨w.heap.size, 0, none⟩)), Is (.int .i64 21), Is (.int .i64 3), Is (.int .i64 9), Is (.int .i32 A), Is (.pointer (some ⟨w.heap.size, 6, none⟩)), Is (.int .i32 ximm), Is (.tuple #[.int .i32 (V.getD 0), .bool V.isSome]), Is (.tuple #[.int .i32 (V.getD 0), .bool V.isSome]), Is (.int .i32 (V.getD 0)), Is (.bool V.isSome), Is (.int .i32 (V.getD 0))]
      (by repeat (first | exact trivial | refine ⟨Is.stable _, ?_⟩ | refine ⟨IsNums.stable _ _, ?_⟩ | refine ⟨IsRows.stable _ _, ?_⟩)) ⟨?_, ?_, ?_, ?_, ?_, ?_, ?_, ?_, ?_, ?_, ?_, ?_, ?_, trivial⟩ ?_
    all_goals
      intro vs w2 hs hk
      have hbm2 : ∀ i, w2.cell? ⟨w.heap.size, i, none⟩ = _ := fun i => (hs.cell (p := ⟨w.heap.size, i, none⟩) (Nat.lt_of_succ_lt HSZ.out)).trans (HBM.out i)
      have HS2 := Lib.hid hs
      clear hs
      simp only [putAll, Act.put, Knows, KnowsAll, nthF, Is, List.setIfInBounds_toArray, List.set_cons_zero, List.set_cons_succ, Nat.reduceAdd, List.length_cons, List.length_nil] at hk ⊢
      try simp only [hk]
    · go_wp2
      exact ⟨_, rfl, rfl, Since.refl _⟩
    · go_wp2
      exact ⟨_, rfl, rfl, Since.refl _⟩
    · go_wp2
      exact ⟨_, rfl, rfl, Since.refl _⟩
    · go_wp2
      exact ⟨_, rfl, rfl, Since.refl _⟩
    · go_wp2
      exact ⟨_, rfl, rfl, Since.refl _⟩
    · go_wp2
      exact ⟨_, rfl, rfl, Since.refl _⟩
    · go_wp2
      exact ⟨_, rfl, rfl, Since.refl _⟩
    · go_wp2
      exact ⟨_, rfl, rfl, Since.refl _⟩
    · go_wp2_with fail
      refine (HDO.out w2).mono ?_
      rintro e3 w3 ⟨rfl, hs3⟩
      go_wp2
      exact ⟨_, rfl, rfl, hs3⟩
    · go_wp2
      exact ⟨_, rfl, rfl, Since.refl _⟩
    · go_wp2
      exact ⟨_, rfl, rfl, Since.refl _⟩
    · go_wp2
      exact ⟨_, rfl, rfl, Since.refl _⟩
    · go_wp2
      exact ⟨_, rfl, rfl, Since.refl _⟩
    · have hs2 := HS2.out
      clear hbm2 hk
      have hbm2 : ∀ i, w2.cell? ⟨w.heap.size, i, none⟩ = _ := fun i => (hs2.cell (p := ⟨w.heap.size, i, none⟩) (Nat.lt_of_succ_lt HSZ.out)).trans (HBM.out i)
      have hbr2 : ∀ i, w2.cell? ⟨w.heap.size + 1, i, none⟩ = _ := fun i => (hs2.cell (p := ⟨w.heap.size + 1, i, none⟩) HSZ.out).trans (HBR.out i)
      have HBM0 := HBM
      have HBR0 := HBR
      have HSZ0 := HSZ
      have HS0 := HS
      clear hbm hbr HBM HBR
      have HBM := Lib.hid hbm2
      have HBR := Lib.hid hbr2
      have HSZ := Lib.hid (Nat.lt_of_lt_of_le HSZ0.out hs2.size)
      have HS := Lib.hid (HS0.out.trans hs2)
      have hbm := hbm2
      have hbr := hbr2
      clear hbm2 hbr2 HBM0 HBR0 HSZ0 HS0 hs2
      go_wp2_with fail
      refine (HMK.out _ (H.out.keep HS.out)).mono ?_
      rw [HMAKES.out]
      rintro e5 w5 ⟨v5, rfl, hv5, hs5⟩
      obtain ⟨ka, kc, rfl⟩ := nums_lenI hv5
      obtain ⟨_, hcc⟩ := nums_cell hv5
      obtain ⟨kb, ko, rfl, _, hcell⟩ := hcc (by simp)
      have hk0 : w5.cell? ⟨kb, ko, none⟩ = some (.int .i64 xd) := hcell 0 _ rfl
      have HS5 := Lib.hid (HS.out.trans hs5)
      have hbr5 : w5.cell? ⟨w.heap.size + 1, 0, none⟩ = _ := (hs5.cell (p := ⟨w.heap.size + 1, 0, none⟩) HSZ.out).trans (HBR.out 0)
      have hcl := HSET.out xd (V.getD 0) w5 (w.heap.size + 1) (HW.out.keep HS5.out) (hbr5.trans (cell_last2 _ _ _ _))
      have HCL := Lib.hid hcl
      clear hcc hcell hv5 hs5 hbr5 hbm hbr hcl
      go_wp2
      go_loopw [189] (fun i wr => ∃ t : Nat, i = .int .i64 t ∧ (t = 0 ∧ wr = w5 ∨ t = 1 ∧ wr = setW w5 rb R xd (V.getD 0))) (fun i _ => 1 - (intOf i).toNat)
      case atStart => exact ⟨0, rfl, .inl ⟨rfl, rfl⟩⟩
      case round =>
        obtain ⟨t, rfl, ⟨rfl, rfl⟩ | ⟨rfl, hwr⟩⟩ := hrel
        · go_wp2_with fail
          refine HCL.out.mono ?_
          rintro e6 w6 ⟨rfl, hw6⟩
          have HW6 := Lib.hid hw6
          clear hw6
          go_wp2
          go_roundw
          case rel => exact ⟨1, rfl, .inr ⟨rfl, HW6.out⟩⟩
          case measure => simp [intOf]
        · have HWR := Lib.hid hwr
          clear hwr hk0
          go_wp2
          go_ret2
          exact ⟨rfl, by rw [HWR.out]; exact setW_at (HW.out.keep HS5.out) _ _, by rw [HWR.out]; exact (HM.out.keep HS5.out).turn (setW_turn (S := fun k => k = rb) rfl _ _ _) (fun q hq e => HSEP.out.2 (by rw [hq, e])), by rw [HWR.out]; exact (Turn.since HS5.out).trans (setW_turn (S := fun k => k = rb ∨ _) (.inl rfl) _ _ _)⟩


set_option maxHeartbeats 1000000 in
set_option maxRecDepth 100000 in
theorem do7_22 (xd xe xa xb xc ximm : Int) (xargs : List Int) (av mv0 : Value) (R M : List Int) (rb rc : Nat) (rest : List Value) (T : TypeId) (w : World) (h : Ints w av xargs) (hf : Fine ⟨22, xd, xe, xa, xb, xc, ximm, xargs⟩) (hw : WAt w rb R rest T) (hR : ∀ x ∈ R, In32 x) (hl : R.length ≤ 1000) (hm : MemIs w mv0 M)
    (hsep : (∀ q, av.ownBlock = some q → q ≠ rb ∧ mv0.ownBlock ≠ some q) ∧ mv0.ownBlock ≠ some rb)  :
    Calls Try.prog 168 #[mv ⟨22, xd, xe, xa, xb, xc, ximm, xargs⟩ av, .slice (some ⟨rb, 0, none⟩) R.length rc, mv0] w (DoneP none (setR R xd ((doI 10 (getR R xa) ximm).getD 0)) M rb rest T mv0 w) := by
  have HGET := Lib.hid (fun r w h => get_any R rb rc rest T r w h (by omega))
  have HSET := Lib.hid (fun r v w bx h hx => set_any R rb rc bx rest T r v w h (by omega) hx)
  have HMK := Lib.hid (fun w h => makes7_any ⟨22, xd, xe, xa, xb, xc, ximm, xargs⟩ av w h hf.2.2)
  have hA := getR_32 hR xa
  have hB := getR_32 hR xb
  have hC := getR_32 hR xc
  obtain ⟨ma, mc, rfl, hml⟩ := hm.shape
  obtain ⟨aa, ac, hav⟩ := nums_lenI h
  subst hav
  have H := Lib.hid h
  have HW := Lib.hid hw
  have HM := Lib.hid hm
  have HSEP := Lib.hid hsep
  have HF := Lib.hid hf
  have HRB := Lib.hid hw.lt
  clear h hw hm hsep hf hR
  unfold mv at HMK
  unfold mv
  have HMAKES := Lib.hid (show makes7 ⟨22, xd, xe, xa, xb, xc, ximm, xargs⟩ = [xd] from rfl)
  obtain ⟨hA1, hA2⟩ := hA
  obtain ⟨hB1, hB2⟩ := hB
  obtain ⟨hC1, hC2⟩ := hC
  go_enter Try.func168, Try.ntmps168
  go_wp2
  refine wp_region_list_facts rfl (by decide +kernel) (by decide +kernel)
    [Is (.slice (some ⟨rb, 0, none⟩) R.length rc), Is (.pointer (some ⟨w.heap.size, 3, none⟩)), Is (.int .i64 xa), Is (.int .i32 (getR R xa)), Is (.slice (some ⟨rb, 0, none⟩) R.length rc), Is (.pointer (some ⟨w.heap.size, 4, none⟩)), Is (.int .i64 xb), Is (.int .i32 (getR R xb)), Is (.slice (some ⟨rb, 0, none⟩) R.length rc), Is (.pointer (some ⟨w.heap.size, 5, none⟩)), Is (.int .i64 xc), Is (.int .i32 (getR R xc)), Is (.int .i32 (getR R xa)), Is (.int .i32 (getR R xb)), Is (.int .i32 (getR R xc))]
    (by repeat (first | exact trivial | refine ⟨Is.stable _, ?_⟩ | refine ⟨IsNums.stable _ _, ?_⟩ | refine ⟨IsRows.stable _ _, ?_⟩)) ⟨?_, ?_, ?_, ?_, ?_, ?_, ?_, ?_, ?_, ?_, ?_, ?_, ?_, ?_, ?_, trivial⟩ ?_
  all_goals
    intro vs w1 hs hk
    have hbm : ∀ i, w1.cell? ⟨w.heap.size, i, none⟩ = _ := fun i => hs.cell (p := ⟨w.heap.size, i, none⟩) (by simp <;> omega)
    have hbr : ∀ i, w1.cell? ⟨w.heap.size + 1, i, none⟩ = _ := fun i => hs.cell (p := ⟨w.heap.size + 1, i, none⟩) (by simp)
    have HSZ := Lib.hid (show w.heap.size + 1 < w1.heap.size from by have := hs.size; simp at this; omega)
    have HS := Lib.hid (Since.trans (((Since.refl w).alloc _).alloc _) hs)
    clear hs
    simp only [putAll, Act.put, Knows, KnowsAll, nthF, Is, List.setIfInBounds_toArray, List.set_cons_zero, List.set_cons_succ, Nat.reduceAdd, List.length_cons, List.length_nil] at hk ⊢
    try simp only [hk]
  · go_wp2
    exact ⟨_, rfl, rfl, Since.refl _⟩
  · go_wp2
    exact ⟨_, rfl, rfl, Since.refl _⟩
  · go_wp2
    exact ⟨_, rfl, rfl, Since.refl _⟩
  · go_wp2_with fail
    refine (HGET.out _ w1 (HW.out.keep HS.out)).mono ?_
    rintro e w2 ⟨rfl, rfl⟩
    go_wp2
    exact ⟨_, rfl, rfl, Since.refl _⟩
  · go_wp2
    exact ⟨_, rfl, rfl, Since.refl _⟩
  · go_wp2
    exact ⟨_, rfl, rfl, Since.refl _⟩
  · go_wp2
    exact ⟨_, rfl, rfl, Since.refl _⟩
  · go_wp2_with fail
    refine (HGET.out _ w1 (HW.out.keep HS.out)).mono ?_
    rintro e w2 ⟨rfl, rfl⟩
    go_wp2
    exact ⟨_, rfl, rfl, Since.refl _⟩
  · go_wp2
    exact ⟨_, rfl, rfl, Since.refl _⟩
  · go_wp2
    exact ⟨_, rfl, rfl, Since.refl _⟩
  · go_wp2
    exact ⟨_, rfl, rfl, Since.refl _⟩
  · go_wp2_with fail
    refine (HGET.out _ w1 (HW.out.keep HS.out)).mono ?_
    rintro e w2 ⟨rfl, rfl⟩
    go_wp2
    exact ⟨_, rfl, rfl, Since.refl _⟩
  · go_wp2
    exact ⟨_, rfl, rfl, Since.refl _⟩
  · go_wp2
    exact ⟨_, rfl, rfl, Since.refl _⟩
  · go_wp2
    exact ⟨_, rfl, rfl, Since.refl _⟩
  · have HBM := Lib.hid hbm
    have HBR := Lib.hid hbr
    clear hk
    generalize getR R xa = A at *
    generalize getR R xb = B at *
    generalize getR R xc = C at *
    have hdo := fun w => do_any 10 A ximm w hA1 hA2 HF.out.1 HF.out.2.1
    generalize doI 10 A ximm = V at *
    have HDO := Lib.hid hdo
    clear hdo
    have hix : ∀ w, (Instr.index 162 (.agg #[.int .i64 2, .int .i64 5, .int .i64 8, .int .i64 9, .int .i64 10]) (.int .i64 4)).run Try.prog w = .ok (.int .i64 10) w := fun _ => by kernel_rfl
    go_wp2
    refine wp_region_list_facts rfl (by decide +kernel) (by decide +kernel)
      [Is (.agg #[.int .i64 2, .int .i64 5, .int .i64 8, .int .i64 9, .int .i64 10]), Is (.pointer (some ⟨w.heap.size, 0, none⟩)), Is (.int .i64 22), Is (.int .i64 4), Is (.int .i64 10), Is (.int .i32 A), Is (.pointer (some ⟨w.heap.size, 6, none⟩)), Is (.int .i32 ximm), Is (.tuple #[.int .i32 (V.getD 0), .bool V.isSome]), Is (.tuple #[.int .i32 (V.getD 0), .bool V.isSome]), Is (.int .i32 (V.getD 0)), Is (.bool V.isSome), Is (.int .i32 (V.getD 0))]
      (by repeat (first | exact trivial | refine ⟨Is.stable _, ?_⟩ | refine ⟨IsNums.stable _ _, ?_⟩ | refine ⟨IsRows.stable _ _, ?_⟩)) ⟨?_, ?_, ?_, ?_, ?_, ?_, ?_, ?_, ?_, ?_, ?_, ?_, ?_, trivial⟩ ?_
    all_goals
      intro vs w2 hs hk
      have hbm2 : ∀ i, w2.cell? ⟨w.heap.size, i, none⟩ = _ := fun i => (hs.cell (p := ⟨w.heap.size, i, none⟩) (Nat.lt_of_succ_lt HSZ.out)).trans (HBM.out i)
      have HS2 := Lib.hid hs
      clear hs
      simp only [putAll, Act.put, Knows, KnowsAll, nthF, Is, List.setIfInBounds_toArray, List.set_cons_zero, List.set_cons_succ, Nat.reduceAdd, List.length_cons, List.length_nil] at hk ⊢
      try simp only [hk]
    · go_wp2
      exact ⟨_, rfl, rfl, Since.refl _⟩
    · go_wp2
      exact ⟨_, rfl, rfl, Since.refl _⟩
    · go_wp2
      exact ⟨_, rfl, rfl, Since.refl _⟩
    · go_wp2
      exact ⟨_, rfl, rfl, Since.refl _⟩
    · go_wp2
      exact ⟨_, rfl, rfl, Since.refl _⟩
    · go_wp2
      exact ⟨_, rfl, rfl, Since.refl _⟩
    · go_wp2
      exact ⟨_, rfl, rfl, Since.refl _⟩
    · go_wp2
      exact ⟨_, rfl, rfl, Since.refl _⟩
    · go_wp2_with fail
      refine (HDO.out w2).mono ?_
      rintro e3 w3 ⟨rfl, hs3⟩
      go_wp2
      exact ⟨_, rfl, rfl, hs3⟩
    · go_wp2
      exact ⟨_, rfl, rfl, Since.refl _⟩
    · go_wp2
      exact ⟨_, rfl, rfl, Since.refl _⟩
    · go_wp2
      exact ⟨_, rfl, rfl, Since.refl _⟩
    · go_wp2
      exact ⟨_, rfl, rfl, Since.refl _⟩
    · have hs2 := HS2.out
      clear hbm2 hk
      have hbm2 : ∀ i, w2.cell? ⟨w.heap.size, i, none⟩ = _ := fun i => (hs2.cell (p := ⟨w.heap.size, i, none⟩) (Nat.lt_of_succ_lt HSZ.out)).trans (HBM.out i)
      have hbr2 : ∀ i, w2.cell? ⟨w.heap.size + 1, i, none⟩ = _ := fun i => (hs2.cell (p := ⟨w.heap.size + 1, i, none⟩) HSZ.out).trans (HBR.out i)
      have HBM0 := HBM
      have HBR0 := HBR
      have HSZ0 := HSZ
      have HS0 := HS
      clear hbm hbr HBM HBR
      have HBM := Lib.hid hbm2
      have HBR := Lib.hid hbr2
      have HSZ := Lib.hid (Nat.lt_of_lt_of_le HSZ0.out hs2.size)
      have HS := Lib.hid (HS0.out.trans hs2)
      have hbm := hbm2
      have hbr := hbr2
      clear hbm2 hbr2 HBM0 HBR0 HSZ0 HS0 hs2
      go_wp2_with fail
      refine (HMK.out _ (H.out.keep HS.out)).mono ?_
      rw [HMAKES.out]
      rintro e5 w5 ⟨v5, rfl, hv5, hs5⟩
      obtain ⟨ka, kc, rfl⟩ := nums_lenI hv5
      obtain ⟨_, hcc⟩ := nums_cell hv5
      obtain ⟨kb, ko, rfl, _, hcell⟩ := hcc (by simp)
      have hk0 : w5.cell? ⟨kb, ko, none⟩ = some (.int .i64 xd) := hcell 0 _ rfl
      have HS5 := Lib.hid (HS.out.trans hs5)
      have hbr5 : w5.cell? ⟨w.heap.size + 1, 0, none⟩ = _ := (hs5.cell (p := ⟨w.heap.size + 1, 0, none⟩) HSZ.out).trans (HBR.out 0)
      have hcl := HSET.out xd (V.getD 0) w5 (w.heap.size + 1) (HW.out.keep HS5.out) (hbr5.trans (cell_last2 _ _ _ _))
      have HCL := Lib.hid hcl
      clear hcc hcell hv5 hs5 hbr5 hbm hbr hcl
      go_wp2
      go_loopw [189] (fun i wr => ∃ t : Nat, i = .int .i64 t ∧ (t = 0 ∧ wr = w5 ∨ t = 1 ∧ wr = setW w5 rb R xd (V.getD 0))) (fun i _ => 1 - (intOf i).toNat)
      case atStart => exact ⟨0, rfl, .inl ⟨rfl, rfl⟩⟩
      case round =>
        obtain ⟨t, rfl, ⟨rfl, rfl⟩ | ⟨rfl, hwr⟩⟩ := hrel
        · go_wp2_with fail
          refine HCL.out.mono ?_
          rintro e6 w6 ⟨rfl, hw6⟩
          have HW6 := Lib.hid hw6
          clear hw6
          go_wp2
          go_roundw
          case rel => exact ⟨1, rfl, .inr ⟨rfl, HW6.out⟩⟩
          case measure => simp [intOf]
        · have HWR := Lib.hid hwr
          clear hwr hk0
          go_wp2
          go_ret2
          exact ⟨rfl, by rw [HWR.out]; exact setW_at (HW.out.keep HS5.out) _ _, by rw [HWR.out]; exact (HM.out.keep HS5.out).turn (setW_turn (S := fun k => k = rb) rfl _ _ _) (fun q hq e => HSEP.out.2 (by rw [hq, e])), by rw [HWR.out]; exact (Turn.since HS5.out).trans (setW_turn (S := fun k => k = rb ∨ _) (.inl rfl) _ _ _)⟩
end Go.Proofs.Ytkpbmbhejpmboaa

namespace Go.Proofs.Ytkpbmbhejpmboaa
open Go.RowKit
set_option linter.unusedVariables false

theorem do7_any (m : Mach) (av mv0 : Value) (R M : List Int) (rb rc : Nat) (rest : List Value) (T : TypeId) (w : World) (h : Ints w av m.args) (hf : Fine m) (hw : WAt w rb R rest T) (hR : ∀ x ∈ R, In32 x) (hl : R.length ≤ 1000) (hm : MemIs w mv0 M)
    (hsep : (∀ q, av.ownBlock = some q → q ≠ rb ∧ mv0.ownBlock ≠ some q) ∧ mv0.ownBlock ≠ some rb) :
    Calls Try.prog 168 #[mv m av, .slice (some ⟨rb, 0, none⟩) R.length rc, mv0] w (DoneP (doM m R M).1 (doM m R M).2.1 (doM m R M).2.2 rb rest T mv0 w) := by
  have key : m.op = 1 ∨ m.op = 2 ∨ (m.op = 3 ∨ m.op = 4) ∨ (5 ≤ m.op ∧ m.op ≤ 17) ∨ m.op = 18 ∨ m.op = 19 ∨ m.op = 20 ∨ m.op = 21 ∨ m.op = 22 ∨ m.op = 23 ∨ m.op = 24 ∨ m.op = 25 ∨ m.op = 26 ∨ m.op = 27 ∨ m.op = 29 ∨ (m.op < 1 ∨ m.op = 28 ∨ 30 ≤ m.op) := by omega
  rcases key with ho | ho | ho | ho | ho | ho | ho | ho | ho | ho | ho | ho | ho | ho | ho | ho
  · have e : doM m R M = (none, setR R m.d (getR R m.a), M) := by unfold doM; dsimp only; rw [if_pos (by omega)]
    rw [e]; exact do7_1 m av mv0 R M rb rc rest T w h hf hw hR hl hm hsep ho
  · have e : doM m R M = (none, setR (setR R m.a (getR R m.b)) m.b (getR R m.a), M) := by unfold doM; dsimp only; rw [if_neg (by omega), if_pos (by omega)]
    rw [e]; exact do7_2 m av mv0 R M rb rc rest T w h hf hw hR hl hm hsep ho
  · have e : doM m R M = (none, setR R m.d m.imm, M) := by unfold doM; dsimp only; rw [if_neg (by omega), if_neg (by omega), if_pos (by omega)]
    rw [e]; exact do7_34 m av mv0 R M rb rc rest T w h hf hw hR hl hm hsep ho
  · have e : doM m R M = (match doI (m.op - 5 + 2) (getR R m.a) (getR R m.b) with | none => (some (-1), R, M) | some v => (none, setR R m.d v, M)) := by unfold doM; dsimp only; rw [if_neg (by omega), if_neg (by omega), if_neg (by omega), if_pos (by omega), show m.op - 3 = m.op - 5 + 2 from by omega]; cases doI (m.op - 5 + 2) (getR R m.a) (getR R m.b) <;> rfl
    rw [e]
    cases hv : doI (m.op - 5 + 2) (getR R m.a) (getR R m.b) with
    | none => exact do7_trap m av mv0 R M rb rc rest T w h hf hw hR hl hm hsep ho hv
    | some v => exact do7_alu m av mv0 R M rb rc rest T w h hf hw hR hl hm hsep ho v hv
  · obtain ⟨op, xd, xe, xa, xb, xc, ximm, xargs⟩ := m
    dsimp only at ho
    subst ho
    exact do7_18 xd xe xa xb xc ximm xargs av mv0 R M rb rc rest T w h hf hw hR hl hm hsep
  · obtain ⟨op, xd, xe, xa, xb, xc, ximm, xargs⟩ := m
    dsimp only at ho
    subst ho
    exact do7_19 xd xe xa xb xc ximm xargs av mv0 R M rb rc rest T w h hf hw hR hl hm hsep
  · obtain ⟨op, xd, xe, xa, xb, xc, ximm, xargs⟩ := m
    dsimp only at ho
    subst ho
    exact do7_20 xd xe xa xb xc ximm xargs av mv0 R M rb rc rest T w h hf hw hR hl hm hsep
  · obtain ⟨op, xd, xe, xa, xb, xc, ximm, xargs⟩ := m
    dsimp only at ho
    subst ho
    exact do7_21 xd xe xa xb xc ximm xargs av mv0 R M rb rc rest T w h hf hw hR hl hm hsep
  · obtain ⟨op, xd, xe, xa, xb, xc, ximm, xargs⟩ := m
    dsimp only at ho
    subst ho
    exact do7_22 xd xe xa xb xc ximm xargs av mv0 R M rb rc rest T w h hf hw hR hl hm hsep
  · have e : doM m R M = (none, setR R m.d (wrap32 (wrap32 (getR R m.a * getR R m.b) + getR R m.c)), M) := by unfold doM; dsimp only; rw [if_neg (by omega), if_neg (by omega), if_neg (by omega), if_neg (by omega), if_neg (by omega), if_pos (by omega)]
    rw [e]; exact do7_23 m av mv0 R M rb rc rest T w h hf hw hR hl hm hsep ho
  · have e : doM m R M = if 0 ≤ wrap32 (getR R m.a + m.imm) ∧ wrap32 (getR R m.a + m.imm) < (M.length : Int) then (none, setR R m.d (M.getD (wrap32 (getR R m.a + m.imm)).toNat 0), M) else (some (-2), R, M) := by
      obtain ⟨op, xd, xe, xa, xb, xc, ximm, xargs⟩ := m
      dsimp only at ho
      subst ho
      rfl
    rw [e]
    by_cases hin : 0 ≤ wrap32 (getR R m.a + m.imm) ∧ wrap32 (getR R m.a + m.imm) < (M.length : Int)
    · rw [if_pos hin]; exact do7_24_ok m av mv0 R M rb rc rest T w h hf hw hR hl hm hsep ho hin
    · rw [if_neg hin]; exact do7_24_no m av mv0 R M rb rc rest T w h hf hw hR hl hm hsep ho hin
  · have e : doM m R M = if 0 ≤ wrap32 (getR R m.a + getR R m.b) ∧ wrap32 (getR R m.a + getR R m.b) < (M.length : Int) then (none, setR R m.d (M.getD (wrap32 (getR R m.a + getR R m.b)).toNat 0), M) else (some (-2), R, M) := by
      obtain ⟨op, xd, xe, xa, xb, xc, ximm, xargs⟩ := m
      dsimp only at ho
      subst ho
      rfl
    rw [e]
    by_cases hin : 0 ≤ wrap32 (getR R m.a + getR R m.b) ∧ wrap32 (getR R m.a + getR R m.b) < (M.length : Int)
    · rw [if_pos hin]; exact do7_25_ok m av mv0 R M rb rc rest T w h hf hw hR hl hm hsep ho hin
    · rw [if_neg hin]; exact do7_25_no m av mv0 R M rb rc rest T w h hf hw hR hl hm hsep ho hin
  · have e : doM m R M = if 0 ≤ wrap32 (getR R m.a + m.imm) ∧ wrap32 (getR R m.a + m.imm) < (M.length : Int) then (none, R, M.set (wrap32 (getR R m.a + m.imm)).toNat (getR R m.b)) else (some (-2), R, M) := by
      obtain ⟨op, xd, xe, xa, xb, xc, ximm, xargs⟩ := m
      dsimp only at ho
      subst ho
      rfl
    rw [e]
    by_cases hin : 0 ≤ wrap32 (getR R m.a + m.imm) ∧ wrap32 (getR R m.a + m.imm) < (M.length : Int)
    · rw [if_pos hin]; exact do7_26_ok m av mv0 R M rb rc rest T w h hf hw hR hl hm hsep ho hin
    · rw [if_neg hin]; exact do7_26_no m av mv0 R M rb rc rest T w h hf hw hR hl hm hsep ho hin
  · have e : doM m R M = if 0 ≤ wrap32 (getR R m.a + getR R m.b) ∧ wrap32 (getR R m.a + getR R m.b) < (M.length : Int) then (none, R, M.set (wrap32 (getR R m.a + getR R m.b)).toNat (getR R m.c)) else (some (-2), R, M) := by
      obtain ⟨op, xd, xe, xa, xb, xc, ximm, xargs⟩ := m
      dsimp only at ho
      subst ho
      rfl
    rw [e]
    by_cases hin : 0 ≤ wrap32 (getR R m.a + getR R m.b) ∧ wrap32 (getR R m.a + getR R m.b) < (M.length : Int)
    · rw [if_pos hin]; exact do7_27_ok m av mv0 R M rb rc rest T w h hf hw hR hl hm hsep ho hin
    · rw [if_neg hin]; exact do7_27_no m av mv0 R M rb rc rest T w h hf hw hR hl hm hsep ho hin
  · have e : doM m R M = (none, setR (setR R m.d (lowI (getR R m.a) (getR R m.b))) m.e (highI (getR R m.a) (getR R m.b)), M) := by unfold doM; dsimp only; rw [if_neg (by omega), if_neg (by omega), if_neg (by omega), if_neg (by omega), if_neg (by omega), if_neg (by omega), if_neg (by omega), if_neg (by omega), if_pos (by omega)]
    rw [e]; exact do7_29 m av mv0 R M rb rc rest T w h hf hw hR hl hm hsep ho
  · have e : doM m R M = (none, R, M) := by unfold doM; dsimp only; rw [if_neg (by omega), if_neg (by omega), if_neg (by omega), if_neg (by omega), if_neg (by omega), if_neg (by omega), if_neg (by omega), if_neg (by omega), if_neg (by omega)]
    rw [e]; exact do7_none m av mv0 R M rb rc rest T w h hf hw hR hl hm hsep ho
end Go.Proofs.Ytkpbmbhejpmboaa
