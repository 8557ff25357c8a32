/- mach.Do, more of its ways. -/
import Derived.Test.YtkpbmbhejpmboaaMachDo2
namespace Go.Proofs.Ytkpbmbhejpmboaa
open Go.RowKit
set_option linter.unusedVariables false

set_option maxHeartbeats 1000000 in
set_option maxRecDepth 100000 in
theorem do7_26_ok (m : Mach) (av mv0 : Value) (R M : List Int) (rb rc : Nat) (rest : List Value) (T : TypeId) (w : World) (h : Ints w av m.args) (hf : Fine m) (hw : WAt w rb R rest T) (hR : ∀ x ∈ R, In32 x) (hl : R.length ≤ 1000) (hm : MemIs w mv0 M)
    (hsep : (∀ q, av.ownBlock = some q → q ≠ rb ∧ mv0.ownBlock ≠ some q) ∧ mv0.ownBlock ≠ some rb) (ho : m.op = 26) (hin : 0 ≤ wrap32 (getR R m.a + m.imm) ∧ wrap32 (getR R m.a + m.imm) < (M.length : Int)) :
    Calls Try.prog 168 #[mv m av, .slice (some ⟨rb, 0, none⟩) R.length rc, mv0] w (DoneP none R (M.set (wrap32 (getR R m.a + m.imm)).toNat (getR R m.b)) rb rest T mv0 w) := by
  have HGET := Lib.hid (fun r w h => get_any R rb rc rest T r w h (by omega))
  have HSET := Lib.hid (fun r v w bx h hx => set_any R rb rc bx rest T r v w h (by omega) hx)
  have HMK := Lib.hid (fun w h => makes7_any m av w h hf.2.2)
  have hA := getR_32 hR m.a
  have hB := getR_32 hR m.b
  have hC := getR_32 hR m.c
  obtain ⟨ma, mc, rfl, hml⟩ := hm.shape
  obtain ⟨aa, ac, hav⟩ := nums_lenI h
  subst hav
  have H := Lib.hid h
  have HW := Lib.hid hw
  have HM := Lib.hid hm
  have HSEP := Lib.hid hsep
  have HF := Lib.hid hf
  have HRB := Lib.hid hw.lt
  clear h hw hm hsep hf hR
  unfold mv at HMK
  unfold mv
  have HMAKES := Lib.hid (show makes7 m = [] from by unfold makes7; rw [if_neg (by omega), if_neg (by omega), if_pos (by omega)])
  have n1 : (m.op == 1) = false := beq_eq_false_iff_ne.2 (by omega)
  have n2 : (m.op == 2) = false := beq_eq_false_iff_ne.2 (by omega)
  have n3 : (m.op == 3) = false := beq_eq_false_iff_ne.2 (by omega)
  have n4 : (m.op == 4) = false := beq_eq_false_iff_ne.2 (by omega)
  have n23 : (m.op == 23) = false := beq_eq_false_iff_ne.2 (by omega)
  have n24 : (m.op == 24) = false := beq_eq_false_iff_ne.2 (by omega)
  have n25 : (m.op == 25) = false := beq_eq_false_iff_ne.2 (by omega)
  have y26 : (m.op == 26) = true := beq_iff_eq.2 (by omega)
  have g1 : ¬ m.op ≤ 17 := by omega
  have g2 : ¬ m.op ≤ 22 := by omega
  have g3 : 18 ≤ m.op := by omega
  have g4 : 5 ≤ m.op := by omega
  have hiu : m.imm ≤ 2147483647 := HF.out.2.1
  have hil : -2147483648 ≤ m.imm := HF.out.1
  have HSTO := Lib.hid (fun w h => store_any M (.slice ma M.length mc) (wrap32 (getR R m.a + m.imm)) (getR R m.b) w h (in32_wrap _).1 (in32_wrap _).2)
  unfold StoreP at HSTO
  simp only [if_pos hin, decide_eq_true hin.1, decide_eq_true hin.2, Bool.and_self] at HSTO
  generalize M.set (wrap32 (getR R m.a + m.imm)).toNat (getR R m.b) = M2 at *
  clear hin ho
  obtain ⟨hA1, hA2⟩ := hA
  obtain ⟨hB1, hB2⟩ := hB
  obtain ⟨hC1, hC2⟩ := hC
  go_enter Try.func168, Try.ntmps168
  go_wp2
  refine wp_region_list_facts rfl (by decide +kernel) (by decide +kernel)
    [Is (.slice (some ⟨rb, 0, none⟩) R.length rc), Is (.pointer (some ⟨w.heap.size, 3, none⟩)), Is (.int .i64 m.a), Is (.int .i32 (getR R m.a)), Is (.slice (some ⟨rb, 0, none⟩) R.length rc), Is (.pointer (some ⟨w.heap.size, 4, none⟩)), Is (.int .i64 m.b), Is (.int .i32 (getR R m.b)), Is (.slice (some ⟨rb, 0, none⟩) R.length rc), Is (.pointer (some ⟨w.heap.size, 5, none⟩)), Is (.int .i64 m.c), Is (.int .i32 (getR R m.c)), Is (.int .i32 (getR R m.a)), Is (.int .i32 (getR R m.b)), Is (.int .i32 (getR R m.c))]
    (by repeat (first | exact trivial | refine ⟨Is.stable _, ?_⟩ | refine ⟨IsNums.stable _ _, ?_⟩ | refine ⟨IsRows.stable _ _, ?_⟩)) ⟨?_, ?_, ?_, ?_, ?_, ?_, ?_, ?_, ?_, ?_, ?_, ?_, ?_, ?_, ?_, trivial⟩ ?_
  all_goals
    intro vs w1 hs hk
    have hbm : ∀ i, w1.cell? ⟨w.heap.size, i, none⟩ = _ := fun i => hs.cell (p := ⟨w.heap.size, i, none⟩) (by simp <;> omega)
    have hbr : ∀ i, w1.cell? ⟨w.heap.size + 1, i, none⟩ = _ := fun i => hs.cell (p := ⟨w.heap.size + 1, i, none⟩) (by simp)
    have HSZ := Lib.hid (show w.heap.size + 1 < w1.heap.size from by have := hs.size; simp at this; omega)
    have HS := Lib.hid (Since.trans (((Since.refl w).alloc _).alloc _) hs)
    clear hs
    simp only [putAll, Act.put, Knows, KnowsAll, nthF, Is, List.setIfInBounds_toArray, List.set_cons_zero, List.set_cons_succ, Nat.reduceAdd, List.length_cons, List.length_nil] at hk ⊢
    try simp only [hk]
  · go_wp2
    exact ⟨_, rfl, rfl, Since.refl _⟩
  · go_wp2
    exact ⟨_, rfl, rfl, Since.refl _⟩
  · go_wp2
    exact ⟨_, rfl, rfl, Since.refl _⟩
  · go_wp2_with fail
    refine (HGET.out _ w1 (HW.out.keep HS.out)).mono ?_
    rintro e w2 ⟨rfl, rfl⟩
    go_wp2
    exact ⟨_, rfl, rfl, Since.refl _⟩
  · go_wp2
    exact ⟨_, rfl, rfl, Since.refl _⟩
  · go_wp2
    exact ⟨_, rfl, rfl, Since.refl _⟩
  · go_wp2
    exact ⟨_, rfl, rfl, Since.refl _⟩
  · go_wp2_with fail
    refine (HGET.out _ w1 (HW.out.keep HS.out)).mono ?_
    rintro e w2 ⟨rfl, rfl⟩
    go_wp2
    exact ⟨_, rfl, rfl, Since.refl _⟩
  · go_wp2
    exact ⟨_, rfl, rfl, Since.refl _⟩
  · go_wp2
    exact ⟨_, rfl, rfl, Since.refl _⟩
  · go_wp2
    exact ⟨_, rfl, rfl, Since.refl _⟩
  · go_wp2_with fail
    refine (HGET.out _ w1 (HW.out.keep HS.out)).mono ?_
    rintro e w2 ⟨rfl, rfl⟩
    go_wp2
    exact ⟨_, rfl, rfl, Since.refl _⟩
  · go_wp2
    exact ⟨_, rfl, rfl, Since.refl _⟩
  · go_wp2
    exact ⟨_, rfl, rfl, Since.refl _⟩
  · go_wp2
    exact ⟨_, rfl, rfl, Since.refl _⟩
  · have HBM := Lib.hid hbm
    have HBR := Lib.hid hbr
    clear hk
    generalize getR R m.a = A at *
    generalize getR R m.b = B at *
    generalize getR R m.c = C at *
    go_wp2_with fail
    refine (HSTO.out _ (HM.out.keep HS.out)).mono ?_
    rintro e2 w2 ⟨rfl, hm2, ht2⟩
    have hlt := fun q hq => MemIs.lt HM.out (q := q) hq
    have hbm2 : ∀ i, w2.cell? ⟨w.heap.size, i, none⟩ = _ := fun i => (ht2.cell (p := ⟨w.heap.size, i, none⟩) (Nat.lt_of_succ_lt HSZ.out) (fun e => absurd (hlt _ e) (by simp))).trans (HBM.out i)
    have HM2 := Lib.hid hm2
    have HT2 := Lib.hid ht2
    have HLT := Lib.hid hlt
    clear hm2 ht2 hlt hbm hbr
    go_wp2_with fail
    refine (HMK.out _ ((H.out.keep HS.out).turn HT2.out (fun q hq e => (HSEP.out.1 q hq).2 e))).mono ?_
    rw [HMAKES.out]
    rintro e5 w5 ⟨v5, rfl, hv5, hs5⟩
    obtain ⟨ka, kc, rfl⟩ := nums_lenI hv5
    have HS5 := Lib.hid hs5
    clear hbm2 hv5 hs5
    go_wp2
    go_loopw [189] (fun i wr => i = .int .i64 0 ∧ wr = w5) (fun i _ => 0)
    case atStart => exact ⟨rfl, rfl⟩
    case round =>
      obtain ⟨rfl, rfl⟩ := hrel
      go_wp2
      go_ret2
      exact ⟨rfl, ((HW.out.keep HS.out).turn HT2.out (fun e => HSEP.out.2 e)).keep HS5.out, HM2.out.keep HS5.out, ((Turn.since HS.out).trans (HT2.out.mono fun _ _ h => .inr h)).trans (Turn.since HS5.out)⟩


set_option maxHeartbeats 1000000 in
set_option maxRecDepth 100000 in
theorem do7_26_no (m : Mach) (av mv0 : Value) (R M : List Int) (rb rc : Nat) (rest : List Value) (T : TypeId) (w : World) (h : Ints w av m.args) (hf : Fine m) (hw : WAt w rb R rest T) (hR : ∀ x ∈ R, In32 x) (hl : R.length ≤ 1000) (hm : MemIs w mv0 M)
    (hsep : (∀ q, av.ownBlock = some q → q ≠ rb ∧ mv0.ownBlock ≠ some q) ∧ mv0.ownBlock ≠ some rb) (ho : m.op = 26) (hin : ¬ (0 ≤ wrap32 (getR R m.a + m.imm) ∧ wrap32 (getR R m.a + m.imm) < (M.length : Int))) :
    Calls Try.prog 168 #[mv m av, .slice (some ⟨rb, 0, none⟩) R.length rc, mv0] w (DoneP (some (-2)) R M rb rest T mv0 w) := by
  have HGET := Lib.hid (fun r w h => get_any R rb rc rest T r w h (by omega))
  have HSET := Lib.hid (fun r v w bx h hx => set_any R rb rc bx rest T r v w h (by omega) hx)
  have HMK := Lib.hid (fun w h => makes7_any m av w h hf.2.2)
  have hA := getR_32 hR m.a
  have hB := getR_32 hR m.b
  have hC := getR_32 hR m.c
  obtain ⟨ma, mc, rfl, hml⟩ := hm.shape
  obtain ⟨aa, ac, hav⟩ := nums_lenI h
  subst hav
  have H := Lib.hid h
  have HW := Lib.hid hw
  have HM := Lib.hid hm
  have HSEP := Lib.hid hsep
  have HF := Lib.hid hf
  have HRB := Lib.hid hw.lt
  clear h hw hm hsep hf hR
  unfold mv at HMK
  unfold mv
  have n1 : (m.op == 1) = false := beq_eq_false_iff_ne.2 (by omega)
  have n2 : (m.op == 2) = false := beq_eq_false_iff_ne.2 (by omega)
  have n3 : (m.op == 3) = false := beq_eq_false_iff_ne.2 (by omega)
  have n4 : (m.op == 4) = false := beq_eq_false_iff_ne.2 (by omega)
  have n23 : (m.op == 23) = false := beq_eq_false_iff_ne.2 (by omega)
  have n24 : (m.op == 24) = false := beq_eq_false_iff_ne.2 (by omega)
  have n25 : (m.op == 25) = false := beq_eq_false_iff_ne.2 (by omega)
  have y26 : (m.op == 26) = true := beq_iff_eq.2 (by omega)
  have g1 : ¬ m.op ≤ 17 := by omega
  have g2 : ¬ m.op ≤ 22 := by omega
  have g3 : 18 ≤ m.op := by omega
  have g4 : 5 ≤ m.op := by omega
  have hiu : m.imm ≤ 2147483647 := HF.out.2.1
  have hil : -2147483648 ≤ m.imm := HF.out.1
  have HSTO := Lib.hid (fun w h => store_any M (.slice ma M.length mc) (wrap32 (getR R m.a + m.imm)) (getR R m.b) w h (in32_wrap _).1 (in32_wrap _).2)
  unfold StoreP at HSTO
  simp only [if_neg hin, show (decide (0 ≤ wrap32 (getR R m.a + m.imm)) && decide (wrap32 (getR R m.a + m.imm) < (M.length : Int))) = false from by rw [← Bool.decide_and]; exact decide_eq_false hin] at HSTO
  clear hin ho
  obtain ⟨hA1, hA2⟩ := hA
  obtain ⟨hB1, hB2⟩ := hB
  obtain ⟨hC1, hC2⟩ := hC
  go_enter Try.func168, Try.ntmps168
  go_wp2
  refine wp_region_list_facts rfl (by decide +kernel) (by decide +kernel)
    [Is (.slice (some ⟨rb, 0, none⟩) R.length rc), Is (.pointer (some ⟨w.heap.size, 3, none⟩)), Is (.int .i64 m.a), Is (.int .i32 (getR R m.a)), Is (.slice (some ⟨rb, 0, none⟩) R.length rc), Is (.pointer (some ⟨w.heap.size, 4, none⟩)), Is (.int .i64 m.b), Is (.int .i32 (getR R m.b)), Is (.slice (some ⟨rb, 0, none⟩) R.length rc), Is (.pointer (some ⟨w.heap.size, 5, none⟩)), Is (.int .i64 m.c), Is (.int .i32 (getR R m.c)), Is (.int .i32 (getR R m.a)), Is (.int .i32 (getR R m.b)), Is (.int .i32 (getR R m.c))]
    (by repeat (first | exact trivial | refine ⟨Is.stable _, ?_⟩ | refine ⟨IsNums.stable _ _, ?_⟩ | refine ⟨IsRows.stable _ _, ?_⟩)) ⟨?_, ?_, ?_, ?_, ?_, ?_, ?_, ?_, ?_, ?_, ?_, ?_, ?_, ?_, ?_, trivial⟩ ?_
  all_goals
    intro vs w1 hs hk
    have hbm : ∀ i, w1.cell? ⟨w.heap.size, i, none⟩ = _ := fun i => hs.cell (p := ⟨w.heap.size, i, none⟩) (by simp <;> omega)
    have hbr : ∀ i, w1.cell? ⟨w.heap.size + 1, i, none⟩ = _ := fun i => hs.cell (p := ⟨w.heap.size + 1, i, none⟩) (by simp)
    have HSZ := Lib.hid (show w.heap.size + 1 < w1.heap.size from by have := hs.size; simp at this; omega)
    have HS := Lib.hid (Since.trans (((Since.refl w).alloc _).alloc _) hs)
    clear hs
    simp only [putAll, Act.put, Knows, KnowsAll, nthF, Is, List.setIfInBounds_toArray, List.set_cons_zero, List.set_cons_succ, Nat.reduceAdd, List.length_cons, List.length_nil] at hk ⊢
    try simp only [hk]
  · go_wp2
    exact ⟨_, rfl, rfl, Since.refl _⟩
  · go_wp2
    exact ⟨_, rfl, rfl, Since.refl _⟩
  · go_wp2
    exact ⟨_, rfl, rfl, Since.refl _⟩
  · go_wp2_with fail
    refine (HGET.out _ w1 (HW.out.keep HS.out)).mono ?_
    rintro e w2 ⟨rfl, rfl⟩
    go_wp2
    exact ⟨_, rfl, rfl, Since.refl _⟩
  · go_wp2
    exact ⟨_, rfl, rfl, Since.refl _⟩
  · go_wp2
    exact ⟨_, rfl, rfl, Since.refl _⟩
  · go_wp2
    exact ⟨_, rfl, rfl, Since.refl _⟩
  · go_wp2_with fail
    refine (HGET.out _ w1 (HW.out.keep HS.out)).mono ?_
    rintro e w2 ⟨rfl, rfl⟩
    go_wp2
    exact ⟨_, rfl, rfl, Since.refl _⟩
  · go_wp2
    exact ⟨_, rfl, rfl, Since.refl _⟩
  · go_wp2
    exact ⟨_, rfl, rfl, Since.refl _⟩
  · go_wp2
    exact ⟨_, rfl, rfl, Since.refl _⟩
  · go_wp2_with fail
    refine (HGET.out _ w1 (HW.out.keep HS.out)).mono ?_
    rintro e w2 ⟨rfl, rfl⟩
    go_wp2
    exact ⟨_, rfl, rfl, Since.refl _⟩
  · go_wp2
    exact ⟨_, rfl, rfl, Since.refl _⟩
  · go_wp2
    exact ⟨_, rfl, rfl, Since.refl _⟩
  · go_wp2
    exact ⟨_, rfl, rfl, Since.refl _⟩
  · have HBM := Lib.hid hbm
    have HBR := Lib.hid hbr
    clear hk
    generalize getR R m.a = A at *
    generalize getR R m.b = B at *
    generalize getR R m.c = C at *
    go_wp2_with fail
    refine (HSTO.out _ (HM.out.keep HS.out)).mono ?_
    rintro e2 w2 ⟨rfl, hm2, ht2⟩
    have hlt := fun q hq => MemIs.lt HM.out (q := q) hq
    have hbm2 : ∀ i, w2.cell? ⟨w.heap.size, i, none⟩ = _ := fun i => (ht2.cell (p := ⟨w.heap.size, i, none⟩) (Nat.lt_of_succ_lt HSZ.out) (fun e => absurd (hlt _ e) (by simp))).trans (HBM.out i)
    have HM2 := Lib.hid hm2
    have HT2 := Lib.hid ht2
    have HLT := Lib.hid hlt
    clear hm2 ht2 hlt hbm hbr
    go_wp2
    go_ret2
    exact ⟨rfl, (HW.out.keep HS.out).turn HT2.out (fun e => HSEP.out.2 e), HM2.out, (Turn.since HS.out).trans (HT2.out.mono fun _ _ h => .inr h)⟩


set_option maxHeartbeats 1000000 in
set_option maxRecDepth 100000 in
theorem do7_27_ok (m : Mach) (av mv0 : Value) (R M : List Int) (rb rc : Nat) (rest : List Value) (T : TypeId) (w : World) (h : Ints w av m.args) (hf : Fine m) (hw : WAt w rb R rest T) (hR : ∀ x ∈ R, In32 x) (hl : R.length ≤ 1000) (hm : MemIs w mv0 M)
    (hsep : (∀ q, av.ownBlock = some q → q ≠ rb ∧ mv0.ownBlock ≠ some q) ∧ mv0.ownBlock ≠ some rb) (ho : m.op = 27) (hin : 0 ≤ wrap32 (getR R m.a + getR R m.b) ∧ wrap32 (getR R m.a + getR R m.b) < (M.length : Int)) :
    Calls Try.prog 168 #[mv m av, .slice (some ⟨rb, 0, none⟩) R.length rc, mv0] w (DoneP none R (M.set (wrap32 (getR R m.a + getR R m.b)).toNat (getR R m.c)) rb rest T mv0 w) := by
  have HGET := Lib.hid (fun r w h => get_any R rb rc rest T r w h (by omega))
  have HSET := Lib.hid (fun r v w bx h hx => set_any R rb rc bx rest T r v w h (by omega) hx)
  have HMK := Lib.hid (fun w h => makes7_any m av w h hf.2.2)
  have hA := getR_32 hR m.a
  have hB := getR_32 hR m.b
  have hC := getR_32 hR m.c
  obtain ⟨ma, mc, rfl, hml⟩ := hm.shape
  obtain ⟨aa, ac, hav⟩ := nums_lenI h
  subst hav
  have H := Lib.hid h
  have HW := Lib.hid hw
  have HM := Lib.hid hm
  have HSEP := Lib.hid hsep
  have HF := Lib.hid hf
  have HRB := Lib.hid hw.lt
  clear h hw hm hsep hf hR
  unfold mv at HMK
  unfold mv
  have HMAKES := Lib.hid (show makes7 m = [] from by unfold makes7; rw [if_neg (by omega), if_neg (by omega), if_pos (by omega)])
  have n1 : (m.op == 1) = false := beq_eq_false_iff_ne.2 (by omega)
  have n2 : (m.op == 2) = false := beq_eq_false_iff_ne.2 (by omega)
  have n3 : (m.op == 3) = false := beq_eq_false_iff_ne.2 (by omega)
  have n4 : (m.op == 4) = false := beq_eq_false_iff_ne.2 (by omega)
  have n23 : (m.op == 23) = false := beq_eq_false_iff_ne.2 (by omega)
  have n24 : (m.op == 24) = false := beq_eq_false_iff_ne.2 (by omega)
  have n25 : (m.op == 25) = false := beq_eq_false_iff_ne.2 (by omega)
  have n26 : (m.op == 26) = false := beq_eq_false_iff_ne.2 (by omega)
  have y27 : (m.op == 27) = true := beq_iff_eq.2 (by omega)
  have g1 : ¬ m.op ≤ 17 := by omega
  have g2 : ¬ m.op ≤ 22 := by omega
  have g3 : 18 ≤ m.op := by omega
  have g4 : 5 ≤ m.op := by omega
  have hiu : m.imm ≤ 2147483647 := HF.out.2.1
  have hil : -2147483648 ≤ m.imm := HF.out.1
  have HSTO := Lib.hid (fun w h => store_any M (.slice ma M.length mc) (wrap32 (getR R m.a + getR R m.b)) (getR R m.c) w h (in32_wrap _).1 (in32_wrap _).2)
  unfold StoreP at HSTO
  simp only [if_pos hin, decide_eq_true hin.1, decide_eq_true hin.2, Bool.and_self] at HSTO
  generalize M.set (wrap32 (getR R m.a + getR R m.b)).toNat (getR R m.c) = M2 at *
  clear hin ho
  obtain ⟨hA1, hA2⟩ := hA
  obtain ⟨hB1, hB2⟩ := hB
  obtain ⟨hC1, hC2⟩ := hC
  go_enter Try.func168, Try.ntmps168
  go_wp2
  refine wp_region_list_facts rfl (by decide +kernel) (by decide +kernel)
    [Is (.slice (some ⟨rb, 0, none⟩) R.length rc), Is (.pointer (some ⟨w.heap.size, 3, none⟩)), Is (.int .i64 m.a), Is (.int .i32 (getR R m.a)), Is (.slice (some ⟨rb, 0, none⟩) R.length rc), Is (.pointer (some ⟨w.heap.size, 4, none⟩)), Is (.int .i64 m.b), Is (.int .i32 (getR R m.b)), Is (.slice (some ⟨rb, 0, none⟩) R.length rc), Is (.pointer (some ⟨w.heap.size, 5, none⟩)), Is (.int .i64 m.c), Is (.int .i32 (getR R m.c)), Is (.int .i32 (getR R m.a)), Is (.int .i32 (getR R m.b)), Is (.int .i32 (getR R m.c))]
    (by repeat (first | exact trivial | refine ⟨Is.stable _, ?_⟩ | refine ⟨IsNums.stable _ _, ?_⟩ | refine ⟨IsRows.stable _ _, ?_⟩)) ⟨?_, ?_, ?_, ?_, ?_, ?_, ?_, ?_, ?_, ?_, ?_, ?_, ?_, ?_, ?_, trivial⟩ ?_
  all_goals
    intro vs w1 hs hk
    have hbm : ∀ i, w1.cell? ⟨w.heap.size, i, none⟩ = _ := fun i => hs.cell (p := ⟨w.heap.size, i, none⟩) (by simp <;> omega)
    have hbr : ∀ i, w1.cell? ⟨w.heap.size + 1, i, none⟩ = _ := fun i => hs.cell (p := ⟨w.heap.size + 1, i, none⟩) (by simp)
    have HSZ := Lib.hid (show w.heap.size + 1 < w1.heap.size from by have := hs.size; simp at this; omega)
    have HS := Lib.hid (Since.trans (((Since.refl w).alloc _).alloc _) hs)
    clear hs
    simp only [putAll, Act.put, Knows, KnowsAll, nthF, Is, List.setIfInBounds_toArray, List.set_cons_zero, List.set_cons_succ, Nat.reduceAdd, List.length_cons, List.length_nil] at hk ⊢
    try simp only [hk]
  · go_wp2
    exact ⟨_, rfl, rfl, Since.refl _⟩
  · go_wp2
    exact ⟨_, rfl, rfl, Since.refl _⟩
  · go_wp2
    exact ⟨_, rfl, rfl, Since.refl _⟩
  · go_wp2_with fail
    refine (HGET.out _ w1 (HW.out.keep HS.out)).mono ?_
    rintro e w2 ⟨rfl, rfl⟩
    go_wp2
    exact ⟨_, rfl, rfl, Since.refl _⟩
  · go_wp2
    exact ⟨_, rfl, rfl, Since.refl _⟩
  · go_wp2
    exact ⟨_, rfl, rfl, Since.refl _⟩
  · go_wp2
    exact ⟨_, rfl, rfl, Since.refl _⟩
  · go_wp2_with fail
    refine (HGET.out _ w1 (HW.out.keep HS.out)).mono ?_
    rintro e w2 ⟨rfl, rfl⟩
    go_wp2
    exact ⟨_, rfl, rfl, Since.refl _⟩
  · go_wp2
    exact ⟨_, rfl, rfl, Since.refl _⟩
  · go_wp2
    exact ⟨_, rfl, rfl, Since.refl _⟩
  · go_wp2
    exact ⟨_, rfl, rfl, Since.refl _⟩
  · go_wp2_with fail
    refine (HGET.out _ w1 (HW.out.keep HS.out)).mono ?_
    rintro e w2 ⟨rfl, rfl⟩
    go_wp2
    exact ⟨_, rfl, rfl, Since.refl _⟩
  · go_wp2
    exact ⟨_, rfl, rfl, Since.refl _⟩
  · go_wp2
    exact ⟨_, rfl, rfl, Since.refl _⟩
  · go_wp2
    exact ⟨_, rfl, rfl, Since.refl _⟩
  · have HBM := Lib.hid hbm
    have HBR := Lib.hid hbr
    clear hk
    generalize getR R m.a = A at *
    generalize getR R m.b = B at *
    generalize getR R m.c = C at *
    go_wp2_with fail
    refine (HSTO.out _ (HM.out.keep HS.out)).mono ?_
    rintro e2 w2 ⟨rfl, hm2, ht2⟩
    have hlt := fun q hq => MemIs.lt HM.out (q := q) hq
    have hbm2 : ∀ i, w2.cell? ⟨w.heap.size, i, none⟩ = _ := fun i => (ht2.cell (p := ⟨w.heap.size, i, none⟩) (Nat.lt_of_succ_lt HSZ.out) (fun e => absurd (hlt _ e) (by simp))).trans (HBM.out i)
    have HM2 := Lib.hid hm2
    have HT2 := Lib.hid ht2
    have HLT := Lib.hid hlt
    clear hm2 ht2 hlt hbm hbr
    go_wp2_with fail
    refine (HMK.out _ ((H.out.keep HS.out).turn HT2.out (fun q hq e => (HSEP.out.1 q hq).2 e))).mono ?_
    rw [HMAKES.out]
    rintro e5 w5 ⟨v5, rfl, hv5, hs5⟩
    obtain ⟨ka, kc, rfl⟩ := nums_lenI hv5
    have HS5 := Lib.hid hs5
    clear hbm2 hv5 hs5
    go_wp2
    go_loopw [189] (fun i wr => i = .int .i64 0 ∧ wr = w5) (fun i _ => 0)
    case atStart => exact ⟨rfl, rfl⟩
    case round =>
      obtain ⟨rfl, rfl⟩ := hrel
      go_wp2
      go_ret2
      exact ⟨rfl, ((HW.out.keep HS.out).turn HT2.out (fun e => HSEP.out.2 e)).keep HS5.out, HM2.out.keep HS5.out, ((Turn.since HS.out).trans (HT2.out.mono fun _ _ h => .inr h)).trans (Turn.since HS5.out)⟩


set_option maxHeartbeats 1000000 in
set_option maxRecDepth 100000 in
theorem do7_27_no (m : Mach) (av mv0 : Value) (R M : List Int) (rb rc : Nat) (rest : List Value) (T : TypeId) (w : World) (h : Ints w av m.args) (hf : Fine m) (hw : WAt w rb R rest T) (hR : ∀ x ∈ R, In32 x) (hl : R.length ≤ 1000) (hm : MemIs w mv0 M)
    (hsep : (∀ q, av.ownBlock = some q → q ≠ rb ∧ mv0.ownBlock ≠ some q) ∧ mv0.ownBlock ≠ some rb) (ho : m.op = 27) (hin : ¬ (0 ≤ wrap32 (getR R m.a + getR R m.b) ∧ wrap32 (getR R m.a + getR R m.b) < (M.length : Int))) :
    Calls Try.prog 168 #[mv m av, .slice (some ⟨rb, 0, none⟩) R.length rc, mv0] w (DoneP (some (-2)) R M rb rest T mv0 w) := by
  have HGET := Lib.hid (fun r w h => get_any R rb rc rest T r w h (by omega))
  have HSET := Lib.hid (fun r v w bx h hx => set_any R rb rc bx rest T r v w h (by omega) hx)
  have HMK := Lib.hid (fun w h => makes7_any m av w h hf.2.2)
  have hA := getR_32 hR m.a
  have hB := getR_32 hR m.b
  have hC := getR_32 hR m.c
  obtain ⟨ma, mc, rfl, hml⟩ := hm.shape
  obtain ⟨aa, ac, hav⟩ := nums_lenI h
  subst hav
  have H := Lib.hid h
  have HW := Lib.hid hw
  have HM := Lib.hid hm
  have HSEP := Lib.hid hsep
  have HF := Lib.hid hf
  have HRB := Lib.hid hw.lt
  clear h hw hm hsep hf hR
  unfold mv at HMK
  unfold mv
  have n1 : (m.op == 1) = false := beq_eq_false_iff_ne.2 (by omega)
  have n2 : (m.op == 2) = false := beq_eq_false_iff_ne.2 (by omega)
  have n3 : (m.op == 3) = false := beq_eq_false_iff_ne.2 (by omega)
  have n4 : (m.op == 4) = false := beq_eq_false_iff_ne.2 (by omega)
  have n23 : (m.op == 23) = false := beq_eq_false_iff_ne.2 (by omega)
  have n24 : (m.op == 24) = false := beq_eq_false_iff_ne.2 (by omega)
  have n25 : (m.op == 25) = false := beq_eq_false_iff_ne.2 (by omega)
  have n26 : (m.op == 26) = false := beq_eq_false_iff_ne.2 (by omega)
  have y27 : (m.op == 27) = true := beq_iff_eq.2 (by omega)
  have g1 : ¬ m.op ≤ 17 := by omega
  have g2 : ¬ m.op ≤ 22 := by omega
  have g3 : 18 ≤ m.op := by omega
  have g4 : 5 ≤ m.op := by omega
  have hiu : m.imm ≤ 2147483647 := HF.out.2.1
  have hil : -2147483648 ≤ m.imm := HF.out.1
  have HSTO := Lib.hid (fun w h => store_any M (.slice ma M.length mc) (wrap32 (getR R m.a + getR R m.b)) (getR R m.c) w h (in32_wrap _).1 (in32_wrap _).2)
  unfold StoreP at HSTO
  simp only [if_neg hin, show (decide (0 ≤ wrap32 (getR R m.a + getR R m.b)) && decide (wrap32 (getR R m.a + getR R m.b) < (M.length : Int))) = false from by rw [← Bool.decide_and]; exact decide_eq_false hin] at HSTO
  clear hin ho
  obtain ⟨hA1, hA2⟩ := hA
  obtain ⟨hB1, hB2⟩ := hB
  obtain ⟨hC1, hC2⟩ := hC
  go_enter Try.func168, Try.ntmps168
  go_wp2
  refine wp_region_list_facts rfl (by decide +kernel) (by decide +kernel)
    [Is (.slice (some ⟨rb, 0, none⟩) R.length rc), Is (.pointer (some ⟨w.heap.size, 3, none⟩)), Is (.int .i64 m.a), Is (.int .i32 (getR R m.a)), Is (.slice (some ⟨rb, 0, none⟩) R.length rc), Is (.pointer (some ⟨w.heap.size, 4, none⟩)), Is (.int .i64 m.b), Is (.int .i32 (getR R m.b)), Is (.slice (some ⟨rb, 0, none⟩) R.length rc), Is (.pointer (some ⟨w.heap.size, 5, none⟩)), Is (.int .i64 m.c), Is (.int .i32 (getR R m.c)), Is (.int .i32 (getR R m.a)), Is (.int .i32 (getR R m.b)), Is (.int .i32 (getR R m.c))]
    (by repeat (first | exact trivial | refine ⟨Is.stable _, ?_⟩ | refine ⟨IsNums.stable _ _, ?_⟩ | refine ⟨IsRows.stable _ _, ?_⟩)) ⟨?_, ?_, ?_, ?_, ?_, ?_, ?_, ?_, ?_, ?_, ?_, ?_, ?_, ?_, ?_, trivial⟩ ?_
  all_goals
    intro vs w1 hs hk
    have hbm : ∀ i, w1.cell? ⟨w.heap.size, i, none⟩ = _ := fun i => hs.cell (p := ⟨w.heap.size, i, none⟩) (by simp <;> omega)
    have hbr : ∀ i, w1.cell? ⟨w.heap.size + 1, i, none⟩ = _ := fun i => hs.cell (p := ⟨w.heap.size + 1, i, none⟩) (by simp)
    have HSZ := Lib.hid (show w.heap.size + 1 < w1.heap.size from by have := hs.size; simp at this; omega)
    have HS := Lib.hid (Since.trans (((Since.refl w).alloc _).alloc _) hs)
    clear hs
    simp only [putAll, Act.put, Knows, KnowsAll, nthF, Is, List.setIfInBounds_toArray, List.set_cons_zero, List.set_cons_succ, Nat.reduceAdd, List.length_cons, List.length_nil] at hk ⊢
    try simp only [hk]
  · go_wp2
    exact ⟨_, rfl, rfl, Since.refl _⟩
  · go_wp2
    exact ⟨_, rfl, rfl, Since.refl _⟩
  · go_wp2
    exact ⟨_, rfl, rfl, Since.refl _⟩
  · go_wp2_with fail
    refine (HGET.out _ w1 (HW.out.keep HS.out)).mono ?_
    rintro e w2 ⟨rfl, rfl⟩
    go_wp2
    exact ⟨_, rfl, rfl, Since.refl _⟩
  · go_wp2
    exact ⟨_, rfl, rfl, Since.refl _⟩
  · go_wp2
    exact ⟨_, rfl, rfl, Since.refl _⟩
  · go_wp2
    exact ⟨_, rfl, rfl, Since.refl _⟩
  · go_wp2_with fail
    refine (HGET.out _ w1 (HW.out.keep HS.out)).mono ?_
    rintro e w2 ⟨rfl, rfl⟩
    go_wp2
    exact ⟨_, rfl, rfl, Since.refl _⟩
  · go_wp2
    exact ⟨_, rfl, rfl, Since.refl _⟩
  · go_wp2
    exact ⟨_, rfl, rfl, Since.refl _⟩
  · go_wp2
    exact ⟨_, rfl, rfl, Since.refl _⟩
  · go_wp2_with fail
    refine (HGET.out _ w1 (HW.out.keep HS.out)).mono ?_
    rintro e w2 ⟨rfl, rfl⟩
    go_wp2
    exact ⟨_, rfl, rfl, Since.refl _⟩
  · go_wp2
    exact ⟨_, rfl, rfl, Since.refl _⟩
  · go_wp2
    exact ⟨_, rfl, rfl, Since.refl _⟩
  · go_wp2
    exact ⟨_, rfl, rfl, Since.refl _⟩
  · have HBM := Lib.hid hbm
    have HBR := Lib.hid hbr
    clear hk
    generalize getR R m.a = A at *
    generalize getR R m.b = B at *
    generalize getR R m.c = C at *
    go_wp2_with fail
    refine (HSTO.out _ (HM.out.keep HS.out)).mono ?_
    rintro e2 w2 ⟨rfl, hm2, ht2⟩
    have hlt := fun q hq => MemIs.lt HM.out (q := q) hq
    have hbm2 : ∀ i, w2.cell? ⟨w.heap.size, i, none⟩ = _ := fun i => (ht2.cell (p := ⟨w.heap.size, i, none⟩) (Nat.lt_of_succ_lt HSZ.out) (fun e => absurd (hlt _ e) (by simp))).trans (HBM.out i)
    have HM2 := Lib.hid hm2
    have HT2 := Lib.hid ht2
    have HLT := Lib.hid hlt
    clear hm2 ht2 hlt hbm hbr
    go_wp2
    go_ret2
    exact ⟨rfl, (HW.out.keep HS.out).turn HT2.out (fun e => HSEP.out.2 e), HM2.out, (Turn.since HS.out).trans (HT2.out.mono fun _ _ h => .inr h)⟩


set_option maxHeartbeats 1000000 in
set_option maxRecDepth 100000 in
theorem do7_none (m : Mach) (av mv0 : Value) (R M : List Int) (rb rc : Nat) (rest : List Value) (T : TypeId) (w : World) (h : Ints w av m.args) (hf : Fine m) (hw : WAt w rb R rest T) (hR : ∀ x ∈ R, In32 x) (hl : R.length ≤ 1000) (hm : MemIs w mv0 M)
    (hsep : (∀ q, av.ownBlock = some q → q ≠ rb ∧ mv0.ownBlock ≠ some q) ∧ mv0.ownBlock ≠ some rb) (ho : m.op < 1 ∨ m.op = 28 ∨ 30 ≤ m.op) :
    Calls Try.prog 168 #[mv m av, .slice (some ⟨rb, 0, none⟩) R.length rc, mv0] w (DoneP none R M rb rest T mv0 w) := by
  have HGET := Lib.hid (fun r w h => get_any R rb rc rest T r w h (by omega))
  have HSET := Lib.hid (fun r v w bx h hx => set_any R rb rc bx rest T r v w h (by omega) hx)
  have HMK := Lib.hid (fun w h => makes7_any m av w h hf.2.2)
  have hA := getR_32 hR m.a
  have hB := getR_32 hR m.b
  have hC := getR_32 hR m.c
  obtain ⟨ma, mc, rfl, hml⟩ := hm.shape
  obtain ⟨aa, ac, hav⟩ := nums_lenI h
  subst hav
  have H := Lib.hid h
  have HW := Lib.hid hw
  have HM := Lib.hid hm
  have HSEP := Lib.hid hsep
  have HF := Lib.hid hf
  have HRB := Lib.hid hw.lt
  clear h hw hm hsep hf hR
  unfold mv at HMK
  unfold mv
  have n1 : (m.op == 1) = false := beq_eq_false_iff_ne.2 (by omega)
  have n2 : (m.op == 2) = false := beq_eq_false_iff_ne.2 (by omega)
  have n3 : (m.op == 3) = false := beq_eq_false_iff_ne.2 (by omega)
  have n4 : (m.op == 4) = false := beq_eq_false_iff_ne.2 (by omega)
  have n23 : (m.op == 23) = false := beq_eq_false_iff_ne.2 (by omega)
  have n24 : (m.op == 24) = false := beq_eq_false_iff_ne.2 (by omega)
  have n25 : (m.op == 25) = false := beq_eq_false_iff_ne.2 (by omega)
  have n26 : (m.op == 26) = false := beq_eq_false_iff_ne.2 (by omega)
  have n27 : (m.op == 27) = false := beq_eq_false_iff_ne.2 (by omega)
  have n29 : (m.op == 29) = false := beq_eq_false_iff_ne.2 (by omega)
  have hw1 : (decide (5 ≤ m.op) && decide (m.op ≤ 17)) = false := by
    rw [← Bool.decide_and]; exact decide_eq_false (by omega)
  have hsp : m.op < 5 ∨ 22 < m.op := by omega
  clear ho
  obtain ⟨hA1, hA2⟩ := hA
  obtain ⟨hB1, hB2⟩ := hB
  obtain ⟨hC1, hC2⟩ := hC
  go_enter Try.func168, Try.ntmps168
  go_wp2
  refine wp_region_list_facts rfl (by decide +kernel) (by decide +kernel)
    [Is (.slice (some ⟨rb, 0, none⟩) R.length rc), Is (.pointer (some ⟨w.heap.size, 3, none⟩)), Is (.int .i64 m.a), Is (.int .i32 (getR R m.a)), Is (.slice (some ⟨rb, 0, none⟩) R.length rc), Is (.pointer (some ⟨w.heap.size, 4, none⟩)), Is (.int .i64 m.b), Is (.int .i32 (getR R m.b)), Is (.slice (some ⟨rb, 0, none⟩) R.length rc), Is (.pointer (some ⟨w.heap.size, 5, none⟩)), Is (.int .i64 m.c), Is (.int .i32 (getR R m.c)), Is (.int .i32 (getR R m.a)), Is (.int .i32 (getR R m.b)), Is (.int .i32 (getR R m.c))]
    (by repeat (first | exact trivial | refine ⟨Is.stable _, ?_⟩ | refine ⟨IsNums.stable _ _, ?_⟩ | refine ⟨IsRows.stable _ _, ?_⟩)) ⟨?_, ?_, ?_, ?_, ?_, ?_, ?_, ?_, ?_, ?_, ?_, ?_, ?_, ?_, ?_, trivial⟩ ?_
  all_goals
    intro vs w1 hs hk
    have hbm : ∀ i, w1.cell? ⟨w.heap.size, i, none⟩ = _ := fun i => hs.cell (p := ⟨w.heap.size, i, none⟩) (by simp <;> omega)
    have hbr : ∀ i, w1.cell? ⟨w.heap.size + 1, i, none⟩ = _ := fun i => hs.cell (p := ⟨w.heap.size + 1, i, none⟩) (by simp)
    have HSZ := Lib.hid (show w.heap.size + 1 < w1.heap.size from by have := hs.size; simp at this; omega)
    have HS := Lib.hid (Since.trans (((Since.refl w).alloc _).alloc _) hs)
    clear hs
    simp only [putAll, Act.put, Knows, KnowsAll, nthF, Is, List.setIfInBounds_toArray, List.set_cons_zero, List.set_cons_succ, Nat.reduceAdd, List.length_cons, List.length_nil] at hk ⊢
    try simp only [hk]
  · go_wp2
    exact ⟨_, rfl, rfl, Since.refl _⟩
  · go_wp2
    exact ⟨_, rfl, rfl, Since.refl _⟩
  · go_wp2
    exact ⟨_, rfl, rfl, Since.refl _⟩
  · go_wp2_with fail
    refine (HGET.out _ w1 (HW.out.keep HS.out)).mono ?_
    rintro e w2 ⟨rfl, rfl⟩
    go_wp2
    exact ⟨_, rfl, rfl, Since.refl _⟩
  · go_wp2
    exact ⟨_, rfl, rfl, Since.refl _⟩
  · go_wp2
    exact ⟨_, rfl, rfl, Since.refl _⟩
  · go_wp2
    exact ⟨_, rfl, rfl, Since.refl _⟩
  · go_wp2_with fail
    refine (HGET.out _ w1 (HW.out.keep HS.out)).mono ?_
    rintro e w2 ⟨rfl, rfl⟩
    go_wp2
    exact ⟨_, rfl, rfl, Since.refl _⟩
  · go_wp2
    exact ⟨_, rfl, rfl, Since.refl _⟩
  · go_wp2
    exact ⟨_, rfl, rfl, Since.refl _⟩
  · go_wp2
    exact ⟨_, rfl, rfl, Since.refl _⟩
  · go_wp2_with fail
    refine (HGET.out _ w1 (HW.out.keep HS.out)).mono ?_
    rintro e w2 ⟨rfl, rfl⟩
    go_wp2
    exact ⟨_, rfl, rfl, Since.refl _⟩
  · go_wp2
    exact ⟨_, rfl, rfl, Since.refl _⟩
  · go_wp2
    exact ⟨_, rfl, rfl, Since.refl _⟩
  · go_wp2
    exact ⟨_, rfl, rfl, Since.refl _⟩
  · have HBM := Lib.hid hbm
    have HBR := Lib.hid hbr
    clear hk
    generalize getR R m.a = A at *
    generalize getR R m.b = B at *
    generalize getR R m.c = C at *
    rcases hsp with hsp | hsp
    all_goals
      go_wp2
      go_ret2
      exact ⟨rfl, HW.out.keep HS.out, HM.out.keep HS.out, Turn.since HS.out⟩
end Go.Proofs.Ytkpbmbhejpmboaa
