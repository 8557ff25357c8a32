/- mach.Do, more of its ways. -/
import Derived.Test.YtkpbmbhejpmboaaMachDo
namespace Go.Proofs.Ytkpbmbhejpmboaa
open Go.RowKit
set_option linter.unusedVariables false

set_option maxHeartbeats 1000000 in
set_option maxRecDepth 100000 in
theorem do7_alu (m : Mach) (av mv0 : Value) (R M : List Int) (rb rc : Nat) (rest : List Value) (T : TypeId) (w : World) (h : Ints w av m.args) (hf : Fine m) (hw : WAt w rb R rest T) (hR : ∀ x ∈ R, In32 x) (hl : R.length ≤ 1000) (hm : MemIs w mv0 M)
    (hsep : (∀ q, av.ownBlock = some q → q ≠ rb ∧ mv0.ownBlock ≠ some q) ∧ mv0.ownBlock ≠ some rb) (ho : 5 ≤ m.op ∧ m.op ≤ 17) (v : Int) (hv : doI (m.op - 5 + 2) (getR R m.a) (getR R m.b) = some v) :
    Calls Try.prog 168 #[mv m av, .slice (some ⟨rb, 0, none⟩) R.length rc, mv0] w (DoneP none (setR R m.d v) M rb rest T mv0 w) := by
  have HGET := Lib.hid (fun r w h => get_any R rb rc rest T r w h (by omega))
  have HSET := Lib.hid (fun r v w bx h hx => set_any R rb rc bx rest T r v w h (by omega) hx)
  have HMK := Lib.hid (fun w h => makes7_any m av w h hf.2.2)
  have hA := getR_32 hR m.a
  have hB := getR_32 hR m.b
  have hC := getR_32 hR m.c
  obtain ⟨ma, mc, rfl, hml⟩ := hm.shape
  obtain ⟨aa, ac, hav⟩ := nums_lenI h
  subst hav
  have H := Lib.hid h
  have HW := Lib.hid hw
  have HM := Lib.hid hm
  have HSEP := Lib.hid hsep
  have HF := Lib.hid hf
  have HRB := Lib.hid hw.lt
  clear h hw hm hsep hf hR
  unfold mv at HMK
  unfold mv
  have HMAKES := Lib.hid (show makes7 m = [m.d] from by unfold makes7; rw [if_neg (by omega), if_neg (by omega), if_neg (by omega)])
  have n1 : (m.op == 1) = false := beq_eq_false_iff_ne.2 (by omega)
  have n2 : (m.op == 2) = false := beq_eq_false_iff_ne.2 (by omega)
  have n3 : (m.op == 3) = false := beq_eq_false_iff_ne.2 (by omega)
  have n4 : (m.op == 4) = false := beq_eq_false_iff_ne.2 (by omega)
  have g5 : 5 ≤ m.op := ho.1
  have g17 : m.op ≤ 17 := ho.2
  have HV := Lib.hid hv
  clear hv ho
  obtain ⟨hA1, hA2⟩ := hA
  obtain ⟨hB1, hB2⟩ := hB
  obtain ⟨hC1, hC2⟩ := hC
  go_enter Try.func168, Try.ntmps168
  go_wp2
  refine wp_region_list_facts rfl (by decide +kernel) (by decide +kernel)
    [Is (.slice (some ⟨rb, 0, none⟩) R.length rc), Is (.pointer (some ⟨w.heap.size, 3, none⟩)), Is (.int .i64 m.a), Is (.int .i32 (getR R m.a)), Is (.slice (some ⟨rb, 0, none⟩) R.length rc), Is (.pointer (some ⟨w.heap.size, 4, none⟩)), Is (.int .i64 m.b), Is (.int .i32 (getR R m.b)), Is (.slice (some ⟨rb, 0, none⟩) R.length rc), Is (.pointer (some ⟨w.heap.size, 5, none⟩)), Is (.int .i64 m.c), Is (.int .i32 (getR R m.c)), Is (.int .i32 (getR R m.a)), Is (.int .i32 (getR R m.b)), Is (.int .i32 (getR R m.c))]
    (by repeat (first | exact trivial | refine ⟨Is.stable _, ?_⟩ | refine ⟨IsNums.stable _ _, ?_⟩ | refine ⟨IsRows.stable _ _, ?_⟩)) ⟨?_, ?_, ?_, ?_, ?_, ?_, ?_, ?_, ?_, ?_, ?_, ?_, ?_, ?_, ?_, trivial⟩ ?_
  all_goals
    intro vs w1 hs hk
    have hbm : ∀ i, w1.cell? ⟨w.heap.size, i, none⟩ = _ := fun i => hs.cell (p := ⟨w.heap.size, i, none⟩) (by simp <;> omega)
    have hbr : ∀ i, w1.cell? ⟨w.heap.size + 1, i, none⟩ = _ := fun i => hs.cell (p := ⟨w.heap.size + 1, i, none⟩) (by simp)
    have HSZ := Lib.hid (show w.heap.size + 1 < w1.heap.size from by have := hs.size; simp at this; omega)
    have HS := Lib.hid (Since.trans (((Since.refl w).alloc _).alloc _) hs)
    clear hs
    simp only [putAll, Act.put, Knows, KnowsAll, nthF, Is, List.setIfInBounds_toArray, List.set_cons_zero, List.set_cons_succ, Nat.reduceAdd, List.length_cons, List.length_nil] at hk ⊢
    try simp only [hk]
  · go_wp2
    exact ⟨_, rfl, rfl, Since.refl _⟩
  · go_wp2
    exact ⟨_, rfl, rfl, Since.refl _⟩
  · go_wp2
    exact ⟨_, rfl, rfl, Since.refl _⟩
  · go_wp2_with fail
    refine (HGET.out _ w1 (HW.out.keep HS.out)).mono ?_
    rintro e w2 ⟨rfl, rfl⟩
    go_wp2
    exact ⟨_, rfl, rfl, Since.refl _⟩
  · go_wp2
    exact ⟨_, rfl, rfl, Since.refl _⟩
  · go_wp2
    exact ⟨_, rfl, rfl, Since.refl _⟩
  · go_wp2
    exact ⟨_, rfl, rfl, Since.refl _⟩
  · go_wp2_with fail
    refine (HGET.out _ w1 (HW.out.keep HS.out)).mono ?_
    rintro e w2 ⟨rfl, rfl⟩
    go_wp2
    exact ⟨_, rfl, rfl, Since.refl _⟩
  · go_wp2
    exact ⟨_, rfl, rfl, Since.refl _⟩
  · go_wp2
    exact ⟨_, rfl, rfl, Since.refl _⟩
  · go_wp2
    exact ⟨_, rfl, rfl, Since.refl _⟩
  · go_wp2_with fail
    refine (HGET.out _ w1 (HW.out.keep HS.out)).mono ?_
    rintro e w2 ⟨rfl, rfl⟩
    go_wp2
    exact ⟨_, rfl, rfl, Since.refl _⟩
  · go_wp2
    exact ⟨_, rfl, rfl, Since.refl _⟩
  · go_wp2
    exact ⟨_, rfl, rfl, Since.refl _⟩
  · go_wp2
    exact ⟨_, rfl, rfl, Since.refl _⟩
  · have HBM := Lib.hid hbm
    have HBR := Lib.hid hbr
    clear hk
    generalize getR R m.a = A at *
    generalize getR R m.b = B at *
    generalize getR R m.c = C at *
    go_wp2_with fail
    refine (do_any (m.op - 5 + 2) A B _ hA1 hA2 hB1 hB2).mono ?_
    rw [HV.out]
    rintro e2 w2 ⟨rfl, hs2⟩
    have hbm2 : ∀ i, w2.cell? ⟨w.heap.size, i, none⟩ = _ := fun i => (hs2.cell (p := ⟨w.heap.size, i, none⟩) (Nat.lt_of_succ_lt HSZ.out)).trans (HBM.out i)
    have hbr2 : ∀ i, w2.cell? ⟨w.heap.size + 1, i, none⟩ = _ := fun i => (hs2.cell (p := ⟨w.heap.size + 1, i, none⟩) HSZ.out).trans (HBR.out i)
    have HBM0 := HBM
    have HBR0 := HBR
    have HSZ0 := HSZ
    have HS0 := HS
    clear hbm hbr HBM HBR
    have HBM := Lib.hid hbm2
    have HBR := Lib.hid hbr2
    have HSZ := Lib.hid (Nat.lt_of_lt_of_le HSZ0.out hs2.size)
    have HS := Lib.hid (HS0.out.trans hs2)
    have hbm := hbm2
    have hbr := hbr2
    clear hbm2 hbr2 HBM0 HBR0 HSZ0 HS0 hs2
    go_wp2_with fail
    refine (HMK.out _ (H.out.keep HS.out)).mono ?_
    rw [HMAKES.out]
    rintro e5 w5 ⟨v5, rfl, hv5, hs5⟩
    obtain ⟨ka, kc, rfl⟩ := nums_lenI hv5
    obtain ⟨_, hcc⟩ := nums_cell hv5
    obtain ⟨kb, ko, rfl, _, hcell⟩ := hcc (by simp)
    have hk0 : w5.cell? ⟨kb, ko, none⟩ = some (.int .i64 m.d) := hcell 0 _ rfl
    have HS5 := Lib.hid (HS.out.trans hs5)
    have hbr5 : w5.cell? ⟨w.heap.size + 1, 0, none⟩ = _ := (hs5.cell (p := ⟨w.heap.size + 1, 0, none⟩) HSZ.out).trans (HBR.out 0)
    have hcl := HSET.out m.d (v) w5 (w.heap.size + 1) (HW.out.keep HS5.out) (hbr5.trans (cell_last2 _ _ _ _))
    have HCL := Lib.hid hcl
    clear hcc hcell hv5 hs5 hbr5 hbm hbr hcl
    go_wp2
    go_loopw [189] (fun i wr => ∃ t : Nat, i = .int .i64 t ∧ (t = 0 ∧ wr = w5 ∨ t = 1 ∧ wr = setW w5 rb R m.d (v))) (fun i _ => 1 - (intOf i).toNat)
    case atStart => exact ⟨0, rfl, .inl ⟨rfl, rfl⟩⟩
    case round =>
      obtain ⟨t, rfl, ⟨rfl, rfl⟩ | ⟨rfl, hwr⟩⟩ := hrel
      · go_wp2_with fail
        refine HCL.out.mono ?_
        rintro e6 w6 ⟨rfl, hw6⟩
        have HW6 := Lib.hid hw6
        clear hw6
        go_wp2
        go_roundw
        case rel => exact ⟨1, rfl, .inr ⟨rfl, HW6.out⟩⟩
        case measure => simp [intOf]
      · have HWR := Lib.hid hwr
        clear hwr hk0
        go_wp2
        go_ret2
        exact ⟨rfl, by rw [HWR.out]; exact setW_at (HW.out.keep HS5.out) _ _, by rw [HWR.out]; exact (HM.out.keep HS5.out).turn (setW_turn (S := fun k => k = rb) rfl _ _ _) (fun q hq e => HSEP.out.2 (by rw [hq, e])), by rw [HWR.out]; exact (Turn.since HS5.out).trans (setW_turn (S := fun k => k = rb ∨ _) (.inl rfl) _ _ _)⟩


set_option maxHeartbeats 1000000 in
set_option maxRecDepth 100000 in
theorem do7_trap (m : Mach) (av mv0 : Value) (R M : List Int) (rb rc : Nat) (rest : List Value) (T : TypeId) (w : World) (h : Ints w av m.args) (hf : Fine m) (hw : WAt w rb R rest T) (hR : ∀ x ∈ R, In32 x) (hl : R.length ≤ 1000) (hm : MemIs w mv0 M)
    (hsep : (∀ q, av.ownBlock = some q → q ≠ rb ∧ mv0.ownBlock ≠ some q) ∧ mv0.ownBlock ≠ some rb) (ho : 5 ≤ m.op ∧ m.op ≤ 17) (hv : doI (m.op - 5 + 2) (getR R m.a) (getR R m.b) = none) :
    Calls Try.prog 168 #[mv m av, .slice (some ⟨rb, 0, none⟩) R.length rc, mv0] w (DoneP (some (-1)) R M rb rest T mv0 w) := by
  have HGET := Lib.hid (fun r w h => get_any R rb rc rest T r w h (by omega))
  have HSET := Lib.hid (fun r v w bx h hx => set_any R rb rc bx rest T r v w h (by omega) hx)
  have HMK := Lib.hid (fun w h => makes7_any m av w h hf.2.2)
  have hA := getR_32 hR m.a
  have hB := getR_32 hR m.b
  have hC := getR_32 hR m.c
  obtain ⟨ma, mc, rfl, hml⟩ := hm.shape
  obtain ⟨aa, ac, hav⟩ := nums_lenI h
  subst hav
  have H := Lib.hid h
  have HW := Lib.hid hw
  have HM := Lib.hid hm
  have HSEP := Lib.hid hsep
  have HF := Lib.hid hf
  have HRB := Lib.hid hw.lt
  clear h hw hm hsep hf hR
  unfold mv at HMK
  unfold mv
  have n1 : (m.op == 1) = false := beq_eq_false_iff_ne.2 (by omega)
  have n2 : (m.op == 2) = false := beq_eq_false_iff_ne.2 (by omega)
  have n3 : (m.op == 3) = false := beq_eq_false_iff_ne.2 (by omega)
  have n4 : (m.op == 4) = false := beq_eq_false_iff_ne.2 (by omega)
  have g5 : 5 ≤ m.op := ho.1
  have g17 : m.op ≤ 17 := ho.2
  have HV := Lib.hid hv
  clear hv ho
  obtain ⟨hA1, hA2⟩ := hA
  obtain ⟨hB1, hB2⟩ := hB
  obtain ⟨hC1, hC2⟩ := hC
  go_enter Try.func168, Try.ntmps168
  go_wp2
  refine wp_region_list_facts rfl (by decide +kernel) (by decide +kernel)
    [Is (.slice (some ⟨rb, 0, none⟩) R.length rc), Is (.pointer (some ⟨w.heap.size, 3, none⟩)), Is (.int .i64 m.a), Is (.int .i32 (getR R m.a)), Is (.slice (some ⟨rb, 0, none⟩) R.length rc), Is (.pointer (some ⟨w.heap.size, 4, none⟩)), Is (.int .i64 m.b), Is (.int .i32 (getR R m.b)), Is (.slice (some ⟨rb, 0, none⟩) R.length rc), Is (.pointer (some ⟨w.heap.size, 5, none⟩)), Is (.int .i64 m.c), Is (.int .i32 (getR R m.c)), Is (.int .i32 (getR R m.a)), Is (.int .i32 (getR R m.b)), Is (.int .i32 (getR R m.c))]
    (by repeat (first | exact trivial | refine ⟨Is.stable _, ?_⟩ | refine ⟨IsNums.stable _ _, ?_⟩ | refine ⟨IsRows.stable _ _, ?_⟩)) ⟨?_, ?_, ?_, ?_, ?_, ?_, ?_, ?_, ?_, ?_, ?_, ?_, ?_, ?_, ?_, trivial⟩ ?_
  all_goals
    intro vs w1 hs hk
    have hbm : ∀ i, w1.cell? ⟨w.heap.size, i, none⟩ = _ := fun i => hs.cell (p := ⟨w.heap.size, i, none⟩) (by simp <;> omega)
    have hbr : ∀ i, w1.cell? ⟨w.heap.size + 1, i, none⟩ = _ := fun i => hs.cell (p := ⟨w.heap.size + 1, i, none⟩) (by simp)
    have HSZ := Lib.hid (show w.heap.size + 1 < w1.heap.size from by have := hs.size; simp at this; omega)
    have HS := Lib.hid (Since.trans (((Since.refl w).alloc _).alloc _) hs)
    clear hs
    simp only [putAll, Act.put, Knows, KnowsAll, nthF, Is, List.setIfInBounds_toArray, List.set_cons_zero, List.set_cons_succ, Nat.reduceAdd, List.length_cons, List.length_nil] at hk ⊢
    try simp only [hk]
  · go_wp2
    exact ⟨_, rfl, rfl, Since.refl _⟩
  · go_wp2
    exact ⟨_, rfl, rfl, Since.refl _⟩
  · go_wp2
    exact ⟨_, rfl, rfl, Since.refl _⟩
  · go_wp2_with fail
    refine (HGET.out _ w1 (HW.out.keep HS.out)).mono ?_
    rintro e w2 ⟨rfl, rfl⟩
    go_wp2
    exact ⟨_, rfl, rfl, Since.refl _⟩
  · go_wp2
    exact ⟨_, rfl, rfl, Since.refl _⟩
  · go_wp2
    exact ⟨_, rfl, rfl, Since.refl _⟩
  · go_wp2
    exact ⟨_, rfl, rfl, Since.refl _⟩
  · go_wp2_with fail
    refine (HGET.out _ w1 (HW.out.keep HS.out)).mono ?_
    rintro e w2 ⟨rfl, rfl⟩
    go_wp2
    exact ⟨_, rfl, rfl, Since.refl _⟩
  · go_wp2
    exact ⟨_, rfl, rfl, Since.refl _⟩
  · go_wp2
    exact ⟨_, rfl, rfl, Since.refl _⟩
  · go_wp2
    exact ⟨_, rfl, rfl, Since.refl _⟩
  · go_wp2_with fail
    refine (HGET.out _ w1 (HW.out.keep HS.out)).mono ?_
    rintro e w2 ⟨rfl, rfl⟩
    go_wp2
    exact ⟨_, rfl, rfl, Since.refl _⟩
  · go_wp2
    exact ⟨_, rfl, rfl, Since.refl _⟩
  · go_wp2
    exact ⟨_, rfl, rfl, Since.refl _⟩
  · go_wp2
    exact ⟨_, rfl, rfl, Since.refl _⟩
  · have HBM := Lib.hid hbm
    have HBR := Lib.hid hbr
    clear hk
    generalize getR R m.a = A at *
    generalize getR R m.b = B at *
    generalize getR R m.c = C at *
    go_wp2_with fail
    refine (do_any (m.op - 5 + 2) A B _ hA1 hA2 hB1 hB2).mono ?_
    rw [HV.out]
    rintro e2 w2 ⟨rfl, hs2⟩
    have hbm2 : ∀ i, w2.cell? ⟨w.heap.size, i, none⟩ = _ := fun i => (hs2.cell (p := ⟨w.heap.size, i, none⟩) (Nat.lt_of_succ_lt HSZ.out)).trans (HBM.out i)
    have hbr2 : ∀ i, w2.cell? ⟨w.heap.size + 1, i, none⟩ = _ := fun i => (hs2.cell (p := ⟨w.heap.size + 1, i, none⟩) HSZ.out).trans (HBR.out i)
    have HBM0 := HBM
    have HBR0 := HBR
    have HSZ0 := HSZ
    have HS0 := HS
    clear hbm hbr HBM HBR
    have HBM := Lib.hid hbm2
    have HBR := Lib.hid hbr2
    have HSZ := Lib.hid (Nat.lt_of_lt_of_le HSZ0.out hs2.size)
    have HS := Lib.hid (HS0.out.trans hs2)
    have hbm := hbm2
    have hbr := hbr2
    clear hbm2 hbr2 HBM0 HBR0 HSZ0 HS0 hs2
    go_wp2
    go_ret2
    exact ⟨rfl, HW.out.keep HS.out, HM.out.keep HS.out, Turn.since HS.out⟩


set_option maxHeartbeats 1000000 in
set_option maxRecDepth 100000 in
theorem do7_24_ok (m : Mach) (av mv0 : Value) (R M : List Int) (rb rc : Nat) (rest : List Value) (T : TypeId) (w : World) (h : Ints w av m.args) (hf : Fine m) (hw : WAt w rb R rest T) (hR : ∀ x ∈ R, In32 x) (hl : R.length ≤ 1000) (hm : MemIs w mv0 M)
    (hsep : (∀ q, av.ownBlock = some q → q ≠ rb ∧ mv0.ownBlock ≠ some q) ∧ mv0.ownBlock ≠ some rb) (ho : m.op = 24) (hin : 0 ≤ wrap32 (getR R m.a + m.imm) ∧ wrap32 (getR R m.a + m.imm) < (M.length : Int)) :
    Calls Try.prog 168 #[mv m av, .slice (some ⟨rb, 0, none⟩) R.length rc, mv0] w (DoneP none (setR R m.d (M.getD (wrap32 (getR R m.a + m.imm)).toNat 0)) M rb rest T mv0 w) := by
  have HGET := Lib.hid (fun r w h => get_any R rb rc rest T r w h (by omega))
  have HSET := Lib.hid (fun r v w bx h hx => set_any R rb rc bx rest T r v w h (by omega) hx)
  have HMK := Lib.hid (fun w h => makes7_any m av w h hf.2.2)
  have hA := getR_32 hR m.a
  have hB := getR_32 hR m.b
  have hC := getR_32 hR m.c
  obtain ⟨ma, mc, rfl, hml⟩ := hm.shape
  obtain ⟨aa, ac, hav⟩ := nums_lenI h
  subst hav
  have H := Lib.hid h
  have HW := Lib.hid hw
  have HM := Lib.hid hm
  have HSEP := Lib.hid hsep
  have HF := Lib.hid hf
  have HRB := Lib.hid hw.lt
  clear h hw hm hsep hf hR
  unfold mv at HMK
  unfold mv
  have HMAKES := Lib.hid (show makes7 m = [m.d] from by unfold makes7; rw [if_neg (by omega), if_neg (by omega), if_neg (by omega)])
  have n1 : (m.op == 1) = false := beq_eq_false_iff_ne.2 (by omega)
  have n2 : (m.op == 2) = false := beq_eq_false_iff_ne.2 (by omega)
  have n3 : (m.op == 3) = false := beq_eq_false_iff_ne.2 (by omega)
  have n4 : (m.op == 4) = false := beq_eq_false_iff_ne.2 (by omega)
  have n23 : (m.op == 23) = false := beq_eq_false_iff_ne.2 (by omega)
  have y24 : (m.op == 24) = true := beq_iff_eq.2 (by omega)
  have g1 : ¬ m.op ≤ 17 := by omega
  have g2 : ¬ m.op ≤ 22 := by omega
  have g3 : 18 ≤ m.op := by omega
  have g4 : 5 ≤ m.op := by omega
  have hiu : m.imm ≤ 2147483647 := HF.out.2.1
  have hil : -2147483648 ≤ m.imm := HF.out.1
  have HLD := Lib.hid (fun w h => load_any M (.slice ma M.length mc) (wrap32 (getR R m.a + m.imm)) w h (in32_wrap _).1 (in32_wrap _).2)
  unfold LoadQ at HLD
  rw [if_pos hin, decide_eq_true hin.1, decide_eq_true hin.2] at HLD
  generalize M.getD (wrap32 (getR R m.a + m.imm)).toNat 0 = x at *
  clear hin ho
  obtain ⟨hA1, hA2⟩ := hA
  obtain ⟨hB1, hB2⟩ := hB
  obtain ⟨hC1, hC2⟩ := hC
  go_enter Try.func168, Try.ntmps168
  go_wp2
  refine wp_region_list_facts rfl (by decide +kernel) (by decide +kernel)
    [Is (.slice (some ⟨rb, 0, none⟩) R.length rc), Is (.pointer (some ⟨w.heap.size, 3, none⟩)), Is (.int .i64 m.a), Is (.int .i32 (getR R m.a)), Is (.slice (some ⟨rb, 0, none⟩) R.length rc), Is (.pointer (some ⟨w.heap.size, 4, none⟩)), Is (.int .i64 m.b), Is (.int .i32 (getR R m.b)), Is (.slice (some ⟨rb, 0, none⟩) R.length rc), Is (.pointer (some ⟨w.heap.size, 5, none⟩)), Is (.int .i64 m.c), Is (.int .i32 (getR R m.c)), Is (.int .i32 (getR R m.a)), Is (.int .i32 (getR R m.b)), Is (.int .i32 (getR R m.c))]
    (by repeat (first | exact trivial | refine ⟨Is.stable _, ?_⟩ | refine ⟨IsNums.stable _ _, ?_⟩ | refine ⟨IsRows.stable _ _, ?_⟩)) ⟨?_, ?_, ?_, ?_, ?_, ?_, ?_, ?_, ?_, ?_, ?_, ?_, ?_, ?_, ?_, trivial⟩ ?_
  all_goals
    intro vs w1 hs hk
    have hbm : ∀ i, w1.cell? ⟨w.heap.size, i, none⟩ = _ := fun i => hs.cell (p := ⟨w.heap.size, i, none⟩) (by simp <;> omega)
    have hbr : ∀ i, w1.cell? ⟨w.heap.size + 1, i, none⟩ = _ := fun i => hs.cell (p := ⟨w.heap.size + 1, i, none⟩) (by simp)
    have HSZ := Lib.hid (show w.heap.size + 1 < w1.heap.size from by have := hs.size; simp at this; omega)
    have HS := Lib.hid (Since.trans (((Since.refl w).alloc _).alloc _) hs)
    clear hs
    simp only [putAll, Act.put, Knows, KnowsAll, nthF, Is, List.setIfInBounds_toArray, List.set_cons_zero, List.set_cons_succ, Nat.reduceAdd, List.length_cons, List.length_nil] at hk ⊢
    try simp only [hk]
  · go_wp2
    exact ⟨_, rfl, rfl, Since.refl _⟩
  · go_wp2
    exact ⟨_, rfl, rfl, Since.refl _⟩
  · go_wp2
    exact ⟨_, rfl, rfl, Since.refl _⟩
  · go_wp2_with fail
    refine (HGET.out _ w1 (HW.out.keep HS.out)).mono ?_
    rintro e w2 ⟨rfl, rfl⟩
    go_wp2
    exact ⟨_, rfl, rfl, Since.refl _⟩
  · go_wp2
    exact ⟨_, rfl, rfl, Since.refl _⟩
  · go_wp2
    exact ⟨_, rfl, rfl, Since.refl _⟩
  · go_wp2
    exact ⟨_, rfl, rfl, Since.refl _⟩
  · go_wp2_with fail
    refine (HGET.out _ w1 (HW.out.keep HS.out)).mono ?_
    rintro e w2 ⟨rfl, rfl⟩
    go_wp2
    exact ⟨_, rfl, rfl, Since.refl _⟩
  · go_wp2
    exact ⟨_, rfl, rfl, Since.refl _⟩
  · go_wp2
    exact ⟨_, rfl, rfl, Since.refl _⟩
  · go_wp2
    exact ⟨_, rfl, rfl, Since.refl _⟩
  · go_wp2_with fail
    refine (HGET.out _ w1 (HW.out.keep HS.out)).mono ?_
    rintro e w2 ⟨rfl, rfl⟩
    go_wp2
    exact ⟨_, rfl, rfl, Since.refl _⟩
  · go_wp2
    exact ⟨_, rfl, rfl, Since.refl _⟩
  · go_wp2
    exact ⟨_, rfl, rfl, Since.refl _⟩
  · go_wp2
    exact ⟨_, rfl, rfl, Since.refl _⟩
  · have HBM := Lib.hid hbm
    have HBR := Lib.hid hbr
    clear hk
    generalize getR R m.a = A at *
    generalize getR R m.b = B at *
    generalize getR R m.c = C at *
    go_wp2_with fail
    refine (HLD.out _ (HM.out.keep HS.out)).mono ?_
    rintro e2 w2 ⟨rfl, rfl⟩
    go_wp2_with fail
    refine (HMK.out _ (H.out.keep HS.out)).mono ?_
    rw [HMAKES.out]
    rintro e5 w5 ⟨v5, rfl, hv5, hs5⟩
    obtain ⟨ka, kc, rfl⟩ := nums_lenI hv5
    obtain ⟨_, hcc⟩ := nums_cell hv5
    obtain ⟨kb, ko, rfl, _, hcell⟩ := hcc (by simp)
    have hk0 : w5.cell? ⟨kb, ko, none⟩ = some (.int .i64 m.d) := hcell 0 _ rfl
    have HS5 := Lib.hid (HS.out.trans hs5)
    have hbr5 : w5.cell? ⟨w.heap.size + 1, 0, none⟩ = _ := (hs5.cell (p := ⟨w.heap.size + 1, 0, none⟩) HSZ.out).trans (HBR.out 0)
    have hcl := HSET.out m.d (x) w5 (w.heap.size + 1) (HW.out.keep HS5.out) (hbr5.trans (cell_last2 _ _ _ _))
    have HCL := Lib.hid hcl
    clear hcc hcell hv5 hs5 hbr5 hbm hbr hcl
    go_wp2
    go_loopw [189] (fun i wr => ∃ t : Nat, i = .int .i64 t ∧ (t = 0 ∧ wr = w5 ∨ t = 1 ∧ wr = setW w5 rb R m.d (x))) (fun i _ => 1 - (intOf i).toNat)
    case atStart => exact ⟨0, rfl, .inl ⟨rfl, rfl⟩⟩
    case round =>
      obtain ⟨t, rfl, ⟨rfl, rfl⟩ | ⟨rfl, hwr⟩⟩ := hrel
      · go_wp2_with fail
        refine HCL.out.mono ?_
        rintro e6 w6 ⟨rfl, hw6⟩
        have HW6 := Lib.hid hw6
        clear hw6
        go_wp2
        go_roundw
        case rel => exact ⟨1, rfl, .inr ⟨rfl, HW6.out⟩⟩
        case measure => simp [intOf]
      · have HWR := Lib.hid hwr
        clear hwr hk0
        go_wp2
        go_ret2
        exact ⟨rfl, by rw [HWR.out]; exact setW_at (HW.out.keep HS5.out) _ _, by rw [HWR.out]; exact (HM.out.keep HS5.out).turn (setW_turn (S := fun k => k = rb) rfl _ _ _) (fun q hq e => HSEP.out.2 (by rw [hq, e])), by rw [HWR.out]; exact (Turn.since HS5.out).trans (setW_turn (S := fun k => k = rb ∨ _) (.inl rfl) _ _ _)⟩


set_option maxHeartbeats 1000000 in
set_option maxRecDepth 100000 in
theorem do7_24_no (m : Mach) (av mv0 : Value) (R M : List Int) (rb rc : Nat) (rest : List Value) (T : TypeId) (w : World) (h : Ints w av m.args) (hf : Fine m) (hw : WAt w rb R rest T) (hR : ∀ x ∈ R, In32 x) (hl : R.length ≤ 1000) (hm : MemIs w mv0 M)
    (hsep : (∀ q, av.ownBlock = some q → q ≠ rb ∧ mv0.ownBlock ≠ some q) ∧ mv0.ownBlock ≠ some rb) (ho : m.op = 24) (hin : ¬ (0 ≤ wrap32 (getR R m.a + m.imm) ∧ wrap32 (getR R m.a + m.imm) < (M.length : Int))) :
    Calls Try.prog 168 #[mv m av, .slice (some ⟨rb, 0, none⟩) R.length rc, mv0] w (DoneP (some (-2)) R M rb rest T mv0 w) := by
  have HGET := Lib.hid (fun r w h => get_any R rb rc rest T r w h (by omega))
  have HSET := Lib.hid (fun r v w bx h hx => set_any R rb rc bx rest T r v w h (by omega) hx)
  have HMK := Lib.hid (fun w h => makes7_any m av w h hf.2.2)
  have hA := getR_32 hR m.a
  have hB := getR_32 hR m.b
  have hC := getR_32 hR m.c
  obtain ⟨ma, mc, rfl, hml⟩ := hm.shape
  obtain ⟨aa, ac, hav⟩ := nums_lenI h
  subst hav
  have H := Lib.hid h
  have HW := Lib.hid hw
  have HM := Lib.hid hm
  have HSEP := Lib.hid hsep
  have HF := Lib.hid hf
  have HRB := Lib.hid hw.lt
  clear h hw hm hsep hf hR
  unfold mv at HMK
  unfold mv
  have n1 : (m.op == 1) = false := beq_eq_false_iff_ne.2 (by omega)
  have n2 : (m.op == 2) = false := beq_eq_false_iff_ne.2 (by omega)
  have n3 : (m.op == 3) = false := beq_eq_false_iff_ne.2 (by omega)
  have n4 : (m.op == 4) = false := beq_eq_false_iff_ne.2 (by omega)
  have n23 : (m.op == 23) = false := beq_eq_false_iff_ne.2 (by omega)
  have y24 : (m.op == 24) = true := beq_iff_eq.2 (by omega)
  have g1 : ¬ m.op ≤ 17 := by omega
  have g2 : ¬ m.op ≤ 22 := by omega
  have g3 : 18 ≤ m.op := by omega
  have g4 : 5 ≤ m.op := by omega
  have hiu : m.imm ≤ 2147483647 := HF.out.2.1
  have hil : -2147483648 ≤ m.imm := HF.out.1
  have HLD := Lib.hid (fun w h => load_any M (.slice ma M.length mc) (wrap32 (getR R m.a + m.imm)) w h (in32_wrap _).1 (in32_wrap _).2)
  unfold LoadQ at HLD
  rw [if_neg hin, show (decide (0 ≤ wrap32 (getR R m.a + m.imm)) && decide (wrap32 (getR R m.a + m.imm) < (M.length : Int))) = false from by rw [← Bool.decide_and]; exact decide_eq_false hin] at HLD
  clear hin ho
  obtain ⟨hA1, hA2⟩ := hA
  obtain ⟨hB1, hB2⟩ := hB
  obtain ⟨hC1, hC2⟩ := hC
  go_enter Try.func168, Try.ntmps168
  go_wp2
  refine wp_region_list_facts rfl (by decide +kernel) (by decide +kernel)
    [Is (.slice (some ⟨rb, 0, none⟩) R.length rc), Is (.pointer (some ⟨w.heap.size, 3, none⟩)), Is (.int .i64 m.a), Is (.int .i32 (getR R m.a)), Is (.slice (some ⟨rb, 0, none⟩) R.length rc), Is (.pointer (some ⟨w.heap.size, 4, none⟩)), Is (.int .i64 m.b), Is (.int .i32 (getR R m.b)), Is (.slice (some ⟨rb, 0, none⟩) R.length rc), Is (.pointer (some ⟨w.heap.size, 5, none⟩)), Is (.int .i64 m.c), Is (.int .i32 (getR R m.c)), Is (.int .i32 (getR R m.a)), Is (.int .i32 (getR R m.b)), Is (.int .i32 (getR R m.c))]
    (by repeat (first | exact trivial | refine ⟨Is.stable _, ?_⟩ | refine ⟨IsNums.stable _ _, ?_⟩ | refine ⟨IsRows.stable _ _, ?_⟩)) ⟨?_, ?_, ?_, ?_, ?_, ?_, ?_, ?_, ?_, ?_, ?_, ?_, ?_, ?_, ?_, trivial⟩ ?_
  all_goals
    intro vs w1 hs hk
    have hbm : ∀ i, w1.cell? ⟨w.heap.size, i, none⟩ = _ := fun i => hs.cell (p := ⟨w.heap.size, i, none⟩) (by simp <;> omega)
    have hbr : ∀ i, w1.cell? ⟨w.heap.size + 1, i, none⟩ = _ := fun i => hs.cell (p := ⟨w.heap.size + 1, i, none⟩) (by simp)
    have HSZ := Lib.hid (show w.heap.size + 1 < w1.heap.size from by have := hs.size; simp at this; omega)
    have HS := Lib.hid (Since.trans (((Since.refl w).alloc _).alloc _) hs)
    clear hs
    simp only [putAll, Act.put, Knows, KnowsAll, nthF, Is, List.setIfInBounds_toArray, List.set_cons_zero, List.set_cons_succ, Nat.reduceAdd, List.length_cons, List.length_nil] at hk ⊢
    try simp only [hk]
  · go_wp2
    exact ⟨_, rfl, rfl, Since.refl _⟩
  · go_wp2
    exact ⟨_, rfl, rfl, Since.refl _⟩
  · go_wp2
    exact ⟨_, rfl, rfl, Since.refl _⟩
  · go_wp2_with fail
    refine (HGET.out _ w1 (HW.out.keep HS.out)).mono ?_
    rintro e w2 ⟨rfl, rfl⟩
    go_wp2
    exact ⟨_, rfl, rfl, Since.refl _⟩
  · go_wp2
    exact ⟨_, rfl, rfl, Since.refl _⟩
  · go_wp2
    exact ⟨_, rfl, rfl, Since.refl _⟩
  · go_wp2
    exact ⟨_, rfl, rfl, Since.refl _⟩
  · go_wp2_with fail
    refine (HGET.out _ w1 (HW.out.keep HS.out)).mono ?_
    rintro e w2 ⟨rfl, rfl⟩
    go_wp2
    exact ⟨_, rfl, rfl, Since.refl _⟩
  · go_wp2
    exact ⟨_, rfl, rfl, Since.refl _⟩
  · go_wp2
    exact ⟨_, rfl, rfl, Since.refl _⟩
  · go_wp2
    exact ⟨_, rfl, rfl, Since.refl _⟩
  · go_wp2_with fail
    refine (HGET.out _ w1 (HW.out.keep HS.out)).mono ?_
    rintro e w2 ⟨rfl, rfl⟩
    go_wp2
    exact ⟨_, rfl, rfl, Since.refl _⟩
  · go_wp2
    exact ⟨_, rfl, rfl, Since.refl _⟩
  · go_wp2
    exact ⟨_, rfl, rfl, Since.refl _⟩
  · go_wp2
    exact ⟨_, rfl, rfl, Since.refl _⟩
  · have HBM := Lib.hid hbm
    have HBR := Lib.hid hbr
    clear hk
    generalize getR R m.a = A at *
    generalize getR R m.b = B at *
    generalize getR R m.c = C at *
    go_wp2_with fail
    refine (HLD.out _ (HM.out.keep HS.out)).mono ?_
    rintro e2 w2 ⟨rfl, rfl⟩
    go_wp2
    go_ret2
    exact ⟨rfl, HW.out.keep HS.out, HM.out.keep HS.out, Turn.since HS.out⟩


set_option maxHeartbeats 1000000 in
set_option maxRecDepth 100000 in
theorem do7_25_ok (m : Mach) (av mv0 : Value) (R M : List Int) (rb rc : Nat) (rest : List Value) (T : TypeId) (w : World) (h : Ints w av m.args) (hf : Fine m) (hw : WAt w rb R rest T) (hR : ∀ x ∈ R, In32 x) (hl : R.length ≤ 1000) (hm : MemIs w mv0 M)
    (hsep : (∀ q, av.ownBlock = some q → q ≠ rb ∧ mv0.ownBlock ≠ some q) ∧ mv0.ownBlock ≠ some rb) (ho : m.op = 25) (hin : 0 ≤ wrap32 (getR R m.a + getR R m.b) ∧ wrap32 (getR R m.a + getR R m.b) < (M.length : Int)) :
    Calls Try.prog 168 #[mv m av, .slice (some ⟨rb, 0, none⟩) R.length rc, mv0] w (DoneP none (setR R m.d (M.getD (wrap32 (getR R m.a + getR R m.b)).toNat 0)) M rb rest T mv0 w) := by
  have HGET := Lib.hid (fun r w h => get_any R rb rc rest T r w h (by omega))
  have HSET := Lib.hid (fun r v w bx h hx => set_any R rb rc bx rest T r v w h (by omega) hx)
  have HMK := Lib.hid (fun w h => makes7_any m av w h hf.2.2)
  have hA := getR_32 hR m.a
  have hB := getR_32 hR m.b
  have hC := getR_32 hR m.c
  obtain ⟨ma, mc, rfl, hml⟩ := hm.shape
  obtain ⟨aa, ac, hav⟩ := nums_lenI h
  subst hav
  have H := Lib.hid h
  have HW := Lib.hid hw
  have HM := Lib.hid hm
  have HSEP := Lib.hid hsep
  have HF := Lib.hid hf
  have HRB := Lib.hid hw.lt
  clear h hw hm hsep hf hR
  unfold mv at HMK
  unfold mv
  have HMAKES := Lib.hid (show makes7 m = [m.d] from by unfold makes7; rw [if_neg (by omega), if_neg (by omega), if_neg (by omega)])
  have n1 : (m.op == 1) = false := beq_eq_false_iff_ne.2 (by omega)
  have n2 : (m.op == 2) = false := beq_eq_false_iff_ne.2 (by omega)
  have n3 : (m.op == 3) = false := beq_eq_false_iff_ne.2 (by omega)
  have n4 : (m.op == 4) = false := beq_eq_false_iff_ne.2 (by omega)
  have n23 : (m.op == 23) = false := beq_eq_false_iff_ne.2 (by omega)
  have n24 : (m.op == 24) = false := beq_eq_false_iff_ne.2 (by omega)
  have y25 : (m.op == 25) = true := beq_iff_eq.2 (by omega)
  have g1 : ¬ m.op ≤ 17 := by omega
  have g2 : ¬ m.op ≤ 22 := by omega
  have g3 : 18 ≤ m.op := by omega
  have g4 : 5 ≤ m.op := by omega
  have hiu : m.imm ≤ 2147483647 := HF.out.2.1
  have hil : -2147483648 ≤ m.imm := HF.out.1
  have HLD := Lib.hid (fun w h => load_any M (.slice ma M.length mc) (wrap32 (getR R m.a + getR R m.b)) w h (in32_wrap _).1 (in32_wrap _).2)
  unfold LoadQ at HLD
  rw [if_pos hin, decide_eq_true hin.1, decide_eq_true hin.2] at HLD
  generalize M.getD (wrap32 (getR R m.a + getR R m.b)).toNat 0 = x at *
  clear hin ho
  obtain ⟨hA1, hA2⟩ := hA
  obtain ⟨hB1, hB2⟩ := hB
  obtain ⟨hC1, hC2⟩ := hC
  go_enter Try.func168, Try.ntmps168
  go_wp2
  refine wp_region_list_facts rfl (by decide +kernel) (by decide +kernel)
    [Is (.slice (some ⟨rb, 0, none⟩) R.length rc), Is (.pointer (some ⟨w.heap.size, 3, none⟩)), Is (.int .i64 m.a), Is (.int .i32 (getR R m.a)), Is (.slice (some ⟨rb, 0, none⟩) R.length rc), Is (.pointer (some ⟨w.heap.size, 4, none⟩)), Is (.int .i64 m.b), Is (.int .i32 (getR R m.b)), Is (.slice (some ⟨rb, 0, none⟩) R.length rc), Is (.pointer (some ⟨w.heap.size, 5, none⟩)), Is (.int .i64 m.c), Is (.int .i32 (getR R m.c)), Is (.int .i32 (getR R m.a)), Is (.int .i32 (getR R m.b)), Is (.int .i32 (getR R m.c))]
    (by repeat (first | exact trivial | refine ⟨Is.stable _, ?_⟩ | refine ⟨IsNums.stable _ _, ?_⟩ | refine ⟨IsRows.stable _ _, ?_⟩)) ⟨?_, ?_, ?_, ?_, ?_, ?_, ?_, ?_, ?_, ?_, ?_, ?_, ?_, ?_, ?_, trivial⟩ ?_
  all_goals
    intro vs w1 hs hk
    have hbm : ∀ i, w1.cell? ⟨w.heap.size, i, none⟩ = _ := fun i => hs.cell (p := ⟨w.heap.size, i, none⟩) (by simp <;> omega)
    have hbr : ∀ i, w1.cell? ⟨w.heap.size + 1, i, none⟩ = _ := fun i => hs.cell (p := ⟨w.heap.size + 1, i, none⟩) (by simp)
    have HSZ := Lib.hid (show w.heap.size + 1 < w1.heap.size from by have := hs.size; simp at this; omega)
    have HS := Lib.hid (Since.trans (((Since.refl w).alloc _).alloc _) hs)
    clear hs
    simp only [putAll, Act.put, Knows, KnowsAll, nthF, Is, List.setIfInBounds_toArray, List.set_cons_zero, List.set_cons_succ, Nat.reduceAdd, List.length_cons, List.length_nil] at hk ⊢
    try simp only [hk]
  · go_wp2
    exact ⟨_, rfl, rfl, Since.refl _⟩
  · go_wp2
    exact ⟨_, rfl, rfl, Since.refl _⟩
  · go_wp2
    exact ⟨_, rfl, rfl, Since.refl _⟩
  · go_wp2_with fail
    refine (HGET.out _ w1 (HW.out.keep HS.out)).mono ?_
    rintro e w2 ⟨rfl, rfl⟩
    go_wp2
    exact ⟨_, rfl, rfl, Since.refl _⟩
  · go_wp2
    exact ⟨_, rfl, rfl, Since.refl _⟩
  · go_wp2
    exact ⟨_, rfl, rfl, Since.refl _⟩
  · go_wp2
    exact ⟨_, rfl, rfl, Since.refl _⟩
  · go_wp2_with fail
    refine (HGET.out _ w1 (HW.out.keep HS.out)).mono ?_
    rintro e w2 ⟨rfl, rfl⟩
    go_wp2
    exact ⟨_, rfl, rfl, Since.refl _⟩
  · go_wp2
    exact ⟨_, rfl, rfl, Since.refl _⟩
  · go_wp2
    exact ⟨_, rfl, rfl, Since.refl _⟩
  · go_wp2
    exact ⟨_, rfl, rfl, Since.refl _⟩
  · go_wp2_with fail
    refine (HGET.out _ w1 (HW.out.keep HS.out)).mono ?_
    rintro e w2 ⟨rfl, rfl⟩
    go_wp2
    exact ⟨_, rfl, rfl, Since.refl _⟩
  · go_wp2
    exact ⟨_, rfl, rfl, Since.refl _⟩
  · go_wp2
    exact ⟨_, rfl, rfl, Since.refl _⟩
  · go_wp2
    exact ⟨_, rfl, rfl, Since.refl _⟩
  · have HBM := Lib.hid hbm
    have HBR := Lib.hid hbr
    clear hk
    generalize getR R m.a = A at *
    generalize getR R m.b = B at *
    generalize getR R m.c = C at *
    go_wp2_with fail
    refine (HLD.out _ (HM.out.keep HS.out)).mono ?_
    rintro e2 w2 ⟨rfl, rfl⟩
    go_wp2_with fail
    refine (HMK.out _ (H.out.keep HS.out)).mono ?_
    rw [HMAKES.out]
    rintro e5 w5 ⟨v5, rfl, hv5, hs5⟩
    obtain ⟨ka, kc, rfl⟩ := nums_lenI hv5
    obtain ⟨_, hcc⟩ := nums_cell hv5
    obtain ⟨kb, ko, rfl, _, hcell⟩ := hcc (by simp)
    have hk0 : w5.cell? ⟨kb, ko, none⟩ = some (.int .i64 m.d) := hcell 0 _ rfl
    have HS5 := Lib.hid (HS.out.trans hs5)
    have hbr5 : w5.cell? ⟨w.heap.size + 1, 0, none⟩ = _ := (hs5.cell (p := ⟨w.heap.size + 1, 0, none⟩) HSZ.out).trans (HBR.out 0)
    have hcl := HSET.out m.d (x) w5 (w.heap.size + 1) (HW.out.keep HS5.out) (hbr5.trans (cell_last2 _ _ _ _))
    have HCL := Lib.hid hcl
    clear hcc hcell hv5 hs5 hbr5 hbm hbr hcl
    go_wp2
    go_loopw [189] (fun i wr => ∃ t : Nat, i = .int .i64 t ∧ (t = 0 ∧ wr = w5 ∨ t = 1 ∧ wr = setW w5 rb R m.d (x))) (fun i _ => 1 - (intOf i).toNat)
    case atStart => exact ⟨0, rfl, .inl ⟨rfl, rfl⟩⟩
    case round =>
      obtain ⟨t, rfl, ⟨rfl, rfl⟩ | ⟨rfl, hwr⟩⟩ := hrel
      · go_wp2_with fail
        refine HCL.out.mono ?_
        rintro e6 w6 ⟨rfl, hw6⟩
        have HW6 := Lib.hid hw6
        clear hw6
        go_wp2
        go_roundw
        case rel => exact ⟨1, rfl, .inr ⟨rfl, HW6.out⟩⟩
        case measure => simp [intOf]
      · have HWR := Lib.hid hwr
        clear hwr hk0
        go_wp2
        go_ret2
        exact ⟨rfl, by rw [HWR.out]; exact setW_at (HW.out.keep HS5.out) _ _, by rw [HWR.out]; exact (HM.out.keep HS5.out).turn (setW_turn (S := fun k => k = rb) rfl _ _ _) (fun q hq e => HSEP.out.2 (by rw [hq, e])), by rw [HWR.out]; exact (Turn.since HS5.out).trans (setW_turn (S := fun k => k = rb ∨ _) (.inl rfl) _ _ _)⟩


set_option maxHeartbeats 1000000 in
set_option maxRecDepth 100000 in
theorem do7_25_no (m : Mach) (av mv0 : Value) (R M : List Int) (rb rc : Nat) (rest : List Value) (T : TypeId) (w : World) (h : Ints w av m.args) (hf : Fine m) (hw : WAt w rb R rest T) (hR : ∀ x ∈ R, In32 x) (hl : R.length ≤ 1000) (hm : MemIs w mv0 M)
    (hsep : (∀ q, av.ownBlock = some q → q ≠ rb ∧ mv0.ownBlock ≠ some q) ∧ mv0.ownBlock ≠ some rb) (ho : m.op = 25) (hin : ¬ (0 ≤ wrap32 (getR R m.a + getR R m.b) ∧ wrap32 (getR R m.a + getR R m.b) < (M.length : Int))) :
    Calls Try.prog 168 #[mv m av, .slice (some ⟨rb, 0, none⟩) R.length rc, mv0] w (DoneP (some (-2)) R M rb rest T mv0 w) := by
  have HGET := Lib.hid (fun r w h => get_any R rb rc rest T r w h (by omega))
  have HSET := Lib.hid (fun r v w bx h hx => set_any R rb rc bx rest T r v w h (by omega) hx)
  have HMK := Lib.hid (fun w h => makes7_any m av w h hf.2.2)
  have hA := getR_32 hR m.a
  have hB := getR_32 hR m.b
  have hC := getR_32 hR m.c
  obtain ⟨ma, mc, rfl, hml⟩ := hm.shape
  obtain ⟨aa, ac, hav⟩ := nums_lenI h
  subst hav
  have H := Lib.hid h
  have HW := Lib.hid hw
  have HM := Lib.hid hm
  have HSEP := Lib.hid hsep
  have HF := Lib.hid hf
  have HRB := Lib.hid hw.lt
  clear h hw hm hsep hf hR
  unfold mv at HMK
  unfold mv
  have n1 : (m.op == 1) = false := beq_eq_false_iff_ne.2 (by omega)
  have n2 : (m.op == 2) = false := beq_eq_false_iff_ne.2 (by omega)
  have n3 : (m.op == 3) = false := beq_eq_false_iff_ne.2 (by omega)
  have n4 : (m.op == 4) = false := beq_eq_false_iff_ne.2 (by omega)
  have n23 : (m.op == 23) = false := beq_eq_false_iff_ne.2 (by omega)
  have n24 : (m.op == 24) = false := beq_eq_false_iff_ne.2 (by omega)
  have y25 : (m.op == 25) = true := beq_iff_eq.2 (by omega)
  have g1 : ¬ m.op ≤ 17 := by omega
  have g2 : ¬ m.op ≤ 22 := by omega
  have g3 : 18 ≤ m.op := by omega
  have g4 : 5 ≤ m.op := by omega
  have hiu : m.imm ≤ 2147483647 := HF.out.2.1
  have hil : -2147483648 ≤ m.imm := HF.out.1
  have HLD := Lib.hid (fun w h => load_any M (.slice ma M.length mc) (wrap32 (getR R m.a + getR R m.b)) w h (in32_wrap _).1 (in32_wrap _).2)
  unfold LoadQ at HLD
  rw [if_neg hin, show (decide (0 ≤ wrap32 (getR R m.a + getR R m.b)) && decide (wrap32 (getR R m.a + getR R m.b) < (M.length : Int))) = false from by rw [← Bool.decide_and]; exact decide_eq_false hin] at HLD
  clear hin ho
  obtain ⟨hA1, hA2⟩ := hA
  obtain ⟨hB1, hB2⟩ := hB
  obtain ⟨hC1, hC2⟩ := hC
  go_enter Try.func168, Try.ntmps168
  go_wp2
  refine wp_region_list_facts rfl (by decide +kernel) (by decide +kernel)
    [Is (.slice (some ⟨rb, 0, none⟩) R.length rc), Is (.pointer (some ⟨w.heap.size, 3, none⟩)), Is (.int .i64 m.a), Is (.int .i32 (getR R m.a)), Is (.slice (some ⟨rb, 0, none⟩) R.length rc), Is (.pointer (some ⟨w.heap.size, 4, none⟩)), Is (.int .i64 m.b), Is (.int .i32 (getR R m.b)), Is (.slice (some ⟨rb, 0, none⟩) R.length rc), Is (.pointer (some ⟨w.heap.size, 5, none⟩)), Is (.int .i64 m.c), Is (.int .i32 (getR R m.c)), Is (.int .i32 (getR R m.a)), Is (.int .i32 (getR R m.b)), Is (.int .i32 (getR R m.c))]
    (by repeat (first | exact trivial | refine ⟨Is.stable _, ?_⟩ | refine ⟨IsNums.stable _ _, ?_⟩ | refine ⟨IsRows.stable _ _, ?_⟩)) ⟨?_, ?_, ?_, ?_, ?_, ?_, ?_, ?_, ?_, ?_, ?_, ?_, ?_, ?_, ?_, trivial⟩ ?_
  all_goals
    intro vs w1 hs hk
    have hbm : ∀ i, w1.cell? ⟨w.heap.size, i, none⟩ = _ := fun i => hs.cell (p := ⟨w.heap.size, i, none⟩) (by simp <;> omega)
    have hbr : ∀ i, w1.cell? ⟨w.heap.size + 1, i, none⟩ = _ := fun i => hs.cell (p := ⟨w.heap.size + 1, i, none⟩) (by simp)
    have HSZ := Lib.hid (show w.heap.size + 1 < w1.heap.size from by have := hs.size; simp at this; omega)
    have HS := Lib.hid (Since.trans (((Since.refl w).alloc _).alloc _) hs)
    clear hs
    simp only [putAll, Act.put, Knows, KnowsAll, nthF, Is, List.setIfInBounds_toArray, List.set_cons_zero, List.set_cons_succ, Nat.reduceAdd, List.length_cons, List.length_nil] at hk ⊢
    try simp only [hk]
  · go_wp2
    exact ⟨_, rfl, rfl, Since.refl _⟩
  · go_wp2
    exact ⟨_, rfl, rfl, Since.refl _⟩
  · go_wp2
    exact ⟨_, rfl, rfl, Since.refl _⟩
  · go_wp2_with fail
    refine (HGET.out _ w1 (HW.out.keep HS.out)).mono ?_
    rintro e w2 ⟨rfl, rfl⟩
    go_wp2
    exact ⟨_, rfl, rfl, Since.refl _⟩
  · go_wp2
    exact ⟨_, rfl, rfl, Since.refl _⟩
  · go_wp2
    exact ⟨_, rfl, rfl, Since.refl _⟩
  · go_wp2
    exact ⟨_, rfl, rfl, Since.refl _⟩
  · go_wp2_with fail
    refine (HGET.out _ w1 (HW.out.keep HS.out)).mono ?_
    rintro e w2 ⟨rfl, rfl⟩
    go_wp2
    exact ⟨_, rfl, rfl, Since.refl _⟩
  · go_wp2
    exact ⟨_, rfl, rfl, Since.refl _⟩
  · go_wp2
    exact ⟨_, rfl, rfl, Since.refl _⟩
  · go_wp2
    exact ⟨_, rfl, rfl, Since.refl _⟩
  · go_wp2_with fail
    refine (HGET.out _ w1 (HW.out.keep HS.out)).mono ?_
    rintro e w2 ⟨rfl, rfl⟩
    go_wp2
    exact ⟨_, rfl, rfl, Since.refl _⟩
  · go_wp2
    exact ⟨_, rfl, rfl, Since.refl _⟩
  · go_wp2
    exact ⟨_, rfl, rfl, Since.refl _⟩
  · go_wp2
    exact ⟨_, rfl, rfl, Since.refl _⟩
  · have HBM := Lib.hid hbm
    have HBR := Lib.hid hbr
    clear hk
    generalize getR R m.a = A at *
    generalize getR R m.b = B at *
    generalize getR R m.c = C at *
    go_wp2_with fail
    refine (HLD.out _ (HM.out.keep HS.out)).mono ?_
    rintro e2 w2 ⟨rfl, rfl⟩
    go_wp2
    go_ret2
    exact ⟨rfl, HW.out.keep HS.out, HM.out.keep HS.out, Turn.since HS.out⟩
end Go.Proofs.Ytkpbmbhejpmboaa
