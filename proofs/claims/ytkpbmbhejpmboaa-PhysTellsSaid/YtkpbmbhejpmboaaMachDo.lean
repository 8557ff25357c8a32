/- mach.Do. -/
import Derived.Test.YtkpbmbhejpmboaaWords
import Derived.Test.YtkpbmbhejpmboaaDo
namespace Go.Proofs.Ytkpbmbhejpmboaa
open Go.RowKit
set_option linter.unusedVariables false

def In32 (x : Int) : Prop := -2147483648 ≤ x ∧ x ≤ 2147483647
theorem in32_wrap (x : Int) : In32 (wrap32 x) := by unfold In32 wrap32; omega
theorem getR_32 {R : List Int} (h : ∀ x ∈ R, In32 x) (r : Int) : In32 (getR R r) := by
  unfold getR
  split
  · rw [List.getD_eq_getElem?_getD]
    cases hx : R[r.toNat]? with
    | none => exact ⟨by simp, by simp⟩
    | some x => exact h x (List.mem_of_getElem? hx)
  · exact ⟨by omega, by omega⟩

/-- What mach.Do leaves. -/
def DoneP (trap : Option Int) (R' M' : List Int) (rb : Nat) (rest : List Value) (T : TypeId) (mv : Value) (w : World) (e : Ending) (w' : World) : Prop :=
  e = .returned (.tuple #[.int .i32 (trap.getD 0), .bool trap.isNone]) ∧ WAt w' rb R' rest T ∧ MemIs w' mv M' ∧ Turn (fun k => k = rb ∨ mv.ownBlock = some k) w w'

theorem cell_last2 (w : World) (o : Obj) (v : Value) (t : TypeId) : ((w.alloc o).alloc (.cells #[v] t)).cell? ⟨w.heap.size + 1, 0, none⟩ = some v := by
  have := heap_last (w.alloc o) (.cells #[v] t)
  rw [show (w.alloc o).heap.size = w.heap.size + 1 from by simp] at this
  unfold World.cell?; rw [this]; rfl
def StoreP (M : List Int) (mv : Value) (at' v : Int) (w : World) (e : Ending) (w' : World) : Prop := e = .returned (.bool (decide (0 ≤ at') && decide (at' < (M.length : Int)))) ∧ MemIs w' mv (if 0 ≤ at' ∧ at' < (M.length : Int) then M.set at'.toNat v else M) ∧ Turn (fun k => mv.ownBlock = some k) w w'
set_option maxHeartbeats 1000000 in
set_option maxRecDepth 100000 in
theorem store_any (M : List Int) (mv : Value) (at' v : Int) (w : World) (h : MemIs w mv M) (h1 : -2147483648 ≤ at') (h2 : at' ≤ 2147483647) :
    Calls Try.prog 172 #[mv, .int .i32 at', .int .i32 v] w (StoreP M mv at' v w) := by
  unfold StoreP
  have hload := fun w h => load_any M mv at' w h h1 h2
  obtain ⟨a, cap, rfl, hl⟩ := h.shape
  unfold LoadQ at hload
  have HL := Lib.hid hload
  have H := Lib.hid h
  clear hload h
  by_cases hin : 0 ≤ at' ∧ at' < (M.length : Int)
  · rw [if_pos hin, decide_eq_true hin.1, decide_eq_true hin.2] at HL
    rw [if_pos hin, decide_eq_true hin.1, decide_eq_true hin.2]
    obtain ⟨i, rfl⟩ := Int.eq_ofNat_of_zero_le hin.1
    have hi : i < M.length := by omega
    obtain ⟨b, rest, T, rfl, hw⟩ := H.out.at hi
    have hc := hw.cell hi
    have hfz := hw.frozen i
    have hset := MemIs.set (cap := cap) hw hl hi v
    rw [Int.toNat_natCast] at HL
    rw [Int.toNat_natCast]
    have HSET := Lib.hid hset
    clear hset hw hin
    generalize M.getD i 0 = x at *
    generalize M.set i v = M' at *
    go_enter Try.func172, Try.ntmps172
    go_wp2_with fail
    refine (HL.out _ H.out).mono ?_
    rintro e w1 ⟨rfl, rfl⟩
    go_wp2
    go_ret
    exact ⟨rfl, HSET.out, Turn.setCell (S := fun k => (Value.slice (some ⟨b, 0, none⟩) M.length cap).ownBlock = some k) (p := ⟨b, i, none⟩) (Turn.refl _ _) rfl _⟩
  · have hb : (decide (0 ≤ at') && decide (at' < (M.length : Int))) = false := by
      rw [Bool.and_eq_false_iff]
      by_cases h0 : 0 ≤ at'
      · right; exact decide_eq_false (by omega)
      · left; exact decide_eq_false h0
    rw [if_neg hin, hb] at HL
    rw [if_neg hin, hb]
    clear hin hb
    go_enter Try.func172, Try.ntmps172
    go_wp2_with fail
    refine (HL.out _ H.out).mono ?_
    rintro e w1 ⟨rfl, rfl⟩
    go_wp2
    go_ret
    exact ⟨rfl, H.out, Turn.refl _ _⟩

set_option maxHeartbeats 1000000 in
set_option maxRecDepth 100000 in
theorem do7_1 (m : Mach) (av mv0 : Value) (R M : List Int) (rb rc : Nat) (rest : List Value) (T : TypeId) (w : World) (h : Ints w av m.args) (hf : Fine m) (hw : WAt w rb R rest T) (hR : ∀ x ∈ R, In32 x) (hl : R.length ≤ 1000) (hm : MemIs w mv0 M)
    (hsep : (∀ q, av.ownBlock = some q → q ≠ rb ∧ mv0.ownBlock ≠ some q) ∧ mv0.ownBlock ≠ some rb) (ho : m.op = 1) :
    Calls Try.prog 168 #[mv m av, .slice (some ⟨rb, 0, none⟩) R.length rc, mv0] w (DoneP none (setR R m.d (getR R m.a)) M rb rest T mv0 w) := by
  have HGET := Lib.hid (fun r w h => get_any R rb rc rest T r w h (by omega))
  have HSET := Lib.hid (fun r v w bx h hx => set_any R rb rc bx rest T r v w h (by omega) hx)
  have HMK := Lib.hid (fun w h => makes7_any m av w h hf.2.2)
  have hA := getR_32 hR m.a
  have hB := getR_32 hR m.b
  have hC := getR_32 hR m.c
  obtain ⟨ma, mc, rfl, hml⟩ := hm.shape
  obtain ⟨aa, ac, hav⟩ := nums_lenI h
  subst hav
  have H := Lib.hid h
  have HW := Lib.hid hw
  have HM := Lib.hid hm
  have HSEP := Lib.hid hsep
  have HF := Lib.hid hf
  have HRB := Lib.hid hw.lt
  clear h hw hm hsep hf hR
  unfold mv at HMK
  unfold mv
  have HMAKES := Lib.hid (show makes7 m = [m.d] from by unfold makes7; rw [if_neg (by omega), if_neg (by omega), if_neg (by omega)])
  have y1 : (m.op == 1) = true := beq_iff_eq.2 (by omega)
  clear ho
  obtain ⟨hA1, hA2⟩ := hA
  obtain ⟨hB1, hB2⟩ := hB
  obtain ⟨hC1, hC2⟩ := hC
  go_enter Try.func168, Try.ntmps168
  go_wp2
  refine wp_region_list_facts rfl (by decide +kernel) (by decide +kernel)
    [Is (.slice (some ⟨rb, 0, none⟩) R.length rc), Is (.pointer (some ⟨w.heap.size, 3, none⟩)), Is (.int .i64 m.a), Is (.int .i32 (getR R m.a)), Is (.slice (some ⟨rb, 0, none⟩) R.length rc), Is (.pointer (some ⟨w.heap.size, 4, none⟩)), Is (.int .i64 m.b), Is (.int .i32 (getR R m.b)), Is (.slice (some ⟨rb, 0, none⟩) R.length rc), Is (.pointer (some ⟨w.heap.size, 5, none⟩)), Is (.int .i64 m.c), Is (.int .i32 (getR R m.c)), Is (.int .i32 (getR R m.a)), Is (.int .i32 (getR R m.b)), Is (.int .i32 (getR R m.c))]
    (by repeat (first | exact trivial | refine ⟨Is.stable _, ?_⟩ | refine ⟨IsNums.stable _ _, ?_⟩ | refine ⟨IsRows.stable _ _, ?_⟩)) ⟨?_, ?_, ?_, ?_, ?_, ?_, ?_, ?_, ?_, ?_, ?_, ?_, ?_, ?_, ?_, trivial⟩ ?_
  all_goals
    intro vs w1 hs hk
    have hbm : ∀ i, w1.cell? ⟨w.heap.size, i, none⟩ = _ := fun i => hs.cell (p := ⟨w.heap.size, i, none⟩) (by simp <;> omega)
    have hbr : ∀ i, w1.cell? ⟨w.heap.size + 1, i, none⟩ = _ := fun i => hs.cell (p := ⟨w.heap.size + 1, i, none⟩) (by simp)
    have HSZ := Lib.hid (show w.heap.size + 1 < w1.heap.size from by have := hs.size; simp at this; omega)
    have HS := Lib.hid (Since.trans (((Since.refl w).alloc _).alloc _) hs)
    clear hs
    simp only [putAll, Act.put, Knows, KnowsAll, nthF, Is, List.setIfInBounds_toArray, List.set_cons_zero, List.set_cons_succ, Nat.reduceAdd, List.length_cons, List.length_nil] at hk ⊢
    try simp only [hk]
  · go_wp2
    exact ⟨_, rfl, rfl, Since.refl _⟩
  · go_wp2
    exact ⟨_, rfl, rfl, Since.refl _⟩
  · go_wp2
    exact ⟨_, rfl, rfl, Since.refl _⟩
  · go_wp2_with fail
    refine (HGET.out _ w1 (HW.out.keep HS.out)).mono ?_
    rintro e w2 ⟨rfl, rfl⟩
    go_wp2
    exact ⟨_, rfl, rfl, Since.refl _⟩
  · go_wp2
    exact ⟨_, rfl, rfl, Since.refl _⟩
  · go_wp2
    exact ⟨_, rfl, rfl, Since.refl _⟩
  · go_wp2
    exact ⟨_, rfl, rfl, Since.refl _⟩
  · go_wp2_with fail
    refine (HGET.out _ w1 (HW.out.keep HS.out)).mono ?_
    rintro e w2 ⟨rfl, rfl⟩
    go_wp2
    exact ⟨_, rfl, rfl, Since.refl _⟩
  · go_wp2
    exact ⟨_, rfl, rfl, Since.refl _⟩
  · go_wp2
    exact ⟨_, rfl, rfl, Since.refl _⟩
  · go_wp2
    exact ⟨_, rfl, rfl, Since.refl _⟩
  · go_wp2_with fail
    refine (HGET.out _ w1 (HW.out.keep HS.out)).mono ?_
    rintro e w2 ⟨rfl, rfl⟩
    go_wp2
    exact ⟨_, rfl, rfl, Since.refl _⟩
  · go_wp2
    exact ⟨_, rfl, rfl, Since.refl _⟩
  · go_wp2
    exact ⟨_, rfl, rfl, Since.refl _⟩
  · go_wp2
    exact ⟨_, rfl, rfl, Since.refl _⟩
  · have HBM := Lib.hid hbm
    have HBR := Lib.hid hbr
    clear hk
    generalize getR R m.a = A at *
    generalize getR R m.b = B at *
    generalize getR R m.c = C at *
    go_wp2_with fail
    refine (HMK.out _ (H.out.keep HS.out)).mono ?_
    rw [HMAKES.out]
    rintro e5 w5 ⟨v5, rfl, hv5, hs5⟩
    obtain ⟨ka, kc, rfl⟩ := nums_lenI hv5
    obtain ⟨_, hcc⟩ := nums_cell hv5
    obtain ⟨kb, ko, rfl, _, hcell⟩ := hcc (by simp)
    have hk0 : w5.cell? ⟨kb, ko, none⟩ = some (.int .i64 m.d) := hcell 0 _ rfl
    have HS5 := Lib.hid (HS.out.trans hs5)
    have hbr5 : w5.cell? ⟨w.heap.size + 1, 0, none⟩ = _ := (hs5.cell (p := ⟨w.heap.size + 1, 0, none⟩) HSZ.out).trans (HBR.out 0)
    have hcl := HSET.out m.d (A) w5 (w.heap.size + 1) (HW.out.keep HS5.out) (hbr5.trans (cell_last2 _ _ _ _))
    have HCL := Lib.hid hcl
    clear hcc hcell hv5 hs5 hbr5 hbm hbr hcl
    go_wp2
    go_loopw [189] (fun i wr => ∃ t : Nat, i = .int .i64 t ∧ (t = 0 ∧ wr = w5 ∨ t = 1 ∧ wr = setW w5 rb R m.d (A))) (fun i _ => 1 - (intOf i).toNat)
    case atStart => exact ⟨0, rfl, .inl ⟨rfl, rfl⟩⟩
    case round =>
      obtain ⟨t, rfl, ⟨rfl, rfl⟩ | ⟨rfl, hwr⟩⟩ := hrel
      · go_wp2_with fail
        refine HCL.out.mono ?_
        rintro e6 w6 ⟨rfl, hw6⟩
        have HW6 := Lib.hid hw6
        clear hw6
        go_wp2
        go_roundw
        case rel => exact ⟨1, rfl, .inr ⟨rfl, HW6.out⟩⟩
        case measure => simp [intOf]
      · have HWR := Lib.hid hwr
        clear hwr hk0
        go_wp2
        go_ret2
        exact ⟨rfl, by rw [HWR.out]; exact setW_at (HW.out.keep HS5.out) _ _, by rw [HWR.out]; exact (HM.out.keep HS5.out).turn (setW_turn (S := fun k => k = rb) rfl _ _ _) (fun q hq e => HSEP.out.2 (by rw [hq, e])), by rw [HWR.out]; exact (Turn.since HS5.out).trans (setW_turn (S := fun k => k = rb ∨ _) (.inl rfl) _ _ _)⟩


set_option maxHeartbeats 1000000 in
set_option maxRecDepth 100000 in
theorem do7_34 (m : Mach) (av mv0 : Value) (R M : List Int) (rb rc : Nat) (rest : List Value) (T : TypeId) (w : World) (h : Ints w av m.args) (hf : Fine m) (hw : WAt w rb R rest T) (hR : ∀ x ∈ R, In32 x) (hl : R.length ≤ 1000) (hm : MemIs w mv0 M)
    (hsep : (∀ q, av.ownBlock = some q → q ≠ rb ∧ mv0.ownBlock ≠ some q) ∧ mv0.ownBlock ≠ some rb) (ho : m.op = 3 ∨ m.op = 4) :
    Calls Try.prog 168 #[mv m av, .slice (some ⟨rb, 0, none⟩) R.length rc, mv0] w (DoneP none (setR R m.d m.imm) M rb rest T mv0 w) := by
  have HGET := Lib.hid (fun r w h => get_any R rb rc rest T r w h (by omega))
  have HSET := Lib.hid (fun r v w bx h hx => set_any R rb rc bx rest T r v w h (by omega) hx)
  have HMK := Lib.hid (fun w h => makes7_any m av w h hf.2.2)
  have hA := getR_32 hR m.a
  have hB := getR_32 hR m.b
  have hC := getR_32 hR m.c
  obtain ⟨ma, mc, rfl, hml⟩ := hm.shape
  obtain ⟨aa, ac, hav⟩ := nums_lenI h
  subst hav
  have H := Lib.hid h
  have HW := Lib.hid hw
  have HM := Lib.hid hm
  have HSEP := Lib.hid hsep
  have HF := Lib.hid hf
  have HRB := Lib.hid hw.lt
  clear h hw hm hsep hf hR
  unfold mv at HMK
  unfold mv
  have HMAKES := Lib.hid (show makes7 m = [m.d] from by unfold makes7; rw [if_neg (by omega), if_neg (by omega), if_neg (by omega)])
  have n1 : (m.op == 1) = false := beq_eq_false_iff_ne.2 (by omega)
  have n2 : (m.op == 2) = false := beq_eq_false_iff_ne.2 (by omega)
  have y34 : (m.op == 3) = true ∨ ((m.op == 3) = false ∧ (m.op == 4) = true) := by rcases ho with h | h <;> simp [h]
  clear ho
  obtain ⟨hA1, hA2⟩ := hA
  obtain ⟨hB1, hB2⟩ := hB
  obtain ⟨hC1, hC2⟩ := hC
  go_enter Try.func168, Try.ntmps168
  go_wp2
  refine wp_region_list_facts rfl (by decide +kernel) (by decide +kernel)
    [Is (.slice (some ⟨rb, 0, none⟩) R.length rc), Is (.pointer (some ⟨w.heap.size, 3, none⟩)), Is (.int .i64 m.a), Is (.int .i32 (getR R m.a)), Is (.slice (some ⟨rb, 0, none⟩) R.length rc), Is (.pointer (some ⟨w.heap.size, 4, none⟩)), Is (.int .i64 m.b), Is (.int .i32 (getR R m.b)), Is (.slice (some ⟨rb, 0, none⟩) R.length rc), Is (.pointer (some ⟨w.heap.size, 5, none⟩)), Is (.int .i64 m.c), Is (.int .i32 (getR R m.c)), Is (.int .i32 (getR R m.a)), Is (.int .i32 (getR R m.b)), Is (.int .i32 (getR R m.c))]
    (by repeat (first | exact trivial | refine ⟨Is.stable _, ?_⟩ | refine ⟨IsNums.stable _ _, ?_⟩ | refine ⟨IsRows.stable _ _, ?_⟩)) ⟨?_, ?_, ?_, ?_, ?_, ?_, ?_, ?_, ?_, ?_, ?_, ?_, ?_, ?_, ?_, trivial⟩ ?_
  all_goals
    intro vs w1 hs hk
    have hbm : ∀ i, w1.cell? ⟨w.heap.size, i, none⟩ = _ := fun i => hs.cell (p := ⟨w.heap.size, i, none⟩) (by simp <;> omega)
    have hbr : ∀ i, w1.cell? ⟨w.heap.size + 1, i, none⟩ = _ := fun i => hs.cell (p := ⟨w.heap.size + 1, i, none⟩) (by simp)
    have HSZ := Lib.hid (show w.heap.size + 1 < w1.heap.size from by have := hs.size; simp at this; omega)
    have HS := Lib.hid (Since.trans (((Since.refl w).alloc _).alloc _) hs)
    clear hs
    simp only [putAll, Act.put, Knows, KnowsAll, nthF, Is, List.setIfInBounds_toArray, List.set_cons_zero, List.set_cons_succ, Nat.reduceAdd, List.length_cons, List.length_nil] at hk ⊢
    try simp only [hk]
  · go_wp2
    exact ⟨_, rfl, rfl, Since.refl _⟩
  · go_wp2
    exact ⟨_, rfl, rfl, Since.refl _⟩
  · go_wp2
    exact ⟨_, rfl, rfl, Since.refl _⟩
  · go_wp2_with fail
    refine (HGET.out _ w1 (HW.out.keep HS.out)).mono ?_
    rintro e w2 ⟨rfl, rfl⟩
    go_wp2
    exact ⟨_, rfl, rfl, Since.refl _⟩
  · go_wp2
    exact ⟨_, rfl, rfl, Since.refl _⟩
  · go_wp2
    exact ⟨_, rfl, rfl, Since.refl _⟩
  · go_wp2
    exact ⟨_, rfl, rfl, Since.refl _⟩
  · go_wp2_with fail
    refine (HGET.out _ w1 (HW.out.keep HS.out)).mono ?_
    rintro e w2 ⟨rfl, rfl⟩
    go_wp2
    exact ⟨_, rfl, rfl, Since.refl _⟩
  · go_wp2
    exact ⟨_, rfl, rfl, Since.refl _⟩
  · go_wp2
    exact ⟨_, rfl, rfl, Since.refl _⟩
  · go_wp2
    exact ⟨_, rfl, rfl, Since.refl _⟩
  · go_wp2_with fail
    refine (HGET.out _ w1 (HW.out.keep HS.out)).mono ?_
    rintro e w2 ⟨rfl, rfl⟩
    go_wp2
    exact ⟨_, rfl, rfl, Since.refl _⟩
  · go_wp2
    exact ⟨_, rfl, rfl, Since.refl _⟩
  · go_wp2
    exact ⟨_, rfl, rfl, Since.refl _⟩
  · go_wp2
    exact ⟨_, rfl, rfl, Since.refl _⟩
  · have HBM := Lib.hid hbm
    have HBR := Lib.hid hbr
    clear hk
    generalize getR R m.a = A at *
    generalize getR R m.b = B at *
    generalize getR R m.c = C at *
    rcases y34 with y3 | ⟨n3, y4⟩
    all_goals
      go_wp2_with fail
      refine (HMK.out _ (H.out.keep HS.out)).mono ?_
      rw [HMAKES.out]
      rintro e5 w5 ⟨v5, rfl, hv5, hs5⟩
      obtain ⟨ka, kc, rfl⟩ := nums_lenI hv5
      obtain ⟨_, hcc⟩ := nums_cell hv5
      obtain ⟨kb, ko, rfl, _, hcell⟩ := hcc (by simp)
      have hk0 : w5.cell? ⟨kb, ko, none⟩ = some (.int .i64 m.d) := hcell 0 _ rfl
      have HS5 := Lib.hid (HS.out.trans hs5)
      have hbr5 : w5.cell? ⟨w.heap.size + 1, 0, none⟩ = _ := (hs5.cell (p := ⟨w.heap.size + 1, 0, none⟩) HSZ.out).trans (HBR.out 0)
      have hcl := HSET.out m.d (m.imm) w5 (w.heap.size + 1) (HW.out.keep HS5.out) (hbr5.trans (cell_last2 _ _ _ _))
      have HCL := Lib.hid hcl
      clear hcc hcell hv5 hs5 hbr5 hbm hbr hcl
      go_wp2
      go_loopw [189] (fun i wr => ∃ t : Nat, i = .int .i64 t ∧ (t = 0 ∧ wr = w5 ∨ t = 1 ∧ wr = setW w5 rb R m.d (m.imm))) (fun i _ => 1 - (intOf i).toNat)
      case atStart => exact ⟨0, rfl, .inl ⟨rfl, rfl⟩⟩
      case round =>
        obtain ⟨t, rfl, ⟨rfl, rfl⟩ | ⟨rfl, hwr⟩⟩ := hrel
        · go_wp2_with fail
          refine HCL.out.mono ?_
          rintro e6 w6 ⟨rfl, hw6⟩
          have HW6 := Lib.hid hw6
          clear hw6
          go_wp2
          go_roundw
          case rel => exact ⟨1, rfl, .inr ⟨rfl, HW6.out⟩⟩
          case measure => simp [intOf]
        · have HWR := Lib.hid hwr
          clear hwr hk0
          go_wp2
          go_ret2
          exact ⟨rfl, by rw [HWR.out]; exact setW_at (HW.out.keep HS5.out) _ _, by rw [HWR.out]; exact (HM.out.keep HS5.out).turn (setW_turn (S := fun k => k = rb) rfl _ _ _) (fun q hq e => HSEP.out.2 (by rw [hq, e])), by rw [HWR.out]; exact (Turn.since HS5.out).trans (setW_turn (S := fun k => k = rb ∨ _) (.inl rfl) _ _ _)⟩


set_option maxHeartbeats 1000000 in
set_option maxRecDepth 100000 in
theorem do7_23 (m : Mach) (av mv0 : Value) (R M : List Int) (rb rc : Nat) (rest : List Value) (T : TypeId) (w : World) (h : Ints w av m.args) (hf : Fine m) (hw : WAt w rb R rest T) (hR : ∀ x ∈ R, In32 x) (hl : R.length ≤ 1000) (hm : MemIs w mv0 M)
    (hsep : (∀ q, av.ownBlock = some q → q ≠ rb ∧ mv0.ownBlock ≠ some q) ∧ mv0.ownBlock ≠ some rb) (ho : m.op = 23) :
    Calls Try.prog 168 #[mv m av, .slice (some ⟨rb, 0, none⟩) R.length rc, mv0] w (DoneP none (setR R m.d (wrap32 (wrap32 (getR R m.a * getR R m.b) + getR R m.c))) M rb rest T mv0 w) := by
  have HGET := Lib.hid (fun r w h => get_any R rb rc rest T r w h (by omega))
  have HSET := Lib.hid (fun r v w bx h hx => set_any R rb rc bx rest T r v w h (by omega) hx)
  have HMK := Lib.hid (fun w h => makes7_any m av w h hf.2.2)
  have hA := getR_32 hR m.a
  have hB := getR_32 hR m.b
  have hC := getR_32 hR m.c
  obtain ⟨ma, mc, rfl, hml⟩ := hm.shape
  obtain ⟨aa, ac, hav⟩ := nums_lenI h
  subst hav
  have H := Lib.hid h
  have HW := Lib.hid hw
  have HM := Lib.hid hm
  have HSEP := Lib.hid hsep
  have HF := Lib.hid hf
  have HRB := Lib.hid hw.lt
  clear h hw hm hsep hf hR
  unfold mv at HMK
  unfold mv
  have HMAKES := Lib.hid (show makes7 m = [m.d] from by unfold makes7; rw [if_neg (by omega), if_neg (by omega), if_neg (by omega)])
  have n1 : (m.op == 1) = false := beq_eq_false_iff_ne.2 (by omega)
  have n2 : (m.op == 2) = false := beq_eq_false_iff_ne.2 (by omega)
  have n3 : (m.op == 3) = false := beq_eq_false_iff_ne.2 (by omega)
  have n4 : (m.op == 4) = false := beq_eq_false_iff_ne.2 (by omega)
  have y23 : (m.op == 23) = true := beq_iff_eq.2 (by omega)
  have g1 : ¬ m.op ≤ 17 := by omega
  have g2 : ¬ m.op ≤ 22 := by omega
  have g3 : 18 ≤ m.op := by omega
  have g4 : 5 ≤ m.op := by omega
  clear ho
  obtain ⟨hA1, hA2⟩ := hA
  obtain ⟨hB1, hB2⟩ := hB
  obtain ⟨hC1, hC2⟩ := hC
  go_enter Try.func168, Try.ntmps168
  go_wp2
  refine wp_region_list_facts rfl (by decide +kernel) (by decide +kernel)
    [Is (.slice (some ⟨rb, 0, none⟩) R.length rc), Is (.pointer (some ⟨w.heap.size, 3, none⟩)), Is (.int .i64 m.a), Is (.int .i32 (getR R m.a)), Is (.slice (some ⟨rb, 0, none⟩) R.length rc), Is (.pointer (some ⟨w.heap.size, 4, none⟩)), Is (.int .i64 m.b), Is (.int .i32 (getR R m.b)), Is (.slice (some ⟨rb, 0, none⟩) R.length rc), Is (.pointer (some ⟨w.heap.size, 5, none⟩)), Is (.int .i64 m.c), Is (.int .i32 (getR R m.c)), Is (.int .i32 (getR R m.a)), Is (.int .i32 (getR R m.b)), Is (.int .i32 (getR R m.c))]
    (by repeat (first | exact trivial | refine ⟨Is.stable _, ?_⟩ | refine ⟨IsNums.stable _ _, ?_⟩ | refine ⟨IsRows.stable _ _, ?_⟩)) ⟨?_, ?_, ?_, ?_, ?_, ?_, ?_, ?_, ?_, ?_, ?_, ?_, ?_, ?_, ?_, trivial⟩ ?_
  all_goals
    intro vs w1 hs hk
    have hbm : ∀ i, w1.cell? ⟨w.heap.size, i, none⟩ = _ := fun i => hs.cell (p := ⟨w.heap.size, i, none⟩) (by simp <;> omega)
    have hbr : ∀ i, w1.cell? ⟨w.heap.size + 1, i, none⟩ = _ := fun i => hs.cell (p := ⟨w.heap.size + 1, i, none⟩) (by simp)
    have HSZ := Lib.hid (show w.heap.size + 1 < w1.heap.size from by have := hs.size; simp at this; omega)
    have HS := Lib.hid (Since.trans (((Since.refl w).alloc _).alloc _) hs)
    clear hs
    simp only [putAll, Act.put, Knows, KnowsAll, nthF, Is, List.setIfInBounds_toArray, List.set_cons_zero, List.set_cons_succ, Nat.reduceAdd, List.length_cons, List.length_nil] at hk ⊢
    try simp only [hk]
  · go_wp2
    exact ⟨_, rfl, rfl, Since.refl _⟩
  · go_wp2
    exact ⟨_, rfl, rfl, Since.refl _⟩
  · go_wp2
    exact ⟨_, rfl, rfl, Since.refl _⟩
  · go_wp2_with fail
    refine (HGET.out _ w1 (HW.out.keep HS.out)).mono ?_
    rintro e w2 ⟨rfl, rfl⟩
    go_wp2
    exact ⟨_, rfl, rfl, Since.refl _⟩
  · go_wp2
    exact ⟨_, rfl, rfl, Since.refl _⟩
  · go_wp2
    exact ⟨_, rfl, rfl, Since.refl _⟩
  · go_wp2
    exact ⟨_, rfl, rfl, Since.refl _⟩
  · go_wp2_with fail
    refine (HGET.out _ w1 (HW.out.keep HS.out)).mono ?_
    rintro e w2 ⟨rfl, rfl⟩
    go_wp2
    exact ⟨_, rfl, rfl, Since.refl _⟩
  · go_wp2
    exact ⟨_, rfl, rfl, Since.refl _⟩
  · go_wp2
    exact ⟨_, rfl, rfl, Since.refl _⟩
  · go_wp2
    exact ⟨_, rfl, rfl, Since.refl _⟩
  · go_wp2_with fail
    refine (HGET.out _ w1 (HW.out.keep HS.out)).mono ?_
    rintro e w2 ⟨rfl, rfl⟩
    go_wp2
    exact ⟨_, rfl, rfl, Since.refl _⟩
  · go_wp2
    exact ⟨_, rfl, rfl, Since.refl _⟩
  · go_wp2
    exact ⟨_, rfl, rfl, Since.refl _⟩
  · go_wp2
    exact ⟨_, rfl, rfl, Since.refl _⟩
  · have HBM := Lib.hid hbm
    have HBR := Lib.hid hbr
    clear hk
    generalize getR R m.a = A at *
    generalize getR R m.b = B at *
    generalize getR R m.c = C at *
    go_wp2_with fail
    refine (HMK.out _ (H.out.keep HS.out)).mono ?_
    rw [HMAKES.out]
    rintro e5 w5 ⟨v5, rfl, hv5, hs5⟩
    obtain ⟨ka, kc, rfl⟩ := nums_lenI hv5
    obtain ⟨_, hcc⟩ := nums_cell hv5
    obtain ⟨kb, ko, rfl, _, hcell⟩ := hcc (by simp)
    have hk0 : w5.cell? ⟨kb, ko, none⟩ = some (.int .i64 m.d) := hcell 0 _ rfl
    have HS5 := Lib.hid (HS.out.trans hs5)
    have hbr5 : w5.cell? ⟨w.heap.size + 1, 0, none⟩ = _ := (hs5.cell (p := ⟨w.heap.size + 1, 0, none⟩) HSZ.out).trans (HBR.out 0)
    have hcl := HSET.out m.d (wrap32 (wrap32 (A * B) + C)) w5 (w.heap.size + 1) (HW.out.keep HS5.out) (hbr5.trans (cell_last2 _ _ _ _))
    have HCL := Lib.hid hcl
    clear hcc hcell hv5 hs5 hbr5 hbm hbr hcl
    go_wp2
    go_loopw [189] (fun i wr => ∃ t : Nat, i = .int .i64 t ∧ (t = 0 ∧ wr = w5 ∨ t = 1 ∧ wr = setW w5 rb R m.d (wrap32 (wrap32 (A * B) + C)))) (fun i _ => 1 - (intOf i).toNat)
    case atStart => exact ⟨0, rfl, .inl ⟨rfl, rfl⟩⟩
    case round =>
      obtain ⟨t, rfl, ⟨rfl, rfl⟩ | ⟨rfl, hwr⟩⟩ := hrel
      · go_wp2_with fail
        refine HCL.out.mono ?_
        rintro e6 w6 ⟨rfl, hw6⟩
        have HW6 := Lib.hid hw6
        clear hw6
        go_wp2
        go_roundw
        case rel => exact ⟨1, rfl, .inr ⟨rfl, HW6.out⟩⟩
        case measure => simp [intOf]
      · have HWR := Lib.hid hwr
        clear hwr hk0
        go_wp2
        go_ret2
        exact ⟨rfl, by rw [HWR.out]; exact setW_at (HW.out.keep HS5.out) _ _, by rw [HWR.out]; exact (HM.out.keep HS5.out).turn (setW_turn (S := fun k => k = rb) rfl _ _ _) (fun q hq e => HSEP.out.2 (by rw [hq, e])), by rw [HWR.out]; exact (Turn.since HS5.out).trans (setW_turn (S := fun k => k = rb ∨ _) (.inl rfl) _ _ _)⟩
end Go.Proofs.Ytkpbmbhejpmboaa
