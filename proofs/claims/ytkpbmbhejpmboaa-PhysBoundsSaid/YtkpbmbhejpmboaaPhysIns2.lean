/- phys.Ins. -/
import Derived.Test.YtkpbmbhejpmboaaPhysIns
namespace Go.Proofs.Ytkpbmbhejpmboaa
open Go.RowKit
set_option linter.unusedVariables false

set_option maxHeartbeats 4000000 in
set_option maxRecDepth 100000 in
theorem ins_any (m : Mach) (av : Value) (k slots : Int) (w : World) (h : Ints w av m.args) (hf : Fine m) :
    Calls Try.prog 20 #[mv m av, .int .i64 k, .int .i64 slots] w (NumP (insE m k slots) w) := by
  have hsh := fun w h => shape_any m av w h
  have HT7 := Lib.hid (fun w h => takes7_any m av w h hf.2.2)
  have HM7 := Lib.hid (fun w h => makes7_any m av w h hf.2.2)
  have HT := Lib.hid (fun w h => takes_any m av w h hf)
  have HM := Lib.hid (fun w h => makes_any m av w h hf)
  have HF := Lib.hid hf
  have HLT := Lib.hid (takes7_len m hf.2.2)
  have HLM := Lib.hid (makes7_len m)
  have HLTA := Lib.hid (takes_len m hf.2.2)
  have HLMA := Lib.hid (makes_len m)
  have H := Lib.hid h
  clear h hf
  generalize hE : insE m k slots = E
  unfold insE at hE
  generalize shapeB m = sh at *
  have HSH := Lib.hid hsh; clear hsh
  cases sh with
  | false =>
    have HE := Lib.hid hE; clear hE
    unfold mv at HSH
    unfold mv
    go_enter Try.func20, Try.ntmps20
    go_wp2_with fail
    refine (HSH.out _ (H.out.keep ((Since.refl _).alloc _))).mono ?_
    rintro e w1 ⟨rfl, hs1⟩
    go_wp2
    go_ret
    exact ⟨by rw [← HE.out]; rfl, ((Since.refl _).alloc _).trans hs1⟩
  | true =>
    rw [if_neg (by decide)] at hE
    by_cases hst : m.op = 30 ∨ m.op = 31
    · have hsb : stackB m = true := by unfold stackB; rcases hst with h | h <;> simp [h]
      rw [hsb] at hE
      have HP := Lib.hid hE
      have HST := Lib.hid hst
      clear hE hsb
      have hop : (m.op == 30) = true ∨ ((m.op == 30) = false ∧ (m.op == 31) = true) := by
        rcases hst with h | h
        · left; simp [h]
        · right; simp [h]
      clear hst
      unfold mv at HSH
      unfold mv
      rcases hop with h30 | ⟨h30, h31⟩
      all_goals
        go_enter Try.func20, Try.ntmps20
        go_wp2_with fail
        refine (HSH.out _ (H.out.keep ((Since.refl _).alloc _))).mono ?_
        rintro e w0 ⟨rfl, hs0⟩
        have hc0 : ∀ i, w0.cell? ⟨w.heap.size, i, none⟩ = _ := fun i => hs0.cell (p := ⟨w.heap.size, i, none⟩) (by simp)
        have HS0 := Lib.hid (((Since.refl w).alloc (.cells #[.int .i64 m.op, .int .i64 m.d, .int .i64 m.e, .int .i64 m.a, .int .i64 m.b, .int .i64 m.c, .int .i32 m.imm, av] 46)).trans hs0)
        have HSZ := Lib.hid (show w.heap.size < w0.heap.size from by have := hs0.size; simp at this; omega)
        clear hs0
        go_wp2
        have HC0 := Lib.hid hc0
        clear hc0
        refine wp_region_list_facts rfl (by decide +kernel) (by decide +kernel)
          [Is (mv m av), IsNums .i64 (takes m), Is (mv m av), IsNums .i64 (makes m), IsRows (takes m) (makes m), IsNums .i64 (joined [((.nilFunc : Value), takes m), (.nilFunc, makes m)]), IsNums .i64 (joined [((.nilFunc : Value), takes m), (.nilFunc, makes m)])]
          (by repeat (first | exact trivial | refine ⟨Is.stable _, ?_⟩ | refine ⟨IsNums.stable _ _, ?_⟩ | refine ⟨IsRows.stable _ _, ?_⟩)) ⟨?_, ?_, ?_, ?_, ?_, ?_, ?_, trivial⟩ ?_
        all_goals
          intro vs wA hs hk
          have hc : ∀ i, wA.cell? ⟨w.heap.size, i, none⟩ = _ := fun i => (hs.cell (p := ⟨w.heap.size, i, none⟩) HSZ.out).trans (HC0.out i)
          have HSAc := Lib.hid hc
          have HSAz := Lib.hid (Nat.lt_of_lt_of_le HSZ.out hs.size)
          have HSA := Lib.hid (HS0.out.trans hs)
          clear hs
          simp only [putAll, Act.put, Knows, KnowsAll, nthF, Is, List.setIfInBounds_toArray, List.set_cons_zero, List.set_cons_succ, Nat.reduceAdd, List.length_cons, List.length_nil] at hk ⊢
          try simp only [hk]
        · go_wp2
          exact ⟨_, rfl, rfl, Since.refl _⟩
        · go_wp2_with fail
          refine (HT.out _ (H.out.keep HSA.out)).mono ?_
          rintro e w2 ⟨v, rfl, hv, hs2⟩
          go_wp2
          exact ⟨_, rfl, hv, hs2⟩
        · go_wp2
          exact ⟨_, rfl, rfl, Since.refl _⟩
        · go_wp2_with fail
          refine (HM.out _ (H.out.keep HSA.out)).mono ?_
          rintro e w2 ⟨v, rfl, hv, hs2⟩
          go_wp2
          exact ⟨_, rfl, hv, hs2⟩
        · obtain ⟨h1, h2, _⟩ := hk
          obtain ⟨a1, c1, e1⟩ := nums_lenI h1
          obtain ⟨a2, c2, e2⟩ := nums_lenI h2
          rw [e1] at h1 ⊢
          rw [e2] at h2 ⊢
          have H1 := Lib.hid h1; clear h1
          have H2 := Lib.hid h2; clear h2
          go_wp2
          exact ⟨_, rfl, rows_last rfl _ H1.out H2.out, (Since.refl _).alloc _⟩
        · obtain ⟨⟨v1, v2, h1⟩, _⟩ := hk
          have H1 := Lib.hid h1; clear h1
          go_wp2_with fail
          refine (concat_any _ _ _ H1.out (by simp) (by simp [total]; have := HLTA.out; have := HLMA.out; omega)).mono ?_
          rintro e w2 ⟨v, rfl, hv, hs2⟩
          go_wp2
          exact ⟨_, rfl, hv, hs2⟩
        · go_wp2
          exact ⟨_, rfl, hk.1, Since.refl _⟩
        · clear hk
          go_wp2
          clear hc
          refine wp_region_list_facts rfl (by decide +kernel) (by decide +kernel)
            [Is (mv m av), IsNums .i64 (takes7 m), Is (mv m av), IsNums .i64 (makes7 m), IsRows (takes7 m) (makes7 m), IsNums .i64 (joined [((.nilFunc : Value), takes7 m), (.nilFunc, makes7 m)]), IsNums .i64 (joined [((.nilFunc : Value), takes7 m), (.nilFunc, makes7 m)])]
            (by repeat (first | exact trivial | refine ⟨Is.stable _, ?_⟩ | refine ⟨IsNums.stable _ _, ?_⟩ | refine ⟨IsRows.stable _ _, ?_⟩)) ⟨?_, ?_, ?_, ?_, ?_, ?_, ?_, trivial⟩ ?_
          all_goals
            intro vs w1 hs hk
            have hc : ∀ i, w1.cell? ⟨w.heap.size, i, none⟩ = _ := fun i => (hs.cell (p := ⟨w.heap.size, i, none⟩) HSAz.out).trans (HSAc.out i)
            have HSSc := Lib.hid hc
            have HSSz := Lib.hid (Nat.lt_of_lt_of_le HSAz.out hs.size)
            have HSS := Lib.hid (HSA.out.trans hs)
            clear hs
            simp only [putAll, Act.put, Knows, KnowsAll, nthF, Is, List.setIfInBounds_toArray, List.set_cons_zero, List.set_cons_succ, Nat.reduceAdd, List.length_cons, List.length_nil] at hk ⊢
            try simp only [hk]
          · go_wp2
            exact ⟨_, rfl, rfl, Since.refl _⟩
          · go_wp2_with fail
            refine (HT7.out _ (H.out.keep HSS.out)).mono ?_
            rintro e w2 ⟨v, rfl, hv, hs2⟩
            go_wp2
            exact ⟨_, rfl, hv, hs2⟩
          · go_wp2
            exact ⟨_, rfl, rfl, Since.refl _⟩
          · go_wp2_with fail
            refine (HM7.out _ (H.out.keep HSS.out)).mono ?_
            rintro e w2 ⟨v, rfl, hv, hs2⟩
            go_wp2
            exact ⟨_, rfl, hv, hs2⟩
          · obtain ⟨h1, h2, _⟩ := hk
            obtain ⟨a1, c1, e1⟩ := nums_lenI h1
            obtain ⟨a2, c2, e2⟩ := nums_lenI h2
            rw [e1] at h1 ⊢
            rw [e2] at h2 ⊢
            have H1 := Lib.hid h1; clear h1
            have H2 := Lib.hid h2; clear h2
            go_wp2
            exact ⟨_, rfl, rows_last rfl _ H1.out H2.out, (Since.refl _).alloc _⟩
          · obtain ⟨⟨v1, v2, h1⟩, _⟩ := hk
            have H1 := Lib.hid h1; clear h1
            go_wp2_with fail
            refine (concat_any _ _ _ H1.out (by simp) (by simp [total]; have := HLT.out; have := HLM.out; omega)).mono ?_
            rintro e w2 ⟨v, rfl, hv, hs2⟩
            go_wp2
            exact ⟨_, rfl, hv, hs2⟩
          · go_wp2
            exact ⟨_, rfl, hk.1, Since.refl _⟩
          · have hx := hk.2.2.2.2.2.2.1
            rw [show joined [((.nilFunc : Value), takes7 m), (.nilFunc, makes7 m)] = regsOf m from by simp [joined, regsOf, HST.out]] at hx
            clear hk hc
            obtain ⟨ra, rc, hv⟩ := nums_lenI hx
            rw [hv] at hx ⊢
            have hrl := hx.len
            unfold maxLen at hrl
            have HX := Lib.hid hx
            clear hx hv
            have hbad0 : badReg k (regsOf m) = (regsOf m).any fun r => decide (r < 0) || decide (k ≤ r) := rfl
            have HBAD := Lib.hid hbad0
            clear hbad0
            generalize hR : regsOf m = R at *
            clear hR
            go_wp2
            go_loop [37] (fun i => ∃ t : Nat, t ≤ R.length ∧ i = .int .i64 t ∧ ∀ (j : Nat) (x : Int), j < t → R[j]? = some x → 0 ≤ x ∧ x < k) (fun i => R.length - (intOf i).toNat)
            case atStart => exact ⟨0, Nat.zero_le _, rfl, fun j x hj => by omega⟩
            case round =>
              obtain ⟨t, ht, rfl, hall⟩ := hrel
              have HALL := Lib.hid hall; clear hall
              by_cases hlt : t < R.length
              · obtain ⟨_, hcc⟩ := nums_cell HX.out
                obtain ⟨B, off, rfl, hB, hcell⟩ := hcc (by intro e; rw [e] at hlt; simp at hlt)
                obtain ⟨x, hx⟩ : ∃ x, R[t]? = some x := ⟨_, List.getElem?_eq_getElem hlt⟩
                have hcx := hcell t x hx
                have HXT := Lib.hid hx
                clear hcell hcc hB hx
                by_cases hx0 : x < 0
                · have hb : badReg k R = true := by
                    rw [HBAD.out, List.any_eq_true]; exact ⟨x, List.mem_of_getElem? HXT.out, by simp [hx0]⟩
                  have HB := Lib.hid hb; clear hb
                  go_wp2
                  go_ret
                  exact ⟨by rw [← HP.out, HB.out]; rfl, HSS.out⟩
                · by_cases hxk : k ≤ x
                  · have hb : badReg k R = true := by
                      rw [HBAD.out, List.any_eq_true]; exact ⟨x, List.mem_of_getElem? HXT.out, by simp [hxk]⟩
                    have HB := Lib.hid hb; clear hb
                    go_wp2
                    go_ret
                    exact ⟨by rw [← HP.out, HB.out]; rfl, HSS.out⟩
                  · go_wp2
                    go_round
                    case rel => exact ⟨t + 1, by omega, by go_num, fun j y hj hy => by
                      by_cases e : j = t
                      · subst e; rw [HXT.out] at hy; cases hy; omega
                      · exact HALL.out j y (by omega) hy⟩
                    case measure => simp [intOf]; omega
              · obtain rfl : t = R.length := by omega
                have hb : badReg k R = false := by
                  rw [HBAD.out, List.any_eq_false]
                  intro x hx
                  obtain ⟨j, hj⟩ := List.getElem?_of_mem hx
                  have := HALL.out j x (List.getElem?_eq_some_iff.1 hj).1 hj
                  simp; omega
                rw [hb, if_neg (by decide)] at HP
                clear hb
                have hImm : ∀ w2, Since w1 w2 → Calls Try.prog 57 #[mv m av] w2 (TellsS (immB m) w2) := fun w2 _ => imm_any m av w2 HF.out.1 HF.out.2.1
                generalize hI : immB m = I at *
                have HIM := Lib.hid hImm
                clear hImm hI
                have hcE := HSSc.out
                have hiu : m.imm ≤ 2147483647 := HF.out.2.1
                by_cases hi0 : m.imm < 0
                · go_wp2
                  go_ret
                  exact ⟨by rw [← HP.out, decide_eq_true hi0]; rfl, HSS.out⟩
                · have hd0 : decide (m.imm < 0) = false := decide_eq_false hi0
                  by_cases hi1 : slots ≤ m.imm
                  · have hd1 : decide (slots ≤ m.imm) = true := decide_eq_true hi1
                    go_wp2
                    go_ret
                    exact ⟨by rw [← HP.out, decide_eq_true hi1, Bool.or_true]; rfl, HSS.out⟩
                  · rw [decide_eq_false hi0, decide_eq_false hi1] at HP
                    have hd1 : decide (slots ≤ m.imm) = false := decide_eq_false hi1
                    go_wp2_with fail
                    refine (HIM.out _ (Since.refl _)).mono ?_
                    rintro e w3 ⟨rfl, hs3⟩
                    cases I <;> (go_wp2; go_ret; exact ⟨by rw [← HP.out]; rfl, HSS.out.trans hs3⟩)
    · have hsb : stackB m = false := by unfold stackB; simp; omega
      rw [hsb, Bool.false_and] at hE
      have HP := Lib.hid hE
      have HST := Lib.hid hst
      have h30 : (m.op == 30) = false := by simp; omega
      have h31 : (m.op == 31) = false := by simp; omega
      clear hE hsb hst
      unfold mv at HSH
      unfold mv
      go_enter Try.func20, Try.ntmps20
      go_wp2_with fail
      refine (HSH.out _ (H.out.keep ((Since.refl _).alloc _))).mono ?_
      rintro e w0 ⟨rfl, hs0⟩
      have hc0 : ∀ i, w0.cell? ⟨w.heap.size, i, none⟩ = _ := fun i => hs0.cell (p := ⟨w.heap.size, i, none⟩) (by simp)
      have HS0 := Lib.hid (((Since.refl w).alloc (.cells #[.int .i64 m.op, .int .i64 m.d, .int .i64 m.e, .int .i64 m.a, .int .i64 m.b, .int .i64 m.c, .int .i32 m.imm, av] 46)).trans hs0)
      have HSZ := Lib.hid (show w.heap.size < w0.heap.size from by have := hs0.size; simp at this; omega)
      clear hs0
      go_wp2
      have HC0 := Lib.hid hc0
      clear hc0
      refine wp_region_list_facts rfl (by decide +kernel) (by decide +kernel)
        [Is (mv m av), IsNums .i64 (takes m), Is (mv m av), IsNums .i64 (makes m), IsRows (takes m) (makes m), IsNums .i64 (joined [((.nilFunc : Value), takes m), (.nilFunc, makes m)]), IsNums .i64 (joined [((.nilFunc : Value), takes m), (.nilFunc, makes m)])]
        (by repeat (first | exact trivial | refine ⟨Is.stable _, ?_⟩ | refine ⟨IsNums.stable _ _, ?_⟩ | refine ⟨IsRows.stable _ _, ?_⟩)) ⟨?_, ?_, ?_, ?_, ?_, ?_, ?_, trivial⟩ ?_
      all_goals
        intro vs w1 hs hk
        have hc : ∀ i, w1.cell? ⟨w.heap.size, i, none⟩ = _ := fun i => (hs.cell (p := ⟨w.heap.size, i, none⟩) HSZ.out).trans (HC0.out i)
        have HSSc := Lib.hid hc
        have HSSz := Lib.hid (Nat.lt_of_lt_of_le HSZ.out hs.size)
        have HSS := Lib.hid (HS0.out.trans hs)
        clear hs
        simp only [putAll, Act.put, Knows, KnowsAll, nthF, Is, List.setIfInBounds_toArray, List.set_cons_zero, List.set_cons_succ, Nat.reduceAdd, List.length_cons, List.length_nil] at hk ⊢
        try simp only [hk]
      · go_wp2
        exact ⟨_, rfl, rfl, Since.refl _⟩
      · go_wp2_with fail
        refine (HT.out _ (H.out.keep HSS.out)).mono ?_
        rintro e w2 ⟨v, rfl, hv, hs2⟩
        go_wp2
        exact ⟨_, rfl, hv, hs2⟩
      · go_wp2
        exact ⟨_, rfl, rfl, Since.refl _⟩
      · go_wp2_with fail
        refine (HM.out _ (H.out.keep HSS.out)).mono ?_
        rintro e w2 ⟨v, rfl, hv, hs2⟩
        go_wp2
        exact ⟨_, rfl, hv, hs2⟩
      · obtain ⟨h1, h2, _⟩ := hk
        obtain ⟨a1, c1, e1⟩ := nums_lenI h1
        obtain ⟨a2, c2, e2⟩ := nums_lenI h2
        rw [e1] at h1 ⊢
        rw [e2] at h2 ⊢
        have H1 := Lib.hid h1; clear h1
        have H2 := Lib.hid h2; clear h2
        go_wp2
        exact ⟨_, rfl, rows_last rfl _ H1.out H2.out, (Since.refl _).alloc _⟩
      · obtain ⟨⟨v1, v2, h1⟩, _⟩ := hk
        have H1 := Lib.hid h1; clear h1
        go_wp2_with fail
        refine (concat_any _ _ _ H1.out (by simp) (by simp [total]; have := HLTA.out; have := HLMA.out; omega)).mono ?_
        rintro e w2 ⟨v, rfl, hv, hs2⟩
        go_wp2
        exact ⟨_, rfl, hv, hs2⟩
      · go_wp2
        exact ⟨_, rfl, hk.1, Since.refl _⟩
      · have hx := hk.2.2.2.2.2.2.1
        rw [show joined [((.nilFunc : Value), takes m), (.nilFunc, makes m)] = regsOf m from by simp [joined, regsOf, HST.out]] at hx
        clear hk hc
        obtain ⟨ra, rc, hv⟩ := nums_lenI hx
        rw [hv] at hx ⊢
        have hrl := hx.len
        unfold maxLen at hrl
        have HX := Lib.hid hx
        clear hx hv
        have hbad0 : badReg k (regsOf m) = (regsOf m).any fun r => decide (r < 0) || decide (k ≤ r) := rfl
        have HBAD := Lib.hid hbad0
        clear hbad0
        generalize hR : regsOf m = R at *
        clear hR
        go_wp2
        go_loop [37] (fun i => ∃ t : Nat, t ≤ R.length ∧ i = .int .i64 t ∧ ∀ (j : Nat) (x : Int), j < t → R[j]? = some x → 0 ≤ x ∧ x < k) (fun i => R.length - (intOf i).toNat)
        case atStart => exact ⟨0, Nat.zero_le _, rfl, fun j x hj => by omega⟩
        case round =>
          obtain ⟨t, ht, rfl, hall⟩ := hrel
          have HALL := Lib.hid hall; clear hall
          by_cases hlt : t < R.length
          · obtain ⟨_, hcc⟩ := nums_cell HX.out
            obtain ⟨B, off, rfl, hB, hcell⟩ := hcc (by intro e; rw [e] at hlt; simp at hlt)
            obtain ⟨x, hx⟩ : ∃ x, R[t]? = some x := ⟨_, List.getElem?_eq_getElem hlt⟩
            have hcx := hcell t x hx
            have HXT := Lib.hid hx
            clear hcell hcc hB hx
            by_cases hx0 : x < 0
            · have hb : badReg k R = true := by
                rw [HBAD.out, List.any_eq_true]; exact ⟨x, List.mem_of_getElem? HXT.out, by simp [hx0]⟩
              have HB := Lib.hid hb; clear hb
              go_wp2
              go_ret
              exact ⟨by rw [← HP.out, HB.out]; rfl, HSS.out⟩
            · by_cases hxk : k ≤ x
              · have hb : badReg k R = true := by
                  rw [HBAD.out, List.any_eq_true]; exact ⟨x, List.mem_of_getElem? HXT.out, by simp [hxk]⟩
                have HB := Lib.hid hb; clear hb
                go_wp2
                go_ret
                exact ⟨by rw [← HP.out, HB.out]; rfl, HSS.out⟩
              · go_wp2
                go_round
                case rel => exact ⟨t + 1, by omega, by go_num, fun j y hj hy => by
                  by_cases e : j = t
                  · subst e; rw [HXT.out] at hy; cases hy; omega
                  · exact HALL.out j y (by omega) hy⟩
                case measure => simp [intOf]; omega
          · obtain rfl : t = R.length := by omega
            have hb : badReg k R = false := by
              rw [HBAD.out, List.any_eq_false]
              intro x hx
              obtain ⟨j, hj⟩ := List.getElem?_of_mem hx
              have := HALL.out j x (List.getElem?_eq_some_iff.1 hj).1 hj
              simp; omega
            rw [hb, if_neg (by decide)] at HP
            clear hb
            have hImm : ∀ w2, Since w1 w2 → Calls Try.prog 57 #[mv m av] w2 (TellsS (immB m) w2) := fun w2 _ => imm_any m av w2 HF.out.1 HF.out.2.1
            generalize hI : immB m = I at *
            have HIM := Lib.hid hImm
            clear hImm hI
            have hcE := HSSc.out
            go_wp2_with fail
            refine (HIM.out _ (Since.refl _)).mono ?_
            rintro e w3 ⟨rfl, hs3⟩
            cases I <;> (go_wp2; go_ret; exact ⟨by rw [← HP.out]; rfl, HSS.out.trans hs3⟩)
end Go.Proofs.Ytkpbmbhejpmboaa
