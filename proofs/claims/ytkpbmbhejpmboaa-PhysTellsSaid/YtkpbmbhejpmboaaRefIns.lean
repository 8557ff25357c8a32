/- jacquardref12.registers, jacquardref12.Ins: what an instruction may be, by the document. -/
import Derived.Test.YtkpbmbhejpmboaaPhysIns
import Derived.Test.YtkpbmbhejpmboaaRefTakes
import Derived.Test.YtkpbmbhejpmboaaRegion2
namespace Go.Proofs.Ytkpbmbhejpmboaa
open Go.RowKit
set_option linter.unusedVariables false

def OwnR (W0 : World) (l : List Int) (v : Value) (w : World) : Prop := w.ownsRow W0.heap.size 3 1 v l.length (l.map (Value.int .i64))
theorem OwnR.stable (W0 : World) (l : List Int) : Stable (OwnR W0 l) := fun _ _ _ h s => own_keep h s

set_option maxHeartbeats 2000000 in
set_option maxRecDepth 100000 in
theorem rregisters_any (m : Mach) (av : Value) (w : World) (h : Ints w av m.args) (hf : Fine m) :
    Calls Try.prog 74 #[mv m av] w (Gives w (regsOf m)) := by
  have HT := Lib.hid (fun w h => rtakes_any m av w h hf)
  have HM := Lib.hid (fun w h => rmakes_any m av w h hf)
  have HLT := Lib.hid (takes_len m hf.2.2)
  have HLM := Lib.hid (makes_len m)
  have H := Lib.hid h
  clear h hf
  unfold mv at HT HM ⊢
  by_cases g1 : m.op = 30
  · have e : regsOf m = [m.d] := by
      unfold regsOf takes7 makes7
      rw [if_pos (.inl g1), if_neg (by omega), if_neg (by omega), if_neg (by omega), if_neg (by omega), if_neg (by omega), if_neg (by omega), if_neg (by omega)]
      rfl
    rw [e]
    have g1' : (m.op == 30) = true := by simpa using g1
    clear g1 e
    go_enter Try.func74, Try.ntmps74
    go_wp2
    go_ret
    exact gives_last ((Since.refl _).alloc _) _ _ (by simp) rfl (by simp [maxLen]) rfl
  · have g1' : (m.op == 30) = false := by simpa using g1
    by_cases g2 : m.op = 31
    · have e : regsOf m = [m.a] := by
        unfold regsOf takes7 makes7
        rw [if_pos (.inr g2), if_pos (by omega), if_neg (by omega), if_neg (by omega), if_pos (by omega)]
        rfl
      rw [e]
      have g2' : (m.op == 31) = true := by simpa using g2
      clear g1 g2 e
      go_enter Try.func74, Try.ntmps74
      go_wp2
      go_ret
      exact gives_last ((Since.refl _).alloc _) _ _ (by simp) rfl (by simp [maxLen]) rfl
    · have g2' : (m.op == 31) = false := by simpa using g2
      have e : regsOf m = takes m ++ makes m := by
        unfold regsOf
        rw [if_neg (by omega)]
      rw [e]
      clear g1 g2 e
      go_enter Try.func74, Try.ntmps74
      go_wp2_with fail
      refine wp_region_windows [false, true, false, false, true, false, false, false] [false, false, false, true, false, false, true, false] [false, false, false, false, false, false, false, true]
        rfl (by decide +kernel) (by decide +kernel) (by decide +kernel) rfl
        [OwnR (w.alloc (.cells #[.int .i64 m.op, .int .i64 m.d, .int .i64 m.e, .int .i64 m.a, .int .i64 m.b, .int .i64 m.c, .int .i32 m.imm, av] 46)) [], Is (mv m av), IsNums .i64 (takes m), OwnR (w.alloc (.cells #[.int .i64 m.op, .int .i64 m.d, .int .i64 m.e, .int .i64 m.a, .int .i64 m.b, .int .i64 m.c, .int .i32 m.imm, av] 46)) ([] ++ takes m), Is (mv m av), IsNums .i64 (makes m), OwnR (w.alloc (.cells #[.int .i64 m.op, .int .i64 m.d, .int .i64 m.e, .int .i64 m.a, .int .i64 m.b, .int .i64 m.c, .int .i32 m.imm, av] 46)) ([] ++ takes m ++ makes m), OwnR (w.alloc (.cells #[.int .i64 m.op, .int .i64 m.d, .int .i64 m.e, .int .i64 m.a, .int .i64 m.b, .int .i64 m.c, .int .i32 m.imm, av] 46)) ([] ++ takes m ++ makes m)]
        ⟨OwnR.stable _ _, Is.stable _, IsNums.stable _ _, OwnR.stable _ _, Is.stable _, IsNums.stable _ _, OwnR.stable _ _, OwnR.stable _ _, trivial⟩ ⟨Is.fixed _, Is.fixed _, trivial⟩ (by simp) ⟨?_, ?_, ?_, ?_, ?_, ?_, ?_, ?_, trivial⟩ ?_
      all_goals
        intro vs w1 hs hk
        have hc1 : ∀ i, w1.cell? ⟨w.heap.size, i, none⟩ = _ := fun i => hs.cell (p := ⟨w.heap.size, i, none⟩) (by simp)
        simp only [putAll, Act.put, KnowsD, KnowsFin, nthF, Is, List.setIfInBounds_toArray, List.set_cons_zero, List.set_cons_succ, Nat.reduceAdd] at hk ⊢
        try simp only [hk]
      · go_wp2
        exact ⟨_, rfl, own_empty rfl hs.size _ _, (Since.refl _).alloc _⟩
      · go_wp2
        exact ⟨_, rfl, rfl, Since.refl _⟩
      · go_wp2_with fail
        refine (HT.out _ ((H.out.keep ((Since.refl _).alloc _)).keep hs)).mono ?_
        rintro e w2 ⟨v, rfl, hv, hs2⟩
        go_wp2
        exact ⟨_, rfl, hv, hs2⟩
      · have K := Lib.hid hk; clear hk
        go_wp2_with (at_builtin; refine wpList_append_nums (w0 := w.alloc (.cells #[.int .i64 m.op, .int .i64 m.d, .int .i64 m.e, .int .i64 m.a, .int .i64 m.b, .int .i64 m.c, .int .i32 m.imm, av] 46)) .i64 rfl _ _ 25 rfl 3 (.int .i64 0) 8 Try.underlying25 Try.info3 rfl (by decide) _ _ [] (takes m) rfl rfl K.out.1 K.out.2.1 (by have := HLT.out; simp; omega) hs ?_; intro v' w' hown hs2)
        exact ⟨_, rfl, hown, hs2⟩
      · go_wp2
        exact ⟨_, rfl, rfl, Since.refl _⟩
      · go_wp2_with fail
        refine (HM.out _ ((H.out.keep ((Since.refl _).alloc _)).keep hs)).mono ?_
        rintro e w2 ⟨v, rfl, hv, hs2⟩
        go_wp2
        exact ⟨_, rfl, hv, hs2⟩
      · have K := Lib.hid hk; clear hk
        go_wp2_with (at_builtin; refine wpList_append_nums (w0 := w.alloc (.cells #[.int .i64 m.op, .int .i64 m.d, .int .i64 m.e, .int .i64 m.a, .int .i64 m.b, .int .i64 m.c, .int .i32 m.imm, av] 46)) .i64 rfl _ _ 25 rfl 3 (.int .i64 0) 8 Try.underlying25 Try.info3 rfl (by decide) _ _ ([] ++ takes m) (makes m) rfl rfl K.out.1 K.out.2.1 (by have := HLT.out; have := HLM.out; simp; omega) hs ?_; intro v' w' hown hs2)
        exact ⟨_, rfl, hown, hs2⟩
      · go_wp2
        exact ⟨_, rfl, hk.1, Since.refl _⟩
      · have hx : Nums .i64 w1 (vs 7) (takes m ++ makes m) := nums_of_own (l := takes m ++ makes m) hk.1
        clear hk hc1
        obtain ⟨a1, c1, e1⟩ := nums_lenI hx
        rw [e1] at hx ⊢
        have X := Lib.hid hx; clear hx
        go_wp2
        go_ret
        exact ⟨_, rfl, X.out, ((Since.refl _).alloc _).trans hs⟩


set_option maxHeartbeats 4000000 in
set_option maxRecDepth 100000 in
theorem rins_any (m : Mach) (av : Value) (k slots : Int) (w : World) (h : Ints w av m.args) (hf : Fine m) :
    Calls Try.prog 43 #[mv m av, .int .i64 k, .int .i64 slots] w (NumP (insE m k slots) w) := by
  have HR := Lib.hid (fun w h => rregisters_any m av w h hf)
  have HF := Lib.hid hf
  have hlen := h.len
  unfold maxLen at hlen
  obtain ⟨aa, ac, rfl⟩ := nums_lenI h
  have H := Lib.hid h
  clear h hf
  generalize hE : insE m k slots = E
  unfold insE at hE
  obtain ⟨op, d, e, a, b, c, imm, args⟩ := m
  have hbad0 : badReg k (regsOf ⟨op, d, e, a, b, c, imm, args⟩) = (regsOf ⟨op, d, e, a, b, c, imm, args⟩).any fun r => decide (r < 0) || decide (k ≤ r) := rfl
  have HBAD := Lib.hid hbad0
  clear hbad0
  dsimp only at hlen H hE
  unfold mv at HR ⊢
  dsimp only at HR ⊢
  by_cases hlo : op < 1
  · have hs : shapeB ⟨op, d, e, a, b, c, imm, args⟩ = false := by unfold shapeB; dsimp only; rw [if_neg (by omega), if_neg (by omega)]; simp; omega
    rw [if_pos hs] at hE
    clear hs
    have HE := Lib.hid hE; clear hE
    go_enter Try.func43, Try.ntmps43
    go_wp2
    go_ret
    exact ⟨by rw [← HE.out]; rfl, (Since.refl _).alloc _⟩
  have hlo' : decide (op < 1) = false := decide_eq_false hlo
  by_cases hhi : 31 < op
  · have hs : shapeB ⟨op, d, e, a, b, c, imm, args⟩ = false := by unfold shapeB; dsimp only; rw [if_neg (by omega), if_neg (by omega)]; simp; omega
    rw [if_pos hs] at hE
    clear hs
    have HE := Lib.hid hE; clear hE
    go_enter Try.func43, Try.ntmps43
    go_wp2
    go_ret
    exact ⟨by rw [← HE.out]; rfl, (Since.refl _).alloc _⟩
  have hhi' : decide (31 < op) = false := decide_eq_false hhi
  by_cases g28 : op = 28
  · subst g28
    by_cases hl4 : 4 < args.length
    · have hs : shapeB ⟨28, d, e, a, b, c, imm, args⟩ = false := by unfold shapeB; dsimp only; rw [if_pos rfl, decide_eq_false (show ¬ args.length ≤ 4 by omega)]; simp
      rw [if_pos hs] at hE
      have hl4' : (4 : Int) < (args.length : Int) := by omega
      clear hs hl4
      have HE := Lib.hid hE; clear hE
      go_enter Try.func43, Try.ntmps43
      go_wp2
      go_ret
      exact ⟨by rw [← HE.out]; rfl, (Since.refl _).alloc _⟩
    have hl4' : decide ((4 : Int) < (args.length : Int)) = false := decide_eq_false (by omega)
    by_cases hd : d = 0
    rotate_left
    · have hs : shapeB ⟨28, d, e, a, b, c, imm, args⟩ = false := by unfold shapeB; dsimp only; rw [if_pos rfl, beq_eq_false_iff_ne.2 hd]; simp
      rw [if_pos hs] at hE
      have hd' : (d != 0) = true := by simpa using hd
      clear hs hd
      have HE := Lib.hid hE; clear hE
      go_enter Try.func43, Try.ntmps43
      go_wp2
      go_ret
      exact ⟨by rw [← HE.out]; rfl, (Since.refl _).alloc _⟩
    subst hd
    have hsh : shapeB ⟨28, 0, e, a, b, c, imm, args⟩ = placesB args 0 := by unfold shapeB; dsimp only; rw [if_pos rfl, decide_eq_true (show args.length ≤ 4 by omega)]; simp
    rw [hsh] at hE
    have HP := Lib.hid hE
    clear hE hsh hl4
    go_enter Try.func43, Try.ntmps43
    go_wp2
    go_loop [7] (fun i => ∃ t : Nat, t ≤ args.length ∧ i = .int .i64 t ∧ ∀ (j : Nat) (x : Int), j < t → args[j]? = some x → x = (j : Int)) (fun i => args.length - (intOf i).toNat)
    case atStart => exact ⟨0, Nat.zero_le _, rfl, fun j x hj => by omega⟩
    case round =>
      obtain ⟨t, ht, rfl, hall⟩ := hrel
      have HALL := Lib.hid hall; clear hall
      by_cases hlt : t < args.length
      · obtain ⟨_, hcc⟩ := nums_cell H.out
        obtain ⟨B, off, rfl, hB, hcell⟩ := hcc (by intro e; rw [e] at hlt; simp at hlt)
        obtain ⟨x, hx⟩ : ∃ x, args[t]? = some x := ⟨_, List.getElem?_eq_getElem hlt⟩
        have hcx := (((Since.refl w).alloc (.cells #[.int .i64 28, .int .i64 0, .int .i64 e, .int .i64 a, .int .i64 b, .int .i64 c, .int .i32 imm, .slice (some ⟨B, off, none⟩) args.length ac] 46)).cell (p := ⟨B, off + t, none⟩) hB).trans (hcell t x hx)
        have HX := Lib.hid hx
        clear hcell hcc hB hx
        by_cases hxk : x = (t : Int)
        · have hb : (x != (t : Int)) = false := by simp [hxk]
          have HXK := Lib.hid hxk; clear hxk
          go_wp2
          go_round
          case rel => exact ⟨t + 1, by omega, by go_num, fun j y hj hy => by
            by_cases e : j = t
            · subst e; rw [HX.out] at hy; cases hy; exact HXK.out
            · exact HALL.out j y (by omega) hy⟩
          case measure => simp [intOf]; omega
        · have hb : (x != (t : Int)) = true := by simpa using hxk
          have hs : placesB args 0 = false := placesB_no HX.out hxk
          rw [if_pos hs] at HP
          clear hs hxk
          go_wp2
          go_ret
          exact ⟨by rw [← HP.out]; rfl, (Since.refl _).alloc _⟩
      · obtain rfl : t = args.length := by omega
        have hs : placesB args 0 = true := (placesB_get args 0).2 fun j x hj => by rw [Nat.zero_add]; exact HALL.out j x (List.getElem?_eq_some_iff.1 hj).1 hj
        rw [hs, if_neg (by decide)] at HP
        clear hs
        go_wp2_with fail
        refine (HR.out _ (H.out.keep ((Since.refl _).alloc _))).mono ?_
        rintro e0 w1 ⟨v, rfl, hv, hs1⟩
        have hbx : ∀ i, w1.cell? ⟨w.heap.size, i, none⟩ = _ := fun i => hs1.cell (p := ⟨w.heap.size, i, none⟩) (by simp)
        obtain ⟨ra, rc, rfl⟩ := nums_lenI hv
        have hrl := hv.len
        unfold maxLen at hrl
        have HX := Lib.hid hv
        have hsz : w.heap.size < w1.heap.size := by have := hs1.size; simp at this; omega
        have HS := Lib.hid (((Since.refl w).alloc (.cells #[.int .i64 28, .int .i64 0, .int .i64 e, .int .i64 a, .int .i64 b, .int .i64 c, .int .i32 imm, .slice aa args.length ac] 46)).trans hs1)
        clear hv hs1
        generalize hR : regsOf ⟨28, 0, e, a, b, c, imm, args⟩ = R at *
        clear hR HR
        go_wp2
        go_loop [9] (fun i => ∃ t : Nat, t ≤ R.length ∧ i = .int .i64 t ∧ ∀ (j : Nat) (x : Int), j < t → R[j]? = some x → 0 ≤ x ∧ x < k) (fun i => R.length - (intOf i).toNat)
        case atStart => exact ⟨0, Nat.zero_le _, rfl, fun j x hj => by omega⟩
        case round =>
          obtain ⟨t, ht, rfl, hall⟩ := hrel
          have HALL := Lib.hid hall; clear hall
          by_cases hlt : t < R.length
          · obtain ⟨_, hcc⟩ := nums_cell HX.out
            obtain ⟨B, off, rfl, hB, hcell⟩ := hcc (by intro e; rw [e] at hlt; simp at hlt)
            obtain ⟨x, hx⟩ : ∃ x, R[t]? = some x := ⟨_, List.getElem?_eq_getElem hlt⟩
            have hcx := hcell t x hx
            have HXT := Lib.hid hx
            clear hcell hcc hB hx
            by_cases hx0 : x < 0
            · have hb : badReg k R = true := by
                rw [HBAD.out, List.any_eq_true]; exact ⟨x, List.mem_of_getElem? HXT.out, by simp [hx0]⟩
              have HB := Lib.hid hb; clear hb
              go_wp2
              go_ret
              exact ⟨by rw [← HP.out, HB.out]; rfl, HS.out⟩
            · have hx0' : decide (x < 0) = false := decide_eq_false hx0
              by_cases hxk : k ≤ x
              · have hb : badReg k R = true := by
                  rw [HBAD.out, List.any_eq_true]; exact ⟨x, List.mem_of_getElem? HXT.out, by simp [hxk]⟩
                have HB := Lib.hid hb; clear hb
                go_wp2
                go_ret
                exact ⟨by rw [← HP.out, HB.out]; rfl, HS.out⟩
              · have hxk' : decide (k ≤ x) = false := decide_eq_false hxk
                go_wp2
                go_round
                case rel => exact ⟨t + 1, by omega, by go_num, fun j y hj hy => by
                  by_cases e : j = t
                  · subst e; rw [HXT.out] at hy; cases hy; omega
                  · exact HALL.out j y (by omega) hy⟩
                case measure => simp [intOf]; omega
          · obtain rfl : t = R.length := by omega
            have hb : badReg k R = false := by
              rw [HBAD.out, List.any_eq_false]
              intro x hx
              obtain ⟨j, hj⟩ := List.getElem?_of_mem hx
              have := HALL.out j x (List.getElem?_eq_some_iff.1 hj).1 hj
              simp; omega
            rw [hb, if_neg (by decide)] at HP
            clear hb
            go_wp2
            go_ret
            exact ⟨by rw [← HP.out]; simp [immB, stackB], HS.out⟩
  have n28 : (op == 28) = false := by simpa using g28
  by_cases g29 : op = 29
  · subst g29
    by_cases hd : d = 0
    rotate_left
    · have hs : shapeB ⟨29, d, e, a, b, c, imm, args⟩ = false := by unfold shapeB; dsimp only; rw [if_neg (by decide), if_pos rfl, beq_eq_false_iff_ne.2 hd]; simp
      rw [if_pos hs] at hE
      have hd' : (d != 0) = true := by simpa using hd
      clear hs hd
      have HE := Lib.hid hE; clear hE
      go_enter Try.func43, Try.ntmps43
      go_wp2
      go_ret
      exact ⟨by rw [← HE.out]; rfl, (Since.refl _).alloc _⟩
    subst hd
    by_cases he : e = 1
    rotate_left
    · have hs : shapeB ⟨29, 0, e, a, b, c, imm, args⟩ = false := by unfold shapeB; dsimp only; rw [if_neg (by decide), if_pos rfl, beq_eq_false_iff_ne.2 he]; simp
      rw [if_pos hs] at hE
      have he' : (e != 1) = true := by simpa using he
      clear hs he
      have HE := Lib.hid hE; clear hE
      go_enter Try.func43, Try.ntmps43
      go_wp2
      go_ret
      exact ⟨by rw [← HE.out]; rfl, (Since.refl _).alloc _⟩
    subst he
    have hs : shapeB ⟨29, 0, 1, a, b, c, imm, args⟩ = true := rfl
    rw [if_neg (by rw [hs]; decide)] at hE
    have HP := Lib.hid hE
    clear hE hs
    go_enter Try.func43, Try.ntmps43
    go_wp2
    go_loop [7] (fun i => i = .int .i64 0) (fun _ => 0)
    case atStart => rfl
    case round =>
      obtain rfl := hrel
      go_wp2_with fail
      refine (HR.out _ (H.out.keep ((Since.refl _).alloc _))).mono ?_
      rintro e0 w1 ⟨v, rfl, hv, hs1⟩
      have hbx : ∀ i, w1.cell? ⟨w.heap.size, i, none⟩ = _ := fun i => hs1.cell (p := ⟨w.heap.size, i, none⟩) (by simp)
      obtain ⟨ra, rc, rfl⟩ := nums_lenI hv
      have hrl := hv.len
      unfold maxLen at hrl
      have HX := Lib.hid hv
      have hsz : w.heap.size < w1.heap.size := by have := hs1.size; simp at this; omega
      have HS := Lib.hid (((Since.refl w).alloc (.cells #[.int .i64 29, .int .i64 0, .int .i64 1, .int .i64 a, .int .i64 b, .int .i64 c, .int .i32 imm, .slice aa args.length ac] 46)).trans hs1)
      clear hv hs1
      generalize hR : regsOf ⟨29, 0, 1, a, b, c, imm, args⟩ = R at *
      clear hR HR
      go_wp2
      go_loop [9] (fun i => ∃ t : Nat, t ≤ R.length ∧ i = .int .i64 t ∧ ∀ (j : Nat) (x : Int), j < t → R[j]? = some x → 0 ≤ x ∧ x < k) (fun i => R.length - (intOf i).toNat)
      case atStart => exact ⟨0, Nat.zero_le _, rfl, fun j x hj => by omega⟩
      case round =>
        obtain ⟨t, ht, rfl, hall⟩ := hrel
        have HALL := Lib.hid hall; clear hall
        by_cases hlt : t < R.length
        · obtain ⟨_, hcc⟩ := nums_cell HX.out
          obtain ⟨B, off, rfl, hB, hcell⟩ := hcc (by intro e; rw [e] at hlt; simp at hlt)
          obtain ⟨x, hx⟩ : ∃ x, R[t]? = some x := ⟨_, List.getElem?_eq_getElem hlt⟩
          have hcx := hcell t x hx
          have HXT := Lib.hid hx
          clear hcell hcc hB hx
          by_cases hx0 : x < 0
          · have hb : badReg k R = true := by
              rw [HBAD.out, List.any_eq_true]; exact ⟨x, List.mem_of_getElem? HXT.out, by simp [hx0]⟩
            have HB := Lib.hid hb; clear hb
            go_wp2
            go_ret
            exact ⟨by rw [← HP.out, HB.out]; rfl, HS.out⟩
          · have hx0' : decide (x < 0) = false := decide_eq_false hx0
            by_cases hxk : k ≤ x
            · have hb : badReg k R = true := by
                rw [HBAD.out, List.any_eq_true]; exact ⟨x, List.mem_of_getElem? HXT.out, by simp [hxk]⟩
              have HB := Lib.hid hb; clear hb
              go_wp2
              go_ret
              exact ⟨by rw [← HP.out, HB.out]; rfl, HS.out⟩
            · have hxk' : decide (k ≤ x) = false := decide_eq_false hxk
              go_wp2
              go_round
              case rel => exact ⟨t + 1, by omega, by go_num, fun j y hj hy => by
                by_cases e : j = t
                · subst e; rw [HXT.out] at hy; cases hy; omega
                · exact HALL.out j y (by omega) hy⟩
              case measure => simp [intOf]; omega
        · obtain rfl : t = R.length := by omega
          have hb : badReg k R = false := by
            rw [HBAD.out, List.any_eq_false]
            intro x hx
            obtain ⟨j, hj⟩ := List.getElem?_of_mem hx
            have := HALL.out j x (List.getElem?_eq_some_iff.1 hj).1 hj
            simp; omega
          rw [hb, if_neg (by decide)] at HP
          clear hb
          go_wp2
          go_ret
          exact ⟨by rw [← HP.out]; simp [immB, stackB], HS.out⟩
  have n29 : (op == 29) = false := by simpa using g29
  have hs : shapeB ⟨op, d, e, a, b, c, imm, args⟩ = true := by unfold shapeB; dsimp only; rw [if_neg g28, if_neg g29]; simp; omega
  rw [if_neg (by rw [hs]; decide)] at hE
  have HP := Lib.hid hE
  clear hE hs
  go_enter Try.func43, Try.ntmps43
  go_wp2
  go_loop [7] (fun i => i = .int .i64 0) (fun _ => 0)
  case atStart => rfl
  case round =>
    obtain rfl := hrel
    go_wp2_with fail
    refine (HR.out _ (H.out.keep ((Since.refl _).alloc _))).mono ?_
    rintro e0 w1 ⟨v, rfl, hv, hs1⟩
    have hbx : ∀ i, w1.cell? ⟨w.heap.size, i, none⟩ = _ := fun i => hs1.cell (p := ⟨w.heap.size, i, none⟩) (by simp)
    obtain ⟨ra, rc, rfl⟩ := nums_lenI hv
    have hrl := hv.len
    unfold maxLen at hrl
    have HX := Lib.hid hv
    have hsz : w.heap.size < w1.heap.size := by have := hs1.size; simp at this; omega
    have HS := Lib.hid (((Since.refl w).alloc (.cells #[.int .i64 op, .int .i64 d, .int .i64 e, .int .i64 a, .int .i64 b, .int .i64 c, .int .i32 imm, .slice aa args.length ac] 46)).trans hs1)
    clear hv hs1
    generalize hR : regsOf ⟨op, d, e, a, b, c, imm, args⟩ = R at *
    clear hR HR
    go_wp2
    go_loop [9] (fun i => ∃ t : Nat, t ≤ R.length ∧ i = .int .i64 t ∧ ∀ (j : Nat) (x : Int), j < t → R[j]? = some x → 0 ≤ x ∧ x < k) (fun i => R.length - (intOf i).toNat)
    case atStart => exact ⟨0, Nat.zero_le _, rfl, fun j x hj => by omega⟩
    case round =>
      obtain ⟨t, ht, rfl, hall⟩ := hrel
      have HALL := Lib.hid hall; clear hall
      by_cases hlt : t < R.length
      · obtain ⟨_, hcc⟩ := nums_cell HX.out
        obtain ⟨B, off, rfl, hB, hcell⟩ := hcc (by intro e; rw [e] at hlt; simp at hlt)
        obtain ⟨x, hx⟩ : ∃ x, R[t]? = some x := ⟨_, List.getElem?_eq_getElem hlt⟩
        have hcx := hcell t x hx
        have HXT := Lib.hid hx
        clear hcell hcc hB hx
        by_cases hx0 : x < 0
        · have hb : badReg k R = true := by
            rw [HBAD.out, List.any_eq_true]; exact ⟨x, List.mem_of_getElem? HXT.out, by simp [hx0]⟩
          have HB := Lib.hid hb; clear hb
          go_wp2
          go_ret
          exact ⟨by rw [← HP.out, HB.out]; rfl, HS.out⟩
        · have hx0' : decide (x < 0) = false := decide_eq_false hx0
          by_cases hxk : k ≤ x
          · have hb : badReg k R = true := by
              rw [HBAD.out, List.any_eq_true]; exact ⟨x, List.mem_of_getElem? HXT.out, by simp [hxk]⟩
            have HB := Lib.hid hb; clear hb
            go_wp2
            go_ret
            exact ⟨by rw [← HP.out, HB.out]; rfl, HS.out⟩
          · have hxk' : decide (k ≤ x) = false := decide_eq_false hxk
            go_wp2
            go_round
            case rel => exact ⟨t + 1, by omega, by go_num, fun j y hj hy => by
              by_cases e : j = t
              · subst e; rw [HXT.out] at hy; cases hy; omega
              · exact HALL.out j y (by omega) hy⟩
            case measure => simp [intOf]; omega
      · obtain rfl : t = R.length := by omega
        have hb : badReg k R = false := by
          rw [HBAD.out, List.any_eq_false]
          intro x hx
          obtain ⟨j, hj⟩ := List.getElem?_of_mem hx
          have := HALL.out j x (List.getElem?_eq_some_iff.1 hj).1 hj
          simp; omega
        rw [hb, if_neg (by decide)] at HP
        clear hb
        by_cases g30 : op = 30
        · subst g30
          have hiu : imm ≤ 2147483647 := HF.out.2.1
          by_cases i0 : imm < 0
          · have D1 : decide (imm < (0 : Int)) = true := decide_eq_true i0
            go_wp2
            go_ret
            exact ⟨by rw [← HP.out]; simp [stackB, D1], HS.out⟩
          · have D1 : decide (imm < (0 : Int)) = false := decide_eq_false i0
            by_cases i1 : slots ≤ imm
            · have D2 : decide (slots ≤ imm) = true := decide_eq_true i1
              go_wp2
              go_ret
              exact ⟨by rw [← HP.out]; simp [stackB, D1, D2], HS.out⟩
            · have D2 : decide (slots ≤ imm) = false := decide_eq_false i1
              go_wp2
              go_ret
              exact ⟨by rw [← HP.out]; simp [immB, stackB, D1, D2], HS.out⟩
        have n30 : (op == 30) = false := by simpa using g30
        by_cases g31 : op = 31
        · subst g31
          have hiu : imm ≤ 2147483647 := HF.out.2.1
          by_cases i0 : imm < 0
          · have D1 : decide (imm < (0 : Int)) = true := decide_eq_true i0
            go_wp2
            go_ret
            exact ⟨by rw [← HP.out]; simp [stackB, D1], HS.out⟩
          · have D1 : decide (imm < (0 : Int)) = false := decide_eq_false i0
            by_cases i1 : slots ≤ imm
            · have D2 : decide (slots ≤ imm) = true := decide_eq_true i1
              go_wp2
              go_ret
              exact ⟨by rw [← HP.out]; simp [stackB, D1, D2], HS.out⟩
            · have D2 : decide (slots ≤ imm) = false := decide_eq_false i1
              go_wp2
              go_ret
              exact ⟨by rw [← HP.out]; simp [immB, stackB, D1, D2], HS.out⟩
        have n31 : (op == 31) = false := by simpa using g31
        by_cases g3 : op = 3
        · subst g3
          by_cases i0 : imm < -32768
          · have D1 : decide ((-32768 : Int) ≤ imm) = false := decide_eq_false (by omega)
            go_wp2
            go_ret
            exact ⟨by rw [← HP.out]; simp [immB, stackB, D1], HS.out⟩
          · have D1 : decide ((-32768 : Int) ≤ imm) = true := decide_eq_true (by omega)
            have i0' : decide (imm < (-32768 : Int)) = false := decide_eq_false i0
            by_cases i1 : (32767 : Int) < imm
            · have D2 : decide (imm ≤ (32767 : Int)) = false := decide_eq_false (by omega)
              go_wp2
              go_ret
              exact ⟨by rw [← HP.out]; simp [immB, stackB, D1, D2], HS.out⟩
            · have D2 : decide (imm ≤ (32767 : Int)) = true := decide_eq_true (by omega)
              have i1' : decide ((32767 : Int) < imm) = false := decide_eq_false i1
              go_wp2
              go_ret
              exact ⟨by rw [← HP.out]; simp [immB, stackB, D1, D2], HS.out⟩
        have n3 : (op == 3) = false := by simpa using g3
        by_cases g18 : op = 18
        · subst g18
          by_cases i0 : imm < -128
          · have D1 : decide ((-128 : Int) ≤ imm) = false := decide_eq_false (by omega)
            go_wp2
            go_ret
            exact ⟨by rw [← HP.out]; simp [immB, stackB, D1], HS.out⟩
          · have D1 : decide ((-128 : Int) ≤ imm) = true := decide_eq_true (by omega)
            have i0' : decide (imm < (-128 : Int)) = false := decide_eq_false i0
            by_cases i1 : (127 : Int) < imm
            · have D2 : decide (imm ≤ (127 : Int)) = false := decide_eq_false (by omega)
              go_wp2
              go_ret
              exact ⟨by rw [← HP.out]; simp [immB, stackB, D1, D2], HS.out⟩
            · have D2 : decide (imm ≤ (127 : Int)) = true := decide_eq_true (by omega)
              have i1' : decide ((127 : Int) < imm) = false := decide_eq_false i1
              go_wp2
              go_ret
              exact ⟨by rw [← HP.out]; simp [immB, stackB, D1, D2], HS.out⟩
        have n18 : (op == 18) = false := by simpa using g18
        by_cases g19 : op = 19
        · subst g19
          by_cases i0 : imm < -128
          · have D1 : decide ((-128 : Int) ≤ imm) = false := decide_eq_false (by omega)
            go_wp2
            go_ret
            exact ⟨by rw [← HP.out]; simp [immB, stackB, D1], HS.out⟩
          · have D1 : decide ((-128 : Int) ≤ imm) = true := decide_eq_true (by omega)
            have i0' : decide (imm < (-128 : Int)) = false := decide_eq_false i0
            by_cases i1 : (127 : Int) < imm
            · have D2 : decide (imm ≤ (127 : Int)) = false := decide_eq_false (by omega)
              go_wp2
              go_ret
              exact ⟨by rw [← HP.out]; simp [immB, stackB, D1, D2], HS.out⟩
            · have D2 : decide (imm ≤ (127 : Int)) = true := decide_eq_true (by omega)
              have i1' : decide ((127 : Int) < imm) = false := decide_eq_false i1
              go_wp2
              go_ret
              exact ⟨by rw [← HP.out]; simp [immB, stackB, D1, D2], HS.out⟩
        have n19 : (op == 19) = false := by simpa using g19
        by_cases g20 : op = 20
        · subst g20
          by_cases i0 : imm < 0
          · have D1 : decide ((0 : Int) ≤ imm) = false := decide_eq_false (by omega)
            go_wp2
            go_ret
            exact ⟨by rw [← HP.out]; simp [immB, stackB, D1], HS.out⟩
          · have D1 : decide ((0 : Int) ≤ imm) = true := decide_eq_true (by omega)
            have i0' : decide (imm < (0 : Int)) = false := decide_eq_false i0
            by_cases i1 : (31 : Int) < imm
            · have D2 : decide (imm ≤ (31 : Int)) = false := decide_eq_false (by omega)
              go_wp2
              go_ret
              exact ⟨by rw [← HP.out]; simp [immB, stackB, D1, D2], HS.out⟩
            · have D2 : decide (imm ≤ (31 : Int)) = true := decide_eq_true (by omega)
              have i1' : decide ((31 : Int) < imm) = false := decide_eq_false i1
              go_wp2
              go_ret
              exact ⟨by rw [← HP.out]; simp [immB, stackB, D1, D2], HS.out⟩
        have n20 : (op == 20) = false := by simpa using g20
        by_cases g21 : op = 21
        · subst g21
          by_cases i0 : imm < 0
          · have D1 : decide ((0 : Int) ≤ imm) = false := decide_eq_false (by omega)
            go_wp2
            go_ret
            exact ⟨by rw [← HP.out]; simp [immB, stackB, D1], HS.out⟩
          · have D1 : decide ((0 : Int) ≤ imm) = true := decide_eq_true (by omega)
            have i0' : decide (imm < (0 : Int)) = false := decide_eq_false i0
            by_cases i1 : (31 : Int) < imm
            · have D2 : decide (imm ≤ (31 : Int)) = false := decide_eq_false (by omega)
              go_wp2
              go_ret
              exact ⟨by rw [← HP.out]; simp [immB, stackB, D1, D2], HS.out⟩
            · have D2 : decide (imm ≤ (31 : Int)) = true := decide_eq_true (by omega)
              have i1' : decide ((31 : Int) < imm) = false := decide_eq_false i1
              go_wp2
              go_ret
              exact ⟨by rw [← HP.out]; simp [immB, stackB, D1, D2], HS.out⟩
        have n21 : (op == 21) = false := by simpa using g21
        by_cases g22 : op = 22
        · subst g22
          by_cases i0 : imm < 0
          · have D1 : decide ((0 : Int) ≤ imm) = false := decide_eq_false (by omega)
            go_wp2
            go_ret
            exact ⟨by rw [← HP.out]; simp [immB, stackB, D1], HS.out⟩
          · have D1 : decide ((0 : Int) ≤ imm) = true := decide_eq_true (by omega)
            have i0' : decide (imm < (0 : Int)) = false := decide_eq_false i0
            by_cases i1 : (31 : Int) < imm
            · have D2 : decide (imm ≤ (31 : Int)) = false := decide_eq_false (by omega)
              go_wp2
              go_ret
              exact ⟨by rw [← HP.out]; simp [immB, stackB, D1, D2], HS.out⟩
            · have D2 : decide (imm ≤ (31 : Int)) = true := decide_eq_true (by omega)
              have i1' : decide ((31 : Int) < imm) = false := decide_eq_false i1
              go_wp2
              go_ret
              exact ⟨by rw [← HP.out]; simp [immB, stackB, D1, D2], HS.out⟩
        have n22 : (op == 22) = false := by simpa using g22
        by_cases g24 : op = 24
        · subst g24
          by_cases i0 : imm < 0
          · have D1 : decide ((0 : Int) ≤ imm) = false := decide_eq_false (by omega)
            go_wp2
            go_ret
            exact ⟨by rw [← HP.out]; simp [immB, stackB, D1], HS.out⟩
          · have D1 : decide ((0 : Int) ≤ imm) = true := decide_eq_true (by omega)
            have i0' : decide (imm < (0 : Int)) = false := decide_eq_false i0
            by_cases i1 : (255 : Int) < imm
            · have D2 : decide (imm ≤ (255 : Int)) = false := decide_eq_false (by omega)
              go_wp2
              go_ret
              exact ⟨by rw [← HP.out]; simp [immB, stackB, D1, D2], HS.out⟩
            · have D2 : decide (imm ≤ (255 : Int)) = true := decide_eq_true (by omega)
              have i1' : decide ((255 : Int) < imm) = false := decide_eq_false i1
              go_wp2
              go_ret
              exact ⟨by rw [← HP.out]; simp [immB, stackB, D1, D2], HS.out⟩
        have n24 : (op == 24) = false := by simpa using g24
        by_cases g26 : op = 26
        · subst g26
          by_cases i0 : imm < 0
          · have D1 : decide ((0 : Int) ≤ imm) = false := decide_eq_false (by omega)
            go_wp2
            go_ret
            exact ⟨by rw [← HP.out]; simp [immB, stackB, D1], HS.out⟩
          · have D1 : decide ((0 : Int) ≤ imm) = true := decide_eq_true (by omega)
            have i0' : decide (imm < (0 : Int)) = false := decide_eq_false i0
            by_cases i1 : (255 : Int) < imm
            · have D2 : decide (imm ≤ (255 : Int)) = false := decide_eq_false (by omega)
              go_wp2
              go_ret
              exact ⟨by rw [← HP.out]; simp [immB, stackB, D1, D2], HS.out⟩
            · have D2 : decide (imm ≤ (255 : Int)) = true := decide_eq_true (by omega)
              have i1' : decide ((255 : Int) < imm) = false := decide_eq_false i1
              go_wp2
              go_ret
              exact ⟨by rw [← HP.out]; simp [immB, stackB, D1, D2], HS.out⟩
        have n26 : (op == 26) = false := by simpa using g26
        go_wp2
        go_ret
        exact ⟨by rw [← HP.out]; simp [immB, stackB, g3, g18, g19, g20, g21, g22, g24, g26, n30, n31], HS.out⟩
end Go.Proofs.Ytkpbmbhejpmboaa
