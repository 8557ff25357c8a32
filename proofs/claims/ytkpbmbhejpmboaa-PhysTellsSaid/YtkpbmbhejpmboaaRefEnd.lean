/- jacquardref07.Needs, jacquardref12.End: what an end may be, by the document. -/
import Derived.Test.YtkpbmbhejpmboaaPhysEnd
namespace Go.Proofs.Ytkpbmbhejpmboaa
open Go.RowKit
set_option linter.unusedVariables false

set_option maxHeartbeats 1000000 in
set_option maxRecDepth 100000 in
theorem rneeds_any (e : EndV) (w : World) (ht : ∃ a n c, e.tov = .slice a n c) : Calls Try.prog 75 #[ev e] w (Gives w (needs e)) := by
  obtain ⟨ta, tn, tc, htv⟩ := ht
  obtain ⟨op, a, b, to, tov, imm⟩ := e
  dsimp only at htv
  subst htv
  unfold ev needs
  dsimp only
  by_cases g2 : op = 2
  · subst g2
    rw [if_pos (by omega)]
    go_enter Try.func75, Try.ntmps75
    go_wp2
    go_ret
    exact gives_last ((Since.refl _).alloc _) [a] _ (by simp) rfl (show 1 ≤ maxLen from by decide) rfl
  by_cases g6 : op = 6
  · subst g6
    rw [if_pos (by omega)]
    go_enter Try.func75, Try.ntmps75
    go_wp2
    go_ret
    exact gives_last ((Since.refl _).alloc _) [a] _ (by simp) rfl (show 1 ≤ maxLen from by decide) rfl
  have n2 : (op == 2) = false := by simpa using g2
  have n6 : (op == 6) = false := by simpa using g6
  by_cases g7 : op = 7
  · subst g7
    by_cases ha : 0 ≤ a
    · rw [if_pos (by omega)]
      go_enter Try.func75, Try.ntmps75
      go_wp2
      go_ret
      exact gives_last ((Since.refl _).alloc _) [a] _ (by simp) rfl (show 1 ≤ maxLen from by decide) rfl
    · rw [if_neg (by omega), if_neg (by omega)]
      have hd : decide (0 ≤ a) = false := decide_eq_false ha
      go_enter Try.func75, Try.ntmps75
      go_wp2
      go_ret
      exact gives_none ((Since.refl _).alloc _)
  rw [if_neg (by omega)]
  have n7 : (op == 7) = false := by simpa using g7
  clear g2 g6 g7
  by_cases h3 : 3 ≤ op
  · by_cases h5 : op ≤ 5
    · rw [if_pos ⟨h3, h5⟩]
      rcases (show op = 3 ∨ op = 4 ∨ op = 5 by omega) with rfl | rfl | rfl
      all_goals
        go_enter Try.func75, Try.ntmps75
        go_wp2
        go_ret
        exact gives_last ((Since.refl _).alloc _) [a, b] _ (by simp) rfl (show 2 ≤ maxLen from by decide) rfl
    · rw [if_neg (by omega)]
      have n3 : (op == 3) = false := by simp; omega
      have n4 : (op == 4) = false := by simp; omega
      have n5 : (op == 5) = false := by simp; omega
      go_enter Try.func75, Try.ntmps75
      go_wp2
      go_ret
      exact gives_none ((Since.refl _).alloc _)
  · rw [if_neg (by omega)]
    have n3 : (op == 3) = false := by simp; omega
    have n4 : (op == 4) = false := by simp; omega
    have n5 : (op == 5) = false := by simp; omega
    go_enter Try.func75, Try.ntmps75
    go_wp2
    go_ret
    exact gives_none ((Since.refl _).alloc _)



set_option maxHeartbeats 8000000 in
set_option maxRecDepth 100000 in
theorem rend_any (e : EndV) (k nb : Int) (w : World) (h : Ints w e.tov e.to) :
    Calls Try.prog 44 #[ev e, .int .i64 k, .int .i64 nb] w (NumP (endE e k nb) w) := by
  obtain ⟨op, a, b, to, tov, imm⟩ := e
  dsimp only at h
  obtain ⟨ta, tc, rfl⟩ := nums_lenI h
  have HN := Lib.hid (fun w => rneeds_any ⟨op, a, b, to, .slice ta to.length tc, imm⟩ w ⟨_, _, _, rfl⟩)
  have hlen := h.len
  unfold maxLen at hlen
  have H := Lib.hid h
  clear h
  generalize hE : endE ⟨op, a, b, to, .slice ta to.length tc, imm⟩ k nb = E
  unfold endE at hE
  have hbn : badNeed ⟨op, a, b, to, .slice ta to.length tc, imm⟩ k = (needs ⟨op, a, b, to, .slice ta to.length tc, imm⟩).any fun r => decide (r < 0) || decide (k ≤ r) || (op == 7 && decide (0 < r)) := rfl
  have hbt : badTo nb to = to.any fun t => decide (t < 1) || decide (nb ≤ t) := rfl
  have HBN := Lib.hid hbn
  have HBT := Lib.hid hbt
  clear hbn hbt
  dsimp only at hE
  unfold ev at HN ⊢
  dsimp only at HN ⊢
  by_cases g1 : op = 1
  · subst g1
    have hfit : fitsB ⟨1, a, b, to, .slice ta to.length tc, imm⟩ = decide (to.length = 1) := rfl
    by_cases hn : to.length = 1
    rotate_left
    · have hf : fitsB ⟨1, a, b, to, .slice ta to.length tc, imm⟩ = false := by rw [hfit, decide_eq_false hn]
      have hn' : ((to.length : Int) == 1) = false := beq_eq_false_iff_ne.2 (by omega)
      clear hn hfit
      rw [if_pos hf] at hE
      have HE := Lib.hid hE
      clear hE hf
      go_enter Try.func44, Try.ntmps44
      go_wp2
      go_ret
      exact ⟨by rw [← HE.out]; rfl, (Since.refl _).alloc _⟩
    · have hf : fitsB ⟨1, a, b, to, .slice ta to.length tc, imm⟩ = true := by rw [hfit, decide_eq_true hn]
      have hn' : ((to.length : Int) == 1) = true := by simp [hn]
      clear hn hfit
      rw [if_neg (by rw [hf]; decide)] at hE
      have HP := Lib.hid hE
      clear hE hf
      go_enter Try.func44, Try.ntmps44
      go_wp2_with fail
      refine (HN.out _).mono ?_
      rintro e1 w1 ⟨v, rfl, hv, hs1⟩
      obtain ⟨ra, rc, rfl⟩ := nums_lenI hv
      have hc : ∀ i, w1.cell? ⟨w.heap.size, i, none⟩ = _ := fun i => hs1.cell (p := ⟨w.heap.size, i, none⟩) (by simp)
      have HX := Lib.hid hv
      have hrl := hv.len
      unfold maxLen at hrl
      have HS := Lib.hid (((Since.refl w).alloc (.cells #[.int .i64 1, .int .i64 a, .int .i64 b, .slice ta to.length tc, .int .i32 imm] 53)).trans hs1)
      have hsz : w.heap.size < w1.heap.size := by have := hs1.size; simp at this; omega
      clear hv hs1 HN
      generalize needs ⟨1, a, b, to, .slice ta to.length tc, imm⟩ = R at *
      go_wp2
      go_loop [10] (fun i => ∃ t : Nat, t ≤ R.length ∧ i = .int .i64 t ∧ ∀ (j : Nat) (x : Int), j < t → R[j]? = some x → 0 ≤ x ∧ x < k) (fun i => R.length - (intOf i).toNat)
      case atStart => exact ⟨0, Nat.zero_le _, rfl, fun j x hj => by omega⟩
      case round =>
        obtain ⟨t, ht, rfl, hall⟩ := hrel
        have HALL := Lib.hid hall; clear hall
        by_cases hlt : t < R.length
        · obtain ⟨_, hcc⟩ := nums_cell HX.out
          obtain ⟨B, off, rfl, hB, hcell⟩ := hcc (by intro e; rw [e] at hlt; simp at hlt)
          obtain ⟨x, hx⟩ : ∃ x, R[t]? = some x := ⟨_, List.getElem?_eq_getElem hlt⟩
          have hcx := hcell t x hx
          have HXT := Lib.hid hx
          clear hcell hcc hB hx
          by_cases hx0 : x < 0
          · have hb : badNeed ⟨1, a, b, to, .slice ta to.length tc, imm⟩ k = true := by
              rw [HBN.out, List.any_eq_true]; exact ⟨x, List.mem_of_getElem? HXT.out, by simp [hx0]⟩
            have HB := Lib.hid hb; clear hb
            go_wp2
            go_ret
            exact ⟨by rw [← HP.out, HB.out]; rfl, HS.out⟩
          · have hd0 : decide (x < 0) = false := decide_eq_false hx0
            by_cases hxk : k ≤ x
            · have hb : badNeed ⟨1, a, b, to, .slice ta to.length tc, imm⟩ k = true := by
                rw [HBN.out, List.any_eq_true]; exact ⟨x, List.mem_of_getElem? HXT.out, by simp [hxk]⟩
              have HB := Lib.hid hb; clear hb
              go_wp2
              go_ret
              exact ⟨by rw [← HP.out, HB.out]; rfl, HS.out⟩
            · have hd1 : decide (k ≤ x) = false := decide_eq_false hxk
              go_wp2
              go_round
              case rel => exact ⟨t + 1, by omega, by go_num, fun j y hj hy => by
                by_cases e : j = t
                · subst e; rw [HXT.out] at hy; cases hy; omega
                · exact HALL.out j y (by omega) hy⟩
              case measure => simp [intOf]; omega
        · obtain rfl : t = R.length := by omega
          have hb : badNeed ⟨1, a, b, to, .slice ta to.length tc, imm⟩ k = false := by
            rw [HBN.out, List.any_eq_false]
            intro x hx
            obtain ⟨j, hj⟩ := List.getElem?_of_mem hx
            have := HALL.out j x (List.getElem?_eq_some_iff.1 hj).1 hj
            simp; omega
          rw [hb, if_neg (by decide)] at HP
          clear hb
          have HTO := Lib.hid (H.out.keep HS.out)
          go_wp2
          go_loop [11] (fun i => ∃ t : Nat, t ≤ to.length ∧ i = .int .i64 t ∧ ∀ (j : Nat) (x : Int), j < t → to[j]? = some x → 1 ≤ x ∧ x < nb) (fun i => to.length - (intOf i).toNat)
          case atStart => exact ⟨0, Nat.zero_le _, rfl, fun j x hj => by omega⟩
          case round =>
            obtain ⟨t, ht, rfl, hall⟩ := hrel
            have HALL := Lib.hid hall; clear hall
            by_cases hlt : t < to.length
            · obtain ⟨_, hcc⟩ := nums_cell HTO.out
              obtain ⟨B, off, rfl, hB, hcell⟩ := hcc (by intro e; rw [e] at hlt; simp at hlt)
              obtain ⟨x, hx⟩ : ∃ x, to[t]? = some x := ⟨_, List.getElem?_eq_getElem hlt⟩
              have hcx := hcell t x hx
              have HXT := Lib.hid hx
              clear hcell hcc hB hx
              by_cases hx0 : x < 1
              · have hb : badTo nb to = true := by
                  rw [HBT.out, List.any_eq_true]; exact ⟨x, List.mem_of_getElem? HXT.out, by simp [hx0]⟩
                have HB := Lib.hid hb; clear hb
                go_wp2
                go_ret
                exact ⟨by rw [← HP.out, HB.out]; rfl, HS.out⟩
              · have hd0 : decide (x < 1) = false := decide_eq_false hx0
                by_cases hxk : nb ≤ x
                · have hb : badTo nb to = true := by
                    rw [HBT.out, List.any_eq_true]; exact ⟨x, List.mem_of_getElem? HXT.out, by simp [hxk]⟩
                  have HB := Lib.hid hb; clear hb
                  go_wp2
                  go_ret
                  exact ⟨by rw [← HP.out, HB.out]; rfl, HS.out⟩
                · have hd1 : decide (nb ≤ x) = false := decide_eq_false hxk
                  go_wp2
                  go_round
                  case rel => exact ⟨t + 1, by omega, by go_num, fun j y hj hy => by
                    by_cases e : j = t
                    · subst e; rw [HXT.out] at hy; cases hy; omega
                    · exact HALL.out j y (by omega) hy⟩
                  case measure => simp [intOf]; omega
            · have hte : t = to.length := by omega
              have HTE := Lib.hid hte; clear hte
              have hb : badTo nb to = false := by
                rw [HBT.out, List.any_eq_false]
                intro x hx
                obtain ⟨j, hj⟩ := List.getElem?_of_mem hx
                have := HALL.out j x (by have := (List.getElem?_eq_some_iff.1 hj).1; have := HTE.out; omega) hj
                simp; omega
              rw [hb] at HP
              clear hb
              go_wp2
              go_ret
              exact ⟨by rw [← HP.out]; rfl, HS.out⟩
  have n1 : (op == 1) = false := by simpa using g1
  by_cases g2 : op = 2
  · subst g2
    have hfit : fitsB ⟨2, a, b, to, .slice ta to.length tc, imm⟩ = decide (to.length = 2) := rfl
    by_cases hn : to.length = 2
    rotate_left
    · have hf : fitsB ⟨2, a, b, to, .slice ta to.length tc, imm⟩ = false := by rw [hfit, decide_eq_false hn]
      have hn' : ((to.length : Int) == 2) = false := beq_eq_false_iff_ne.2 (by omega)
      clear hn hfit
      rw [if_pos hf] at hE
      have HE := Lib.hid hE
      clear hE hf
      go_enter Try.func44, Try.ntmps44
      go_wp2
      go_ret
      exact ⟨by rw [← HE.out]; rfl, (Since.refl _).alloc _⟩
    · have hf : fitsB ⟨2, a, b, to, .slice ta to.length tc, imm⟩ = true := by rw [hfit, decide_eq_true hn]
      have hn' : ((to.length : Int) == 2) = true := by simp [hn]
      clear hn hfit
      rw [if_neg (by rw [hf]; decide)] at hE
      have HP := Lib.hid hE
      clear hE hf
      go_enter Try.func44, Try.ntmps44
      go_wp2_with fail
      refine (HN.out _).mono ?_
      rintro e1 w1 ⟨v, rfl, hv, hs1⟩
      obtain ⟨ra, rc, rfl⟩ := nums_lenI hv
      have hc : ∀ i, w1.cell? ⟨w.heap.size, i, none⟩ = _ := fun i => hs1.cell (p := ⟨w.heap.size, i, none⟩) (by simp)
      have HX := Lib.hid hv
      have hrl := hv.len
      unfold maxLen at hrl
      have HS := Lib.hid (((Since.refl w).alloc (.cells #[.int .i64 2, .int .i64 a, .int .i64 b, .slice ta to.length tc, .int .i32 imm] 53)).trans hs1)
      have hsz : w.heap.size < w1.heap.size := by have := hs1.size; simp at this; omega
      clear hv hs1 HN
      generalize needs ⟨2, a, b, to, .slice ta to.length tc, imm⟩ = R at *
      go_wp2
      go_loop [10] (fun i => ∃ t : Nat, t ≤ R.length ∧ i = .int .i64 t ∧ ∀ (j : Nat) (x : Int), j < t → R[j]? = some x → 0 ≤ x ∧ x < k) (fun i => R.length - (intOf i).toNat)
      case atStart => exact ⟨0, Nat.zero_le _, rfl, fun j x hj => by omega⟩
      case round =>
        obtain ⟨t, ht, rfl, hall⟩ := hrel
        have HALL := Lib.hid hall; clear hall
        by_cases hlt : t < R.length
        · obtain ⟨_, hcc⟩ := nums_cell HX.out
          obtain ⟨B, off, rfl, hB, hcell⟩ := hcc (by intro e; rw [e] at hlt; simp at hlt)
          obtain ⟨x, hx⟩ : ∃ x, R[t]? = some x := ⟨_, List.getElem?_eq_getElem hlt⟩
          have hcx := hcell t x hx
          have HXT := Lib.hid hx
          clear hcell hcc hB hx
          by_cases hx0 : x < 0
          · have hb : badNeed ⟨2, a, b, to, .slice ta to.length tc, imm⟩ k = true := by
              rw [HBN.out, List.any_eq_true]; exact ⟨x, List.mem_of_getElem? HXT.out, by simp [hx0]⟩
            have HB := Lib.hid hb; clear hb
            go_wp2
            go_ret
            exact ⟨by rw [← HP.out, HB.out]; rfl, HS.out⟩
          · have hd0 : decide (x < 0) = false := decide_eq_false hx0
            by_cases hxk : k ≤ x
            · have hb : badNeed ⟨2, a, b, to, .slice ta to.length tc, imm⟩ k = true := by
                rw [HBN.out, List.any_eq_true]; exact ⟨x, List.mem_of_getElem? HXT.out, by simp [hxk]⟩
              have HB := Lib.hid hb; clear hb
              go_wp2
              go_ret
              exact ⟨by rw [← HP.out, HB.out]; rfl, HS.out⟩
            · have hd1 : decide (k ≤ x) = false := decide_eq_false hxk
              go_wp2
              go_round
              case rel => exact ⟨t + 1, by omega, by go_num, fun j y hj hy => by
                by_cases e : j = t
                · subst e; rw [HXT.out] at hy; cases hy; omega
                · exact HALL.out j y (by omega) hy⟩
              case measure => simp [intOf]; omega
        · obtain rfl : t = R.length := by omega
          have hb : badNeed ⟨2, a, b, to, .slice ta to.length tc, imm⟩ k = false := by
            rw [HBN.out, List.any_eq_false]
            intro x hx
            obtain ⟨j, hj⟩ := List.getElem?_of_mem hx
            have := HALL.out j x (List.getElem?_eq_some_iff.1 hj).1 hj
            simp; omega
          rw [hb, if_neg (by decide)] at HP
          clear hb
          have HTO := Lib.hid (H.out.keep HS.out)
          go_wp2
          go_loop [11] (fun i => ∃ t : Nat, t ≤ to.length ∧ i = .int .i64 t ∧ ∀ (j : Nat) (x : Int), j < t → to[j]? = some x → 1 ≤ x ∧ x < nb) (fun i => to.length - (intOf i).toNat)
          case atStart => exact ⟨0, Nat.zero_le _, rfl, fun j x hj => by omega⟩
          case round =>
            obtain ⟨t, ht, rfl, hall⟩ := hrel
            have HALL := Lib.hid hall; clear hall
            by_cases hlt : t < to.length
            · obtain ⟨_, hcc⟩ := nums_cell HTO.out
              obtain ⟨B, off, rfl, hB, hcell⟩ := hcc (by intro e; rw [e] at hlt; simp at hlt)
              obtain ⟨x, hx⟩ : ∃ x, to[t]? = some x := ⟨_, List.getElem?_eq_getElem hlt⟩
              have hcx := hcell t x hx
              have HXT := Lib.hid hx
              clear hcell hcc hB hx
              by_cases hx0 : x < 1
              · have hb : badTo nb to = true := by
                  rw [HBT.out, List.any_eq_true]; exact ⟨x, List.mem_of_getElem? HXT.out, by simp [hx0]⟩
                have HB := Lib.hid hb; clear hb
                go_wp2
                go_ret
                exact ⟨by rw [← HP.out, HB.out]; rfl, HS.out⟩
              · have hd0 : decide (x < 1) = false := decide_eq_false hx0
                by_cases hxk : nb ≤ x
                · have hb : badTo nb to = true := by
                    rw [HBT.out, List.any_eq_true]; exact ⟨x, List.mem_of_getElem? HXT.out, by simp [hxk]⟩
                  have HB := Lib.hid hb; clear hb
                  go_wp2
                  go_ret
                  exact ⟨by rw [← HP.out, HB.out]; rfl, HS.out⟩
                · have hd1 : decide (nb ≤ x) = false := decide_eq_false hxk
                  go_wp2
                  go_round
                  case rel => exact ⟨t + 1, by omega, by go_num, fun j y hj hy => by
                    by_cases e : j = t
                    · subst e; rw [HXT.out] at hy; cases hy; omega
                    · exact HALL.out j y (by omega) hy⟩
                  case measure => simp [intOf]; omega
            · have hte : t = to.length := by omega
              have HTE := Lib.hid hte; clear hte
              have hb : badTo nb to = false := by
                rw [HBT.out, List.any_eq_false]
                intro x hx
                obtain ⟨j, hj⟩ := List.getElem?_of_mem hx
                have := HALL.out j x (by have := (List.getElem?_eq_some_iff.1 hj).1; have := HTE.out; omega) hj
                simp; omega
              rw [hb] at HP
              clear hb
              go_wp2
              go_ret
              exact ⟨by rw [← HP.out]; rfl, HS.out⟩
  have n2 : (op == 2) = false := by simpa using g2
  by_cases g3 : op = 3
  · subst g3
    have hfit : fitsB ⟨3, a, b, to, .slice ta to.length tc, imm⟩ = decide (to.length = 2) := rfl
    by_cases hn : to.length = 2
    rotate_left
    · have hf : fitsB ⟨3, a, b, to, .slice ta to.length tc, imm⟩ = false := by rw [hfit, decide_eq_false hn]
      have hn' : ((to.length : Int) == 2) = false := beq_eq_false_iff_ne.2 (by omega)
      clear hn hfit
      rw [if_pos hf] at hE
      have HE := Lib.hid hE
      clear hE hf
      go_enter Try.func44, Try.ntmps44
      go_wp2
      go_ret
      exact ⟨by rw [← HE.out]; rfl, (Since.refl _).alloc _⟩
    · have hf : fitsB ⟨3, a, b, to, .slice ta to.length tc, imm⟩ = true := by rw [hfit, decide_eq_true hn]
      have hn' : ((to.length : Int) == 2) = true := by simp [hn]
      clear hn hfit
      rw [if_neg (by rw [hf]; decide)] at hE
      have HP := Lib.hid hE
      clear hE hf
      go_enter Try.func44, Try.ntmps44
      go_wp2_with fail
      refine (HN.out _).mono ?_
      rintro e1 w1 ⟨v, rfl, hv, hs1⟩
      obtain ⟨ra, rc, rfl⟩ := nums_lenI hv
      have hc : ∀ i, w1.cell? ⟨w.heap.size, i, none⟩ = _ := fun i => hs1.cell (p := ⟨w.heap.size, i, none⟩) (by simp)
      have HX := Lib.hid hv
      have hrl := hv.len
      unfold maxLen at hrl
      have HS := Lib.hid (((Since.refl w).alloc (.cells #[.int .i64 3, .int .i64 a, .int .i64 b, .slice ta to.length tc, .int .i32 imm] 53)).trans hs1)
      have hsz : w.heap.size < w1.heap.size := by have := hs1.size; simp at this; omega
      clear hv hs1 HN
      generalize needs ⟨3, a, b, to, .slice ta to.length tc, imm⟩ = R at *
      go_wp2
      go_loop [10] (fun i => ∃ t : Nat, t ≤ R.length ∧ i = .int .i64 t ∧ ∀ (j : Nat) (x : Int), j < t → R[j]? = some x → 0 ≤ x ∧ x < k) (fun i => R.length - (intOf i).toNat)
      case atStart => exact ⟨0, Nat.zero_le _, rfl, fun j x hj => by omega⟩
      case round =>
        obtain ⟨t, ht, rfl, hall⟩ := hrel
        have HALL := Lib.hid hall; clear hall
        by_cases hlt : t < R.length
        · obtain ⟨_, hcc⟩ := nums_cell HX.out
          obtain ⟨B, off, rfl, hB, hcell⟩ := hcc (by intro e; rw [e] at hlt; simp at hlt)
          obtain ⟨x, hx⟩ : ∃ x, R[t]? = some x := ⟨_, List.getElem?_eq_getElem hlt⟩
          have hcx := hcell t x hx
          have HXT := Lib.hid hx
          clear hcell hcc hB hx
          by_cases hx0 : x < 0
          · have hb : badNeed ⟨3, a, b, to, .slice ta to.length tc, imm⟩ k = true := by
              rw [HBN.out, List.any_eq_true]; exact ⟨x, List.mem_of_getElem? HXT.out, by simp [hx0]⟩
            have HB := Lib.hid hb; clear hb
            go_wp2
            go_ret
            exact ⟨by rw [← HP.out, HB.out]; rfl, HS.out⟩
          · have hd0 : decide (x < 0) = false := decide_eq_false hx0
            by_cases hxk : k ≤ x
            · have hb : badNeed ⟨3, a, b, to, .slice ta to.length tc, imm⟩ k = true := by
                rw [HBN.out, List.any_eq_true]; exact ⟨x, List.mem_of_getElem? HXT.out, by simp [hxk]⟩
              have HB := Lib.hid hb; clear hb
              go_wp2
              go_ret
              exact ⟨by rw [← HP.out, HB.out]; rfl, HS.out⟩
            · have hd1 : decide (k ≤ x) = false := decide_eq_false hxk
              go_wp2
              go_round
              case rel => exact ⟨t + 1, by omega, by go_num, fun j y hj hy => by
                by_cases e : j = t
                · subst e; rw [HXT.out] at hy; cases hy; omega
                · exact HALL.out j y (by omega) hy⟩
              case measure => simp [intOf]; omega
        · obtain rfl : t = R.length := by omega
          have hb : badNeed ⟨3, a, b, to, .slice ta to.length tc, imm⟩ k = false := by
            rw [HBN.out, List.any_eq_false]
            intro x hx
            obtain ⟨j, hj⟩ := List.getElem?_of_mem hx
            have := HALL.out j x (List.getElem?_eq_some_iff.1 hj).1 hj
            simp; omega
          rw [hb, if_neg (by decide)] at HP
          clear hb
          have HTO := Lib.hid (H.out.keep HS.out)
          go_wp2
          go_loop [11] (fun i => ∃ t : Nat, t ≤ to.length ∧ i = .int .i64 t ∧ ∀ (j : Nat) (x : Int), j < t → to[j]? = some x → 1 ≤ x ∧ x < nb) (fun i => to.length - (intOf i).toNat)
          case atStart => exact ⟨0, Nat.zero_le _, rfl, fun j x hj => by omega⟩
          case round =>
            obtain ⟨t, ht, rfl, hall⟩ := hrel
            have HALL := Lib.hid hall; clear hall
            by_cases hlt : t < to.length
            · obtain ⟨_, hcc⟩ := nums_cell HTO.out
              obtain ⟨B, off, rfl, hB, hcell⟩ := hcc (by intro e; rw [e] at hlt; simp at hlt)
              obtain ⟨x, hx⟩ : ∃ x, to[t]? = some x := ⟨_, List.getElem?_eq_getElem hlt⟩
              have hcx := hcell t x hx
              have HXT := Lib.hid hx
              clear hcell hcc hB hx
              by_cases hx0 : x < 1
              · have hb : badTo nb to = true := by
                  rw [HBT.out, List.any_eq_true]; exact ⟨x, List.mem_of_getElem? HXT.out, by simp [hx0]⟩
                have HB := Lib.hid hb; clear hb
                go_wp2
                go_ret
                exact ⟨by rw [← HP.out, HB.out]; rfl, HS.out⟩
              · have hd0 : decide (x < 1) = false := decide_eq_false hx0
                by_cases hxk : nb ≤ x
                · have hb : badTo nb to = true := by
                    rw [HBT.out, List.any_eq_true]; exact ⟨x, List.mem_of_getElem? HXT.out, by simp [hxk]⟩
                  have HB := Lib.hid hb; clear hb
                  go_wp2
                  go_ret
                  exact ⟨by rw [← HP.out, HB.out]; rfl, HS.out⟩
                · have hd1 : decide (nb ≤ x) = false := decide_eq_false hxk
                  go_wp2
                  go_round
                  case rel => exact ⟨t + 1, by omega, by go_num, fun j y hj hy => by
                    by_cases e : j = t
                    · subst e; rw [HXT.out] at hy; cases hy; omega
                    · exact HALL.out j y (by omega) hy⟩
                  case measure => simp [intOf]; omega
            · have hte : t = to.length := by omega
              have HTE := Lib.hid hte; clear hte
              have hb : badTo nb to = false := by
                rw [HBT.out, List.any_eq_false]
                intro x hx
                obtain ⟨j, hj⟩ := List.getElem?_of_mem hx
                have := HALL.out j x (by have := (List.getElem?_eq_some_iff.1 hj).1; have := HTE.out; omega) hj
                simp; omega
              rw [hb] at HP
              clear hb
              go_wp2
              go_ret
              exact ⟨by rw [← HP.out]; rfl, HS.out⟩
  have n3 : (op == 3) = false := by simpa using g3
  by_cases g4 : op = 4
  · subst g4
    have hfit : fitsB ⟨4, a, b, to, .slice ta to.length tc, imm⟩ = decide (to.length = 2) := rfl
    by_cases hn : to.length = 2
    rotate_left
    · have hf : fitsB ⟨4, a, b, to, .slice ta to.length tc, imm⟩ = false := by rw [hfit, decide_eq_false hn]
      have hn' : ((to.length : Int) == 2) = false := beq_eq_false_iff_ne.2 (by omega)
      clear hn hfit
      rw [if_pos hf] at hE
      have HE := Lib.hid hE
      clear hE hf
      go_enter Try.func44, Try.ntmps44
      go_wp2
      go_ret
      exact ⟨by rw [← HE.out]; rfl, (Since.refl _).alloc _⟩
    · have hf : fitsB ⟨4, a, b, to, .slice ta to.length tc, imm⟩ = true := by rw [hfit, decide_eq_true hn]
      have hn' : ((to.length : Int) == 2) = true := by simp [hn]
      clear hn hfit
      rw [if_neg (by rw [hf]; decide)] at hE
      have HP := Lib.hid hE
      clear hE hf
      go_enter Try.func44, Try.ntmps44
      go_wp2_with fail
      refine (HN.out _).mono ?_
      rintro e1 w1 ⟨v, rfl, hv, hs1⟩
      obtain ⟨ra, rc, rfl⟩ := nums_lenI hv
      have hc : ∀ i, w1.cell? ⟨w.heap.size, i, none⟩ = _ := fun i => hs1.cell (p := ⟨w.heap.size, i, none⟩) (by simp)
      have HX := Lib.hid hv
      have hrl := hv.len
      unfold maxLen at hrl
      have HS := Lib.hid (((Since.refl w).alloc (.cells #[.int .i64 4, .int .i64 a, .int .i64 b, .slice ta to.length tc, .int .i32 imm] 53)).trans hs1)
      have hsz : w.heap.size < w1.heap.size := by have := hs1.size; simp at this; omega
      clear hv hs1 HN
      generalize needs ⟨4, a, b, to, .slice ta to.length tc, imm⟩ = R at *
      go_wp2
      go_loop [10] (fun i => ∃ t : Nat, t ≤ R.length ∧ i = .int .i64 t ∧ ∀ (j : Nat) (x : Int), j < t → R[j]? = some x → 0 ≤ x ∧ x < k) (fun i => R.length - (intOf i).toNat)
      case atStart => exact ⟨0, Nat.zero_le _, rfl, fun j x hj => by omega⟩
      case round =>
        obtain ⟨t, ht, rfl, hall⟩ := hrel
        have HALL := Lib.hid hall; clear hall
        by_cases hlt : t < R.length
        · obtain ⟨_, hcc⟩ := nums_cell HX.out
          obtain ⟨B, off, rfl, hB, hcell⟩ := hcc (by intro e; rw [e] at hlt; simp at hlt)
          obtain ⟨x, hx⟩ : ∃ x, R[t]? = some x := ⟨_, List.getElem?_eq_getElem hlt⟩
          have hcx := hcell t x hx
          have HXT := Lib.hid hx
          clear hcell hcc hB hx
          by_cases hx0 : x < 0
          · have hb : badNeed ⟨4, a, b, to, .slice ta to.length tc, imm⟩ k = true := by
              rw [HBN.out, List.any_eq_true]; exact ⟨x, List.mem_of_getElem? HXT.out, by simp [hx0]⟩
            have HB := Lib.hid hb; clear hb
            go_wp2
            go_ret
            exact ⟨by rw [← HP.out, HB.out]; rfl, HS.out⟩
          · have hd0 : decide (x < 0) = false := decide_eq_false hx0
            by_cases hxk : k ≤ x
            · have hb : badNeed ⟨4, a, b, to, .slice ta to.length tc, imm⟩ k = true := by
                rw [HBN.out, List.any_eq_true]; exact ⟨x, List.mem_of_getElem? HXT.out, by simp [hxk]⟩
              have HB := Lib.hid hb; clear hb
              go_wp2
              go_ret
              exact ⟨by rw [← HP.out, HB.out]; rfl, HS.out⟩
            · have hd1 : decide (k ≤ x) = false := decide_eq_false hxk
              go_wp2
              go_round
              case rel => exact ⟨t + 1, by omega, by go_num, fun j y hj hy => by
                by_cases e : j = t
                · subst e; rw [HXT.out] at hy; cases hy; omega
                · exact HALL.out j y (by omega) hy⟩
              case measure => simp [intOf]; omega
        · obtain rfl : t = R.length := by omega
          have hb : badNeed ⟨4, a, b, to, .slice ta to.length tc, imm⟩ k = false := by
            rw [HBN.out, List.any_eq_false]
            intro x hx
            obtain ⟨j, hj⟩ := List.getElem?_of_mem hx
            have := HALL.out j x (List.getElem?_eq_some_iff.1 hj).1 hj
            simp; omega
          rw [hb, if_neg (by decide)] at HP
          clear hb
          have HTO := Lib.hid (H.out.keep HS.out)
          go_wp2
          go_loop [11] (fun i => ∃ t : Nat, t ≤ to.length ∧ i = .int .i64 t ∧ ∀ (j : Nat) (x : Int), j < t → to[j]? = some x → 1 ≤ x ∧ x < nb) (fun i => to.length - (intOf i).toNat)
          case atStart => exact ⟨0, Nat.zero_le _, rfl, fun j x hj => by omega⟩
          case round =>
            obtain ⟨t, ht, rfl, hall⟩ := hrel
            have HALL := Lib.hid hall; clear hall
            by_cases hlt : t < to.length
            · obtain ⟨_, hcc⟩ := nums_cell HTO.out
              obtain ⟨B, off, rfl, hB, hcell⟩ := hcc (by intro e; rw [e] at hlt; simp at hlt)
              obtain ⟨x, hx⟩ : ∃ x, to[t]? = some x := ⟨_, List.getElem?_eq_getElem hlt⟩
              have hcx := hcell t x hx
              have HXT := Lib.hid hx
              clear hcell hcc hB hx
              by_cases hx0 : x < 1
              · have hb : badTo nb to = true := by
                  rw [HBT.out, List.any_eq_true]; exact ⟨x, List.mem_of_getElem? HXT.out, by simp [hx0]⟩
                have HB := Lib.hid hb; clear hb
                go_wp2
                go_ret
                exact ⟨by rw [← HP.out, HB.out]; rfl, HS.out⟩
              · have hd0 : decide (x < 1) = false := decide_eq_false hx0
                by_cases hxk : nb ≤ x
                · have hb : badTo nb to = true := by
                    rw [HBT.out, List.any_eq_true]; exact ⟨x, List.mem_of_getElem? HXT.out, by simp [hxk]⟩
                  have HB := Lib.hid hb; clear hb
                  go_wp2
                  go_ret
                  exact ⟨by rw [← HP.out, HB.out]; rfl, HS.out⟩
                · have hd1 : decide (nb ≤ x) = false := decide_eq_false hxk
                  go_wp2
                  go_round
                  case rel => exact ⟨t + 1, by omega, by go_num, fun j y hj hy => by
                    by_cases e : j = t
                    · subst e; rw [HXT.out] at hy; cases hy; omega
                    · exact HALL.out j y (by omega) hy⟩
                  case measure => simp [intOf]; omega
            · have hte : t = to.length := by omega
              have HTE := Lib.hid hte; clear hte
              have hb : badTo nb to = false := by
                rw [HBT.out, List.any_eq_false]
                intro x hx
                obtain ⟨j, hj⟩ := List.getElem?_of_mem hx
                have := HALL.out j x (by have := (List.getElem?_eq_some_iff.1 hj).1; have := HTE.out; omega) hj
                simp; omega
              rw [hb] at HP
              clear hb
              go_wp2
              go_ret
              exact ⟨by rw [← HP.out]; rfl, HS.out⟩
  have n4 : (op == 4) = false := by simpa using g4
  by_cases g5 : op = 5
  · subst g5
    have hfit : fitsB ⟨5, a, b, to, .slice ta to.length tc, imm⟩ = decide (to.length = 2) := rfl
    by_cases hn : to.length = 2
    rotate_left
    · have hf : fitsB ⟨5, a, b, to, .slice ta to.length tc, imm⟩ = false := by rw [hfit, decide_eq_false hn]
      have hn' : ((to.length : Int) == 2) = false := beq_eq_false_iff_ne.2 (by omega)
      clear hn hfit
      rw [if_pos hf] at hE
      have HE := Lib.hid hE
      clear hE hf
      go_enter Try.func44, Try.ntmps44
      go_wp2
      go_ret
      exact ⟨by rw [← HE.out]; rfl, (Since.refl _).alloc _⟩
    · have hf : fitsB ⟨5, a, b, to, .slice ta to.length tc, imm⟩ = true := by rw [hfit, decide_eq_true hn]
      have hn' : ((to.length : Int) == 2) = true := by simp [hn]
      clear hn hfit
      rw [if_neg (by rw [hf]; decide)] at hE
      have HP := Lib.hid hE
      clear hE hf
      go_enter Try.func44, Try.ntmps44
      go_wp2_with fail
      refine (HN.out _).mono ?_
      rintro e1 w1 ⟨v, rfl, hv, hs1⟩
      obtain ⟨ra, rc, rfl⟩ := nums_lenI hv
      have hc : ∀ i, w1.cell? ⟨w.heap.size, i, none⟩ = _ := fun i => hs1.cell (p := ⟨w.heap.size, i, none⟩) (by simp)
      have HX := Lib.hid hv
      have hrl := hv.len
      unfold maxLen at hrl
      have HS := Lib.hid (((Since.refl w).alloc (.cells #[.int .i64 5, .int .i64 a, .int .i64 b, .slice ta to.length tc, .int .i32 imm] 53)).trans hs1)
      have hsz : w.heap.size < w1.heap.size := by have := hs1.size; simp at this; omega
      clear hv hs1 HN
      generalize needs ⟨5, a, b, to, .slice ta to.length tc, imm⟩ = R at *
      go_wp2
      go_loop [10] (fun i => ∃ t : Nat, t ≤ R.length ∧ i = .int .i64 t ∧ ∀ (j : Nat) (x : Int), j < t → R[j]? = some x → 0 ≤ x ∧ x < k) (fun i => R.length - (intOf i).toNat)
      case atStart => exact ⟨0, Nat.zero_le _, rfl, fun j x hj => by omega⟩
      case round =>
        obtain ⟨t, ht, rfl, hall⟩ := hrel
        have HALL := Lib.hid hall; clear hall
        by_cases hlt : t < R.length
        · obtain ⟨_, hcc⟩ := nums_cell HX.out
          obtain ⟨B, off, rfl, hB, hcell⟩ := hcc (by intro e; rw [e] at hlt; simp at hlt)
          obtain ⟨x, hx⟩ : ∃ x, R[t]? = some x := ⟨_, List.getElem?_eq_getElem hlt⟩
          have hcx := hcell t x hx
          have HXT := Lib.hid hx
          clear hcell hcc hB hx
          by_cases hx0 : x < 0
          · have hb : badNeed ⟨5, a, b, to, .slice ta to.length tc, imm⟩ k = true := by
              rw [HBN.out, List.any_eq_true]; exact ⟨x, List.mem_of_getElem? HXT.out, by simp [hx0]⟩
            have HB := Lib.hid hb; clear hb
            go_wp2
            go_ret
            exact ⟨by rw [← HP.out, HB.out]; rfl, HS.out⟩
          · have hd0 : decide (x < 0) = false := decide_eq_false hx0
            by_cases hxk : k ≤ x
            · have hb : badNeed ⟨5, a, b, to, .slice ta to.length tc, imm⟩ k = true := by
                rw [HBN.out, List.any_eq_true]; exact ⟨x, List.mem_of_getElem? HXT.out, by simp [hxk]⟩
              have HB := Lib.hid hb; clear hb
              go_wp2
              go_ret
              exact ⟨by rw [← HP.out, HB.out]; rfl, HS.out⟩
            · have hd1 : decide (k ≤ x) = false := decide_eq_false hxk
              go_wp2
              go_round
              case rel => exact ⟨t + 1, by omega, by go_num, fun j y hj hy => by
                by_cases e : j = t
                · subst e; rw [HXT.out] at hy; cases hy; omega
                · exact HALL.out j y (by omega) hy⟩
              case measure => simp [intOf]; omega
        · obtain rfl : t = R.length := by omega
          have hb : badNeed ⟨5, a, b, to, .slice ta to.length tc, imm⟩ k = false := by
            rw [HBN.out, List.any_eq_false]
            intro x hx
            obtain ⟨j, hj⟩ := List.getElem?_of_mem hx
            have := HALL.out j x (List.getElem?_eq_some_iff.1 hj).1 hj
            simp; omega
          rw [hb, if_neg (by decide)] at HP
          clear hb
          have HTO := Lib.hid (H.out.keep HS.out)
          go_wp2
          go_loop [11] (fun i => ∃ t : Nat, t ≤ to.length ∧ i = .int .i64 t ∧ ∀ (j : Nat) (x : Int), j < t → to[j]? = some x → 1 ≤ x ∧ x < nb) (fun i => to.length - (intOf i).toNat)
          case atStart => exact ⟨0, Nat.zero_le _, rfl, fun j x hj => by omega⟩
          case round =>
            obtain ⟨t, ht, rfl, hall⟩ := hrel
            have HALL := Lib.hid hall; clear hall
            by_cases hlt : t < to.length
            · obtain ⟨_, hcc⟩ := nums_cell HTO.out
              obtain ⟨B, off, rfl, hB, hcell⟩ := hcc (by intro e; rw [e] at hlt; simp at hlt)
              obtain ⟨x, hx⟩ : ∃ x, to[t]? = some x := ⟨_, List.getElem?_eq_getElem hlt⟩
              have hcx := hcell t x hx
              have HXT := Lib.hid hx
              clear hcell hcc hB hx
              by_cases hx0 : x < 1
              · have hb : badTo nb to = true := by
                  rw [HBT.out, List.any_eq_true]; exact ⟨x, List.mem_of_getElem? HXT.out, by simp [hx0]⟩
                have HB := Lib.hid hb; clear hb
                go_wp2
                go_ret
                exact ⟨by rw [← HP.out, HB.out]; rfl, HS.out⟩
              · have hd0 : decide (x < 1) = false := decide_eq_false hx0
                by_cases hxk : nb ≤ x
                · have hb : badTo nb to = true := by
                    rw [HBT.out, List.any_eq_true]; exact ⟨x, List.mem_of_getElem? HXT.out, by simp [hxk]⟩
                  have HB := Lib.hid hb; clear hb
                  go_wp2
                  go_ret
                  exact ⟨by rw [← HP.out, HB.out]; rfl, HS.out⟩
                · have hd1 : decide (nb ≤ x) = false := decide_eq_false hxk
                  go_wp2
                  go_round
                  case rel => exact ⟨t + 1, by omega, by go_num, fun j y hj hy => by
                    by_cases e : j = t
                    · subst e; rw [HXT.out] at hy; cases hy; omega
                    · exact HALL.out j y (by omega) hy⟩
                  case measure => simp [intOf]; omega
            · have hte : t = to.length := by omega
              have HTE := Lib.hid hte; clear hte
              have hb : badTo nb to = false := by
                rw [HBT.out, List.any_eq_false]
                intro x hx
                obtain ⟨j, hj⟩ := List.getElem?_of_mem hx
                have := HALL.out j x (by have := (List.getElem?_eq_some_iff.1 hj).1; have := HTE.out; omega) hj
                simp; omega
              rw [hb] at HP
              clear hb
              go_wp2
              go_ret
              exact ⟨by rw [← HP.out]; rfl, HS.out⟩
  have n5 : (op == 5) = false := by simpa using g5
  by_cases g6 : op = 6
  · subst g6
    have hfit : fitsB ⟨6, a, b, to, .slice ta to.length tc, imm⟩ = (decide (2 ≤ to.length) && decide (to.length ≤ 65)) := rfl
    by_cases hn : to.length < 2
    · have hf : fitsB ⟨6, a, b, to, .slice ta to.length tc, imm⟩ = false := by rw [hfit, decide_eq_false (show ¬ 2 ≤ to.length by omega)]; rfl
      have hn' : decide ((2 : Int) ≤ (to.length : Int)) = false := decide_eq_false (by omega)
      clear hn hfit
      rw [if_pos hf] at hE
      have HE := Lib.hid hE
      clear hE hf
      go_enter Try.func44, Try.ntmps44
      go_wp2
      go_ret
      exact ⟨by rw [← HE.out]; rfl, (Since.refl _).alloc _⟩
    · by_cases hn2 : 65 < to.length
      · have hf : fitsB ⟨6, a, b, to, .slice ta to.length tc, imm⟩ = false := by rw [hfit, decide_eq_false (show ¬ to.length ≤ 65 by omega), Bool.and_false]
        have hn1' : (2 : Int) ≤ (to.length : Int) := by omega
        have hn' : decide ((to.length : Int) ≤ 65) = false := decide_eq_false (by omega)
        clear hn hn2 hfit
        rw [if_pos hf] at hE
        have HE := Lib.hid hE
        clear hE hf
        go_enter Try.func44, Try.ntmps44
        go_wp2
        go_ret
        exact ⟨by rw [← HE.out]; rfl, (Since.refl _).alloc _⟩
      · have hf : fitsB ⟨6, a, b, to, .slice ta to.length tc, imm⟩ = true := by rw [hfit, decide_eq_true (show 2 ≤ to.length by omega), decide_eq_true (show to.length ≤ 65 by omega)]; rfl
        have hn1' : (2 : Int) ≤ (to.length : Int) := by omega
        have hn' : (to.length : Int) ≤ 65 := by omega
        clear hn hn2 hfit
        rw [if_neg (by rw [hf]; decide)] at hE
        have HP := Lib.hid hE
        clear hE hf
        go_enter Try.func44, Try.ntmps44
        go_wp2_with fail
        refine (HN.out _).mono ?_
        rintro e1 w1 ⟨v, rfl, hv, hs1⟩
        obtain ⟨ra, rc, rfl⟩ := nums_lenI hv
        have hc : ∀ i, w1.cell? ⟨w.heap.size, i, none⟩ = _ := fun i => hs1.cell (p := ⟨w.heap.size, i, none⟩) (by simp)
        have HX := Lib.hid hv
        have hrl := hv.len
        unfold maxLen at hrl
        have HS := Lib.hid (((Since.refl w).alloc (.cells #[.int .i64 6, .int .i64 a, .int .i64 b, .slice ta to.length tc, .int .i32 imm] 53)).trans hs1)
        have hsz : w.heap.size < w1.heap.size := by have := hs1.size; simp at this; omega
        clear hv hs1 HN
        generalize needs ⟨6, a, b, to, .slice ta to.length tc, imm⟩ = R at *
        go_wp2
        go_loop [10] (fun i => ∃ t : Nat, t ≤ R.length ∧ i = .int .i64 t ∧ ∀ (j : Nat) (x : Int), j < t → R[j]? = some x → 0 ≤ x ∧ x < k) (fun i => R.length - (intOf i).toNat)
        case atStart => exact ⟨0, Nat.zero_le _, rfl, fun j x hj => by omega⟩
        case round =>
          obtain ⟨t, ht, rfl, hall⟩ := hrel
          have HALL := Lib.hid hall; clear hall
          by_cases hlt : t < R.length
          · obtain ⟨_, hcc⟩ := nums_cell HX.out
            obtain ⟨B, off, rfl, hB, hcell⟩ := hcc (by intro e; rw [e] at hlt; simp at hlt)
            obtain ⟨x, hx⟩ : ∃ x, R[t]? = some x := ⟨_, List.getElem?_eq_getElem hlt⟩
            have hcx := hcell t x hx
            have HXT := Lib.hid hx
            clear hcell hcc hB hx
            by_cases hx0 : x < 0
            · have hb : badNeed ⟨6, a, b, to, .slice ta to.length tc, imm⟩ k = true := by
                rw [HBN.out, List.any_eq_true]; exact ⟨x, List.mem_of_getElem? HXT.out, by simp [hx0]⟩
              have HB := Lib.hid hb; clear hb
              go_wp2
              go_ret
              exact ⟨by rw [← HP.out, HB.out]; rfl, HS.out⟩
            · have hd0 : decide (x < 0) = false := decide_eq_false hx0
              by_cases hxk : k ≤ x
              · have hb : badNeed ⟨6, a, b, to, .slice ta to.length tc, imm⟩ k = true := by
                  rw [HBN.out, List.any_eq_true]; exact ⟨x, List.mem_of_getElem? HXT.out, by simp [hxk]⟩
                have HB := Lib.hid hb; clear hb
                go_wp2
                go_ret
                exact ⟨by rw [← HP.out, HB.out]; rfl, HS.out⟩
              · have hd1 : decide (k ≤ x) = false := decide_eq_false hxk
                go_wp2
                go_round
                case rel => exact ⟨t + 1, by omega, by go_num, fun j y hj hy => by
                  by_cases e : j = t
                  · subst e; rw [HXT.out] at hy; cases hy; omega
                  · exact HALL.out j y (by omega) hy⟩
                case measure => simp [intOf]; omega
          · obtain rfl : t = R.length := by omega
            have hb : badNeed ⟨6, a, b, to, .slice ta to.length tc, imm⟩ k = false := by
              rw [HBN.out, List.any_eq_false]
              intro x hx
              obtain ⟨j, hj⟩ := List.getElem?_of_mem hx
              have := HALL.out j x (List.getElem?_eq_some_iff.1 hj).1 hj
              simp; omega
            rw [hb, if_neg (by decide)] at HP
            clear hb
            have HTO := Lib.hid (H.out.keep HS.out)
            go_wp2
            go_loop [11] (fun i => ∃ t : Nat, t ≤ to.length ∧ i = .int .i64 t ∧ ∀ (j : Nat) (x : Int), j < t → to[j]? = some x → 1 ≤ x ∧ x < nb) (fun i => to.length - (intOf i).toNat)
            case atStart => exact ⟨0, Nat.zero_le _, rfl, fun j x hj => by omega⟩
            case round =>
              obtain ⟨t, ht, rfl, hall⟩ := hrel
              have HALL := Lib.hid hall; clear hall
              by_cases hlt : t < to.length
              · obtain ⟨_, hcc⟩ := nums_cell HTO.out
                obtain ⟨B, off, rfl, hB, hcell⟩ := hcc (by intro e; rw [e] at hlt; simp at hlt)
                obtain ⟨x, hx⟩ : ∃ x, to[t]? = some x := ⟨_, List.getElem?_eq_getElem hlt⟩
                have hcx := hcell t x hx
                have HXT := Lib.hid hx
                clear hcell hcc hB hx
                by_cases hx0 : x < 1
                · have hb : badTo nb to = true := by
                    rw [HBT.out, List.any_eq_true]; exact ⟨x, List.mem_of_getElem? HXT.out, by simp [hx0]⟩
                  have HB := Lib.hid hb; clear hb
                  go_wp2
                  go_ret
                  exact ⟨by rw [← HP.out, HB.out]; rfl, HS.out⟩
                · have hd0 : decide (x < 1) = false := decide_eq_false hx0
                  by_cases hxk : nb ≤ x
                  · have hb : badTo nb to = true := by
                      rw [HBT.out, List.any_eq_true]; exact ⟨x, List.mem_of_getElem? HXT.out, by simp [hxk]⟩
                    have HB := Lib.hid hb; clear hb
                    go_wp2
                    go_ret
                    exact ⟨by rw [← HP.out, HB.out]; rfl, HS.out⟩
                  · have hd1 : decide (nb ≤ x) = false := decide_eq_false hxk
                    go_wp2
                    go_round
                    case rel => exact ⟨t + 1, by omega, by go_num, fun j y hj hy => by
                      by_cases e : j = t
                      · subst e; rw [HXT.out] at hy; cases hy; omega
                      · exact HALL.out j y (by omega) hy⟩
                    case measure => simp [intOf]; omega
              · have hte : t = to.length := by omega
                have HTE := Lib.hid hte; clear hte
                have hb : badTo nb to = false := by
                  rw [HBT.out, List.any_eq_false]
                  intro x hx
                  obtain ⟨j, hj⟩ := List.getElem?_of_mem hx
                  have := HALL.out j x (by have := (List.getElem?_eq_some_iff.1 hj).1; have := HTE.out; omega) hj
                  simp; omega
                rw [hb] at HP
                clear hb
                go_wp2
                go_ret
                exact ⟨by rw [← HP.out]; rfl, HS.out⟩
  have n6 : (op == 6) = false := by simpa using g6
  by_cases g7 : op = 7
  · subst g7
    have hfit : fitsB ⟨7, a, b, to, .slice ta to.length tc, imm⟩ = decide (to.length = 0) := rfl
    by_cases hn : to.length = 0
    rotate_left
    · have hf : fitsB ⟨7, a, b, to, .slice ta to.length tc, imm⟩ = false := by rw [hfit, decide_eq_false hn]
      have hn' : ((to.length : Int) == 0) = false := beq_eq_false_iff_ne.2 (by omega)
      clear hn hfit
      rw [if_pos hf] at hE
      have HE := Lib.hid hE
      clear hE hf
      go_enter Try.func44, Try.ntmps44
      go_wp2
      go_ret
      exact ⟨by rw [← HE.out]; rfl, (Since.refl _).alloc _⟩
    · have hf : fitsB ⟨7, a, b, to, .slice ta to.length tc, imm⟩ = true := by rw [hfit, decide_eq_true hn]
      have hn' : ((to.length : Int) == 0) = true := by simp [hn]
      clear hn hfit
      rw [if_neg (by rw [hf]; decide)] at hE
      have HP := Lib.hid hE
      clear hE hf
      go_enter Try.func44, Try.ntmps44
      go_wp2_with fail
      refine (HN.out _).mono ?_
      rintro e1 w1 ⟨v, rfl, hv, hs1⟩
      obtain ⟨ra, rc, rfl⟩ := nums_lenI hv
      have hc : ∀ i, w1.cell? ⟨w.heap.size, i, none⟩ = _ := fun i => hs1.cell (p := ⟨w.heap.size, i, none⟩) (by simp)
      have HX := Lib.hid hv
      have hrl := hv.len
      unfold maxLen at hrl
      have HS := Lib.hid (((Since.refl w).alloc (.cells #[.int .i64 7, .int .i64 a, .int .i64 b, .slice ta to.length tc, .int .i32 imm] 53)).trans hs1)
      have hsz : w.heap.size < w1.heap.size := by have := hs1.size; simp at this; omega
      clear hv hs1 HN
      generalize needs ⟨7, a, b, to, .slice ta to.length tc, imm⟩ = R at *
      go_wp2
      go_loop [10] (fun i => ∃ t : Nat, t ≤ R.length ∧ i = .int .i64 t ∧ ∀ (j : Nat) (x : Int), j < t → R[j]? = some x → 0 ≤ x ∧ x < k ∧ ¬ 0 < x) (fun i => R.length - (intOf i).toNat)
      case atStart => exact ⟨0, Nat.zero_le _, rfl, fun j x hj => by omega⟩
      case round =>
        obtain ⟨t, ht, rfl, hall⟩ := hrel
        have HALL := Lib.hid hall; clear hall
        by_cases hlt : t < R.length
        · obtain ⟨_, hcc⟩ := nums_cell HX.out
          obtain ⟨B, off, rfl, hB, hcell⟩ := hcc (by intro e; rw [e] at hlt; simp at hlt)
          obtain ⟨x, hx⟩ : ∃ x, R[t]? = some x := ⟨_, List.getElem?_eq_getElem hlt⟩
          have hcx := hcell t x hx
          have HXT := Lib.hid hx
          clear hcell hcc hB hx
          by_cases hx0 : x < 0
          · have hb : badNeed ⟨7, a, b, to, .slice ta to.length tc, imm⟩ k = true := by
              rw [HBN.out, List.any_eq_true]; exact ⟨x, List.mem_of_getElem? HXT.out, by simp [hx0]⟩
            have HB := Lib.hid hb; clear hb
            go_wp2
            go_ret
            exact ⟨by rw [← HP.out, HB.out]; rfl, HS.out⟩
          · have hd0 : decide (x < 0) = false := decide_eq_false hx0
            by_cases hxk : k ≤ x
            · have hb : badNeed ⟨7, a, b, to, .slice ta to.length tc, imm⟩ k = true := by
                rw [HBN.out, List.any_eq_true]; exact ⟨x, List.mem_of_getElem? HXT.out, by simp [hxk]⟩
              have HB := Lib.hid hb; clear hb
              go_wp2
              go_ret
              exact ⟨by rw [← HP.out, HB.out]; rfl, HS.out⟩
            · have hd1 : decide (k ≤ x) = false := decide_eq_false hxk
              by_cases hx1 : 0 < x
              · have hb : badNeed ⟨7, a, b, to, .slice ta to.length tc, imm⟩ k = true := by
                  rw [HBN.out, List.any_eq_true]; exact ⟨x, List.mem_of_getElem? HXT.out, by simp [hx1]⟩
                have HB := Lib.hid hb; clear hb
                go_wp2
                go_ret
                exact ⟨by rw [← HP.out, HB.out]; rfl, HS.out⟩
              · have hd2 : decide (0 < x) = false := decide_eq_false hx1
                go_wp2
                go_round
                case rel => exact ⟨t + 1, by omega, by go_num, fun j y hj hy => by
                  by_cases e : j = t
                  · subst e; rw [HXT.out] at hy; cases hy; omega
                  · exact HALL.out j y (by omega) hy⟩
                case measure => simp [intOf]; omega
        · obtain rfl : t = R.length := by omega
          have hb : badNeed ⟨7, a, b, to, .slice ta to.length tc, imm⟩ k = false := by
            rw [HBN.out, List.any_eq_false]
            intro x hx
            obtain ⟨j, hj⟩ := List.getElem?_of_mem hx
            have := HALL.out j x (List.getElem?_eq_some_iff.1 hj).1 hj
            simp; omega
          rw [hb, if_neg (by decide)] at HP
          clear hb
          have HTO := Lib.hid (H.out.keep HS.out)
          go_wp2
          go_loop [11] (fun i => ∃ t : Nat, t ≤ to.length ∧ i = .int .i64 t ∧ ∀ (j : Nat) (x : Int), j < t → to[j]? = some x → 1 ≤ x ∧ x < nb) (fun i => to.length - (intOf i).toNat)
          case atStart => exact ⟨0, Nat.zero_le _, rfl, fun j x hj => by omega⟩
          case round =>
            obtain ⟨t, ht, rfl, hall⟩ := hrel
            have HALL := Lib.hid hall; clear hall
            by_cases hlt : t < to.length
            · obtain ⟨_, hcc⟩ := nums_cell HTO.out
              obtain ⟨B, off, rfl, hB, hcell⟩ := hcc (by intro e; rw [e] at hlt; simp at hlt)
              obtain ⟨x, hx⟩ : ∃ x, to[t]? = some x := ⟨_, List.getElem?_eq_getElem hlt⟩
              have hcx := hcell t x hx
              have HXT := Lib.hid hx
              clear hcell hcc hB hx
              by_cases hx0 : x < 1
              · have hb : badTo nb to = true := by
                  rw [HBT.out, List.any_eq_true]; exact ⟨x, List.mem_of_getElem? HXT.out, by simp [hx0]⟩
                have HB := Lib.hid hb; clear hb
                go_wp2
                go_ret
                exact ⟨by rw [← HP.out, HB.out]; rfl, HS.out⟩
              · have hd0 : decide (x < 1) = false := decide_eq_false hx0
                by_cases hxk : nb ≤ x
                · have hb : badTo nb to = true := by
                    rw [HBT.out, List.any_eq_true]; exact ⟨x, List.mem_of_getElem? HXT.out, by simp [hxk]⟩
                  have HB := Lib.hid hb; clear hb
                  go_wp2
                  go_ret
                  exact ⟨by rw [← HP.out, HB.out]; rfl, HS.out⟩
                · have hd1 : decide (nb ≤ x) = false := decide_eq_false hxk
                  go_wp2
                  go_round
                  case rel => exact ⟨t + 1, by omega, by go_num, fun j y hj hy => by
                    by_cases e : j = t
                    · subst e; rw [HXT.out] at hy; cases hy; omega
                    · exact HALL.out j y (by omega) hy⟩
                  case measure => simp [intOf]; omega
            · have hte : t = to.length := by omega
              have HTE := Lib.hid hte; clear hte
              have hb : badTo nb to = false := by
                rw [HBT.out, List.any_eq_false]
                intro x hx
                obtain ⟨j, hj⟩ := List.getElem?_of_mem hx
                have := HALL.out j x (by have := (List.getElem?_eq_some_iff.1 hj).1; have := HTE.out; omega) hj
                simp; omega
              rw [hb] at HP
              clear hb
              go_wp2
              go_ret
              exact ⟨by rw [← HP.out]; rfl, HS.out⟩
  have n7 : (op == 7) = false := by simpa using g7
  by_cases g8 : op = 8
  · subst g8
    have hfit : fitsB ⟨8, a, b, to, .slice ta to.length tc, imm⟩ = decide (to.length = 0) := rfl
    by_cases hn : to.length = 0
    rotate_left
    · have hf : fitsB ⟨8, a, b, to, .slice ta to.length tc, imm⟩ = false := by rw [hfit, decide_eq_false hn]
      have hn' : ((to.length : Int) == 0) = false := beq_eq_false_iff_ne.2 (by omega)
      clear hn hfit
      rw [if_pos hf] at hE
      have HE := Lib.hid hE
      clear hE hf
      go_enter Try.func44, Try.ntmps44
      go_wp2
      go_ret
      exact ⟨by rw [← HE.out]; rfl, (Since.refl _).alloc _⟩
    · have hf : fitsB ⟨8, a, b, to, .slice ta to.length tc, imm⟩ = true := by rw [hfit, decide_eq_true hn]
      have hn' : ((to.length : Int) == 0) = true := by simp [hn]
      clear hn hfit
      rw [if_neg (by rw [hf]; decide)] at hE
      have HP := Lib.hid hE
      clear hE hf
      go_enter Try.func44, Try.ntmps44
      go_wp2_with fail
      refine (HN.out _).mono ?_
      rintro e1 w1 ⟨v, rfl, hv, hs1⟩
      obtain ⟨ra, rc, rfl⟩ := nums_lenI hv
      have hc : ∀ i, w1.cell? ⟨w.heap.size, i, none⟩ = _ := fun i => hs1.cell (p := ⟨w.heap.size, i, none⟩) (by simp)
      have HX := Lib.hid hv
      have hrl := hv.len
      unfold maxLen at hrl
      have HS := Lib.hid (((Since.refl w).alloc (.cells #[.int .i64 8, .int .i64 a, .int .i64 b, .slice ta to.length tc, .int .i32 imm] 53)).trans hs1)
      have hsz : w.heap.size < w1.heap.size := by have := hs1.size; simp at this; omega
      clear hv hs1 HN
      generalize needs ⟨8, a, b, to, .slice ta to.length tc, imm⟩ = R at *
      go_wp2
      go_loop [10] (fun i => ∃ t : Nat, t ≤ R.length ∧ i = .int .i64 t ∧ ∀ (j : Nat) (x : Int), j < t → R[j]? = some x → 0 ≤ x ∧ x < k) (fun i => R.length - (intOf i).toNat)
      case atStart => exact ⟨0, Nat.zero_le _, rfl, fun j x hj => by omega⟩
      case round =>
        obtain ⟨t, ht, rfl, hall⟩ := hrel
        have HALL := Lib.hid hall; clear hall
        by_cases hlt : t < R.length
        · obtain ⟨_, hcc⟩ := nums_cell HX.out
          obtain ⟨B, off, rfl, hB, hcell⟩ := hcc (by intro e; rw [e] at hlt; simp at hlt)
          obtain ⟨x, hx⟩ : ∃ x, R[t]? = some x := ⟨_, List.getElem?_eq_getElem hlt⟩
          have hcx := hcell t x hx
          have HXT := Lib.hid hx
          clear hcell hcc hB hx
          by_cases hx0 : x < 0
          · have hb : badNeed ⟨8, a, b, to, .slice ta to.length tc, imm⟩ k = true := by
              rw [HBN.out, List.any_eq_true]; exact ⟨x, List.mem_of_getElem? HXT.out, by simp [hx0]⟩
            have HB := Lib.hid hb; clear hb
            go_wp2
            go_ret
            exact ⟨by rw [← HP.out, HB.out]; rfl, HS.out⟩
          · have hd0 : decide (x < 0) = false := decide_eq_false hx0
            by_cases hxk : k ≤ x
            · have hb : badNeed ⟨8, a, b, to, .slice ta to.length tc, imm⟩ k = true := by
                rw [HBN.out, List.any_eq_true]; exact ⟨x, List.mem_of_getElem? HXT.out, by simp [hxk]⟩
              have HB := Lib.hid hb; clear hb
              go_wp2
              go_ret
              exact ⟨by rw [← HP.out, HB.out]; rfl, HS.out⟩
            · have hd1 : decide (k ≤ x) = false := decide_eq_false hxk
              go_wp2
              go_round
              case rel => exact ⟨t + 1, by omega, by go_num, fun j y hj hy => by
                by_cases e : j = t
                · subst e; rw [HXT.out] at hy; cases hy; omega
                · exact HALL.out j y (by omega) hy⟩
              case measure => simp [intOf]; omega
        · obtain rfl : t = R.length := by omega
          have hb : badNeed ⟨8, a, b, to, .slice ta to.length tc, imm⟩ k = false := by
            rw [HBN.out, List.any_eq_false]
            intro x hx
            obtain ⟨j, hj⟩ := List.getElem?_of_mem hx
            have := HALL.out j x (List.getElem?_eq_some_iff.1 hj).1 hj
            simp; omega
          rw [hb, if_neg (by decide)] at HP
          clear hb
          have HTO := Lib.hid (H.out.keep HS.out)
          go_wp2
          go_loop [11] (fun i => ∃ t : Nat, t ≤ to.length ∧ i = .int .i64 t ∧ ∀ (j : Nat) (x : Int), j < t → to[j]? = some x → 1 ≤ x ∧ x < nb) (fun i => to.length - (intOf i).toNat)
          case atStart => exact ⟨0, Nat.zero_le _, rfl, fun j x hj => by omega⟩
          case round =>
            obtain ⟨t, ht, rfl, hall⟩ := hrel
            have HALL := Lib.hid hall; clear hall
            by_cases hlt : t < to.length
            · obtain ⟨_, hcc⟩ := nums_cell HTO.out
              obtain ⟨B, off, rfl, hB, hcell⟩ := hcc (by intro e; rw [e] at hlt; simp at hlt)
              obtain ⟨x, hx⟩ : ∃ x, to[t]? = some x := ⟨_, List.getElem?_eq_getElem hlt⟩
              have hcx := hcell t x hx
              have HXT := Lib.hid hx
              clear hcell hcc hB hx
              by_cases hx0 : x < 1
              · have hb : badTo nb to = true := by
                  rw [HBT.out, List.any_eq_true]; exact ⟨x, List.mem_of_getElem? HXT.out, by simp [hx0]⟩
                have HB := Lib.hid hb; clear hb
                go_wp2
                go_ret
                exact ⟨by rw [← HP.out, HB.out]; rfl, HS.out⟩
              · have hd0 : decide (x < 1) = false := decide_eq_false hx0
                by_cases hxk : nb ≤ x
                · have hb : badTo nb to = true := by
                    rw [HBT.out, List.any_eq_true]; exact ⟨x, List.mem_of_getElem? HXT.out, by simp [hxk]⟩
                  have HB := Lib.hid hb; clear hb
                  go_wp2
                  go_ret
                  exact ⟨by rw [← HP.out, HB.out]; rfl, HS.out⟩
                · have hd1 : decide (nb ≤ x) = false := decide_eq_false hxk
                  go_wp2
                  go_round
                  case rel => exact ⟨t + 1, by omega, by go_num, fun j y hj hy => by
                    by_cases e : j = t
                    · subst e; rw [HXT.out] at hy; cases hy; omega
                    · exact HALL.out j y (by omega) hy⟩
                  case measure => simp [intOf]; omega
            · have hte : t = to.length := by omega
              have HTE := Lib.hid hte; clear hte
              have hb : badTo nb to = false := by
                rw [HBT.out, List.any_eq_false]
                intro x hx
                obtain ⟨j, hj⟩ := List.getElem?_of_mem hx
                have := HALL.out j x (by have := (List.getElem?_eq_some_iff.1 hj).1; have := HTE.out; omega) hj
                simp; omega
              rw [hb] at HP
              clear hb
              go_wp2
              go_ret
              exact ⟨by rw [← HP.out]; rfl, HS.out⟩
  have n8 : (op == 8) = false := by simpa using g8
  have hf : fitsB ⟨op, a, b, to, .slice ta to.length tc, imm⟩ = false := by
    unfold fitsB
    dsimp only
    rw [if_neg g1, if_neg (by omega), if_neg g6, if_neg (by omega)]
  rw [if_pos hf] at hE
  have HE := Lib.hid hE
  clear hE hf
  clear g1 g2 g3 g4 g5 g6 g7 g8
  go_enter Try.func44, Try.ntmps44
  go_wp2
  go_ret
  exact ⟨by rw [← HE.out]; rfl, (Since.refl _).alloc _⟩
end Go.Proofs.Ytkpbmbhejpmboaa
