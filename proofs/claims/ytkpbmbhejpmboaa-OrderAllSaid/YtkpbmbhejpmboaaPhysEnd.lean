/- mach.Needs, phys.Needs, ways, End. -/
import Derived.Test.YtkpbmbhejpmboaaPhysIns
namespace Go.Proofs.Ytkpbmbhejpmboaa
open Go.RowKit
set_option linter.unusedVariables false

/-- An end as a value. -/
def ev (e : EndV) : Value := .agg #[.int .i64 e.op, .int .i64 e.a, .int .i64 e.b, e.tov, .int .i32 e.imm]

set_option maxHeartbeats 1000000 in
set_option maxRecDepth 100000 in
theorem mneeds_any (e : EndV) (w : World) (ht : ∃ a n c, e.tov = .slice a n c) : Calls Try.prog 99 #[ev e] w (Gives w (needs e)) := by
  obtain ⟨ta, tn, tc, htv⟩ := ht
  obtain ⟨op, a, b, to, tov, imm⟩ := e
  dsimp only at htv
  subst htv
  unfold ev needs
  dsimp only
  by_cases g2 : op = 2
  · subst g2
    rw [if_pos (by omega)]
    go_enter Try.func99, Try.ntmps99
    go_wp2
    go_ret
    exact gives_last ((Since.refl _).alloc _) [a] _ (by simp) rfl (show 1 ≤ maxLen from by decide) rfl
  by_cases g6 : op = 6
  · subst g6
    rw [if_pos (by omega)]
    go_enter Try.func99, Try.ntmps99
    go_wp2
    go_ret
    exact gives_last ((Since.refl _).alloc _) [a] _ (by simp) rfl (show 1 ≤ maxLen from by decide) rfl
  have n2 : (op == 2) = false := by simpa using g2
  have n6 : (op == 6) = false := by simpa using g6
  by_cases g7 : op = 7
  · subst g7
    by_cases ha : 0 ≤ a
    · rw [if_pos (by omega)]
      go_enter Try.func99, Try.ntmps99
      go_wp2
      go_ret
      exact gives_last ((Since.refl _).alloc _) [a] _ (by simp) rfl (show 1 ≤ maxLen from by decide) rfl
    · rw [if_neg (by omega), if_neg (by omega)]
      have hd : decide (0 ≤ a) = false := decide_eq_false ha
      go_enter Try.func99, Try.ntmps99
      go_wp2
      go_ret
      exact gives_none ((Since.refl _).alloc _)
  rw [if_neg (by omega)]
  have n7 : (op == 7) = false := by simpa using g7
  clear g2 g6 g7
  by_cases h3 : 3 ≤ op
  · by_cases h5 : op ≤ 5
    · rw [if_pos ⟨h3, h5⟩]
      go_enter Try.func99, Try.ntmps99
      go_wp2
      go_ret
      exact gives_last ((Since.refl _).alloc _) [a, b] _ (by simp) rfl (show 2 ≤ maxLen from by decide) rfl
    · rw [if_neg (by omega)]
      go_enter Try.func99, Try.ntmps99
      go_wp2
      go_ret
      exact gives_none ((Since.refl _).alloc _)
  · rw [if_neg (by omega)]
    go_enter Try.func99, Try.ntmps99
    go_wp2
    go_ret
    exact gives_none ((Since.refl _).alloc _)

set_option maxHeartbeats 400000 in
set_option maxRecDepth 100000 in
theorem needs_any (e : EndV) (w : World) (ht : ∃ a n c, e.tov = .slice a n c) : Calls Try.prog 73 #[ev e] w (Gives w (needs e)) := by
  have HN := Lib.hid (fun w => mneeds_any e w ht)
  obtain ⟨ta, tn, tc, htv⟩ := ht
  unfold ev at HN
  unfold ev
  rw [htv] at HN ⊢
  clear htv
  go_enter Try.func73, Try.ntmps73
  go_wp2_with fail
  refine (HN.out _).mono ?_
  rintro e2 w1 ⟨v, rfl, hv, hs⟩
  go_wp2
  go_ret
  exact ⟨_, rfl, hv, ((Since.refl _).alloc _).trans hs⟩

def wLo (op : Int) : Int := if op = 1 then 1 else if op = 6 then 2 else if op = 7 ∨ op = 8 then 0 else 2
def wHi (op : Int) : Int := if op = 1 then 1 else if op = 6 then 65 else if op = 7 ∨ op = 8 then 0 else 2
def Two2 (p q : Int) (w : World) (e : Ending) (w' : World) : Prop := e = .returned (.tuple #[.int .i64 p, .int .i64 q]) ∧ w = w'
set_option maxHeartbeats 400000 in
set_option maxRecDepth 100000 in
theorem ways_any (op : Int) (w : World) : Calls Try.prog 72 #[.int .i64 op] w (Two2 (wLo op) (wHi op) w) := by
  unfold wLo wHi
  by_cases g1 : op = 1
  · subst g1
    go_enter Try.func72, Try.ntmps72
    go_wp2
    go_ret2
    exact ⟨rfl, rfl⟩
  by_cases g6 : op = 6
  · subst g6
    go_enter Try.func72, Try.ntmps72
    go_wp2
    go_ret2
    exact ⟨rfl, rfl⟩
  by_cases g7 : op = 7
  · subst g7
    go_enter Try.func72, Try.ntmps72
    go_wp2
    go_ret2
    exact ⟨rfl, rfl⟩
  by_cases g8 : op = 8
  · subst g8
    go_enter Try.func72, Try.ntmps72
    go_wp2
    go_ret2
    exact ⟨rfl, rfl⟩
  have g78 : ¬ (op = 7 ∨ op = 8) := by omega
  simp only [if_neg g1, if_neg g6, if_neg g78]
  clear g78
  have n1 : (op == 1) = false := by simpa using g1
  have n6 : (op == 6) = false := by simpa using g6
  have n7 : (op == 7) = false := by simpa using g7
  have n8 : (op == 8) = false := by simpa using g8
  clear g1 g6 g7 g8
  go_enter Try.func72, Try.ntmps72
  go_wp2
  go_ret2
  exact ⟨rfl, rfl⟩

theorem fitsB_eq (e : EndV) : fitsB e = ((decide (1 ≤ e.op) && decide (e.op ≤ 8)) && (decide (wLo e.op ≤ (e.to.length : Int)) && decide ((e.to.length : Int) ≤ wHi e.op))) := by
  unfold fitsB wLo wHi
  rw [Bool.eq_iff_iff]
  by_cases g1 : e.op = 1
  · simp only [if_pos g1]; simp; omega
  by_cases g6 : e.op = 6
  · simp only [if_neg g1, if_neg (show ¬ (2 ≤ e.op ∧ e.op ≤ 5) by omega), if_pos g6]; simp; omega
  by_cases g78 : e.op = 7 ∨ e.op = 8
  · simp only [if_neg g1, if_neg (show ¬ (2 ≤ e.op ∧ e.op ≤ 5) by omega), if_neg g6, if_pos g78]; simp; omega
  by_cases g : 2 ≤ e.op ∧ e.op ≤ 5
  · simp only [if_neg g1, if_neg g6, if_neg g78, if_pos g]; simp; omega
  · simp only [if_neg g1, if_neg g6, if_neg g78, if_neg g]; simp; omega
theorem needs_len (e : EndV) : (needs e).length ≤ 2 := by
  unfold needs; repeat' split
  all_goals simp

set_option maxHeartbeats 4000000 in
set_option maxRecDepth 100000 in
theorem end_any (e : EndV) (k nb : Int) (w : World) (h : Ints w e.tov e.to) :
    Calls Try.prog 40 #[ev e, .int .i64 k, .int .i64 nb] w (NumP (endE e k nb) w) := by
  have HN := Lib.hid (fun w => needs_any e w (by obtain ⟨a, c, h1⟩ := nums_lenI h; exact ⟨_, _, _, h1⟩))
  have HWY := Lib.hid (fun w => ways_any e.op w)
  have hfit := fitsB_eq e
  have hnl := needs_len e
  obtain ⟨ta, tc, htv⟩ := nums_lenI h
  have hlen := h.len
  unfold maxLen at hlen
  have H := Lib.hid h
  clear h
  generalize hE : endE e k nb = E
  unfold endE at hE
  have hbn : badNeed e k = (needs e).any fun r => decide (r < 0) || decide (k ≤ r) || (e.op == 7 && decide (0 < r)) := rfl
  have hbt : badTo nb e.to = e.to.any fun t => decide (t < 1) || decide (nb ≤ t) := rfl
  have HBN := Lib.hid hbn
  have HBT := Lib.hid hbt
  clear hbn hbt
  unfold ev at HN
  unfold ev
  rw [htv] at HN ⊢
  have HTV := Lib.hid htv; clear htv
  generalize wLo e.op = lo at *
  generalize wHi e.op = hi at *
  have HW1 := Lib.hid (fun w => within_any e.op 1 8 w)
  have HW2 := Lib.hid (fun w => within_any (e.to.length : Int) lo hi w)
  generalize (decide (1 ≤ e.op) && decide (e.op ≤ 8)) = f1 at *
  generalize (decide (lo ≤ (e.to.length : Int)) && decide ((e.to.length : Int) ≤ hi)) = f2 at *
  cases f1 with
  | false =>
    rw [Bool.false_and] at hfit
    rw [if_pos hfit] at hE
    have HP := Lib.hid hE
    clear hfit hE
    go_enter Try.func40, Try.ntmps40
    go_wp2_with fail
    refine (HWY.out _).mono ?_
    rintro e1 w1 ⟨rfl, rfl⟩
    go_wp2_with fail
    refine (HW1.out _).mono ?_
    rintro e1 w1 ⟨rfl, rfl⟩
    go_wp2
    go_ret
    exact ⟨by rw [← HP.out]; rfl, (Since.refl _).alloc _⟩
  | true =>
    rw [Bool.true_and] at hfit
    cases f2 with
    | false =>
      rw [if_pos hfit] at hE
      have HP := Lib.hid hE
      clear hfit hE
      go_enter Try.func40, Try.ntmps40
      go_wp2_with fail
      refine (HWY.out _).mono ?_
      rintro e1 w1 ⟨rfl, rfl⟩
      go_wp2_with fail
      refine (HW1.out _).mono ?_
      rintro e1 w1 ⟨rfl, rfl⟩
      go_wp2_with fail
      refine (HW2.out _).mono ?_
      rintro e1 w1 ⟨rfl, rfl⟩
      go_wp2
      go_ret
      exact ⟨by rw [← HP.out]; rfl, (Since.refl _).alloc _⟩
    | true =>
      rw [if_neg (by rw [hfit]; decide)] at hE
      have HP := Lib.hid hE
      clear hfit hE
      go_enter Try.func40, Try.ntmps40
      go_wp2_with fail
      refine (HWY.out _).mono ?_
      rintro e1 w1 ⟨rfl, rfl⟩
      go_wp2_with fail
      refine (HW1.out _).mono ?_
      rintro e1 w1 ⟨rfl, rfl⟩
      go_wp2_with fail
      refine (HW2.out _).mono ?_
      rintro e1 w1 ⟨rfl, rfl⟩
      go_wp2_with fail
      refine (HN.out _).mono ?_
      rintro e1 w1 ⟨v, rfl, hv, hs1⟩
      obtain ⟨ra, rc, rfl⟩ := nums_lenI hv
      have hc : ∀ i, w1.cell? ⟨w.heap.size, i, none⟩ = _ := fun i => hs1.cell (p := ⟨w.heap.size, i, none⟩) (by simp)
      have HX := Lib.hid hv
      have HS := Lib.hid (((Since.refl w).alloc (.cells #[.int .i64 e.op, .int .i64 e.a, .int .i64 e.b, .slice ta e.to.length tc, .int .i32 e.imm] 53)).trans hs1)
      clear hv hs1
      generalize needs e = R at *
      go_wp2
      go_loop [35] (fun i => ∃ t : Nat, t ≤ R.length ∧ i = .int .i64 t ∧ ∀ (j : Nat) (x : Int), j < t → R[j]? = some x → 0 ≤ x ∧ x < k ∧ ¬ (e.op = 7 ∧ 0 < x)) (fun i => R.length - (intOf i).toNat)
      case atStart => exact ⟨0, Nat.zero_le _, rfl, fun j x hj => by omega⟩
      case round =>
        obtain ⟨t, ht, rfl, hall⟩ := hrel
        have HALL := Lib.hid hall; clear hall
        by_cases hlt : t < R.length
        · obtain ⟨_, hcc⟩ := nums_cell HX.out
          obtain ⟨B, off, rfl, hB, hcell⟩ := hcc (by intro e; rw [e] at hlt; simp at hlt)
          obtain ⟨x, hx⟩ : ∃ x, R[t]? = some x := ⟨_, List.getElem?_eq_getElem hlt⟩
          have hcx := hcell t x hx
          have HXT := Lib.hid hx
          clear hcell hcc hB hx
          by_cases hx0 : x < 0
          · have hb : badNeed e k = true := by
              rw [HBN.out, List.any_eq_true]; exact ⟨x, List.mem_of_getElem? HXT.out, by simp [hx0]⟩
            have HB := Lib.hid hb; clear hb
            go_wp2
            go_ret
            exact ⟨by rw [← HP.out, HB.out]; rfl, HS.out⟩
          · have hd0 : decide (x < 0) = false := decide_eq_false hx0
            by_cases hxk : k ≤ x
            · have hb : badNeed e k = true := by
                rw [HBN.out, List.any_eq_true]; exact ⟨x, List.mem_of_getElem? HXT.out, by simp [hxk]⟩
              have HB := Lib.hid hb; clear hb
              go_wp2
              go_ret
              exact ⟨by rw [← HP.out, HB.out]; rfl, HS.out⟩
            · have hd1 : decide (k ≤ x) = false := decide_eq_false hxk
              cases h7 : (e.op == 7) with
              | true =>
                by_cases hx1 : 0 < x
                · have hb : badNeed e k = true := by
                    rw [HBN.out, List.any_eq_true]; exact ⟨x, List.mem_of_getElem? HXT.out, by simp [h7, hx1]⟩
                  have HB := Lib.hid hb; clear hb
                  go_wp2
                  go_ret
                  exact ⟨by rw [← HP.out, HB.out]; rfl, HS.out⟩
                · have hd2 : decide (0 < x) = false := decide_eq_false hx1
                  go_wp2
                  go_round
                  case rel => exact ⟨t + 1, by omega, by go_num, fun j y hj hy => by
                    by_cases e : j = t
                    · subst e; rw [HXT.out] at hy; cases hy; omega
                    · exact HALL.out j y (by omega) hy⟩
                  case measure => simp [intOf]; omega
              | false =>
                have h7' : ¬ e.op = 7 := by simpa using h7
                have H7 := Lib.hid h7'; clear h7'
                go_wp2
                go_round
                case rel => exact ⟨t + 1, by omega, by go_num, fun j y hj hy => by
                  by_cases e : j = t
                  · subst e; rw [HXT.out] at hy; cases hy; have := H7.out; omega
                  · exact HALL.out j y (by omega) hy⟩
                case measure => simp [intOf]; omega
        · obtain rfl : t = R.length := by omega
          have hb : badNeed e k = false := by
            rw [HBN.out, List.any_eq_false]
            intro x hx
            obtain ⟨j, hj⟩ := List.getElem?_of_mem hx
            have := HALL.out j x (List.getElem?_eq_some_iff.1 hj).1 hj
            simp; omega
          rw [hb, if_neg (by decide)] at HP
          clear hb
          have hto := (HTV.out ▸ H.out : Ints w (.slice ta e.to.length tc) e.to).keep HS.out
          have HTO := Lib.hid hto
          clear hto
          go_wp2
          go_loop [59] (fun i => ∃ t : Nat, t ≤ e.to.length ∧ i = .int .i64 t ∧ ∀ (j : Nat) (x : Int), j < t → e.to[j]? = some x → 1 ≤ x ∧ x < nb) (fun i => e.to.length - (intOf i).toNat)
          case atStart => exact ⟨0, Nat.zero_le _, rfl, fun j x hj => by omega⟩
          case round =>
            obtain ⟨t, ht, rfl, hall⟩ := hrel
            have HALL := Lib.hid hall; clear hall
            by_cases hlt : t < e.to.length
            · obtain ⟨_, hcc⟩ := nums_cell HTO.out
              obtain ⟨B, off, rfl, hB, hcell⟩ := hcc (by intro e; rw [e] at hlt; simp at hlt)
              obtain ⟨x, hx⟩ : ∃ x, e.to[t]? = some x := ⟨_, List.getElem?_eq_getElem hlt⟩
              have hcx := hcell t x hx
              have HXT := Lib.hid hx
              clear hcell hcc hB hx
              by_cases hx0 : x < 1
              · have hb : badTo nb e.to = true := by
                  rw [HBT.out, List.any_eq_true]; exact ⟨x, List.mem_of_getElem? HXT.out, by simp [hx0]⟩
                have HB := Lib.hid hb; clear hb
                go_wp2
                go_ret
                exact ⟨by rw [← HP.out, HB.out]; rfl, HS.out⟩
              · have hd0 : decide (x < 1) = false := decide_eq_false hx0
                by_cases hxk : nb ≤ x
                · have hb : badTo nb e.to = true := by
                    rw [HBT.out, List.any_eq_true]; exact ⟨x, List.mem_of_getElem? HXT.out, by simp [hxk]⟩
                  have HB := Lib.hid hb; clear hb
                  go_wp2
                  go_ret
                  exact ⟨by rw [← HP.out, HB.out]; rfl, HS.out⟩
                · have hd1 : decide (nb ≤ x) = false := decide_eq_false hxk
                  go_wp2
                  go_round
                  case rel => exact ⟨t + 1, by omega, by go_num, fun j y hj hy => by
                    by_cases e : j = t
                    · subst e; rw [HXT.out] at hy; cases hy; omega
                    · exact HALL.out j y (by omega) hy⟩
                  case measure => simp [intOf]; omega
            · have hte : t = e.to.length := by omega
              have HTE := Lib.hid hte; clear hte
              have hb : badTo nb e.to = false := by
                rw [HBT.out, List.any_eq_false]
                intro x hx
                obtain ⟨j, hj⟩ := List.getElem?_of_mem hx
                have := HALL.out j x (by have := (List.getElem?_eq_some_iff.1 hj).1; have := HTE.out; omega) hj
                simp; omega
              rw [hb] at HP
              clear hb
              go_wp2
              go_ret
              exact ⟨by rw [← HP.out]; rfl, HS.out⟩
end Go.Proofs.Ytkpbmbhejpmboaa
