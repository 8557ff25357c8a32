/- The reference's meet, effect, load. -/
import Derived.Test.YtkpbmbhejpmboaaDepends
import Derived.Test.YtkpbmbhejpmboaaPhysFunc
import Derived.Test.YtkpbmbhejpmboaaRefTakes
namespace Go.Proofs.Ytkpbmbhejpmboaa
open Go.RowKit
set_option linter.unusedVariables false


set_option maxHeartbeats 2000000 in
set_option maxRecDepth 100000 in
theorem meet_any (v bv : Value) (l lb : List Int) (w : World) (h : Nums .i64 w v l) (hb : Nums .i64 w bv lb) :
    Calls Try.prog 64 #[v, bv] w (TellsS (meetB l lb) w) := by
  have hm := h.len
  have hm2 := hb.len
  obtain ⟨a, cap, rfl⟩ := nums_lenI h
  obtain ⟨a2, cap2, rfl⟩ := nums_lenI hb
  obtain ⟨_, hc⟩ := nums_cell h
  obtain ⟨_, hc2⟩ := nums_cell hb
  have HC := Lib.hid hc
  have HC2 := Lib.hid hc2
  clear hc hc2 h hb
  unfold maxLen at hm hm2
  unfold meetB
  go_enter Try.func64, Try.ntmps64
  go_wp2
  go_loopw [5] (fun i wr => ∃ k : Nat, k ≤ l.length ∧ i = .int .i64 k ∧ (∀ j y, j < k → l[j]? = some y → (lb.any fun z => y == z) = false) ∧ Since w wr) (fun i _ => l.length - (intOf i).toNat)
  case atStart => exact ⟨0, Nat.zero_le _, rfl, fun _ _ h => by omega, Since.refl _⟩
  case round =>
    obtain ⟨k, hk, rfl, hno, hsr⟩ := hrel
    have HNO := Lib.hid hno; clear hno
    by_cases hlt : k < l.length
    · obtain ⟨x, hx⟩ : ∃ y, l[k]? = some y := ⟨_, List.getElem?_eq_getElem hlt⟩
      obtain ⟨b, off, rfl, hbk, hcell⟩ := HC.out (by intro e; rw [e] at hlt; simp at hlt)
      have hcx := hcell k x hx
      have HX := Lib.hid hx
      clear hcell hx
      go_wp2
      obtain ⟨wo, rfl⟩ : ∃ wo : World, wo = wr := ⟨_, rfl⟩
      go_loopw [6] (fun i wr => ∃ k2 : Nat, k2 ≤ lb.length ∧ i = .int .i64 k2 ∧ (∀ j y, j < k2 → lb[j]? = some y → (x == y) = false) ∧ Since w wr) (fun i _ => lb.length - (intOf i).toNat)
      case atStart => exact ⟨0, Nat.zero_le _, rfl, fun _ _ h => by omega, hsr⟩
      case round =>
        obtain ⟨k2, hk2, rfl, hno2, hsr2⟩ := hrel
        have HNO2 := Lib.hid hno2; clear hno2
        by_cases hlt2 : k2 < lb.length
        · obtain ⟨y, hy⟩ : ∃ y, lb[k2]? = some y := ⟨_, List.getElem?_eq_getElem hlt2⟩
          obtain ⟨b2, off2, rfl, hbk2, hcell2⟩ := HC2.out (by intro e; rw [e] at hlt2; simp at hlt2)
          have hcy : wr.cell? ⟨b2, off2 + k2, none⟩ = some (.int .i64 y) := by rw [hsr2.cell hbk2]; exact hcell2 k2 y hy
          have hcx2 : wr.cell? ⟨b, off + k, none⟩ = some (.int .i64 x) := by rw [hsr2.cell hbk]; exact hcx
          have HY := Lib.hid hy
          clear hcell2 hy
          have q1 : (k : Int) < (l.length : Int) := by omega
          have q2 : (k2 : Int) < (lb.length : Int) := by omega
          by_cases he : (x == y) = true
          · have hyes : (lb.any fun z => x == z) = true := any_at (p := fun z => x == z) HY.out he
            have hyes2 := any_at (p := fun x => lb.any fun z => x == z) HX.out hyes
            have HF := Lib.hid hyes2; clear hyes hyes2
            go_wp2
            go_quiet (fail)
            go_wp2
            go_ret
            exact ⟨by rw [HF.out]; rfl, hsr2.drewN _⟩
          · have he : (x == y) = false := by simpa using he
            go_wp2
            go_quiet (fail)
            go_wp2
            go_roundw
            case rel =>
              refine ⟨k2 + 1, by omega, by go_num, fun j z hj hz => ?_, hsr2.drewN _⟩
              by_cases e : j = k2
              · subst e; have := HY.out.symm.trans hz; cases this; exact he
              · exact HNO2.out j z (by omega) hz
            case measure => simp [intOf]; omega
        · obtain rfl : k2 = lb.length := by omega
          have hyes := any_prefix (p := fun z => x == z) rfl HNO2.out
          have HF := Lib.hid hyes; clear hyes
          go_wp2
          go_roundw
          case rel =>
            refine ⟨k + 1, by omega, by go_num, fun j z hj hz => ?_, hsr2⟩
            by_cases e : j = k
            · subst e; have := HX.out.symm.trans hz; cases this; exact HF.out
            · exact HNO.out j z (by omega) hz
          case measure => simp [intOf]; omega
    · obtain rfl : k = l.length := by omega
      have hyes := any_prefix (p := fun x => lb.any fun z => x == z) rfl HNO.out
      have HF := Lib.hid hyes; clear hyes
      go_wp2
      go_ret
      exact ⟨by rw [HF.out]; rfl, hsr⟩

set_option maxHeartbeats 1000000 in
set_option maxRecDepth 100000 in
theorem effect_any (op : Int) (w : World) : Calls Try.prog 66 #[.int .i64 op] w (Tells (strictB op) w) := by
  by_cases g24 : op = 24
  · subst g24
    have e1 : strictB 24 = true := rfl
    rw [e1]; clear e1
    go_enter Try.func66, Try.ntmps66
    go_wp2
    go_ret
    exact ⟨rfl, rfl⟩
  by_cases g25 : op = 25
  · subst g25
    have e1 : strictB 25 = true := rfl
    rw [e1]; clear e1
    go_enter Try.func66, Try.ntmps66
    go_wp2
    go_ret
    exact ⟨rfl, rfl⟩
  by_cases g28 : op = 28
  · subst g28
    have e1 : strictB 28 = true := rfl
    rw [e1]; clear e1
    go_enter Try.func66, Try.ntmps66
    go_wp2
    go_ret
    exact ⟨rfl, rfl⟩
  by_cases g26 : op = 26
  · subst g26
    have e1 : strictB 26 = true := rfl
    rw [e1]; clear e1
    go_enter Try.func66, Try.ntmps66
    go_wp2
    go_ret
    exact ⟨rfl, rfl⟩
  by_cases g27 : op = 27
  · subst g27
    have e1 : strictB 27 = true := rfl
    rw [e1]; clear e1
    go_enter Try.func66, Try.ntmps66
    go_wp2
    go_ret
    exact ⟨rfl, rfl⟩
  by_cases g17 : op = 17
  · subst g17
    have e1 : strictB 17 = true := rfl
    rw [e1]; clear e1
    go_enter Try.func66, Try.ntmps66
    go_wp2
    go_ret
    exact ⟨rfl, rfl⟩
  have e1 : strictB op = false := by simp [strictB, g24, g25, g28, g26, g27, g17]
  have n24 : (op == 24) = false := by simpa using g24
  have n25 : (op == 25) = false := by simpa using g25
  have n28 : (op == 28) = false := by simpa using g28
  have n26 : (op == 26) = false := by simpa using g26
  have n27 : (op == 27) = false := by simpa using g27
  have n17 : (op == 17) = false := by simpa using g17
  rw [e1]
  clear e1 g24 g25 g28 g26 g27 g17
  go_enter Try.func66, Try.ntmps66
  go_wp2
  go_ret
  exact ⟨rfl, rfl⟩

set_option maxHeartbeats 1000000 in
set_option maxRecDepth 100000 in
theorem load_any (op : Int) (w : World) : Calls Try.prog 67 #[.int .i64 op] w (Tells (loadB op) w) := by
  by_cases g24 : op = 24
  · subst g24
    have e1 : loadB 24 = true := rfl
    rw [e1]; clear e1
    go_enter Try.func67, Try.ntmps67
    go_wp2
    go_ret
    exact ⟨rfl, rfl⟩
  by_cases g25 : op = 25
  · subst g25
    have e1 : loadB 25 = true := rfl
    rw [e1]; clear e1
    go_enter Try.func67, Try.ntmps67
    go_wp2
    go_ret
    exact ⟨rfl, rfl⟩
  have e1 : loadB op = false := by simp [loadB, g24, g25]
  have n24 : (op == 24) = false := by simpa using g24
  have n25 : (op == 25) = false := by simpa using g25
  rw [e1]
  clear e1 g24 g25
  go_enter Try.func67, Try.ntmps67
  go_wp2
  go_ret
  exact ⟨rfl, rfl⟩
end Go.Proofs.Ytkpbmbhejpmboaa
