/- jacquardlaw01.WordNames walked. -/
import Derived.Test.YtkmkfhbekikleaaDoorRefParse
import Derived.Test.YtkmkfhbekikleaaDoorWalkTexts
namespace Go.Proofs.YtkmkfhbekikleaaDoor
open Go.RowKit
set_option linter.unusedVariables false

def numberL (k : Nat) : Bool := numberF (opNames.getD k ByteArray.empty) == (k : Int) + 1
theorem number_name (k : Nat) (h : k < 18) : numberF (nameF ((k : Int) + 1)) = (k : Int) + 1 := by
  have h1 : ∀ k, k < 18 → numberL k = true := by decide +kernel
  have h2 := eq_of_beq (show (numberF (opNames.getD k ByteArray.empty) == (k : Int) + 1) = true from h1 k h)
  have he : nameF ((k : Int) + 1) = opNames.getD k ByteArray.empty := by unfold nameF; rw [if_neg (by omega), show ((k : Int) + 1 - 1).toNat = k from by omega]
  rw [he]; exact h2

set_option maxHeartbeats 2000000 in
set_option maxRecDepth 100000 in
theorem names_core (op : Int) (s : ByteArray) (n : Int) (t : ByteArray) (w : World) (ho : -9223372036854775808 ≤ op ∧ op ≤ 9223372036854775807) (hn : In32W n) (hs : s.size ≤ 9223372036854775807) (hL : LaidS w) (htab : Lib.TabIs Tryd.prog w "strings.asciiSpace" .u8 Lib.asciiSpaceTab)
    (ht : s.extract 0 (min (s.size : Int) 20).toNat = t) (htz : t.size ≤ 20) :
    Calls Tryd.prog 4 #[.int .i64 op, .string s, .int .i32 n] w (AllTrue w) := by
  have HL := Lib.hid hL
  have HTAB := Lib.hid (fun w1 (h : Below w.heap.size w w1) => TabIs_below (g := 0) (by kernel_rfl) htab h)
  have HT := Lib.hid ht
  clear hL htab ht
  go_enter Tryd.func4, Tryd.ntmps4
  go_wp2_with fail
  refine (shown_any _).mono ?_
  rintro e w1 ⟨rfl, hb1⟩
  have HB1 := Lib.hid hb1
  clear hb1
  go_wp2_with fail
  rw [HT.out]
  go_loopw [9] (fun i wr => ∃ k : Int, (-1 ≤ k ∧ k ≤ 20) ∧ i = .int .i64 k ∧ Below w.heap.size w wr) (fun i _ => (20 - intOf i).toNat)
  case atStart => exact ⟨-1, by omega, rfl, HB1.out⟩
  case round =>
    obtain ⟨k, ⟨hk0, hk⟩, rfl, hb2⟩ := hrel
    obtain ⟨w2, hw2⟩ : ∃ x, x = wr := ⟨_, rfl⟩
    subst hw2
    have HB2 := Lib.hid hb2
    clear hb2
    by_cases hlt : k < 20
    · have HLT := Lib.hid hlt
      obtain ⟨y, hy⟩ : ∃ y, nameF (k) = y := ⟨_, rfl⟩
      have hq : (y.toList == y.toList) = true := by simp
      have HN1 := Lib.hid (fun w3 (h : Below w.heap.size w w3) => name_any (k) w3 (by omega) (HTAB.out w3 h))
      have HN2 := Lib.hid (fun w3 => rname_any (k) w3 (by omega))
      rw [hy] at HN1 HN2
      by_cases hin : 1 ≤ k ∧ k ≤ 18
      · obtain ⟨h2, h19⟩ := hin
        have hnum : numberF y = k := by
          have := number_name (k - 1).toNat (by omega)
          rw [show ((k - 1).toNat : Int) + 1 = k from by omega, hy] at this
          exact this
        have HN3 := Lib.hid (fun w3 (h : Below w.heap.size w w3) => number_any y w3 (HTAB.out w3 h))
        rw [hnum] at HN3
        have g1 : 0 < k := by omega
        have g2 : k < 19 := by omega
        clear hnum hy
        go_wp2_with fail
        refine (HN1.out _ HB2.out).mono ?_
        rintro e w3 ⟨rfl, hb3⟩
        have HB3 := Lib.hid (HB2.out.trans (hb3.mono HB2.out.size))
        clear hb3
        go_wp2_with fail
        refine (HN2.out _).mono ?_
        rintro e w4 ⟨rfl, hb4⟩
        have HB4 := Lib.hid (HB3.out.trans (hb4.mono HB3.out.size))
        clear hb4
        go_wp2_with fail
        refine (HN1.out _ HB4.out).mono ?_
        rintro e w5 ⟨rfl, hb5⟩
        have HB5 := Lib.hid (HB4.out.trans (hb5.mono HB4.out.size))
        clear hb5
        go_wp2_with fail
        refine (HN3.out _ HB5.out).mono ?_
        rintro e w6 ⟨rfl, hb6⟩
        have HB6 := Lib.hid (HB5.out.trans (hb6.mono HB5.out.size))
        clear hb6
        go_wp2_with fail
        go_roundw
        case rel => exact ⟨k + 1, by have := HLT.out; omega, rfl, HB6.out⟩
        case measure => simp [intOf]; omega
      · clear hy
        have hor : k ≤ 0 ∨ 19 ≤ k := by omega
        clear hin
        rcases hor with hor | hor
        · go_wp2_with fail
          refine (HN1.out _ HB2.out).mono ?_
          rintro e w3 ⟨rfl, hb3⟩
          have HB3 := Lib.hid (HB2.out.trans (hb3.mono HB2.out.size))
          clear hb3
          go_wp2_with fail
          refine (HN2.out _).mono ?_
          rintro e w4 ⟨rfl, hb4⟩
          have HB4 := Lib.hid (HB3.out.trans (hb4.mono HB3.out.size))
          clear hb4
          go_wp2_with fail
          go_roundw
          case rel => exact ⟨k + 1, by have := HLT.out; omega, rfl, HB4.out⟩
          case measure => simp [intOf]; omega
        · have g1 : 0 < k := by omega
          go_wp2_with fail
          refine (HN1.out _ HB2.out).mono ?_
          rintro e w3 ⟨rfl, hb3⟩
          have HB3 := Lib.hid (HB2.out.trans (hb3.mono HB2.out.size))
          clear hb3
          go_wp2_with fail
          refine (HN2.out _).mono ?_
          rintro e w4 ⟨rfl, hb4⟩
          have HB4 := Lib.hid (HB3.out.trans (hb4.mono HB3.out.size))
          clear hb4
          go_wp2_with fail
          go_roundw
          case rel => exact ⟨k + 1, by have := HLT.out; omega, rfl, HB4.out⟩
          case measure => simp [intOf]; omega
    · obtain rfl : 20 = k := by omega
      obtain ⟨y, hy⟩ : ∃ y, nameF op = y := ⟨_, rfl⟩
      have hq : (y.toList == y.toList) = true := by simp
      obtain ⟨x, hx⟩ : ∃ x, numberF t = x := ⟨_, rfl⟩
      obtain ⟨z, hz⟩ : ∃ z : ByteArray, (⟨(Lib.itoa n).toArray⟩ : ByteArray) = z := ⟨_, rfl⟩
      have hq2 : (z.toList == z.toList) = true := by simp
      have HN1 := Lib.hid (fun w3 (h : Below w.heap.size w w3) => name_any op w3 ho (HTAB.out w3 h))
      have HN2 := Lib.hid (fun w3 => rname_any op w3 ho)
      have HN3 := Lib.hid (fun w3 (h : Below w.heap.size w w3) => number_any t w3 (HTAB.out w3 h))
      have HN4 := Lib.hid (fun w3 => rnumber_any t w3)
      have HN5 := Lib.hid (fun w3 (h : Below w.heap.size w w3) => text_any n w3 hn.1 hn.2 (HL.out.keep h))
      have HN6 := Lib.hid (fun w3 => rtext_any n w3 hn.1 hn.2)
      have HP1 := Lib.hid (fun w3 (h : Below w.heap.size w w3) => wparse_any t w3 (by omega) (HL.out.keep h))
      have HP2 := Lib.hid (fun w3 => rparse_any t w3 (by omega))
      unfold ParseP at HP1 HP2
      rw [hy] at HN1 HN2
      rw [hx] at HN3 HN4
      rw [hz] at HN5 HN6
      generalize (wparse t.data.toList).getD 0 = v at *
      generalize (wparse t.data.toList).isSome = b at *
      clear hy hx hz hlt hk
      go_wp2_with fail
      refine (HP1.out _ HB2.out).mono ?_
      rintro e w3 ⟨rfl, hb3⟩
      have HB3 := Lib.hid (HB2.out.trans (hb3.mono HB2.out.size))
      clear hb3
      go_wp2_with fail
      refine (HP2.out _).mono ?_
      rintro e w4 ⟨rfl, hb4⟩
      have HB4 := Lib.hid (HB3.out.trans (hb4.mono HB3.out.size))
      clear hb4
      go_wp2_with fail
      refine (HN1.out _ HB4.out).mono ?_
      rintro e w5 ⟨rfl, hb5⟩
      have HB5 := Lib.hid (HB4.out.trans (hb5.mono HB4.out.size))
      clear hb5
      go_wp2_with fail
      refine (HN2.out _).mono ?_
      rintro e w6 ⟨rfl, hb6⟩
      have HB6 := Lib.hid (HB5.out.trans (hb6.mono HB5.out.size))
      clear hb6
      go_wp2_with fail
      refine (HN3.out _ HB6.out).mono ?_
      rintro e w7 ⟨rfl, hb7⟩
      have HB7 := Lib.hid (HB6.out.trans (hb7.mono HB6.out.size))
      clear hb7
      go_wp2_with fail
      refine (HN4.out _).mono ?_
      rintro e w8 ⟨rfl, hb8⟩
      have HB8 := Lib.hid (HB7.out.trans (hb8.mono HB7.out.size))
      clear hb8
      go_wp2_with fail
      refine (HN5.out _ HB8.out).mono ?_
      rintro e w9 ⟨rfl, hb9⟩
      have HB9 := Lib.hid (HB8.out.trans (hb9.mono HB8.out.size))
      clear hb9
      go_wp2_with fail
      refine (HN6.out _).mono ?_
      rintro e w10 ⟨rfl, rfl⟩
      go_wp2
      go_ret
      exact ⟨rfl, HB9.out⟩

theorem walk_names (op : Int) (s : ByteArray) (n : Int) (wo : (Lit.int .i64 op).wf = true) (ws : s.size ≤ maxLen) (wn : (Lit.int .i32 n).wf = true) (w : World) (hL : LaidS w) (htab : Lib.TabIs Tryd.prog w "strings.asciiSpace" .u8 Lib.asciiSpaceTab) :
    Calls Tryd.prog 4 #[.int .i64 op, .string s, .int .i32 n] w (AllTrue w) := by
  unfold maxLen at ws
  have ho : -9223372036854775808 ≤ op ∧ op ≤ 9223372036854775807 := by
    simp [Lit.wf, IntKind.min, IntKind.max, IntKind.signed, IntKind.bits] at wo
    omega
  have hn : In32W n := by
    simp [Lit.wf, IntKind.min, IntKind.max, IntKind.signed, IntKind.bits] at wn
    unfold In32W; omega
  exact names_core op s n _ w ho hn ws hL htab rfl (by rw [ByteArray.size_extract]; omega)
end Go.Proofs.YtkmkfhbekikleaaDoor
