/- jacquardlaw01.WordTexts walked. -/
import Derived.Test.YtkmkfhbekikleaaDoorText
import Derived.Test.YtkmkfhbekikleaaDoorRegion4
import Derived.Lib.ItoaLen
namespace Go.Proofs.YtkmkfhbekikleaaDoor
open Go.RowKit
set_option linter.unusedVariables false

theorem byte_string (w : World) (b : Nat) (c : Int) (hc : w.cell? ⟨b, 0, none⟩ = some (.int .u8 c)) : (convert 26 9 (.slice (some ⟨b, 0, none⟩) 1 1)).run Tryd.prog w = .ok (.string ⟨#[UInt8.ofNat c.toNat]⟩) w := by
  rw [run_convert_bytes_string w 26 9 5 _ 1 1 Tryd.underlying26 Tryd.underlying5 Tryd.underlying9]
  rw [run_bytesToString w ⟨b, 0, none⟩ 1 1 [c]]
  · rfl
  · simp [loadCells, loadCellsFrom, Addr.add, hc, Result.andThen]

theorem parse_no (s : ByteArray) (w : World) (hs : s.size ≤ 281474976710656) (hL : LaidS w) (h : wparse s.data.toList = none) :
    Calls Tryd.prog 6 #[.string s] w fun e w' => e = .returned (.tuple #[.int .i32 0, .bool false]) ∧ Below w.heap.size w w' :=
  (wparse_any s w hs hL).mono fun e w' ⟨h1, h2⟩ => ⟨by rw [h1, h]; rfl, h2⟩
theorem parse_yes (s : ByteArray) (w : World) (v : Int) (hs : s.size ≤ 281474976710656) (hL : LaidS w) (h : wparse s.data.toList = some v) :
    Calls Tryd.prog 6 #[.string s] w fun e w' => e = .returned (.tuple #[.int .i32 v, .bool true]) ∧ Below w.heap.size w w' :=
  (wparse_any s w hs hL).mono fun e w' ⟨h1, h2⟩ => ⟨by rw [h1, h]; rfl, h2⟩
/-- What is so of all inputs. -/
def AllTrue (w : World) (e : Ending) (w' : World) : Prop := e = .returned (.bool true) ∧ Below w.heap.size w w'

theorem itoa_small (n : Int) (h : In32W n) : (Lib.itoa n).length ≤ 21 :=
  Lib.itoa_length_le n (by have := h.1; omega) (by have := h.2; omega)
def OneB (c : Int) (v : Value) (w : World) : Prop := ∃ b, v = .slice (some ⟨b, 0, none⟩) 1 1 ∧ w.cell? ⟨b, 0, none⟩ = some (.int .u8 c) ∧ b < w.heap.size
theorem OneB.stable (c : Int) : Stable (OneB c) := fun v w w' ⟨b, h1, h2, h3⟩ s => ⟨b, h1, (s.cell (p := ⟨b, 0, none⟩) h3).trans h2, Nat.lt_of_lt_of_le h3 s.size⟩

set_option maxHeartbeats 2000000 in
set_option maxRecDepth 100000 in
theorem texts_core (n : Int) (s y y2 : ByteArray) (c b d : Int) (is more : Bool) (w : World) (hn : In32W n) (hb : In32W b) (hd : In32W d) (hs : s.size ≤ 9223372036854775807) (hc : 0 ≤ c ∧ c < 256) (hL : LaidS w)
    (hy : (⟨(Lib.itoa n).toArray⟩ : ByteArray) = y) (hy2 : (⟨(Lib.itoa b).toArray⟩ : ByteArray) = y2)
    (h1 : ∀ w1, LaidS w1 → Calls Tryd.prog 6 #[.string y] w1 fun e w' => e = .returned (.tuple #[.int .i32 n, .bool true]) ∧ Below w1.heap.size w1 w')
    (h2 : ∀ w1, LaidS w1 → Calls Tryd.prog 6 #[.string (s.extract 0 (min (s.size : Int) 20).toNat)] w1 fun e w' => e = .returned (.tuple #[.int .i32 b, .bool is]) ∧ Below w1.heap.size w1 w')
    (h3 : ∀ w1, LaidS w1 → Calls Tryd.prog 6 #[.string (⟨#[48]⟩ ++ y)] w1 fun e w' => e = .returned (.tuple #[.int .i32 0, .bool false]) ∧ Below w1.heap.size w1 w')
    (h4 : ∀ w1, LaidS w1 → Calls Tryd.prog 6 #[.string (⟨#[43]⟩ ++ y)] w1 fun e w' => e = .returned (.tuple #[.int .i32 0, .bool false]) ∧ Below w1.heap.size w1 w')
    (h5 : ∀ w1, LaidS w1 → Calls Tryd.prog 6 #[.string (y ++ ⟨#[UInt8.ofNat c.toNat]⟩)] w1 fun e w' => e = .returned (.tuple #[.int .i32 d, .bool more]) ∧ Below w1.heap.size w1 w')
    (his : (is = true ∧ (y2.toList == (s.extract 0 (min (s.size : Int) 20).toNat).toList) = true) ∨ (is = false ∧ b = 0)) (hmore : (more = true ∧ (48 ≤ c ∧ c ≤ 57) ∧ (wrap32 (d.tdiv 10) == n) = true ∧ (n != 0) = true) ∨ more = false) :
    Calls Tryd.prog 3 #[.int .i32 n, .string s, .int .u8 c] w (AllTrue w) := by
  have ht : ∀ w1, LaidS w1 → Calls Tryd.prog 7 #[.int .i32 n] w1 fun e w' => e = .returned (.string y) ∧ Below w1.heap.size w1 w' := fun w1 h => by
    rw [← hy]; exact text_any n w1 hn.1 hn.2 h
  have ht2 : ∀ w1, LaidS w1 → Calls Tryd.prog 7 #[.int .i32 b] w1 fun e w' => e = .returned (.string y2) ∧ Below w1.heap.size w1 w' := fun w1 h => by
    rw [← hy2]; exact text_any b w1 hb.1 hb.2 h
  have hyl : y.size ≤ 100 := by
    rw [← hy]
    have := itoa_small n hn
    show (Lib.itoa n).toArray.size ≤ 100
    simp; omega
  have H1 := Lib.hid h1
  have H2 := Lib.hid h2
  have H3 := Lib.hid h3
  have H4 := Lib.hid h4
  have H5 := Lib.hid h5
  have HT := Lib.hid ht
  have HT2 := Lib.hid ht2
  have HL := Lib.hid hL
  have HM := Lib.hid hmore
  have HI := Lib.hid his
  obtain ⟨hd1, hd2⟩ := hd
  clear h1 h2 h3 h4 h5 ht ht2 hy hy2 hL hmore his
  rcases HI.out with ⟨rfl, hq⟩ | ⟨rfl, rfl⟩
  · rcases HM.out with ⟨rfl, ⟨hc1, hc2⟩, hm2, hm3⟩ | rfl
    · go_enter Tryd.func3, Tryd.ntmps3
      go_wp2_with fail
      refine (shown_any _).mono ?_
      rintro e w1 ⟨rfl, hb1⟩
      have HB1 := Lib.hid hb1
      clear hb1
      go_wp2_with fail
      refine (HT.out _ (HL.out.keep HB1.out)).mono ?_
      rintro e w2 ⟨rfl, hb2⟩
      have HB2 := Lib.hid (HB1.out.trans (hb2.mono HB1.out.size))
      clear hb2
      go_wp2_with fail
      refine (H1.out _ (HL.out.keep HB2.out)).mono ?_
      rintro e w3 ⟨rfl, hb3⟩
      have HB3 := Lib.hid (HB2.out.trans (hb3.mono HB2.out.size))
      clear hb3
      go_wp2_with fail
      refine (H2.out _ (HL.out.keep HB3.out)).mono ?_
      rintro e w4 ⟨rfl, hb4⟩
      have HB4 := Lib.hid (HB3.out.trans (hb4.mono HB3.out.size))
      clear hb4
      go_wp2_with fail
      refine (HT.out _ (HL.out.keep HB4.out)).mono ?_
      rintro e w5 ⟨rfl, hb5⟩
      have HB5 := Lib.hid (HB4.out.trans (hb5.mono HB4.out.size))
      clear hb5
      go_wp2_with fail
      refine (H3.out _ (HL.out.keep HB5.out)).mono ?_
      rintro e w6 ⟨rfl, hb6⟩
      have HB6 := Lib.hid (HB5.out.trans (hb6.mono HB5.out.size))
      clear hb6
      go_wp2_with fail
      refine (HT.out _ (HL.out.keep HB6.out)).mono ?_
      rintro e w7 ⟨rfl, hb7⟩
      have HB7 := Lib.hid (HB6.out.trans (hb7.mono HB6.out.size))
      clear hb7
      go_wp2_with fail
      refine (H4.out _ (HL.out.keep HB7.out)).mono ?_
      rintro e w8 ⟨rfl, hb8⟩
      have HB8 := Lib.hid (HB7.out.trans (hb8.mono HB7.out.size))
      clear hb8
      go_wp2_with fail
      refine wp_region_list_facts rfl (by decide +kernel) (by decide +kernel)
        [Is (.int .i32 n), Is (.string y), Is (.int .u8 c), OneB c, Is (.string ⟨#[UInt8.ofNat c.toNat]⟩), Is (.string (y ++ ⟨#[UInt8.ofNat c.toNat]⟩)), Is (.tuple #[.int .i32 d, .bool true]), Is (.tuple #[.int .i32 d, .bool true]), Is (.int .i32 d), Is (.bool true), Is (.int .i32 d), Is (.bool true)]
        (by repeat (first | exact trivial | refine ⟨Is.stable _, ?_⟩ | refine ⟨OneB.stable _, ?_⟩)) ⟨?_, ?_, ?_, ?_, ?_, ?_, ?_, ?_, ?_, ?_, ?_, ?_, trivial⟩ ?_
      rotate_right
      · intro vs w9 hs9 hk
        simp only [putAll, Act.put, KnowsAll, nthF, Is, List.setIfInBounds_toArray, List.set_cons_zero, List.set_cons_succ, Nat.reduceAdd, List.length_cons, List.length_nil] at hk ⊢
        try simp only [hk]
        have HB9 := Lib.hid (HB8.out.trans (hs9.mono HB8.out.size))
        clear hk hs9
        go_wp2_with fail
        refine (HT2.out _ (HL.out.keep HB9.out)).mono ?_
        rintro e w10 ⟨rfl, hb10⟩
        have HB10 := Lib.hid (HB9.out.trans (hb10.mono HB9.out.size))
        clear hb10
        go_wp2
        go_ret
        exact ⟨rfl, HB10.out⟩
      all_goals
        intro vs w9 hs9 hk
        simp only [putAll, Act.put, Knows, nthF, Is, List.setIfInBounds_toArray, List.set_cons_zero, List.set_cons_succ, Nat.reduceAdd] at hk ⊢
        try simp only [hk]
      · go_wp2
        exact ⟨_, rfl, rfl, Since.refl _⟩
      · have HB9 := Lib.hid (HB8.out.trans (hs9.mono HB8.out.size))
        clear hk hs9
        go_wp2_with fail
        refine (HT.out _ (HL.out.keep HB9.out)).mono ?_
        rintro e w10 ⟨rfl, hb10⟩
        go_wp2
        exact ⟨_, rfl, rfl, hb10⟩
      · go_wp2
        exact ⟨_, rfl, rfl, Since.refl _⟩
      · go_wp2
        exact ⟨_, rfl, ⟨_, rfl, by simp only [World.cell?, heap_last]; rfl, by simp⟩, (Since.refl _).alloc _⟩
      · obtain ⟨b9, hb9, hc9, hl9⟩ : OneB c (vs 3) w9 := hk.1
        have hcv := byte_string w9 b9 c hc9
        simp only [hb9]
        clear hk hc9 hl9 hs9
        go_wp2
        exact ⟨_, rfl, rfl, Since.refl _⟩
      · go_wp2
        exact ⟨_, rfl, rfl, Since.refl _⟩
      · have HB9 := Lib.hid (HB8.out.trans (hs9.mono HB8.out.size))
        clear hk hs9
        go_wp2_with fail
        refine (H5.out _ (HL.out.keep HB9.out)).mono ?_
        rintro e w10 ⟨rfl, hb10⟩
        go_wp2
        exact ⟨_, rfl, rfl, hb10⟩
      all_goals
        go_wp2
        exact ⟨_, rfl, rfl, Since.refl _⟩
    · go_enter Tryd.func3, Tryd.ntmps3
      go_wp2_with fail
      refine (shown_any _).mono ?_
      rintro e w1 ⟨rfl, hb1⟩
      have HB1 := Lib.hid hb1
      clear hb1
      go_wp2_with fail
      refine (HT.out _ (HL.out.keep HB1.out)).mono ?_
      rintro e w2 ⟨rfl, hb2⟩
      have HB2 := Lib.hid (HB1.out.trans (hb2.mono HB1.out.size))
      clear hb2
      go_wp2_with fail
      refine (H1.out _ (HL.out.keep HB2.out)).mono ?_
      rintro e w3 ⟨rfl, hb3⟩
      have HB3 := Lib.hid (HB2.out.trans (hb3.mono HB2.out.size))
      clear hb3
      go_wp2_with fail
      refine (H2.out _ (HL.out.keep HB3.out)).mono ?_
      rintro e w4 ⟨rfl, hb4⟩
      have HB4 := Lib.hid (HB3.out.trans (hb4.mono HB3.out.size))
      clear hb4
      go_wp2_with fail
      refine (HT.out _ (HL.out.keep HB4.out)).mono ?_
      rintro e w5 ⟨rfl, hb5⟩
      have HB5 := Lib.hid (HB4.out.trans (hb5.mono HB4.out.size))
      clear hb5
      go_wp2_with fail
      refine (H3.out _ (HL.out.keep HB5.out)).mono ?_
      rintro e w6 ⟨rfl, hb6⟩
      have HB6 := Lib.hid (HB5.out.trans (hb6.mono HB5.out.size))
      clear hb6
      go_wp2_with fail
      refine (HT.out _ (HL.out.keep HB6.out)).mono ?_
      rintro e w7 ⟨rfl, hb7⟩
      have HB7 := Lib.hid (HB6.out.trans (hb7.mono HB6.out.size))
      clear hb7
      go_wp2_with fail
      refine (H4.out _ (HL.out.keep HB7.out)).mono ?_
      rintro e w8 ⟨rfl, hb8⟩
      have HB8 := Lib.hid (HB7.out.trans (hb8.mono HB7.out.size))
      clear hb8
      go_wp2_with fail
      refine wp_region_list_facts rfl (by decide +kernel) (by decide +kernel)
        [Is (.int .i32 n), Is (.string y), Is (.int .u8 c), OneB c, Is (.string ⟨#[UInt8.ofNat c.toNat]⟩), Is (.string (y ++ ⟨#[UInt8.ofNat c.toNat]⟩)), Is (.tuple #[.int .i32 d, .bool false]), Is (.tuple #[.int .i32 d, .bool false]), Is (.int .i32 d), Is (.bool false), Is (.int .i32 d), Is (.bool false)]
        (by repeat (first | exact trivial | refine ⟨Is.stable _, ?_⟩ | refine ⟨OneB.stable _, ?_⟩)) ⟨?_, ?_, ?_, ?_, ?_, ?_, ?_, ?_, ?_, ?_, ?_, ?_, trivial⟩ ?_
      rotate_right
      · intro vs w9 hs9 hk
        simp only [putAll, Act.put, KnowsAll, nthF, Is, List.setIfInBounds_toArray, List.set_cons_zero, List.set_cons_succ, Nat.reduceAdd, List.length_cons, List.length_nil] at hk ⊢
        try simp only [hk]
        have HB9 := Lib.hid (HB8.out.trans (hs9.mono HB8.out.size))
        clear hk hs9
        go_wp2_with fail
        refine (HT2.out _ (HL.out.keep HB9.out)).mono ?_
        rintro e w10 ⟨rfl, hb10⟩
        have HB10 := Lib.hid (HB9.out.trans (hb10.mono HB9.out.size))
        clear hb10
        go_wp2
        go_ret
        exact ⟨rfl, HB10.out⟩
      all_goals
        intro vs w9 hs9 hk
        simp only [putAll, Act.put, Knows, nthF, Is, List.setIfInBounds_toArray, List.set_cons_zero, List.set_cons_succ, Nat.reduceAdd] at hk ⊢
        try simp only [hk]
      · go_wp2
        exact ⟨_, rfl, rfl, Since.refl _⟩
      · have HB9 := Lib.hid (HB8.out.trans (hs9.mono HB8.out.size))
        clear hk hs9
        go_wp2_with fail
        refine (HT.out _ (HL.out.keep HB9.out)).mono ?_
        rintro e w10 ⟨rfl, hb10⟩
        go_wp2
        exact ⟨_, rfl, rfl, hb10⟩
      · go_wp2
        exact ⟨_, rfl, rfl, Since.refl _⟩
      · go_wp2
        exact ⟨_, rfl, ⟨_, rfl, by simp only [World.cell?, heap_last]; rfl, by simp⟩, (Since.refl _).alloc _⟩
      · obtain ⟨b9, hb9, hc9, hl9⟩ : OneB c (vs 3) w9 := hk.1
        have hcv := byte_string w9 b9 c hc9
        simp only [hb9]
        clear hk hc9 hl9 hs9
        go_wp2
        exact ⟨_, rfl, rfl, Since.refl _⟩
      · go_wp2
        exact ⟨_, rfl, rfl, Since.refl _⟩
      · have HB9 := Lib.hid (HB8.out.trans (hs9.mono HB8.out.size))
        clear hk hs9
        go_wp2_with fail
        refine (H5.out _ (HL.out.keep HB9.out)).mono ?_
        rintro e w10 ⟨rfl, hb10⟩
        go_wp2
        exact ⟨_, rfl, rfl, hb10⟩
      all_goals
        go_wp2
        exact ⟨_, rfl, rfl, Since.refl _⟩
  · rcases HM.out with ⟨rfl, ⟨hc1, hc2⟩, hm2, hm3⟩ | rfl
    · go_enter Tryd.func3, Tryd.ntmps3
      go_wp2_with fail
      refine (shown_any _).mono ?_
      rintro e w1 ⟨rfl, hb1⟩
      have HB1 := Lib.hid hb1
      clear hb1
      go_wp2_with fail
      refine (HT.out _ (HL.out.keep HB1.out)).mono ?_
      rintro e w2 ⟨rfl, hb2⟩
      have HB2 := Lib.hid (HB1.out.trans (hb2.mono HB1.out.size))
      clear hb2
      go_wp2_with fail
      refine (H1.out _ (HL.out.keep HB2.out)).mono ?_
      rintro e w3 ⟨rfl, hb3⟩
      have HB3 := Lib.hid (HB2.out.trans (hb3.mono HB2.out.size))
      clear hb3
      go_wp2_with fail
      refine (H2.out _ (HL.out.keep HB3.out)).mono ?_
      rintro e w4 ⟨rfl, hb4⟩
      have HB4 := Lib.hid (HB3.out.trans (hb4.mono HB3.out.size))
      clear hb4
      go_wp2_with fail
      refine (HT.out _ (HL.out.keep HB4.out)).mono ?_
      rintro e w5 ⟨rfl, hb5⟩
      have HB5 := Lib.hid (HB4.out.trans (hb5.mono HB4.out.size))
      clear hb5
      go_wp2_with fail
      refine (H3.out _ (HL.out.keep HB5.out)).mono ?_
      rintro e w6 ⟨rfl, hb6⟩
      have HB6 := Lib.hid (HB5.out.trans (hb6.mono HB5.out.size))
      clear hb6
      go_wp2_with fail
      refine (HT.out _ (HL.out.keep HB6.out)).mono ?_
      rintro e w7 ⟨rfl, hb7⟩
      have HB7 := Lib.hid (HB6.out.trans (hb7.mono HB6.out.size))
      clear hb7
      go_wp2_with fail
      refine (H4.out _ (HL.out.keep HB7.out)).mono ?_
      rintro e w8 ⟨rfl, hb8⟩
      have HB8 := Lib.hid (HB7.out.trans (hb8.mono HB7.out.size))
      clear hb8
      go_wp2_with fail
      refine wp_region_list_facts rfl (by decide +kernel) (by decide +kernel)
        [Is (.int .i32 n), Is (.string y), Is (.int .u8 c), OneB c, Is (.string ⟨#[UInt8.ofNat c.toNat]⟩), Is (.string (y ++ ⟨#[UInt8.ofNat c.toNat]⟩)), Is (.tuple #[.int .i32 d, .bool true]), Is (.tuple #[.int .i32 d, .bool true]), Is (.int .i32 d), Is (.bool true), Is (.int .i32 d), Is (.bool true)]
        (by repeat (first | exact trivial | refine ⟨Is.stable _, ?_⟩ | refine ⟨OneB.stable _, ?_⟩)) ⟨?_, ?_, ?_, ?_, ?_, ?_, ?_, ?_, ?_, ?_, ?_, ?_, trivial⟩ ?_
      rotate_right
      · intro vs w9 hs9 hk
        simp only [putAll, Act.put, KnowsAll, nthF, Is, List.setIfInBounds_toArray, List.set_cons_zero, List.set_cons_succ, Nat.reduceAdd, List.length_cons, List.length_nil] at hk ⊢
        try simp only [hk]
        have HB9 := Lib.hid (HB8.out.trans (hs9.mono HB8.out.size))
        clear hk hs9
        go_wp2
        go_ret
        exact ⟨rfl, HB9.out⟩
      all_goals
        intro vs w9 hs9 hk
        simp only [putAll, Act.put, Knows, nthF, Is, List.setIfInBounds_toArray, List.set_cons_zero, List.set_cons_succ, Nat.reduceAdd] at hk ⊢
        try simp only [hk]
      · go_wp2
        exact ⟨_, rfl, rfl, Since.refl _⟩
      · have HB9 := Lib.hid (HB8.out.trans (hs9.mono HB8.out.size))
        clear hk hs9
        go_wp2_with fail
        refine (HT.out _ (HL.out.keep HB9.out)).mono ?_
        rintro e w10 ⟨rfl, hb10⟩
        go_wp2
        exact ⟨_, rfl, rfl, hb10⟩
      · go_wp2
        exact ⟨_, rfl, rfl, Since.refl _⟩
      · go_wp2
        exact ⟨_, rfl, ⟨_, rfl, by simp only [World.cell?, heap_last]; rfl, by simp⟩, (Since.refl _).alloc _⟩
      · obtain ⟨b9, hb9, hc9, hl9⟩ : OneB c (vs 3) w9 := hk.1
        have hcv := byte_string w9 b9 c hc9
        simp only [hb9]
        clear hk hc9 hl9 hs9
        go_wp2
        exact ⟨_, rfl, rfl, Since.refl _⟩
      · go_wp2
        exact ⟨_, rfl, rfl, Since.refl _⟩
      · have HB9 := Lib.hid (HB8.out.trans (hs9.mono HB8.out.size))
        clear hk hs9
        go_wp2_with fail
        refine (H5.out _ (HL.out.keep HB9.out)).mono ?_
        rintro e w10 ⟨rfl, hb10⟩
        go_wp2
        exact ⟨_, rfl, rfl, hb10⟩
      all_goals
        go_wp2
        exact ⟨_, rfl, rfl, Since.refl _⟩
    · go_enter Tryd.func3, Tryd.ntmps3
      go_wp2_with fail
      refine (shown_any _).mono ?_
      rintro e w1 ⟨rfl, hb1⟩
      have HB1 := Lib.hid hb1
      clear hb1
      go_wp2_with fail
      refine (HT.out _ (HL.out.keep HB1.out)).mono ?_
      rintro e w2 ⟨rfl, hb2⟩
      have HB2 := Lib.hid (HB1.out.trans (hb2.mono HB1.out.size))
      clear hb2
      go_wp2_with fail
      refine (H1.out _ (HL.out.keep HB2.out)).mono ?_
      rintro e w3 ⟨rfl, hb3⟩
      have HB3 := Lib.hid (HB2.out.trans (hb3.mono HB2.out.size))
      clear hb3
      go_wp2_with fail
      refine (H2.out _ (HL.out.keep HB3.out)).mono ?_
      rintro e w4 ⟨rfl, hb4⟩
      have HB4 := Lib.hid (HB3.out.trans (hb4.mono HB3.out.size))
      clear hb4
      go_wp2_with fail
      refine (HT.out _ (HL.out.keep HB4.out)).mono ?_
      rintro e w5 ⟨rfl, hb5⟩
      have HB5 := Lib.hid (HB4.out.trans (hb5.mono HB4.out.size))
      clear hb5
      go_wp2_with fail
      refine (H3.out _ (HL.out.keep HB5.out)).mono ?_
      rintro e w6 ⟨rfl, hb6⟩
      have HB6 := Lib.hid (HB5.out.trans (hb6.mono HB5.out.size))
      clear hb6
      go_wp2_with fail
      refine (HT.out _ (HL.out.keep HB6.out)).mono ?_
      rintro e w7 ⟨rfl, hb7⟩
      have HB7 := Lib.hid (HB6.out.trans (hb7.mono HB6.out.size))
      clear hb7
      go_wp2_with fail
      refine (H4.out _ (HL.out.keep HB7.out)).mono ?_
      rintro e w8 ⟨rfl, hb8⟩
      have HB8 := Lib.hid (HB7.out.trans (hb8.mono HB7.out.size))
      clear hb8
      go_wp2_with fail
      refine wp_region_list_facts rfl (by decide +kernel) (by decide +kernel)
        [Is (.int .i32 n), Is (.string y), Is (.int .u8 c), OneB c, Is (.string ⟨#[UInt8.ofNat c.toNat]⟩), Is (.string (y ++ ⟨#[UInt8.ofNat c.toNat]⟩)), Is (.tuple #[.int .i32 d, .bool false]), Is (.tuple #[.int .i32 d, .bool false]), Is (.int .i32 d), Is (.bool false), Is (.int .i32 d), Is (.bool false)]
        (by repeat (first | exact trivial | refine ⟨Is.stable _, ?_⟩ | refine ⟨OneB.stable _, ?_⟩)) ⟨?_, ?_, ?_, ?_, ?_, ?_, ?_, ?_, ?_, ?_, ?_, ?_, trivial⟩ ?_
      rotate_right
      · intro vs w9 hs9 hk
        simp only [putAll, Act.put, KnowsAll, nthF, Is, List.setIfInBounds_toArray, List.set_cons_zero, List.set_cons_succ, Nat.reduceAdd, List.length_cons, List.length_nil] at hk ⊢
        try simp only [hk]
        have HB9 := Lib.hid (HB8.out.trans (hs9.mono HB8.out.size))
        clear hk hs9
        go_wp2
        go_ret
        exact ⟨rfl, HB9.out⟩
      all_goals
        intro vs w9 hs9 hk
        simp only [putAll, Act.put, Knows, nthF, Is, List.setIfInBounds_toArray, List.set_cons_zero, List.set_cons_succ, Nat.reduceAdd] at hk ⊢
        try simp only [hk]
      · go_wp2
        exact ⟨_, rfl, rfl, Since.refl _⟩
      · have HB9 := Lib.hid (HB8.out.trans (hs9.mono HB8.out.size))
        clear hk hs9
        go_wp2_with fail
        refine (HT.out _ (HL.out.keep HB9.out)).mono ?_
        rintro e w10 ⟨rfl, hb10⟩
        go_wp2
        exact ⟨_, rfl, rfl, hb10⟩
      · go_wp2
        exact ⟨_, rfl, rfl, Since.refl _⟩
      · go_wp2
        exact ⟨_, rfl, ⟨_, rfl, by simp only [World.cell?, heap_last]; rfl, by simp⟩, (Since.refl _).alloc _⟩
      · obtain ⟨b9, hb9, hc9, hl9⟩ : OneB c (vs 3) w9 := hk.1
        have hcv := byte_string w9 b9 c hc9
        simp only [hb9]
        clear hk hc9 hl9 hs9
        go_wp2
        exact ⟨_, rfl, rfl, Since.refl _⟩
      · go_wp2
        exact ⟨_, rfl, rfl, Since.refl _⟩
      · have HB9 := Lib.hid (HB8.out.trans (hs9.mono HB8.out.size))
        clear hk hs9
        go_wp2_with fail
        refine (H5.out _ (HL.out.keep HB9.out)).mono ?_
        rintro e w10 ⟨rfl, hb10⟩
        go_wp2
        exact ⟨_, rfl, rfl, hb10⟩
      all_goals
        go_wp2
        exact ⟨_, rfl, rfl, Since.refl _⟩
end Go.Proofs.YtkmkfhbekikleaaDoor
