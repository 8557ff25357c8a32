/- jacquardref01.Parse: which word a text is. -/
import Derived.Test.YtkmkfhbekikleaaDoorRefNames
namespace Go.Proofs.YtkmkfhbekikleaaDoor
open Go.RowKit
set_option linter.unusedVariables false

def isDig (c : UInt8) : Bool := decide (48 ≤ c.toNat) && decide (c.toNat ≤ 57)
def valD (l : List UInt8) : Nat := l.foldl (fun a c => 10 * a + (c.toNat - 48)) 0
theorem valD_snoc (l : List UInt8) (c : UInt8) : valD (l ++ [c]) = 10 * valD l + (c.toNat - 48) := by unfold valD; rw [List.foldl_append]; rfl
theorem fold_lt : ∀ (l : List UInt8) (a n : Nat), a < 10 ^ n → l.all isDig = true → l.foldl (fun a c => 10 * a + (c.toNat - 48)) a < 10 ^ (n + l.length)
  | [], a, n, h, _ => by simpa using h
  | c :: r, a, n, h, hd => by
    rw [List.all_cons, Bool.and_eq_true] at hd
    have h2 := hd.1
    unfold isDig at h2
    simp only [Bool.and_eq_true, decide_eq_true_eq] at h2
    rw [List.foldl_cons, List.length_cons, show n + (r.length + 1) = (n + 1) + r.length from by omega]
    exact fold_lt r _ (n + 1) (by rw [Nat.pow_succ]; omega) hd.2
theorem valD_lt (l : List UInt8) (h : l.all isDig = true) : valD l < 10 ^ l.length := by
  have := fold_lt l 0 0 (by simp) h
  simpa [valD] using this
theorem valD_digits (u : Nat) : valD (Lib.decDigits u) = u := by
  induction u using Nat.strongRecOn with
  | ind u ih =>
    by_cases h : u < 10
    · rw [decDigits_small h]
      show 10 * 0 + ((UInt8.ofNat (48 + u)).toNat - 48) = u
      rw [digit_nat h]; omega
    · rw [decDigits_big h, valD_snoc, ih (u / 10) (by omega), digit_nat (by omega)]
      omega
theorem digits_all (u : Nat) : (Lib.decDigits u).all isDig = true := by
  rw [List.all_eq_true]
  intro c hc
  have := decDigits_all u c hc
  unfold isDig
  simp; omega
theorem digits_len (u : Nat) (h : u ≤ 2147483648) : (Lib.decDigits u).length ≤ 10 := by
  have h1 : ∀ (k u : Nat), u < 10 ^ (k + 1) → (Lib.decDigits u).length ≤ k + 1 := by
    intro k
    induction k with
    | zero => intro u hu; rw [decDigits_small (by omega)]; simp
    | succ k ih =>
      intro u hu
      by_cases h : u < 10
      · rw [decDigits_small h]; simp
      · rw [decDigits_big h, List.length_append, List.length_singleton]
        have := ih (u / 10) (by rw [Nat.pow_succ] at hu; omega)
        omega
  exact h1 9 u (by omega)
/-- What a text that is a word looks like. -/
theorem wparse_form {l d : List UInt8} {neg : Bool} (hf : l = if neg then 45 :: d else d) (hne : neg = false → d.head? ≠ some 45) {v : Int} (h : wparse l = some v) :
    d = Lib.decDigits v.natAbs ∧ v = (if neg then -(v.natAbs : Int) else v.natAbs) ∧ v.natAbs ≤ 2147483648 := by
  have e := wparse_text h
  have b := wparse_32 h
  unfold In32W at b
  cases neg with
  | true =>
    simp only [if_true] at hf
    by_cases hv : v < 0
    · rw [itoa_neg hv, hf] at e
      injection e with _ e
      exact ⟨e.symm, by simp; omega, by omega⟩
    · rw [itoa_pos hv, hf] at e
      have := decDigits_all v.toNat 45 (by rw [e]; exact List.mem_cons_self)
      exact absurd this (by decide)
  | false =>
    simp only [Bool.false_eq_true, if_false] at hf
    by_cases hv : v < 0
    · rw [itoa_neg hv, hf] at e
      exact absurd (by rw [← e]; rfl) (hne rfl)
    · rw [itoa_pos hv, hf] at e
      have e2 : v.toNat = v.natAbs := by omega
      rw [e2] at e
      exact ⟨e.symm, by simp; omega, by omega⟩
/-- A byte that is no digit. -/
theorem wparse_odd {l d : List UInt8} {neg : Bool} (hf : l = if neg then 45 :: d else d) (hne : neg = false → d.head? ≠ some 45) {k : Nat} {c : UInt8} (hk : d[k]? = some c) (hc : isDig c = false) : wparse l = none := by
  cases h : wparse l with
  | none => rfl
  | some v =>
    obtain ⟨e, _⟩ := wparse_form hf hne h
    have := digits_all v.natAbs
    rw [← e, List.all_eq_true] at this
    have := this c (List.mem_of_getElem? hk)
    rw [hc] at this; cases this
/-- A sign, and what stands behind it. -/
def FormP (neg : Bool) (l d : List UInt8) : Prop := (l = if neg then 45 :: d else d) ∧ (neg = false → d.head? ≠ some 45)
/-- The number of the first eleven digits, or fewer. -/
def signed (neg : Bool) (x : Nat) : Int := if neg then -(x : Int) else x
theorem wparse_not {l d : List UInt8} {neg : Bool} (hf : l = if neg then 45 :: d else d) (hne : neg = false → d.head? ≠ some 45) {k : Nat} (hk : d.length ≤ k ∨ k = 11) (hx : ¬ (In32W (signed neg (valD (d.take k))) ∧ Lib.itoa (signed neg (valD (d.take k))) = l)) : wparse l = none := by
  cases h : wparse l with
  | none => rfl
  | some v =>
    exfalso
    obtain ⟨e, e2, e3⟩ := wparse_form hf hne h
    have hl := digits_len v.natAbs e3
    rw [← e] at hl
    have ht : d.take k = d := List.take_of_length_le (by omega)
    rw [ht] at hx
    have hv : signed neg (valD d) = v := by
      unfold signed
      rw [e, valD_digits]; exact e2.symm
    rw [hv] at hx
    exact hx ⟨wparse_32 h, wparse_text h⟩
theorem wparse_is {l : List UInt8} {x : Int} (h1 : In32W x) (h2 : Lib.itoa x = l) : wparse l = some x := by rw [← h2]; exact wparse_itoa h1

theorem take_next (D : ByteArray) {k : Nat} (h : k < D.size) : D.data.toList.take (k + 1) = D.data.toList.take k ++ [D[k]] := by
  rw [List.take_succ_eq_append_getElem (by simpa using h)]; rfl
/-- What the loop over the digits knows. -/
def DigsP (D : ByteArray) (k : Nat) (x : Int) : Prop := k ≤ D.size ∧ k ≤ 11 ∧ x = (valD (D.data.toList.take k) : Nat) ∧ (D.data.toList.take k).all isDig = true
theorem DigsP.bound {D : ByteArray} {k : Nat} {x : Int} (h : DigsP D k x) : 0 ≤ x ∧ x < 100000000000 := by
  obtain ⟨h1, h2, rfl, h4⟩ := h
  have h5 := valD_lt _ h4
  have h6 : (D.data.toList.take k).length ≤ k := List.length_take_le _ _
  have h7 : 10 ^ (D.data.toList.take k).length ≤ 10 ^ 11 := Nat.pow_le_pow_right (by decide) (by omega)
  omega
theorem DigsP.next {D : ByteArray} {k : Nat} {x : Int} (h : DigsP D k x) (hk : k < D.size) (h11 : k < 11) (hc : isDig D[k] = true) : DigsP D (k + 1) (10 * x + ((D[k].toNat : Int) - 48)) := by
  obtain ⟨h1, h2, rfl, h4⟩ := h
  have h5 : 48 ≤ D[k].toNat := by unfold isDig at hc; simp at hc; omega
  refine ⟨by omega, by omega, ?_, ?_⟩
  · rw [take_next D hk, valD_snoc]; omega
  · rw [take_next D hk, List.all_append, h4]; simpa using hc

set_option maxHeartbeats 4000000 in
set_option maxRecDepth 100000 in
theorem rparse_neg (s D : ByteArray) (w : World) (hs : s.size ≤ 1000) (h0 : 0 < s.size) (hm : (s[0].toNat : Int) = 45) (hD : s.extract 1 s.size = D) :
    Calls Tryd.prog 11 #[.string s] w (ParseP s.data.toList w) := by
  have hsd : D.size + 1 = s.size := by rw [← hD, ByteArray.size_extract]; omega
  have hlt : D.size < s.size := by omega
  have hq : ((s[0].toNat : Int) == 45) = true := by simpa using hm
  have hf : s.data.toList = (if true then 45 :: D.data.toList else D.data.toList) := by
    rw [if_pos rfl, ← hD]
    have h1 : s.data.toList.length = s.size := Array.length_toList
    have h2 : (s.extract 1 s.size).data.toList = s.data.toList.drop 1 := by
      rw [ByteArray.data_extract, Array.toList_extract, List.extract_eq_take_drop, List.take_of_length_le]
      rw [List.length_drop, h1]; exact Nat.le_refl _
    rw [h2]
    have h3 : s.data.toList[0]? = some s[0] := by rw [List.getElem?_eq_getElem (by omega)]; rfl
    have h4 : s[0] = 45 := by apply UInt8.toNat_inj.1; show s[0].toNat = 45; omega
    cases hl : s.data.toList with
    | nil => rw [hl] at h1; simp at h1; omega
    | cons c r => rw [hl] at h3; simp at h3; rw [h3, h4]; rfl
  have HF := Lib.hid (show FormP true s.data.toList D.data.toList from And.intro hf (show true = false → D.data.toList.head? ≠ some 45 from fun e => by cases e))
  have HD := Lib.hid hD
  have HS := Lib.hid hsd
  clear hD hsd hm hf
  go_enter Tryd.func11, Tryd.ntmps11
  go_wp2_with fail
  rw [HD.out]
  go_loop [5, 6] (fun x i => ∃ (k : Nat) (z : Int), x = .int .i64 z ∧ i = .int .i64 k ∧ DigsP D k z) (fun _ i => 11 - (intOf i).toNat)
  case atStart => exact ⟨0, 0, rfl, rfl, Nat.zero_le _, Nat.zero_le _, rfl, rfl⟩
  case round =>
    obtain ⟨k, x, rfl, rfl, hP⟩ := hrel
    obtain ⟨hx0, hx1⟩ := hP.bound
    have hk1 := hP.1
    have hk2 := hP.2.1
    have HP0 := Lib.hid hP
    have HX := Lib.hid (show signed true (valD (D.data.toList.take k)) = -x from by unfold signed; rw [hP.2.2.1]; rfl)
    have HK0 := Lib.hid (show D.data.toList.length = D.size from Array.length_toList)
    clear hP
    by_cases hlt2 : k < D.size
    · by_cases h11 : k < 11
      · by_cases hc : isDig D[k] = true
        · have hn := HP0.out.next hlt2 h11 hc
          have hc1 : 48 ≤ (D[k].toNat : Int) := by unfold isDig at hc; simp at hc; omega
          have hc2 : (D[k].toNat : Int) ≤ 57 := by unfold isDig at hc; simp at hc; omega
          have HN := Lib.hid hn
          clear hn hc
          go_wp2
          go_round
          case rel => exact ⟨k + 1, _, rfl, by go_num, HN.out⟩
          case measure => simp [intOf]; omega
        · have hcf : isDig D[k] = false := by simpa using hc
          have HP := Lib.hid (parse_none (l := s.data.toList) (wparse_odd HF.out.1 HF.out.2 (k := k) (c := D[k]) (by rw [List.getElem?_eq_getElem (by rw [HK0.out]; exact hlt2)]; rfl) hcf) w w (Below.refl _ _))
          have hd : (D[k].toNat : Int) < 48 ∨ 57 < (D[k].toNat : Int) := by
            unfold isDig at hcf
            rw [Bool.and_eq_false_iff, decide_eq_false_iff_not, decide_eq_false_iff_not] at hcf
            omega
          clear hc hcf
          rcases hd with hd | hd
          · go_wp2
            go_ret2
            exact HP.out
          · have hd2 : 48 ≤ (D[k].toNat : Int) := by omega
            go_wp2
            go_ret2
            exact HP.out
      · obtain rfl : 11 = k := by omega
        have HK := Lib.hid (show D.data.toList.length ≤ 11 ∨ 11 = 11 from .inr rfl)
        clear h11 hk1 hk2
        by_cases hr : -2147483648 ≤ -x ∧ -x ≤ 2147483647
        · obtain ⟨hr1, hr2⟩ := hr
          obtain ⟨y, hy⟩ : ∃ y : ByteArray, (⟨(Lib.itoa (-x)).toArray⟩ : ByteArray) = y := ⟨_, rfl⟩
          have HT := Lib.hid (rtext_any (-x) w hr1 hr2)
          rw [hy] at HT
          have HYY := Lib.hid hy
          clear hy
          by_cases he : y = s
          · have hq2 : (y.toList == s.toList) = true := (Lib.bytes_beq_iff y s).2 he
            have HP := Lib.hid (parse_some (wparse_is (l := s.data.toList) (x := -x) ⟨hr1, hr2⟩ (by rw [← he, ← HYY.out])) w w (Below.refl _ _))
            clear he
            go_wp2_with fail
            refine HT.out.mono ?_
            rintro e w2 ⟨rfl, rfl⟩
            go_wp2
            go_ret2
            exact HP.out
          · have hq2 : (y.toList == s.toList) = false := (Lib.bytes_beq_false_iff y s).2 he
            have HP := Lib.hid (parse_none (l := s.data.toList) (wparse_not HF.out.1 HF.out.2 HK.out (fun h => he (bytes_ext (by rw [← HYY.out]; exact HX.out ▸ h.2)))) w w (Below.refl _ _))
            clear he
            go_wp2_with fail
            refine HT.out.mono ?_
            rintro e w2 ⟨rfl, rfl⟩
            go_wp2
            go_ret2
            exact HP.out
        · have HP := Lib.hid (parse_none (l := s.data.toList) (wparse_not HF.out.1 HF.out.2 HK.out (fun h => hr (HX.out ▸ h.1))) w w (Below.refl _ _))
          by_cases hlo : -x < -2147483648
          · clear hr
            go_wp2
            all_goals (go_ret2; exact HP.out)
          · have hhi : 2147483648 ≤ -x := by omega
            clear hr
            go_wp2
            all_goals (go_ret2; exact HP.out)
    · obtain rfl : D.size = k := by omega
      have HK := Lib.hid (show D.data.toList.length ≤ D.size ∨ D.size = 11 from .inl (by rw [HK0.out]; exact Nat.le_refl _))
      clear hlt2 hk1
      by_cases hr : -2147483648 ≤ -x ∧ -x ≤ 2147483647
      · obtain ⟨hr1, hr2⟩ := hr
        obtain ⟨y, hy⟩ : ∃ y : ByteArray, (⟨(Lib.itoa (-x)).toArray⟩ : ByteArray) = y := ⟨_, rfl⟩
        have HT := Lib.hid (rtext_any (-x) w hr1 hr2)
        rw [hy] at HT
        have HYY := Lib.hid hy
        clear hy
        by_cases he : y = s
        · have hq2 : (y.toList == s.toList) = true := (Lib.bytes_beq_iff y s).2 he
          have HP := Lib.hid (parse_some (wparse_is (l := s.data.toList) (x := -x) ⟨hr1, hr2⟩ (by rw [← he, ← HYY.out])) w w (Below.refl _ _))
          clear he
          go_wp2_with fail
          refine HT.out.mono ?_
          rintro e w2 ⟨rfl, rfl⟩
          go_wp2
          go_ret2
          exact HP.out
        · have hq2 : (y.toList == s.toList) = false := (Lib.bytes_beq_false_iff y s).2 he
          have HP := Lib.hid (parse_none (l := s.data.toList) (wparse_not HF.out.1 HF.out.2 HK.out (fun h => he (bytes_ext (by rw [← HYY.out]; exact HX.out ▸ h.2)))) w w (Below.refl _ _))
          clear he
          go_wp2_with fail
          refine HT.out.mono ?_
          rintro e w2 ⟨rfl, rfl⟩
          go_wp2
          go_ret2
          exact HP.out
      · have HP := Lib.hid (parse_none (l := s.data.toList) (wparse_not HF.out.1 HF.out.2 HK.out (fun h => hr (HX.out ▸ h.1))) w w (Below.refl _ _))
        by_cases hlo : -x < -2147483648
        · clear hr
          go_wp2
          all_goals (go_ret2; exact HP.out)
        · have hhi : 2147483648 ≤ -x := by omega
          clear hr
          go_wp2
          all_goals (go_ret2; exact HP.out)

set_option maxHeartbeats 4000000 in
set_option maxRecDepth 100000 in
theorem rparse_pos (s : ByteArray) (w : World) (hs : s.size ≤ 1000) (h0 : 0 < s.size) (hm : (s[0].toNat : Int) ≠ 45) :
    Calls Tryd.prog 11 #[.string s] w (ParseP s.data.toList w) := by
  have hq : ((s[0].toNat : Int) == 45) = false := by simpa using hm
  have hne : s.data.toList.head? ≠ some 45 := by
    intro e
    have h1 : s.data.toList.length = s.size := Array.length_toList
    have h3 : s.data.toList[0]? = some s[0] := by rw [List.getElem?_eq_getElem (by omega)]; rfl
    rw [← List.head?_eq_getElem?, e] at h3
    injection h3 with h3
    apply hm; rw [← h3]; rfl
  have HF := Lib.hid (show FormP false s.data.toList s.data.toList from And.intro rfl (fun (_ : false = false) => hne))
  clear hm hne
  go_enter Tryd.func11, Tryd.ntmps11
  go_wp2_with fail
  skip
  go_loop [5, 6] (fun x i => ∃ (k : Nat) (z : Int), x = .int .i64 z ∧ i = .int .i64 k ∧ DigsP s k z) (fun _ i => 11 - (intOf i).toNat)
  case atStart => exact ⟨0, 0, rfl, rfl, Nat.zero_le _, Nat.zero_le _, rfl, rfl⟩
  case round =>
    obtain ⟨k, x, rfl, rfl, hP⟩ := hrel
    obtain ⟨hx0, hx1⟩ := hP.bound
    have hk1 := hP.1
    have hk2 := hP.2.1
    have HP0 := Lib.hid hP
    have HX := Lib.hid (show signed false (valD (s.data.toList.take k)) = x from by unfold signed; rw [hP.2.2.1]; rfl)
    have HK0 := Lib.hid (show s.data.toList.length = s.size from Array.length_toList)
    clear hP
    by_cases hlt2 : k < s.size
    · by_cases h11 : k < 11
      · by_cases hc : isDig s[k] = true
        · have hn := HP0.out.next hlt2 h11 hc
          have hc1 : 48 ≤ (s[k].toNat : Int) := by unfold isDig at hc; simp at hc; omega
          have hc2 : (s[k].toNat : Int) ≤ 57 := by unfold isDig at hc; simp at hc; omega
          have HN := Lib.hid hn
          clear hn hc
          go_wp2
          go_round
          case rel => exact ⟨k + 1, _, rfl, by go_num, HN.out⟩
          case measure => simp [intOf]; omega
        · have hcf : isDig s[k] = false := by simpa using hc
          have HP := Lib.hid (parse_none (l := s.data.toList) (wparse_odd HF.out.1 HF.out.2 (k := k) (c := s[k]) (by rw [List.getElem?_eq_getElem (by rw [HK0.out]; exact hlt2)]; rfl) hcf) w w (Below.refl _ _))
          have hd : (s[k].toNat : Int) < 48 ∨ 57 < (s[k].toNat : Int) := by
            unfold isDig at hcf
            rw [Bool.and_eq_false_iff, decide_eq_false_iff_not, decide_eq_false_iff_not] at hcf
            omega
          clear hc hcf
          rcases hd with hd | hd
          · go_wp2
            go_ret2
            exact HP.out
          · have hd2 : 48 ≤ (s[k].toNat : Int) := by omega
            go_wp2
            go_ret2
            exact HP.out
      · obtain rfl : 11 = k := by omega
        have HK := Lib.hid (show s.data.toList.length ≤ 11 ∨ 11 = 11 from .inr rfl)
        clear h11 hk1 hk2
        by_cases hr : -2147483648 ≤ x ∧ x ≤ 2147483647
        · obtain ⟨hr1, hr2⟩ := hr
          obtain ⟨y, hy⟩ : ∃ y : ByteArray, (⟨(Lib.itoa (x)).toArray⟩ : ByteArray) = y := ⟨_, rfl⟩
          have HT := Lib.hid (rtext_any (x) w hr1 hr2)
          rw [hy] at HT
          have HYY := Lib.hid hy
          clear hy
          by_cases he : y = s
          · have hq2 : (y.toList == s.toList) = true := (Lib.bytes_beq_iff y s).2 he
            have HP := Lib.hid (parse_some (wparse_is (l := s.data.toList) (x := x) ⟨hr1, hr2⟩ (by rw [← he, ← HYY.out])) w w (Below.refl _ _))
            clear he
            go_wp2_with fail
            refine HT.out.mono ?_
            rintro e w2 ⟨rfl, rfl⟩
            go_wp2
            go_ret2
            exact HP.out
          · have hq2 : (y.toList == s.toList) = false := (Lib.bytes_beq_false_iff y s).2 he
            have HP := Lib.hid (parse_none (l := s.data.toList) (wparse_not HF.out.1 HF.out.2 HK.out (fun h => he (bytes_ext (by rw [← HYY.out]; exact HX.out ▸ h.2)))) w w (Below.refl _ _))
            clear he
            go_wp2_with fail
            refine HT.out.mono ?_
            rintro e w2 ⟨rfl, rfl⟩
            go_wp2
            go_ret2
            exact HP.out
        · have HP := Lib.hid (parse_none (l := s.data.toList) (wparse_not HF.out.1 HF.out.2 HK.out (fun h => hr (HX.out ▸ h.1))) w w (Below.refl _ _))
          by_cases hlo : x < -2147483648
          · clear hr
            go_wp2
            all_goals (go_ret2; exact HP.out)
          · have hhi : 2147483648 ≤ x := by omega
            clear hr
            go_wp2
            all_goals (go_ret2; exact HP.out)
    · obtain rfl : s.size = k := by omega
      have HK := Lib.hid (show s.data.toList.length ≤ s.size ∨ s.size = 11 from .inl (by rw [HK0.out]; exact Nat.le_refl _))
      clear hlt2 hk1
      by_cases hr : -2147483648 ≤ x ∧ x ≤ 2147483647
      · obtain ⟨hr1, hr2⟩ := hr
        obtain ⟨y, hy⟩ : ∃ y : ByteArray, (⟨(Lib.itoa (x)).toArray⟩ : ByteArray) = y := ⟨_, rfl⟩
        have HT := Lib.hid (rtext_any (x) w hr1 hr2)
        rw [hy] at HT
        have HYY := Lib.hid hy
        clear hy
        by_cases he : y = s
        · have hq2 : (y.toList == s.toList) = true := (Lib.bytes_beq_iff y s).2 he
          have HP := Lib.hid (parse_some (wparse_is (l := s.data.toList) (x := x) ⟨hr1, hr2⟩ (by rw [← he, ← HYY.out])) w w (Below.refl _ _))
          clear he
          go_wp2_with fail
          refine HT.out.mono ?_
          rintro e w2 ⟨rfl, rfl⟩
          go_wp2
          go_ret2
          exact HP.out
        · have hq2 : (y.toList == s.toList) = false := (Lib.bytes_beq_false_iff y s).2 he
          have HP := Lib.hid (parse_none (l := s.data.toList) (wparse_not HF.out.1 HF.out.2 HK.out (fun h => he (bytes_ext (by rw [← HYY.out]; exact HX.out ▸ h.2)))) w w (Below.refl _ _))
          clear he
          go_wp2_with fail
          refine HT.out.mono ?_
          rintro e w2 ⟨rfl, rfl⟩
          go_wp2
          go_ret2
          exact HP.out
      · have HP := Lib.hid (parse_none (l := s.data.toList) (wparse_not HF.out.1 HF.out.2 HK.out (fun h => hr (HX.out ▸ h.1))) w w (Below.refl _ _))
        by_cases hlo : x < -2147483648
        · clear hr
          go_wp2
          all_goals (go_ret2; exact HP.out)
        · have hhi : 2147483648 ≤ x := by omega
          clear hr
          go_wp2
          all_goals (go_ret2; exact HP.out)

set_option maxHeartbeats 4000000 in
set_option maxRecDepth 100000 in
theorem rparse_empty (s : ByteArray) (w : World) (h0 : s.size = 0) :
    Calls Tryd.prog 11 #[.string s] w (ParseP s.data.toList w) := by
  obtain rfl : s = ⟨#[]⟩ := by
    apply ByteArray.ext
    exact Array.eq_empty_of_size_eq_zero h0
  have HP := Lib.hid (parse_none (l := (⟨#[]⟩ : ByteArray).data.toList) rfl w w (Below.refl _ _))
  obtain ⟨y, hy⟩ : ∃ y : ByteArray, (⟨(Lib.itoa 0).toArray⟩ : ByteArray) = y := ⟨_, rfl⟩
  have HT := Lib.hid (rtext_any 0 w (by decide) (by decide))
  rw [hy] at HT
  have hl : y.toList = [48] := by rw [← hy]; decide +kernel
  have hq1 : y.toList.isEmpty = false := by rw [hl]; rfl
  have hq2 : (y.toList == []) = false := by rw [hl]; rfl
  have hq3 : (y.toList == (⟨#[]⟩ : ByteArray).toList) = false := by rw [hl]; decide +kernel
  clear h0 hy hl
  go_enter Tryd.func11, Tryd.ntmps11
  go_wp2_with fail
  go_loop [5, 6] (fun x i => x = .int .i64 0 ∧ i = .int .i64 0) (fun _ _ => 0)
  case atStart => exact ⟨rfl, rfl⟩
  case round =>
    obtain ⟨rfl, rfl⟩ := hrel
    go_wp2_with fail
    refine HT.out.mono ?_
    rintro e w2 ⟨rfl, rfl⟩
    go_wp2
    all_goals (go_ret2; exact HP.out)
theorem rparse_any (s : ByteArray) (w : World) (hs : s.size ≤ 1000) : Calls Tryd.prog 11 #[.string s] w (ParseP s.data.toList w) := by
  by_cases h0 : s.size = 0
  · exact rparse_empty s w h0
  · by_cases hm : (s[0].toNat : Int) = 45
    · exact rparse_neg s _ w hs (by omega) hm rfl
    · exact rparse_pos s w hs (by omega) hm
end Go.Proofs.YtkmkfhbekikleaaDoor
