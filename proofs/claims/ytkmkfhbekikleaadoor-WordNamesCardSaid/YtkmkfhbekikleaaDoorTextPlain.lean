/- Plain: a word's decimal text, and what of a text is a word. -/
import Derived.Lib.ItoaNum
import Derived.Lib.ParseIntB
namespace Go.Proofs.YtkmkfhbekikleaaDoor
open Go.Lib

theorem decDigits_small {u : Nat} (h : u < 10) : decDigits u = [UInt8.ofNat (48 + u)] := by rw [decDigits, dif_pos h]
theorem decDigits_big {u : Nat} (h : ¬ u < 10) : decDigits u = decDigits (u / 10) ++ [UInt8.ofNat (48 + u % 10)] := by rw [decDigits, dif_neg h]
theorem digit_nat {d : Nat} (h : d < 10) : (UInt8.ofNat (48 + d)).toNat = 48 + d := by
  rw [UInt8.toNat_ofNat']
  omega
theorem decDigits_ne (u : Nat) : decDigits u ≠ [] := by
  by_cases h : u < 10
  · rw [decDigits_small h]; simp
  · rw [decDigits_big h]; simp
/-- All of them are digits. -/
theorem decDigits_all (u : Nat) : ∀ c ∈ decDigits u, 48 ≤ c.toNat ∧ c.toNat ≤ 57 := by
  induction u using Nat.strongRecOn with
  | ind u ih =>
    intro c hc
    by_cases h : u < 10
    · rw [decDigits_small h] at hc
      obtain rfl := List.mem_singleton.1 hc
      rw [digit_nat h]; omega
    · rw [decDigits_big h] at hc
      rcases List.mem_append.1 hc with hc | hc
      · exact ih (u / 10) (by omega) c hc
      · obtain rfl := List.mem_singleton.1 hc
        rw [digit_nat (by omega)]; omega
/-- The first of them is no 0, but where the number is one digit. -/
theorem decDigits_head (u : Nat) (h : 10 ≤ u) : ∃ c r, decDigits u = c :: r ∧ 49 ≤ c.toNat := by
  induction u using Nat.strongRecOn with
  | ind u ih =>
    rw [decDigits_big (by omega)]
    by_cases h2 : u / 10 < 10
    · rw [decDigits_small h2]
      exact ⟨_, _, rfl, by rw [digit_nat h2]; omega⟩
    · obtain ⟨c, r, e, hc⟩ := ih (u / 10) (by omega) (by omega)
      exact ⟨c, _, by rw [e]; rfl, hc⟩
theorem parse_snoc (M : Nat) : ∀ (l : List UInt8) (acc u : Nat) (c : UInt8), parseUintM M acc l = .ok u → parseUintM M acc (l ++ [c]) = parseUintM M u [c]
  | [], acc, u, c, h => by
    unfold parseUintM at h
    injection h with h
    rw [h]; rfl
  | x :: r, acc, u, c, h => by
    rw [List.cons_append]
    unfold parseUintM at h ⊢
    by_cases h1 : 48 ≤ x.toNat ∧ x.toNat ≤ 57
    · rw [if_pos h1] at h ⊢
      by_cases h2 : 1844674407370955162 ≤ acc
      · rw [if_pos h2] at h; cases h
      · rw [if_neg h2] at h ⊢
        by_cases h3 : M < acc * 10 + (x.toNat - 48)
        · rw [if_pos h3] at h; cases h
        · rw [if_neg h3] at h ⊢
          exact parse_snoc M r _ u c h
    · rw [if_neg h1] at h; cases h
/-- The digits of a number spell it. -/
theorem parse_digits (M : Nat) (hM : M < 10000000000) (u : Nat) : u ≤ M → parseUintM M 0 (decDigits u) = .ok u := by
  induction u using Nat.strongRecOn with
  | ind u ih =>
    intro hu
    by_cases h : u < 10
    · rw [decDigits_small h]
      unfold parseUintM
      rw [digit_nat h, if_pos (by omega), if_neg (by omega), if_neg (by omega)]
      unfold parseUintM
      congr 1; omega
    · rw [decDigits_big h, parse_snoc M _ _ _ _ (ih (u / 10) (by omega) (by omega))]
      unfold parseUintM
      rw [digit_nat (by omega), if_pos (by omega), if_neg (by omega), if_neg (by omega)]
      unfold parseUintM
      congr 1; omega
def In32W (n : Int) : Prop := -2147483648 ≤ n ∧ n ≤ 2147483647
theorem itoa_neg {n : Int} (h : n < 0) : itoa n = 45 :: decDigits n.natAbs := by unfold itoa; rw [if_pos h]
theorem itoa_pos {n : Int} (h : ¬ n < 0) : itoa n = decDigits n.toNat := by unfold itoa; rw [if_neg h]
theorem parse_itoa {n : Int} (h : In32W n) : parseIntB 32 (itoa n) = .ok n := by
  obtain ⟨h1, h2⟩ := h
  by_cases hn : n < 0
  · rw [itoa_neg hn]
    have e : parseUintB 32 (decDigits n.natAbs) = .ok n.natAbs := by
      unfold parseUintB
      rw [if_neg (decDigits_ne _)]
      exact parse_digits _ (by decide) _ (by omega)
    unfold parseIntB
    have h45 : (45 : UInt8).toNat = 45 := rfl
    dsimp only
    rw [h45, if_pos (.inr rfl), e]
    dsimp only
    rw [if_neg (by simp), if_neg (by omega), if_pos rfl]
    congr 1; omega
  · rw [itoa_pos hn]
    have e : parseUintB 32 (decDigits n.toNat) = .ok n.toNat := by
      unfold parseUintB
      rw [if_neg (decDigits_ne _)]
      exact parse_digits _ (by decide) _ (by omega)
    have hall := decDigits_all n.toNat
    generalize decDigits n.toNat = l at *
    cases l with
    | nil => cases e
    | cons c r =>
      have hc := hall c List.mem_cons_self
      unfold parseIntB
      dsimp only
      rw [if_neg (by omega), e]
      dsimp only
      rw [if_neg (by omega), if_neg (by omega), if_neg (by omega)]
      congr 1; omega
theorem itoa_inj {a b : Int} (ha : In32W a) (hb : In32W b) (h : itoa a = itoa b) : a = b := by
  have h1 := parse_itoa ha
  rw [h, parse_itoa hb] at h1
  injection h1 with h1
  exact h1.symm
/-- What a text is, as a word. -/
def wparse (l : List UInt8) : Option Int := match parseIntB 32 l with
  | .ok v => if itoa v = l then some v else none
  | _ => none
theorem wparse_itoa {n : Int} (h : In32W n) : wparse (itoa n) = some n := by
  unfold wparse
  rw [parse_itoa h]
  dsimp only
  rw [if_pos rfl]
theorem wparse_text {l : List UInt8} {v : Int} (h : wparse l = some v) : itoa v = l := by
  unfold wparse at h
  split at h
  · split at h
    · rename_i h2; injection h with h; subst h; exact h2
    · cases h
  · cases h
theorem parse_32 {l : List UInt8} {v : Int} (hx : parseIntB 32 l = .ok v) : In32W v := by
  unfold parseIntB at hx
  split at hx
  · cases hx
  · dsimp only at hx
    split at hx
    · cases hx
    · cases hx
    · split at hx
      · cases hx
      · split at hx
        · cases hx
        · injection hx with hx
          subst hx
          unfold In32W
          split <;> omega
theorem wparse_32 {l : List UInt8} {v : Int} (h : wparse l = some v) : In32W v := by
  unfold wparse at h
  split at h
  · rename_i x hx
    split at h
    · injection h with h
      subst h
      unfold parseIntB at hx
      split at hx
      · cases hx
      · dsimp only at hx
        split at hx
        · cases hx
        · cases hx
        · split at hx
          · cases hx
          · split at hx
            · cases hx
            · injection hx with hx
              subst hx
              unfold In32W
              split <;> omega
    · cases h
  · cases h
theorem itoa_head (n : Int) : ∃ c r, itoa n = c :: r ∧ (c.toNat = 45 ∨ 48 ≤ c.toNat ∧ c.toNat ≤ 57) := by
  by_cases hn : n < 0
  · rw [itoa_neg hn]; exact ⟨_, _, rfl, .inl rfl⟩
  · rw [itoa_pos hn]
    have hall := decDigits_all n.toNat
    have hne := decDigits_ne n.toNat
    generalize decDigits n.toNat = l at *
    cases l with
    | nil => exact absurd rfl hne
    | cons c r => exact ⟨c, r, rfl, .inr (hall c List.mem_cons_self)⟩
theorem itoa_ne (n : Int) : itoa n ≠ [] := by
  obtain ⟨c, r, e, _⟩ := itoa_head n
  rw [e]; simp
/-- No text has a 0 ahead of a number. -/
theorem wparse_led (n : Int) : wparse (48 :: itoa n) = none := by
  cases h : wparse (48 :: itoa n) with
  | none => rfl
  | some v =>
    exfalso
    have e := wparse_text h
    by_cases hn : v < 0
    · rw [itoa_neg hn] at e
      injection e with e _
      exact absurd e (by decide)
    · rw [itoa_pos hn] at e
      by_cases h10 : v.toNat < 10
      · rw [decDigits_small h10] at e
        injection e with _ e
        exact itoa_ne n e.symm
      · obtain ⟨c, r, e2, hc⟩ := decDigits_head v.toNat (by omega)
        rw [e2] at e
        injection e with e _
        rw [e] at hc
        exact absurd hc (by decide)
theorem wparse_signed (n : Int) : wparse (43 :: itoa n) = none := by
  cases h : wparse (43 :: itoa n) with
  | none => rfl
  | some v =>
    exfalso
    have e := wparse_text h
    obtain ⟨c, r, e2, hc⟩ := itoa_head v
    rw [e2] at e
    injection e with e _
    rw [e] at hc
    exact absurd hc (by decide)
theorem snoc_eq {α : Type} {a b : List α} {x y : α} (h : a ++ [x] = b ++ [y]) : a = b ∧ x = y := by
  have := List.append_inj' h rfl
  exact ⟨this.1, by simpa using this.2⟩
/-- A digit behind a text: ten times the number, and more. -/
theorem wparse_more {n d : Int} {c : UInt8} (hn : In32W n) (h : wparse (itoa n ++ [c]) = some d) : (48 ≤ c.toNat ∧ c.toNat ≤ 57) ∧ d.tdiv 10 = n ∧ n ≠ 0 := by
  have e := wparse_text h
  have hd := wparse_32 h
  obtain ⟨hd1, hd2⟩ := hd
  by_cases hneg : d < 0
  · rw [itoa_neg hneg] at e
    by_cases h10 : d.natAbs < 10
    · exfalso
      rw [decDigits_small h10] at e
      have e2 := snoc_eq (a := [45]) (b := itoa n) e
      by_cases hn0 : n < 0
      · rw [itoa_neg hn0] at e2
        have := e2.1
        injection this with _ this
        exact decDigits_ne _ this.symm
      · rw [itoa_pos hn0] at e2
        have h3 := decDigits_all n.toNat 45 (by rw [← e2.1]; exact List.mem_cons_self)
        exact absurd h3 (by decide)
    · rw [decDigits_big h10, ← List.cons_append] at e
      have e2 := snoc_eq e
      have ht : d.tdiv 10 = -((-d) / 10) := by
        rw [show d.tdiv 10 = (-(-d)).tdiv 10 from by rw [Int.neg_neg], Int.neg_tdiv, Int.tdiv_eq_ediv_of_nonneg (by omega)]
      have hneg2 : d.tdiv 10 < 0 := by omega
      have e3 : itoa (d.tdiv 10) = itoa n := by
        rw [itoa_neg hneg2, ← e2.1]
        congr 2; omega
      have h4 := itoa_inj ⟨by omega, by omega⟩ hn e3
      refine ⟨?_, h4, by omega⟩
      rw [← e2.2, digit_nat (by omega)]; omega
  · rw [itoa_pos hneg] at e
    by_cases h10 : d.toNat < 10
    · exfalso
      rw [decDigits_small h10] at e
      have e2 := snoc_eq (a := []) (b := itoa n) e
      exact itoa_ne n e2.1.symm
    · rw [decDigits_big h10] at e
      have e2 := snoc_eq e
      have ht : d.tdiv 10 = d / 10 := Int.tdiv_eq_ediv_of_nonneg (by omega)
      have hpos : ¬ d.tdiv 10 < 0 := by omega
      have e3 : itoa (d.tdiv 10) = itoa n := by
        rw [itoa_pos hpos, ← e2.1]
        congr 1; omega
      have h4 := itoa_inj ⟨by omega, by omega⟩ hn e3
      refine ⟨?_, h4, by omega⟩
      rw [← e2.2, digit_nat (by omega)]; omega
end Go.Proofs.YtkmkfhbekikleaaDoor
