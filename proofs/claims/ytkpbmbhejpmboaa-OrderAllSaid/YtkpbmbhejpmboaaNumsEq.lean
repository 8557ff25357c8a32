/- Two rows of numbers, the same or not: slices.Equal, jacquardref17.Nums. -/
import Derived.Test.YtkpbmbhejpmboaaPhysFunc
namespace Go.Proofs.Ytkpbmbhejpmboaa
open Go.RowKit
set_option linter.unusedVariables false

def numsB (a b : List Int) : Bool := decide (a = b)
theorem numsB_len {a b : List Int} (h : a.length ≠ b.length) : numsB a b = false := by
  unfold numsB; exact decide_eq_false fun e => h (by rw [e])
theorem numsB_at {a b : List Int} {k : Nat} {x y : Int} (hx : a[k]? = some x) (hy : b[k]? = some y) (h : x ≠ y) : numsB a b = false := by
  unfold numsB; exact decide_eq_false fun e => h (by rw [e, hy] at hx; exact (Option.some.inj hx).symm)
theorem numsB_all {a b : List Int} (hl : a.length = b.length) (h : ∀ (k : Nat) (x y : Int), a[k]? = some x → b[k]? = some y → x = y) : numsB a b = true := by
  unfold numsB
  refine decide_eq_true (List.ext_getElem hl fun k h1 h2 => h k _ _ (List.getElem?_eq_getElem h1) (List.getElem?_eq_getElem h2))
def QuietB (p : Bool) (w : World) (e : Ending) (w' : World) : Prop := e = .returned (.bool p) ∧ ∃ n, w' = w.drewN n
theorem QuietB.tells {p : Bool} {w w' : World} {e : Ending} (h : QuietB p w e w') : TellsS p w e w' := by
  obtain ⟨h1, n, rfl⟩ := h
  exact ⟨h1, Since.drewN (Since.refl _) n⟩
theorem drewN_drewN (w : World) (m n : Nat) : (w.drewN m).drewN n = w.drewN (m + n) := by
  induction n with
  | zero => rfl
  | succ n ih => show ((w.drewN m).drewN n).drew = (w.drewN (m + n)).drew; rw [ih]

set_option maxHeartbeats 2000000 in
set_option maxRecDepth 100000 in
theorem equal_any (v1 v2 : Value) (l1 l2 : List Int) (w : World) (h1 : Ints w v1 l1) (h2 : Ints w v2 l2) : Calls Try.prog 131 #[v1, v2] w (TellsS (numsB l1 l2) w) := by
  have hm1 := h1.len
  have hm2 := h2.len
  obtain ⟨a1, c1, rfl⟩ := nums_lenI h1
  obtain ⟨a2, c2, rfl⟩ := nums_lenI h2
  have H1 := Lib.hid (nums_cell h1).2
  have H2 := Lib.hid (nums_cell h2).2
  unfold maxLen at hm1 hm2
  obtain ⟨n1, hn1⟩ : ∃ n, l1.length = n := ⟨_, rfl⟩
  obtain ⟨n2, hn2⟩ : ∃ n, l2.length = n := ⟨_, rfl⟩
  have HN1 := Lib.hid hn1
  have HN2 := Lib.hid hn2
  rw [hn1] at hm1 ⊢
  rw [hn2] at hm2 ⊢
  clear h1 h2 hn1 hn2
  by_cases hl : n1 = n2
  · subst hl
    go_enter Try.func131, Try.ntmps131
    have hnn : ((n1 : Int) != (n1 : Int)) = false := by simp
    go_wp2
    go_loopw [13] (fun i wr => ∃ k : Nat, k ≤ n1 ∧ i = .int .i64 k ∧ (∀ (j : Nat) (x y : Int), j < k → l1[j]? = some x → l2[j]? = some y → x = y) ∧ Since w wr) (fun i _ => n1 - (intOf i).toNat)
    case atStart => exact ⟨0, Nat.zero_le _, rfl, fun _ _ _ h => by omega, Since.refl _⟩
    case round =>
      obtain ⟨k, hk, rfl, hall, hs⟩ := hrel
      have HALL := Lib.hid hall
      have HS := Lib.hid hs
      clear hall
      by_cases hlt : k < n1
      · obtain ⟨x, hx⟩ : ∃ x, l1[k]? = some x := ⟨_, List.getElem?_eq_getElem (by have := HN1.out; omega)⟩
        obtain ⟨y, hy⟩ : ∃ y, l2[k]? = some y := ⟨_, List.getElem?_eq_getElem (by have := HN2.out; omega)⟩
        obtain ⟨B, off, rfl, hB, hcell⟩ := H1.out (by intro e; have := HN1.out; rw [e] at this; simp at this; omega)
        obtain ⟨B2, off2, rfl, hB2, hcell2⟩ := H2.out (by intro e; have := HN2.out; rw [e] at this; simp at this; omega)
        have k1 := (hs.cell (p := ⟨B, off + k, none⟩) hB).trans (hcell k x hx)
        have k2 := (hs.cell (p := ⟨B2, off2 + k, none⟩) hB2).trans (hcell2 k y hy)
        have b1 := Nat.lt_of_lt_of_le hB hs.size
        have b2 := Nat.lt_of_lt_of_le hB2 hs.size
        have HX := Lib.hid hx
        have HY := Lib.hid hy
        clear hcell hcell2 hs hB hB2 hx hy
        by_cases he : x = y
        · subst he
          have hxx : (x != x) = false := by simp
          go_wp2_with fail
          go_quiet (fail)
          go_wp2
          go_roundw
          case rel =>
            refine ⟨k + 1, by omega, by go_num, fun j x2 y2 hj g1 g2 => ?_, HS.out.trans (Since.drewN (Since.refl _) _)⟩
            by_cases e : j = k
            · subst e
              have a1 := HX.out
              have a2 := HY.out
              rw [g1] at a1
              rw [g2] at a2
              rw [Option.some.inj a1, Option.some.inj a2]
            · exact HALL.out j x2 y2 (by omega) g1 g2
          case measure => simp [intOf]; omega
        · have hxy : (x != y) = true := by simpa using he
          have HF := Lib.hid (numsB_at HX.out HY.out he)
          clear he
          go_wp2_with fail
          go_quiet (fail)
          go_wp2
          go_ret
          exact ⟨by rw [HF.out]; rfl, HS.out.trans (Since.drewN (Since.refl _) _)⟩
      · obtain rfl : k = n1 := by omega
        have HF := Lib.hid (numsB_all (HN1.out.trans HN2.out.symm) fun j x y g1 g2 => HALL.out j x y (by have := (List.getElem?_eq_some_iff.1 g1).1; have := HN1.out; omega) g1 g2)
        go_wp2
        go_ret
        exact ⟨by rw [HF.out]; rfl, HS.out⟩
  · have hnn : ((n1 : Int) != (n2 : Int)) = true := by simp; omega
    have HF := Lib.hid (numsB_len (a := l1) (b := l2) (by rw [HN1.out, HN2.out]; exact hl))
    clear hl
    go_enter Try.func131, Try.ntmps131
    go_wp2
    go_ret
    exact ⟨by rw [HF.out]; rfl, Since.refl _⟩

set_option maxHeartbeats 2000000 in
set_option maxRecDepth 100000 in
theorem rnums_any (v1 v2 : Value) (l1 l2 : List Int) (w : World) (h1 : Ints w v1 l1) (h2 : Ints w v2 l2) : Calls Try.prog 68 #[v1, v2] w (TellsS (numsB l1 l2) w) := by
  have hm1 := h1.len
  have hm2 := h2.len
  obtain ⟨a1, c1, rfl⟩ := nums_lenI h1
  obtain ⟨a2, c2, rfl⟩ := nums_lenI h2
  have H1 := Lib.hid (nums_cell h1).2
  have H2 := Lib.hid (nums_cell h2).2
  unfold maxLen at hm1 hm2
  obtain ⟨n1, hn1⟩ : ∃ n, l1.length = n := ⟨_, rfl⟩
  obtain ⟨n2, hn2⟩ : ∃ n, l2.length = n := ⟨_, rfl⟩
  have HN1 := Lib.hid hn1
  have HN2 := Lib.hid hn2
  rw [hn1] at hm1 ⊢
  rw [hn2] at hm2 ⊢
  clear h1 h2 hn1 hn2
  by_cases hl : n1 = n2
  · subst hl
    go_enter Try.func68, Try.ntmps68
    have hnn : ((n1 : Int) != (n1 : Int)) = false := by simp
    go_wp2
    go_loopw [5] (fun i wr => ∃ k : Nat, k ≤ n1 ∧ i = .int .i64 k ∧ (∀ (j : Nat) (x y : Int), j < k → l1[j]? = some x → l2[j]? = some y → x = y) ∧ Since w wr) (fun i _ => n1 - (intOf i).toNat)
    case atStart => exact ⟨0, Nat.zero_le _, rfl, fun _ _ _ h => by omega, Since.refl _⟩
    case round =>
      obtain ⟨k, hk, rfl, hall, hs⟩ := hrel
      have HALL := Lib.hid hall
      have HS := Lib.hid hs
      clear hall
      by_cases hlt : k < n1
      · obtain ⟨x, hx⟩ : ∃ x, l1[k]? = some x := ⟨_, List.getElem?_eq_getElem (by have := HN1.out; omega)⟩
        obtain ⟨y, hy⟩ : ∃ y, l2[k]? = some y := ⟨_, List.getElem?_eq_getElem (by have := HN2.out; omega)⟩
        obtain ⟨B, off, rfl, hB, hcell⟩ := H1.out (by intro e; have := HN1.out; rw [e] at this; simp at this; omega)
        obtain ⟨B2, off2, rfl, hB2, hcell2⟩ := H2.out (by intro e; have := HN2.out; rw [e] at this; simp at this; omega)
        have k1 := (hs.cell (p := ⟨B, off + k, none⟩) hB).trans (hcell k x hx)
        have k2 := (hs.cell (p := ⟨B2, off2 + k, none⟩) hB2).trans (hcell2 k y hy)
        have b1 := Nat.lt_of_lt_of_le hB hs.size
        have b2 := Nat.lt_of_lt_of_le hB2 hs.size
        have HX := Lib.hid hx
        have HY := Lib.hid hy
        clear hcell hcell2 hs hB hB2 hx hy
        by_cases he : x = y
        · subst he
          have hxx : (x != x) = false := by simp
          go_wp2_with fail
          go_quiet (fail)
          go_wp2
          go_roundw
          case rel =>
            refine ⟨k + 1, by omega, by go_num, fun j x2 y2 hj g1 g2 => ?_, HS.out.trans (Since.drewN (Since.refl _) _)⟩
            by_cases e : j = k
            · subst e
              have a1 := HX.out
              have a2 := HY.out
              rw [g1] at a1
              rw [g2] at a2
              rw [Option.some.inj a1, Option.some.inj a2]
            · exact HALL.out j x2 y2 (by omega) g1 g2
          case measure => simp [intOf]; omega
        · have hxy : (x != y) = true := by simpa using he
          have HF := Lib.hid (numsB_at HX.out HY.out he)
          clear he
          go_wp2_with fail
          go_quiet (fail)
          go_wp2
          go_ret
          exact ⟨by rw [HF.out]; rfl, HS.out.trans (Since.drewN (Since.refl _) _)⟩
      · obtain rfl : k = n1 := by omega
        have HF := Lib.hid (numsB_all (HN1.out.trans HN2.out.symm) fun j x y g1 g2 => HALL.out j x y (by have := (List.getElem?_eq_some_iff.1 g1).1; have := HN1.out; omega) g1 g2)
        go_wp2
        go_ret
        exact ⟨by rw [HF.out]; rfl, HS.out⟩
  · have hnn : ((n1 : Int) != (n2 : Int)) = true := by simp; omega
    have HF := Lib.hid (numsB_len (a := l1) (b := l2) (by rw [HN1.out, HN2.out]; exact hl))
    clear hl
    go_enter Try.func68, Try.ntmps68
    go_wp2
    go_ret
    exact ⟨by rw [HF.out]; rfl, Since.refl _⟩
end Go.Proofs.Ytkpbmbhejpmboaa
