/- slices.Index, Contains, IndexFunc, ContainsFunc as order uses them; order.common; the reference's meet; order.strict, the reference's effect and load. -/
import Derived.Test.YtkpbmbhejpmboaaChanges
import Derived.Deep.QuietTactic
import Derived.BigQuiet
namespace Go.Proofs.Ytkpbmbhejpmboaa
open Go.RowKit
set_option linter.unusedVariables false

/-- A place, or below 0: none; the world is as it was. -/
def AtPost (p : Bool) (w : World) (e : Ending) (w' : World) : Prop := ∃ r : Int, e = .returned (.int .i64 r) ∧ decide (0 ≤ r) = p ∧ w = w'
theorem at_some {w : World} {r : Int} (h : 0 ≤ r) : AtPost true w (.returned (.int .i64 r)) w := ⟨r, rfl, by simp [h], rfl⟩
theorem at_none {w : World} : AtPost false w (.returned (.int .i64 (-1))) w := ⟨-1, rfl, by decide, rfl⟩

theorem nums_cell {k : IntKind} {w : World} {a : Option Addr} {len cap : Nat} {l : List Int} (h : Nums k w (.slice a len cap) l) : len = l.length ∧ (l ≠ [] → ∃ b off, a = some ⟨b, off, none⟩ ∧ b < w.heap.size ∧ ∀ (j : Nat) (n : Int), l[j]? = some n → w.cell? ⟨b, off + j, none⟩ = some (.int k n)) := by
  rcases h with ⟨_, h1, h2⟩ | ⟨b, off, cap', h1, _, _, hb, hc⟩
  · cases h1; subst h2; exact ⟨rfl, fun h => absurd rfl h⟩
  · cases h1; exact ⟨rfl, fun _ => ⟨b, off, rfl, hb, hc⟩⟩

theorem any_prefix {α : Type} {p : α → Bool} {l : List α} {k : Nat} (hk : k = l.length) (h : ∀ j x, j < k → l[j]? = some x → p x = false) : l.any p = false := by
  rw [List.any_eq_false]
  intro x hx
  obtain ⟨j, hj, rfl⟩ := List.getElem_of_mem hx
  simp [h j l[j] (by omega) (by simp [hj])]
theorem any_at {α : Type} {p : α → Bool} {l : List α} {k : Nat} {x : α} (h : l[k]? = some x) (hp : p x = true) : l.any p = true := List.any_eq_true.2 ⟨x, List.mem_of_getElem? h, hp⟩

set_option maxHeartbeats 1000000 in
set_option maxRecDepth 100000 in
theorem index_any (v : Value) (l : List Int) (x : Int) (w : World) (h : Nums .i64 w v l) :
    Calls Try.prog 134 #[v, .int .i64 x] w (AtPost (l.any fun y => x == y) w) := by
  have hm := h.len
  obtain ⟨a, cap, rfl⟩ := nums_lenI h
  obtain ⟨_, hc⟩ := nums_cell h
  have HC := Lib.hid hc; clear hc h
  unfold maxLen at hm
  go_enter Try.func134, Try.ntmps134
  go_wp2
  go_loop [8] (fun i => ∃ k : Nat, k ≤ l.length ∧ i = .int .i64 k ∧ ∀ j y, j < k → l[j]? = some y → (x == y) = false) (fun i => l.length - (intOf i).toNat)
  case atStart => exact ⟨0, Nat.zero_le _, rfl, fun _ _ h => by omega⟩
  case round =>
    obtain ⟨k, hk, rfl, hno⟩ := hrel
    by_cases hlt : k < l.length
    · obtain ⟨y, hy⟩ : ∃ y, l[k]? = some y := ⟨_, List.getElem?_eq_getElem hlt⟩
      obtain ⟨b, off, rfl, hb, hcell⟩ := HC.out (by intro e; rw [e] at hlt; simp at hlt)
      have hc := hcell k y hy
      have HY := Lib.hid hy
      have HNO := Lib.hid hno
      clear hcell hy hno
      by_cases he : (x == y) = true
      · have hyes := any_at (p := fun y => x == y) HY.out he
        have HF := Lib.hid hyes; clear hyes
        go_wp2
        go_ret
        rw [HF.out]
        exact at_some (by omega)
      · have he : (x == y) = false := by simpa using he
        go_wp2
        go_round
        case rel =>
          refine ⟨k + 1, by omega, by go_num, fun j z hj hz => ?_⟩
          by_cases e : j = k
          · subst e; have := HY.out.symm.trans hz; cases this; exact he
          · exact HNO.out j z (by omega) hz
        case measure => simp [intOf]; omega
    · obtain rfl : k = l.length := by omega
      have hyes := any_prefix (p := fun y => x == y) rfl hno
      have HF := Lib.hid hyes; clear hyes hno
      go_wp2
      go_ret
      rw [HF.out]
      exact at_none

/-- A test; the world is as it was. -/
def Tells (p : Bool) (w : World) (e : Ending) (w' : World) : Prop := e = .returned (.bool p) ∧ w = w'

set_option maxHeartbeats 400000 in
set_option maxRecDepth 100000 in
theorem contains_any (v : Value) (l : List Int) (x : Int) (w : World) (h : Nums .i64 w v l) :
    Calls Try.prog 116 #[v, .int .i64 x] w (Tells (l.any fun y => x == y) w) := by
  go_enter Try.func116, Try.ntmps116
  go_wp2_with (go_at_call 134; refine (index_any _ _ _ _ h).mono ?_; rintro e w1 ⟨r, rfl, hr, rfl⟩)
  go_ret
  exact ⟨by rw [← hr]; rfl, rfl⟩

set_option maxHeartbeats 400000 in
set_option maxRecDepth 100000 in
theorem common1_any (x : Int) (p : Addr) (bv : Value) (lb : List Int) (w : World) (hp : w.cell? p = some bv) (hb : Nums .i64 w bv lb) :
    Calls Try.prog 115 #[.int .i64 x, .pointer (some p)] w (Tells (lb.any fun y => x == y) w) := by
  obtain ⟨a, cap, rfl⟩ := nums_lenI hb
  have HB := Lib.hid hb; clear hb
  go_enter Try.func115, Try.ntmps115
  go_wp2_with (go_at_call 116; refine (contains_any _ _ _ _ HB.out).mono ?_; rintro e w1 ⟨rfl, rfl⟩)
  go_ret
  exact ⟨rfl, rfl⟩

/-- Have two rows a number in common? -/
def meetB (l lb : List Int) : Bool := l.any fun x => lb.any fun y => x == y

set_option maxHeartbeats 1000000 in
set_option maxRecDepth 100000 in
theorem indexFunc_any (v : Value) (l : List Int) (p : Addr) (bv : Value) (lb : List Int) (w : World) (h : Nums .i64 w v l) (hp : w.cell? p = some bv) (hb : Nums .i64 w bv lb) :
    Calls Try.prog 133 #[v, .func (.func 115) #[] #[.pointer (some p)]] w (AtPost (meetB l lb) w) := by
  have hm := h.len
  obtain ⟨a, cap, rfl⟩ := nums_lenI h
  obtain ⟨_, hc⟩ := nums_cell h
  have HC := Lib.hid hc; clear hc h
  have HCALL : Hid (∀ x, Calls Try.prog 115 #[.int .i64 x, .pointer (some p)] w (Tells (lb.any fun y => x == y) w)) := fun x => common1_any x p bv lb w hp hb
  clear hp hb
  unfold maxLen at hm
  unfold meetB
  generalize hq : (fun x => lb.any fun y => x == y) = q at *
  have hq2 : ∀ x, (lb.any fun y => x == y) = q x := fun x => by rw [← hq]
  have HQ := Lib.hid hq2; clear hq hq2
  go_enter Try.func133, Try.ntmps133
  go_wp2
  go_loop [8] (fun i => ∃ k : Nat, k ≤ l.length ∧ i = .int .i64 k ∧ ∀ j y, j < k → l[j]? = some y → q y = false) (fun i => l.length - (intOf i).toNat)
  case atStart => exact ⟨0, Nat.zero_le _, rfl, fun _ _ h => by omega⟩
  case round =>
    obtain ⟨k, hk, rfl, hno⟩ := hrel
    by_cases hlt : k < l.length
    · obtain ⟨y, hy⟩ : ∃ y, l[k]? = some y := ⟨_, List.getElem?_eq_getElem hlt⟩
      obtain ⟨b, off, rfl, hb, hcell⟩ := HC.out (by intro e; rw [e] at hlt; simp at hlt)
      have hc := hcell k y hy
      have HY := Lib.hid hy
      have HNO := Lib.hid hno
      clear hcell hy hno
      by_cases he : q y = true
      · have hyes := any_at (p := q) HY.out he
        have HF := Lib.hid hyes; clear hyes
        have HE := Lib.hid he; clear he
        go_wp2_with (go_at_call 115; refine (HCALL.out y).mono ?_; rw [HQ.out, HE.out]; rintro e w1 ⟨rfl, rfl⟩)
        go_ret
        rw [HF.out]
        exact at_some (by omega)
      · have he : q y = false := by simpa using he
        have HE := Lib.hid he; clear he
        go_wp2_with (go_at_call 115; refine (HCALL.out y).mono ?_; rw [HQ.out, HE.out]; rintro e w1 ⟨rfl, rfl⟩)
        go_round
        case rel =>
          refine ⟨k + 1, by omega, by go_num, fun j z hj hz => ?_⟩
          by_cases e : j = k
          · subst e; have := HY.out.symm.trans hz; cases this; exact HE.out
          · exact HNO.out j z (by omega) hz
        case measure => simp [intOf]; omega
    · obtain rfl : k = l.length := by omega
      have hyes := any_prefix (p := q) rfl hno
      have HF := Lib.hid hyes; clear hyes hno
      go_wp2
      go_ret
      rw [HF.out]
      exact at_none

set_option maxHeartbeats 400000 in
set_option maxRecDepth 100000 in
theorem containsFunc_any (v : Value) (l : List Int) (p : Addr) (bv : Value) (lb : List Int) (w : World) (h : Nums .i64 w v l) (hp : w.cell? p = some bv) (hb : Nums .i64 w bv lb) :
    Calls Try.prog 114 #[v, .func (.func 115) #[] #[.pointer (some p)]] w (Tells (meetB l lb) w) := by
  have HCALL := Lib.hid (indexFunc_any v l p bv lb w h hp hb)
  clear h hp hb
  go_enter Try.func114, Try.ntmps114
  go_wp2_with (go_at_call 133; refine HCALL.out.mono ?_; rintro e w1 ⟨r, rfl, hr, rfl⟩)
  go_ret
  exact ⟨by rw [← hr]; rfl, rfl⟩

/-- A test that may lay blocks. -/
def TellsS (p : Bool) (w : World) (e : Ending) (w' : World) : Prop := e = .returned (.bool p) ∧ Since w w'

set_option maxHeartbeats 400000 in
set_option maxRecDepth 100000 in
theorem common_any (v bv : Value) (l lb : List Int) (w : World) (h : Nums .i64 w v l) (hb : Nums .i64 w bv lb) :
    Calls Try.prog 89 #[v, bv] w (TellsS (meetB l lb) w) := by
  obtain ⟨a2, cap2, rfl⟩ := nums_lenI hb
  have hcell : (w.alloc (.cells #[.slice a2 lb.length cap2] 25)).cell? ⟨w.heap.size, 0, none⟩ = some (.slice a2 lb.length cap2) := by unfold World.cell?; rw [show (w.alloc (.cells #[.slice a2 lb.length cap2] 25)).heap[w.heap.size]? = _ from heap_last _ _]; rfl
  have HC := Lib.hid (containsFunc_any v l ⟨w.heap.size, 0, none⟩ _ lb _ (h.keep ((Since.refl _).alloc _)) hcell (hb.keep ((Since.refl _).alloc _)))
  clear h hb hcell
  go_enter Try.func89, Try.ntmps89
  go_wp2_with (go_at_call 114; refine HC.out.mono ?_; rintro e w1 ⟨rfl, rfl⟩)
  go_ret
  exact ⟨rfl, (Since.refl _).alloc _⟩
end Go.Proofs.Ytkpbmbhejpmboaa
