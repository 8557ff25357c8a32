/- slices.Concat of rows of numbers; order.changes. order.changes. slices.Index, Contains, IndexFunc, ContainsFunc as order uses them; order.common; the reference's meet; order.strict, the reference's effect and load. -/
import Derived.Test.YtkpbmbhejpmboaaTakes
import Derived.Lib.AppendZeros
import Derived.Deep.QuietTactic
import Derived.BigQuiet
namespace Go.Proofs.Ytkpbmbhejpmboaa
open Go.RowKit
set_option linter.unusedVariables false

/-- A new row of the call's own: nothing yet, some room. -/
def Fresh (w : World) (e : Ending) (w' : World) : Prop := ∃ v, e = .returned v ∧ w'.ownsRow w.heap.size 3 1 v ([] : List Int).length (([] : List Int).map (Value.int .i64)) ∧ Since w w'

set_option maxHeartbeats 400000 in
set_option maxRecDepth 100000 in
theorem grow_nil (n : Nat) (w : World) (hn : n ≤ 100000) : Calls Try.prog 84 #[.slice none 0 0, .int .i64 n] w (Fresh w) := by
  rcases Nat.eq_zero_or_pos n with rfl | hp
  · go_enter Try.func84, Try.ntmps84
    go_wp2
    go_ret
    exact ⟨_, rfl, own_nil _ _ _ _, Since.refl _⟩
  · obtain ⟨i0, hi, hz0, hz1, hz2⟩ := info_parts Try.info3
    have hz2' : n * i0.bytes ≤ 281474976710656 := by rw [hz2]; omega
    have happ := Lib.run_append_nil_zeros (P := Try.prog) w 25 3 25 3 i0 (.int .i64 0) .i64 .i64 Try.underlying25 Try.underlying3 hi hz0 n hp (by rw [hz1]; decide) (by omega) hz2'
    have hge := grownCap_ge w n 0 3
    have hle := grownCap_le_maxLen w n 0 3 (by unfold maxLen; omega)
    generalize hcap : grownCap w n 0 3 = cap at *
    have HA := Lib.hid happ; clear happ
    have hmax : cap ≤ 9223372036854775807 := by unfold maxLen at hle; omega
    have hp' : (0 : Int) < (n : Int) := by omega
    clear hcap hz0 hz1 hz2 hi hz2'
    go_enter Try.func84, Try.ntmps84
    go_wp2_with (at_builtin; refine Lib.wpList_append_run _ rfl _ _ _ _ rfl _ _ rfl rfl _ _ HA.out ?_)
    go_ret
    refine ⟨_, rfl, ⟨rfl, .inr ⟨w.heap.size, cap, _, rfl, Nat.le_refl _, (MapKept.heap_alloc w.drew _).1, Nat.zero_le _, hle, ?_, ?_⟩⟩, (Since.refl w).drew.alloc _⟩
    · simp only [Array.size_append, size_zeroCells]
      simp
      omega
    · rfl

/-- A slice of rows of numbers. -/
def Rows2 (w : World) (v : Value) (rows : List (Value × List Int)) : Prop :=
  ∃ b off cap, v = .slice (some ⟨b, off, none⟩) rows.length cap ∧ b < w.heap.size ∧ ∀ (j : Nat) (x : Value × List Int), rows[j]? = some x → w.cell? ⟨b, off + j, none⟩ = some x.1 ∧ Nums .i64 w x.1 x.2

def total (rows : List (Value × List Int)) : Nat := (rows.map fun x => x.2.length).sum
def joined (rows : List (Value × List Int)) : List Int := (rows.map fun x => x.2).flatten
theorem total_take (rows : List (Value × List Int)) (k : Nat) (x : Value × List Int) (h : rows[k]? = some x) : total (rows.take (k + 1)) = total (rows.take k) + x.2.length := by
  unfold total; rw [List.take_add_one, h]; simp
theorem joined_take (rows : List (Value × List Int)) (k : Nat) (x : Value × List Int) (h : rows[k]? = some x) : joined (rows.take (k + 1)) = joined (rows.take k) ++ x.2 := by
  unfold joined; rw [List.take_add_one, h]; simp
theorem joined_length (rows : List (Value × List Int)) : (joined rows).length = total rows := by
  unfold joined total; rw [List.length_flatten, List.map_map]; rfl
theorem total_mono (rows : List (Value × List Int)) (k : Nat) : total (rows.take k) ≤ total rows := by
  have : total rows = total (rows.take k) + total (rows.drop k) := by
    unfold total; rw [← List.sum_append, ← List.map_append, List.take_append_drop]
  omega
theorem nums_lenI {k : IntKind} {w : World} {v : Value} {l : List Int} (h : Nums k w v l) : ∃ a cap, v = .slice a l.length cap := by
  rcases h with ⟨_, h1, rfl⟩ | ⟨b, off, cap, h1, _⟩
  · exact ⟨_, _, h1⟩
  · exact ⟨_, _, h1⟩

set_option maxHeartbeats 1000000 in
set_option maxRecDepth 100000 in
theorem concat_any (v : Value) (rows : List (Value × List Int)) (w : World) (h : Rows2 w v rows) (hn : rows.length ≤ 1000) (ht : total rows ≤ 100000) :
    Calls Try.prog 54 #[v] w (Gives w (joined rows)) := by
  obtain ⟨b, off, cap, rfl, hb, hcell⟩ := h
  have HC := Lib.hid hcell; clear hcell
  go_enter Try.func54, Try.ntmps54
  go_wp2_with fail
  go_loop [3, 11] (fun s i => ∃ k : Nat, k ≤ rows.length ∧ i = .int .i64 k ∧ s = .int .i64 (total (rows.take k) : Nat)) (fun _ i => rows.length - (intOf i).toNat)
  case atStart => exact ⟨0, by omega, rfl, rfl⟩
  case round =>
    obtain ⟨k, hk, rfl, rfl⟩ := hrel
    have hm := total_mono rows k
    by_cases hlt : k < rows.length
    · obtain ⟨x, hx⟩ : ∃ x, rows[k]? = some x := ⟨_, List.getElem?_eq_getElem hlt⟩
      obtain ⟨hc, hnum⟩ := HC.out k x hx
      obtain ⟨a, c, hv⟩ := nums_lenI hnum
      have hs := total_take rows k x hx
      have hm2 := total_mono rows (k + 1)
      rw [hv] at hc
      have HS := Lib.hid hs
      generalize total (rows.take k) = t at *
      clear hs
      have ht2 : t + x.2.length ≤ 100000 := by have := HS.out; omega
      go_wp2_with fail
      go_round
      case rel => exact ⟨k + 1, by omega, by go_num, by rw [HS.out]; go_num⟩
      case measure => simp [intOf]; omega
    · obtain rfl : k = rows.length := by omega
      rw [List.take_length]
      go_wp2_with fail
      refine (grow_nil _ _ ht).mono ?_
      rintro e w1 ⟨g, rfl, hown, hs1⟩
      go_wp2_with fail
      go_loopw [6, 27] (fun s i wr => ∃ k : Nat, k ≤ rows.length ∧ i = .int .i64 k ∧ wr.ownsRow w.heap.size 3 1 s (joined (rows.take k)).length ((joined (rows.take k)).map (Value.int .i64)) ∧ Since w wr) (fun _ i _ => rows.length - (intOf i).toNat)
      case atStart => exact ⟨0, by omega, rfl, hown, hs1⟩
      case round =>
        obtain ⟨k, hk, rfl, hownr, hsr⟩ := hrel
        by_cases hlt : k < rows.length
        · obtain ⟨x, hx⟩ : ∃ x, rows[k]? = some x := ⟨_, List.getElem?_eq_getElem hlt⟩
          obtain ⟨hc, hnum⟩ := HC.out k x hx
          have hjt := joined_take rows k x hx
          have hjl := joined_length (rows.take (k + 1))
          have hm2 := total_mono rows (k + 1)
          rw [hjt, List.length_append] at hjl
          have HJ := Lib.hid hjt
          generalize joined (rows.take k) = jk at *
          clear hjt
          have hjl2 : jk.length + x.2.length ≤ 1000000 := by omega
          clear hjl
          have hc2 : wr.cell? ⟨b, off + k, none⟩ = some x.1 := by rw [hsr.cell hb]; exact hc
          have hnum2 := hnum.keep hsr
          have HN := Lib.hid hnum2
          have HO := Lib.hid hownr
          clear hnum hnum2 hownr hc
          go_wp2_with (at_builtin; refine wpList_append_nums (w0 := w) .i64 rfl _ _ 25 rfl 3 (.int .i64 0) 8 Try.underlying25 Try.info3 rfl (by decide) _ _ jk x.2 rfl rfl HO.out HN.out hjl2 hsr ?_; intro v' w' hown2 hs2)
          go_roundw
          case rel => exact ⟨k + 1, by omega, by go_num, by rw [HJ.out]; exact hown2, hs2⟩
          case measure => simp [intOf]; omega
        · obtain rfl : k = rows.length := by omega
          rw [List.take_length] at hownr
          go_wp2_with fail
          go_ret
          exact ⟨_, rfl, nums_of_own hownr, hsr⟩
end Go.Proofs.Ytkpbmbhejpmboaa

namespace Go.Proofs.Ytkpbmbhejpmboaa
open Go.RowKit
set_option linter.unusedVariables false

def changes (m : Mach) : List Int := makes m ++ spoils m
theorem takes7_len (m : Mach) (h : m.args.length ≤ 1000) : (takes7 m).length ≤ 1000 := by
  unfold takes7; repeat' split
  all_goals first | exact h | simp
theorem makes7_len (m : Mach) : (makes7 m).length ≤ 2 := by
  unfold makes7; repeat' split
  all_goals simp
theorem takes_len (m : Mach) (h : m.args.length ≤ 1000) : (takes m).length ≤ 1000 := by
  unfold takes; repeat' split
  all_goals first | exact takes7_len m h | simp
theorem makes_len (m : Mach) : (makes m).length ≤ 2 := by
  unfold makes; repeat' split
  all_goals first | exact makes7_len m | simp
theorem spoils_len (m : Mach) : (spoils m).length ≤ 3 := by
  unfold spoils; split <;> simp
theorem changes_len (m : Mach) : (changes m).length ≤ 5 := by
  unfold changes; rw [List.length_append]; have := makes_len m; have := spoils_len m; omega

theorem Rows2.keep {w w' : World} {v : Value} {rows : List (Value × List Int)} (h : Rows2 w v rows) (s : Since w w') : Rows2 w' v rows := by
  obtain ⟨b, off, cap, h1, h2, h3⟩ := h
  exact ⟨b, off, cap, h1, Nat.lt_of_lt_of_le h2 s.size, fun j x hj => ⟨by rw [s.cell h2]; exact (h3 j x hj).1, (h3 j x hj).2.keep s⟩⟩
def IsRows (l1 l2 : List Int) (v : Value) (w : World) : Prop := ∃ v1 v2, Rows2 w v [(v1, l1), (v2, l2)]
theorem IsRows.stable (l1 l2 : List Int) : Stable (IsRows l1 l2) := fun _ _ _ ⟨v1, v2, h⟩ hs => ⟨v1, v2, h.keep hs⟩
theorem rows_last {w : World} {b : Nat} (hb : b = w.heap.size) (t : TypeId) {v1 v2 : Value} {l1 l2 : List Int} (h1 : Nums .i64 w v1 l1) (h2 : Nums .i64 w v2 l2) : IsRows l1 l2 (.slice (some ⟨b, 0, none⟩) 2 2) (w.alloc (.cells #[v1, v2] t)) := by
  subst hb
  refine ⟨v1, v2, w.heap.size, 0, 2, rfl, by simp, fun j x hj => ?_⟩
  have hs : Since w (w.alloc (.cells #[v1, v2] t)) := (Since.refl w).alloc _
  match j, hj with
  | 0, hj => obtain rfl : (v1, l1) = x := by simpa using hj
             exact ⟨by unfold World.cell?; rw [show (w.alloc (.cells #[v1, v2] t)).heap[w.heap.size]? = _ from heap_last _ _]; rfl, h1.keep hs⟩
  | 1, hj => obtain rfl : (v2, l2) = x := by simpa using hj
             exact ⟨by unfold World.cell?; rw [show (w.alloc (.cells #[v1, v2] t)).heap[w.heap.size]? = _ from heap_last _ _]; rfl, h2.keep hs⟩
  | j + 2, hj => simp at hj

set_option maxHeartbeats 1000000 in
set_option maxRecDepth 100000 in
theorem changes_any (m : Mach) (av : Value) (w : World) (h : Ints w av m.args) (hf : Fine m) :
    Calls Try.prog 88 #[mv m av] w (Gives w (changes m)) := by
  have H := Lib.hid h; clear h
  have HM : Hid (∀ w, Ints w av m.args → Calls Try.prog 22 #[mv m av] w (Gives w (makes m))) := fun w h => makes_any m av w h hf
  have HS : Hid (∀ w, Calls Try.prog 23 #[mv m av] w (Gives w (spoils m))) := fun w => spoils_any m av w
  have HL : Hid (total [((.nilFunc : Value), makes m), (.nilFunc, spoils m)] ≤ 100000) := by
    have := makes_len m; have := spoils_len m; unfold Hid total; simp; omega
  have e : changes m = joined [((.nilFunc : Value), makes m), (.nilFunc, spoils m)] := by simp [changes, joined]
  rw [e]; clear e
  unfold mv
  go_enter Try.func88, Try.ntmps88
  go_wp2
  refine wp_region_list_facts rfl (by decide +kernel) (by decide +kernel)
    [Is (mv m av), IsNums .i64 (makes m), Is (mv m av), IsNums .i64 (spoils m), IsRows (makes m) (spoils m), IsNums .i64 (joined [((.nilFunc : Value), makes m), (.nilFunc, spoils m)]), IsNums .i64 (joined [((.nilFunc : Value), makes m), (.nilFunc, spoils m)])]
    ⟨Is.stable _, IsNums.stable _ _, Is.stable _, IsNums.stable _ _, IsRows.stable _ _, IsNums.stable _ _, IsNums.stable _ _, trivial⟩ ⟨?_, ?_, ?_, ?_, ?_, ?_, ?_, trivial⟩ ?_
  all_goals
    intro vs w1 hs hk
    have hc : ∀ i, w1.cell? ⟨w.heap.size, i, none⟩ = _ := fun i => hs.cell (p := ⟨w.heap.size, i, none⟩) (by simp)
    simp only [putAll, Act.put, Knows, KnowsAll, nthF, Is, List.setIfInBounds_toArray, List.set_cons_zero, List.set_cons_succ, Nat.reduceAdd, List.length_cons, List.length_nil] at hk ⊢
    try simp only [hk]
  · go_wp2
    exact ⟨_, rfl, rfl, Since.refl _⟩
  · go_wp2_with fail
    refine (HM.out _ ((H.out.keep ((Since.refl _).alloc _)).keep hs)).mono ?_
    rintro e w2 ⟨v, rfl, hv, hs2⟩
    go_wp2
    exact ⟨_, rfl, hv, hs2⟩
  · go_wp2
    exact ⟨_, rfl, rfl, Since.refl _⟩
  · go_wp2_with fail
    refine (HS.out _).mono ?_
    rintro e w2 ⟨v, rfl, hv, hs2⟩
    go_wp2
    exact ⟨_, rfl, hv, hs2⟩
  · obtain ⟨h1, h2, _⟩ := hk
    obtain ⟨a1, c1, e1⟩ := nums_lenI h1
    obtain ⟨a2, c2, e2⟩ := nums_lenI h2
    rw [e1] at h1 ⊢
    rw [e2] at h2 ⊢
    have H1 := Lib.hid h1; clear h1
    have H2 := Lib.hid h2; clear h2
    go_wp2
    exact ⟨_, rfl, rows_last rfl _ H1.out H2.out, (Since.refl _).alloc _⟩
  · obtain ⟨⟨v1, v2, h1⟩, _⟩ := hk
    have H1 := Lib.hid h1; clear h1
    go_wp2_with fail
    refine (concat_any _ _ _ H1.out (by simp) HL.out).mono ?_
    rintro e w2 ⟨v, rfl, hv, hs2⟩
    go_wp2
    exact ⟨_, rfl, hv, hs2⟩
  · go_wp2
    exact ⟨_, rfl, hk.1, Since.refl _⟩
  · go_wp2
    go_ret
    exact ⟨_, rfl, hk.2.2.2.2.2.2.1, ((Since.refl _).alloc _).trans hs⟩
end Go.Proofs.Ytkpbmbhejpmboaa

namespace Go.Proofs.Ytkpbmbhejpmboaa
open Go.RowKit
set_option linter.unusedVariables false

/-- A place, or below 0: none; the world is as it was. -/
def AtPost (p : Bool) (w : World) (e : Ending) (w' : World) : Prop := ∃ r : Int, e = .returned (.int .i64 r) ∧ decide (0 ≤ r) = p ∧ w = w'
theorem at_some {w : World} {r : Int} (h : 0 ≤ r) : AtPost true w (.returned (.int .i64 r)) w := ⟨r, rfl, by simp [h], rfl⟩
theorem at_none {w : World} : AtPost false w (.returned (.int .i64 (-1))) w := ⟨-1, rfl, by decide, rfl⟩

theorem nums_cell {k : IntKind} {w : World} {a : Option Addr} {len cap : Nat} {l : List Int} (h : Nums k w (.slice a len cap) l) : len = l.length ∧ (l ≠ [] → ∃ b off, a = some ⟨b, off, none⟩ ∧ b < w.heap.size ∧ ∀ (j : Nat) (n : Int), l[j]? = some n → w.cell? ⟨b, off + j, none⟩ = some (.int k n)) := by
  rcases h with ⟨_, h1, h2⟩ | ⟨b, off, cap', h1, _, _, hb, hc⟩
  · cases h1; subst h2; exact ⟨rfl, fun h => absurd rfl h⟩
  · cases h1; exact ⟨rfl, fun _ => ⟨b, off, rfl, hb, hc⟩⟩

theorem any_prefix {α : Type} {p : α → Bool} {l : List α} {k : Nat} (hk : k = l.length) (h : ∀ j x, j < k → l[j]? = some x → p x = false) : l.any p = false := by
  rw [List.any_eq_false]
  intro x hx
  obtain ⟨j, hj, rfl⟩ := List.getElem_of_mem hx
  simp [h j l[j] (by omega) (by simp [hj])]
theorem any_at {α : Type} {p : α → Bool} {l : List α} {k : Nat} {x : α} (h : l[k]? = some x) (hp : p x = true) : l.any p = true := List.any_eq_true.2 ⟨x, List.mem_of_getElem? h, hp⟩

set_option maxHeartbeats 1000000 in
set_option maxRecDepth 100000 in
theorem index_any (v : Value) (l : List Int) (x : Int) (w : World) (h : Nums .i64 w v l) :
    Calls Try.prog 134 #[v, .int .i64 x] w (AtPost (l.any fun y => x == y) w) := by
  have hm := h.len
  obtain ⟨a, cap, rfl⟩ := nums_lenI h
  obtain ⟨_, hc⟩ := nums_cell h
  have HC := Lib.hid hc; clear hc h
  unfold maxLen at hm
  go_enter Try.func134, Try.ntmps134
  go_wp2
  go_loop [8] (fun i => ∃ k : Nat, k ≤ l.length ∧ i = .int .i64 k ∧ ∀ j y, j < k → l[j]? = some y → (x == y) = false) (fun i => l.length - (intOf i).toNat)
  case atStart => exact ⟨0, Nat.zero_le _, rfl, fun _ _ h => by omega⟩
  case round =>
    obtain ⟨k, hk, rfl, hno⟩ := hrel
    by_cases hlt : k < l.length
    · obtain ⟨y, hy⟩ : ∃ y, l[k]? = some y := ⟨_, List.getElem?_eq_getElem hlt⟩
      obtain ⟨b, off, rfl, hb, hcell⟩ := HC.out (by intro e; rw [e] at hlt; simp at hlt)
      have hc := hcell k y hy
      have HY := Lib.hid hy
      have HNO := Lib.hid hno
      clear hcell hy hno
      by_cases he : (x == y) = true
      · have hyes := any_at (p := fun y => x == y) HY.out he
        have HF := Lib.hid hyes; clear hyes
        go_wp2
        go_ret
        rw [HF.out]
        exact at_some (by omega)
      · have he : (x == y) = false := by simpa using he
        go_wp2
        go_round
        case rel =>
          refine ⟨k + 1, by omega, by go_num, fun j z hj hz => ?_⟩
          by_cases e : j = k
          · subst e; have := HY.out.symm.trans hz; cases this; exact he
          · exact HNO.out j z (by omega) hz
        case measure => simp [intOf]; omega
    · obtain rfl : k = l.length := by omega
      have hyes := any_prefix (p := fun y => x == y) rfl hno
      have HF := Lib.hid hyes; clear hyes hno
      go_wp2
      go_ret
      rw [HF.out]
      exact at_none

/-- A test; the world is as it was. -/
def Tells (p : Bool) (w : World) (e : Ending) (w' : World) : Prop := e = .returned (.bool p) ∧ w = w'

set_option maxHeartbeats 400000 in
set_option maxRecDepth 100000 in
theorem contains_any (v : Value) (l : List Int) (x : Int) (w : World) (h : Nums .i64 w v l) :
    Calls Try.prog 116 #[v, .int .i64 x] w (Tells (l.any fun y => x == y) w) := by
  go_enter Try.func116, Try.ntmps116
  go_wp2_with (go_at_call 134; refine (index_any _ _ _ _ h).mono ?_; rintro e w1 ⟨r, rfl, hr, rfl⟩)
  go_ret
  exact ⟨by rw [← hr]; rfl, rfl⟩

set_option maxHeartbeats 400000 in
set_option maxRecDepth 100000 in
theorem common1_any (x : Int) (p : Addr) (bv : Value) (lb : List Int) (w : World) (hp : w.cell? p = some bv) (hb : Nums .i64 w bv lb) :
    Calls Try.prog 115 #[.int .i64 x, .pointer (some p)] w (Tells (lb.any fun y => x == y) w) := by
  obtain ⟨a, cap, rfl⟩ := nums_lenI hb
  have HB := Lib.hid hb; clear hb
  go_enter Try.func115, Try.ntmps115
  go_wp2_with (go_at_call 116; refine (contains_any _ _ _ _ HB.out).mono ?_; rintro e w1 ⟨rfl, rfl⟩)
  go_ret
  exact ⟨rfl, rfl⟩

/-- Have two rows a number in common? -/
def meetB (l lb : List Int) : Bool := l.any fun x => lb.any fun y => x == y

set_option maxHeartbeats 1000000 in
set_option maxRecDepth 100000 in
theorem indexFunc_any (v : Value) (l : List Int) (p : Addr) (bv : Value) (lb : List Int) (w : World) (h : Nums .i64 w v l) (hp : w.cell? p = some bv) (hb : Nums .i64 w bv lb) :
    Calls Try.prog 133 #[v, .func (.func 115) #[] #[.pointer (some p)]] w (AtPost (meetB l lb) w) := by
  have hm := h.len
  obtain ⟨a, cap, rfl⟩ := nums_lenI h
  obtain ⟨_, hc⟩ := nums_cell h
  have HC := Lib.hid hc; clear hc h
  have HCALL : Hid (∀ x, Calls Try.prog 115 #[.int .i64 x, .pointer (some p)] w (Tells (lb.any fun y => x == y) w)) := fun x => common1_any x p bv lb w hp hb
  clear hp hb
  unfold maxLen at hm
  unfold meetB
  generalize hq : (fun x => lb.any fun y => x == y) = q at *
  have hq2 : ∀ x, (lb.any fun y => x == y) = q x := fun x => by rw [← hq]
  have HQ := Lib.hid hq2; clear hq hq2
  go_enter Try.func133, Try.ntmps133
  go_wp2
  go_loop [8] (fun i => ∃ k : Nat, k ≤ l.length ∧ i = .int .i64 k ∧ ∀ j y, j < k → l[j]? = some y → q y = false) (fun i => l.length - (intOf i).toNat)
  case atStart => exact ⟨0, Nat.zero_le _, rfl, fun _ _ h => by omega⟩
  case round =>
    obtain ⟨k, hk, rfl, hno⟩ := hrel
    by_cases hlt : k < l.length
    · obtain ⟨y, hy⟩ : ∃ y, l[k]? = some y := ⟨_, List.getElem?_eq_getElem hlt⟩
      obtain ⟨b, off, rfl, hb, hcell⟩ := HC.out (by intro e; rw [e] at hlt; simp at hlt)
      have hc := hcell k y hy
      have HY := Lib.hid hy
      have HNO := Lib.hid hno
      clear hcell hy hno
      by_cases he : q y = true
      · have hyes := any_at (p := q) HY.out he
        have HF := Lib.hid hyes; clear hyes
        have HE := Lib.hid he; clear he
        go_wp2_with (go_at_call 115; refine (HCALL.out y).mono ?_; rw [HQ.out, HE.out]; rintro e w1 ⟨rfl, rfl⟩)
        go_ret
        rw [HF.out]
        exact at_some (by omega)
      · have he : q y = false := by simpa using he
        have HE := Lib.hid he; clear he
        go_wp2_with (go_at_call 115; refine (HCALL.out y).mono ?_; rw [HQ.out, HE.out]; rintro e w1 ⟨rfl, rfl⟩)
        go_round
        case rel =>
          refine ⟨k + 1, by omega, by go_num, fun j z hj hz => ?_⟩
          by_cases e : j = k
          · subst e; have := HY.out.symm.trans hz; cases this; exact HE.out
          · exact HNO.out j z (by omega) hz
        case measure => simp [intOf]; omega
    · obtain rfl : k = l.length := by omega
      have hyes := any_prefix (p := q) rfl hno
      have HF := Lib.hid hyes; clear hyes hno
      go_wp2
      go_ret
      rw [HF.out]
      exact at_none

set_option maxHeartbeats 400000 in
set_option maxRecDepth 100000 in
theorem containsFunc_any (v : Value) (l : List Int) (p : Addr) (bv : Value) (lb : List Int) (w : World) (h : Nums .i64 w v l) (hp : w.cell? p = some bv) (hb : Nums .i64 w bv lb) :
    Calls Try.prog 114 #[v, .func (.func 115) #[] #[.pointer (some p)]] w (Tells (meetB l lb) w) := by
  have HCALL := Lib.hid (indexFunc_any v l p bv lb w h hp hb)
  clear h hp hb
  go_enter Try.func114, Try.ntmps114
  go_wp2_with (go_at_call 133; refine HCALL.out.mono ?_; rintro e w1 ⟨r, rfl, hr, rfl⟩)
  go_ret
  exact ⟨by rw [← hr]; rfl, rfl⟩

/-- A test that may lay blocks. -/
def TellsS (p : Bool) (w : World) (e : Ending) (w' : World) : Prop := e = .returned (.bool p) ∧ Since w w'

set_option maxHeartbeats 400000 in
set_option maxRecDepth 100000 in
theorem common_any (v bv : Value) (l lb : List Int) (w : World) (h : Nums .i64 w v l) (hb : Nums .i64 w bv lb) :
    Calls Try.prog 89 #[v, bv] w (TellsS (meetB l lb) w) := by
  obtain ⟨a2, cap2, rfl⟩ := nums_lenI hb
  have hcell : (w.alloc (.cells #[.slice a2 lb.length cap2] 25)).cell? ⟨w.heap.size, 0, none⟩ = some (.slice a2 lb.length cap2) := by unfold World.cell?; rw [show (w.alloc (.cells #[.slice a2 lb.length cap2] 25)).heap[w.heap.size]? = _ from heap_last _ _]; rfl
  have HC := Lib.hid (containsFunc_any v l ⟨w.heap.size, 0, none⟩ _ lb _ (h.keep ((Since.refl _).alloc _)) hcell (hb.keep ((Since.refl _).alloc _)))
  clear h hb hcell
  go_enter Try.func89, Try.ntmps89
  go_wp2_with (go_at_call 114; refine HC.out.mono ?_; rintro e w1 ⟨rfl, rfl⟩)
  go_ret
  exact ⟨rfl, (Since.refl _).alloc _⟩
end Go.Proofs.Ytkpbmbhejpmboaa
