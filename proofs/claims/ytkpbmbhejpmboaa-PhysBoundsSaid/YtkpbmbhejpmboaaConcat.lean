/- slices.Concat of rows of numbers; order.changes. -/
import Derived.Test.YtkpbmbhejpmboaaTakes
import Derived.Lib.AppendZeros
namespace Go.Proofs.Ytkpbmbhejpmboaa
open Go.RowKit
set_option linter.unusedVariables false

/-- A new row of the call's own: nothing yet, some room. -/
def Fresh (w : World) (e : Ending) (w' : World) : Prop := ∃ v, e = .returned v ∧ w'.ownsRow w.heap.size 3 1 v ([] : List Int).length (([] : List Int).map (Value.int .i64)) ∧ Since w w'

set_option maxHeartbeats 400000 in
set_option maxRecDepth 100000 in
theorem grow_nil (n : Nat) (w : World) (hn : n ≤ 100000) : Calls Try.prog 84 #[.slice none 0 0, .int .i64 n] w (Fresh w) := by
  rcases Nat.eq_zero_or_pos n with rfl | hp
  · go_enter Try.func84, Try.ntmps84
    go_wp2
    go_ret
    exact ⟨_, rfl, own_nil _ _ _ _, Since.refl _⟩
  · obtain ⟨i0, hi, hz0, hz1, hz2⟩ := info_parts Try.info3
    have hz2' : n * i0.bytes ≤ 281474976710656 := by rw [hz2]; omega
    have happ := Lib.run_append_nil_zeros (P := Try.prog) w 25 3 25 3 i0 (.int .i64 0) .i64 .i64 Try.underlying25 Try.underlying3 hi hz0 n hp (by rw [hz1]; decide) (by omega) hz2'
    have hge := grownCap_ge w n 0 3
    have hle := grownCap_le_maxLen w n 0 3 (by unfold maxLen; omega)
    generalize hcap : grownCap w n 0 3 = cap at *
    have HA := Lib.hid happ; clear happ
    have hmax : cap ≤ 9223372036854775807 := by unfold maxLen at hle; omega
    have hp' : (0 : Int) < (n : Int) := by omega
    clear hcap hz0 hz1 hz2 hi hz2'
    go_enter Try.func84, Try.ntmps84
    go_wp2_with (at_builtin; refine Lib.wpList_append_run _ rfl _ _ _ _ rfl _ _ rfl rfl _ _ HA.out ?_)
    go_ret
    refine ⟨_, rfl, ⟨rfl, .inr ⟨w.heap.size, cap, _, rfl, Nat.le_refl _, (MapKept.heap_alloc w.drew _).1, Nat.zero_le _, hle, ?_, ?_⟩⟩, (Since.refl w).drew.alloc _⟩
    · simp only [Array.size_append, size_zeroCells]
      simp
      omega
    · rfl

/-- A slice of rows of numbers. -/
def Rows2 (w : World) (v : Value) (rows : List (Value × List Int)) : Prop :=
  ∃ b off cap, v = .slice (some ⟨b, off, none⟩) rows.length cap ∧ b < w.heap.size ∧ ∀ (j : Nat) (x : Value × List Int), rows[j]? = some x → w.cell? ⟨b, off + j, none⟩ = some x.1 ∧ Nums .i64 w x.1 x.2

def total (rows : List (Value × List Int)) : Nat := (rows.map fun x => x.2.length).sum
def joined (rows : List (Value × List Int)) : List Int := (rows.map fun x => x.2).flatten
theorem total_take (rows : List (Value × List Int)) (k : Nat) (x : Value × List Int) (h : rows[k]? = some x) : total (rows.take (k + 1)) = total (rows.take k) + x.2.length := by
  unfold total; rw [List.take_add_one, h]; simp
theorem joined_take (rows : List (Value × List Int)) (k : Nat) (x : Value × List Int) (h : rows[k]? = some x) : joined (rows.take (k + 1)) = joined (rows.take k) ++ x.2 := by
  unfold joined; rw [List.take_add_one, h]; simp
theorem joined_length (rows : List (Value × List Int)) : (joined rows).length = total rows := by
  unfold joined total; rw [List.length_flatten, List.map_map]; rfl
theorem total_mono (rows : List (Value × List Int)) (k : Nat) : total (rows.take k) ≤ total rows := by
  have : total rows = total (rows.take k) + total (rows.drop k) := by
    unfold total; rw [← List.sum_append, ← List.map_append, List.take_append_drop]
  omega
theorem nums_lenI {k : IntKind} {w : World} {v : Value} {l : List Int} (h : Nums k w v l) : ∃ a cap, v = .slice a l.length cap := by
  rcases h with ⟨_, h1, rfl⟩ | ⟨b, off, cap, h1, _⟩
  · exact ⟨_, _, h1⟩
  · exact ⟨_, _, h1⟩

set_option maxHeartbeats 1000000 in
set_option maxRecDepth 100000 in
theorem concat_any (v : Value) (rows : List (Value × List Int)) (w : World) (h : Rows2 w v rows) (hn : rows.length ≤ 1000) (ht : total rows ≤ 100000) :
    Calls Try.prog 54 #[v] w (Gives w (joined rows)) := by
  obtain ⟨b, off, cap, rfl, hb, hcell⟩ := h
  have HC := Lib.hid hcell; clear hcell
  go_enter Try.func54, Try.ntmps54
  go_wp2_with fail
  go_loop [3, 11] (fun s i => ∃ k : Nat, k ≤ rows.length ∧ i = .int .i64 k ∧ s = .int .i64 (total (rows.take k) : Nat)) (fun _ i => rows.length - (intOf i).toNat)
  case atStart => exact ⟨0, by omega, rfl, rfl⟩
  case round =>
    obtain ⟨k, hk, rfl, rfl⟩ := hrel
    have hm := total_mono rows k
    by_cases hlt : k < rows.length
    · obtain ⟨x, hx⟩ : ∃ x, rows[k]? = some x := ⟨_, List.getElem?_eq_getElem hlt⟩
      obtain ⟨hc, hnum⟩ := HC.out k x hx
      obtain ⟨a, c, hv⟩ := nums_lenI hnum
      have hs := total_take rows k x hx
      have hm2 := total_mono rows (k + 1)
      rw [hv] at hc
      have HS := Lib.hid hs
      generalize total (rows.take k) = t at *
      clear hs
      have ht2 : t + x.2.length ≤ 100000 := by have := HS.out; omega
      go_wp2_with fail
      go_round
      case rel => exact ⟨k + 1, by omega, by go_num, by rw [HS.out]; go_num⟩
      case measure => simp [intOf]; omega
    · obtain rfl : k = rows.length := by omega
      rw [List.take_length]
      go_wp2_with fail
      refine (grow_nil _ _ ht).mono ?_
      rintro e w1 ⟨g, rfl, hown, hs1⟩
      go_wp2_with fail
      go_loopw [6, 27] (fun s i wr => ∃ k : Nat, k ≤ rows.length ∧ i = .int .i64 k ∧ wr.ownsRow w.heap.size 3 1 s (joined (rows.take k)).length ((joined (rows.take k)).map (Value.int .i64)) ∧ Since w wr) (fun _ i _ => rows.length - (intOf i).toNat)
      case atStart => exact ⟨0, by omega, rfl, hown, hs1⟩
      case round =>
        obtain ⟨k, hk, rfl, hownr, hsr⟩ := hrel
        by_cases hlt : k < rows.length
        · obtain ⟨x, hx⟩ : ∃ x, rows[k]? = some x := ⟨_, List.getElem?_eq_getElem hlt⟩
          obtain ⟨hc, hnum⟩ := HC.out k x hx
          have hjt := joined_take rows k x hx
          have hjl := joined_length (rows.take (k + 1))
          have hm2 := total_mono rows (k + 1)
          rw [hjt, List.length_append] at hjl
          have HJ := Lib.hid hjt
          generalize joined (rows.take k) = jk at *
          clear hjt
          have hjl2 : jk.length + x.2.length ≤ 1000000 := by omega
          clear hjl
          have hc2 : wr.cell? ⟨b, off + k, none⟩ = some x.1 := by rw [hsr.cell hb]; exact hc
          have hnum2 := hnum.keep hsr
          have HN := Lib.hid hnum2
          have HO := Lib.hid hownr
          clear hnum hnum2 hownr hc
          go_wp2_with (at_builtin; refine wpList_append_nums (w0 := w) .i64 rfl _ _ 25 rfl 3 (.int .i64 0) 8 Try.underlying25 Try.info3 rfl (by decide) _ _ jk x.2 rfl rfl HO.out HN.out hjl2 hsr ?_; intro v' w' hown2 hs2)
          go_roundw
          case rel => exact ⟨k + 1, by omega, by go_num, by rw [HJ.out]; exact hown2, hs2⟩
          case measure => simp [intOf]; omega
        · obtain rfl : k = rows.length := by omega
          rw [List.take_length] at hownr
          go_wp2_with fail
          go_ret
          exact ⟨_, rfl, nums_of_own hownr, hsr⟩
end Go.Proofs.Ytkpbmbhejpmboaa
