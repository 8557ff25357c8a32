/- interp.Memory: a run's own memory. -/
import Derived.Test.YtkpbmbhejpmboaaBlock
import Derived.Test.YtkpbmbhejpmboaaClone
namespace Go.Proofs.Ytkpbmbhejpmboaa
open Go.RowKit
set_option linter.unusedVariables false

theorem nums_take {k : IntKind} {w : World} {a : Option Addr} {cap : Nat} {l : List Int} (h : Nums k w (.slice a l.length cap) l) (n : Nat) (hn : n ≤ l.length) : Nums k w (.slice a n cap) (l.take n) := by
  rcases h with ⟨_, h1, h2⟩ | ⟨b, off, cap', h1, h2, h3, hb, hc⟩
  · subst h2; obtain rfl : n = 0 := by simpa using hn
    cases h1
    exact .inl ⟨_, rfl, rfl⟩
  · cases h1
    have hl : (l.take n).length = n := by rw [List.length_take]; omega
    refine .inr ⟨b, off, cap, by rw [hl], by omega, h3, hb, fun j x hj => ?_⟩
    refine hc j x ?_
    rw [List.getElem?_take] at hj
    split at hj
    · exact hj
    · cases hj

theorem nums_own32 {base : Nat} {w : World} {v : Value} {l : List Int} (h : w.ownsRow base 21 1 v l.length (l.map (Value.int .i32))) (hl : l.length ≤ 1000000) : MemIs w v l ∧ ∀ q, v.ownBlock = some q → base ≤ q ∧ q < w.heap.size := by
  refine ⟨?_, fun q hq => World.ownsRow.lt h q hq⟩
  obtain ⟨_, ⟨hv, hn⟩ | ⟨g, cap, cur, hv, _, hg, hc, hm, hs, htake⟩⟩ := h
  · exact .inl ⟨hv, List.length_eq_zero_iff.1 hn⟩
  · refine .inr ⟨g, cap, cur.toList.drop l.length, 21, hv, ?_, hl⟩
    unfold WAt
    rw [hg]
    rw [Nat.mul_one] at htake
    rw [← htake, List.take_append_drop]

/-- What is handed back is a copy of its own. -/
def MemQ (w : World) (l : List Int) (e : Ending) (w' : World) : Prop := ∃ v, e = .returned v ∧ MemIs w' v l ∧ (∀ q, v.ownBlock = some q → w.heap.size ≤ q ∧ q < w'.heap.size) ∧ Since w w'

theorem Try.info32 : (Try.prog.info? 21).map (fun i => (i.zero, i.size, i.bytes)) = some (some (.int .i32 0), 1, 4) := by kernel_rfl
set_option maxHeartbeats 400000 in
set_option maxRecDepth 100000 in
theorem clone32_any (v : Value) (l : List Int) (w : World) (h : Nums .i32 w v l) (hl : l.length ≤ 4096) :
    Calls Try.prog 78 #[v] w (MemQ w l) := by
  have h' := h
  have he := fun w a l c => Lib.run_eql_slice_nil (P := Try.prog) w 34 _ a l c 0 0 Try.underlying34
  rcases h with ⟨ad, rfl, rfl⟩ | ⟨b, off, cap, rfl, hcap, hmax, hb, hcell⟩
  · rcases ad with _ | ad
    rotate_left
    · go_enter Try.func78, Try.ntmps78
      go_wp2_with (at_builtin; refine wpList_append_nums (w0 := w) .i32 rfl _ _ 34 rfl 21 (.int .i32 0) 4 Try.underlying34 Try.info32 rfl (by decide) _ _ [] [] rfl rfl (own_empty rfl (Nat.le_refl _) _ _) (h'.keep ((Since.refl _).alloc _)) (by simp) ((Since.refl _).alloc _) ?_; intro v' w' hown hs)
      go_ret
      have h2 := nums_own32 (l := []) hown (by simp)
      exact ⟨_, rfl, h2.1, h2.2, hs⟩
    go_enter Try.func78, Try.ntmps78
    go_wp2
    go_ret
    exact ⟨.slice none 0 0, rfl, .inl ⟨rfl, rfl⟩, fun q (hq : none = some q) => (nomatch hq), Since.refl _⟩
  · go_enter Try.func78, Try.ntmps78
    go_wp2_with (at_builtin; refine wpList_append_nums (w0 := w) .i32 rfl _ _ 34 rfl 21 (.int .i32 0) 4 Try.underlying34 Try.info32 rfl (by decide) _ _ [] l rfl rfl (own_empty rfl (Nat.le_refl _) _ _) (h'.keep ((Since.refl _).alloc _)) (by simp; omega) ((Since.refl _).alloc _) ?_; intro v' w' hown hs)
    go_ret
    have h2 := nums_own32 (l := l) hown (by omega)
    exact ⟨_, rfl, h2.1, h2.2, hs⟩

theorem nums_caps {k : IntKind} {w : World} {a : Option Addr} {cap n : Nat} {l : List Int} (h : Nums k w (.slice a n cap) l) : n = l.length ∧ n ≤ cap ∧ cap ≤ 9223372036854775807 := by
  rcases h with ⟨_, h1, h2⟩ | ⟨b, off, cap', h1, h2, h3, hb, hc⟩
  · cases h1; subst h2; exact ⟨rfl, Nat.le_refl _, by omega⟩
  · cases h1; unfold maxLen at h3; exact ⟨rfl, h2, by omega⟩

set_option maxHeartbeats 1000000 in
set_option maxRecDepth 100000 in
theorem memory_any (av mv0 nv : Value) (st : Int) (l : List Int) (w : World) (h : Nums .i32 w mv0 l) :
    Calls Try.prog 47 #[.agg #[av, mv0, nv, .int .i64 st]] w (MemQ w (l.take 4096)) := by
  obtain ⟨a, cap, rfl⟩ := nums_lenI h
  obtain ⟨_, hc1, hc2⟩ := nums_caps h
  by_cases h5 : 4096 < l.length
  · have h5' : (4096 : Int) < (l.length : Int) := by omega
    have H := Lib.hid (fun w' (hs : Since w w') => clone32_any (.slice a 4096 cap) (l.take 4096) w' ((nums_take h 4096 (by omega)).keep hs) (by simp; omega))
    go_enter Try.func47, Try.ntmps47
    go_wp2_with fail
    refine (H.out _ ((Since.refl _).alloc _)).mono ?_
    rintro e w2 ⟨v, rfl, hv1, hv2, hs⟩
    go_wp2
    go_ret
    exact ⟨_, rfl, hv1, fun q hq => ⟨by have := (hv2 q hq).1; simp at this; omega, (hv2 q hq).2⟩, ((Since.refl _).alloc _).trans hs⟩
  · have h5' : (l.length : Int) ≤ 4096 := by omega
    have H := Lib.hid (fun w' (hs : Since w w') => clone32_any (.slice a l.length cap) (l.take 4096) w' (by rw [List.take_of_length_le (by omega)]; exact h.keep hs) (by simp; omega))
    go_enter Try.func47, Try.ntmps47
    go_wp2_with fail
    refine (H.out _ ((Since.refl _).alloc _)).mono ?_
    rintro e w2 ⟨v, rfl, hv1, hv2, hs⟩
    go_wp2
    go_ret
    exact ⟨_, rfl, hv1, fun q hq => ⟨by have := (hv2 q hq).1; simp at this; omega, (hv2 q hq).2⟩, ((Since.refl _).alloc _).trans hs⟩
end Go.Proofs.Ytkpbmbhejpmboaa
