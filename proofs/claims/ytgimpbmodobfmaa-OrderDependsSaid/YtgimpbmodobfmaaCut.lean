/- jacquardlaw17.cut. -/
import Derived.Test.YtgimpbmodobfmaaRefDepends
namespace Go.Proofs.Ytgimpbmodobfmaa
open Go.RowKit
set_option linter.unusedVariables false

def cutM (m : Mach) : Mach := { m with args := m.args.take 5 }

theorem nums_take {k : IntKind} {w : World} {a : Option Addr} {cap : Nat} {l : List Int} (h : Nums k w (.slice a l.length cap) l) (n : Nat) (hn : n ≤ l.length) : Nums k w (.slice a n cap) (l.take n) := by
  rcases h with ⟨_, h1, h2⟩ | ⟨b, off, cap', h1, h2, h3, hb, hc⟩
  · subst h2; obtain rfl : n = 0 := by simpa using hn
    cases h1
    exact .inl ⟨_, rfl, rfl⟩
  · cases h1
    have hl : (l.take n).length = n := by rw [List.length_take]; omega
    refine .inr ⟨b, off, cap, by rw [hl], by omega, h3, hb, fun j x hj => ?_⟩
    refine hc j x ?_
    rw [List.getElem?_take] at hj
    split at hj
    · exact hj
    · cases hj

/-- A struct that is handed back, its Args given. -/
def GivesM (w : World) (m : Mach) (e : Ending) (w' : World) : Prop := ∃ av, e = .returned (mv m av) ∧ Ints w' av m.args ∧ Since w w'

set_option maxHeartbeats 1000000 in
theorem cut_any (m : Mach) (av : Value) (w : World) (h : Ints w av m.args) : Calls Try.prog 6 #[mv m av] w (GivesM w (cutM m)) := by
  have hlen := h.len
  obtain ⟨a, cap, rfl⟩ := nums_lenI h
  have hcap : m.args.length ≤ cap ∧ cap ≤ 9223372036854775807 := by
    rcases h with ⟨_, h1, h2⟩ | ⟨b, off, cap', h1, h2, h3, hb, hc⟩
    · rw [h2] at h1 ⊢
      injection h1 with _ _ h3
      subst h3
      exact ⟨Nat.le_refl _, by omega⟩
    · cases h1; unfold maxLen at h3; exact ⟨h2, by omega⟩
  obtain ⟨hc1, hc2⟩ := hcap
  have H := Lib.hid h; clear h
  unfold maxLen at hlen
  unfold mv
  have hfin : ∀ (n : Nat), (n = m.args.length ∧ m.args.length ≤ 5 ∨ n = 5 ∧ 5 ≤ m.args.length) → Ints w (.slice a n cap) (cutM m).args := by
    intro n hn
    unfold cutM
    dsimp only
    rcases hn with ⟨rfl, h⟩ | ⟨rfl, h⟩
    · rw [List.take_of_length_le h]; exact H.out
    · exact nums_take H.out 5 h
  have HFIN := Lib.hid hfin; clear hfin
  by_cases h5 : 5 < m.args.length
  · have h5' : (5 : Int) < (m.args.length : Int) := by omega
    go_enter Try.func6, Try.ntmps6
    go_wp2
    exact bodyPost_ret (v := mv (cutM m) (.slice a 5 cap)) (by simp [results, Try.results6, go_sem, mv, cutM]) rfl ⟨_, rfl, (HFIN.out 5 (.inr ⟨rfl, by omega⟩)).keep (((Since.refl _).alloc _).alloc _), ((Since.refl _).alloc _).alloc _⟩
  · have h5' : (m.args.length : Int) ≤ 5 := by omega
    go_enter Try.func6, Try.ntmps6
    go_wp2
    exact bodyPost_ret (v := mv (cutM m) (.slice a m.args.length cap)) (by simp [results, Try.results6, go_sem, mv, cutM]) rfl ⟨_, rfl, (HFIN.out _ (.inl ⟨rfl, by omega⟩)).keep (((Since.refl _).alloc _).alloc _), ((Since.refl _).alloc _).alloc _⟩
end Go.Proofs.Ytgimpbmodobfmaa
