/- jacquardlaw17.cut. -/
import Derived.Test.YtgimpbmodobfmaaRefDepends
namespace Go.Proofs.Ytgimpbmodobfmaa
open Go.RowKit
set_option linter.unusedVariables false

def cutM (m : Mach) : Mach := { m with args := m.args.take 5 }

theorem nums_take {k : IntKind} {w : World} {a : Option Addr} {cap : Nat} {l : List Int} (h : Nums k w (.slice a l.length cap) l) (n : Nat) (hn : n ≤ l.length) : Nums k w (.slice a n cap) (l.take n) := by
  rcases h with ⟨_, h1, h2⟩ | ⟨b, off, cap', h1, h2, h3, hb, hc⟩
  · subst h2; obtain rfl : n = 0 := by simpa using hn
    cases h1
    exact .inl ⟨_, rfl, rfl⟩
  · cases h1
    have hl : (l.take n).length = n := by rw [List.length_take]; omega
    refine .inr ⟨b, off, cap, by rw [hl], by omega, h3, hb, fun j x hj => ?_⟩
    refine hc j x ?_
    rw [List.getElem?_take] at hj
    split at hj
    · exact hj
    · cases hj

/-- A struct that is handed back, its Args given. -/
def GivesM (w : World) (m : Mach) (e : Ending) (w' : World) : Prop := ∃ av, e = .returned (mv m av) ∧ Ints w' av m.args ∧ Since w w'

def cutV (m : Mach) (a : Option Addr) (cap : Nat) : Value := .slice a (min m.args.length 5) cap
theorem cut_ints {w : World} {m : Mach} {a : Option Addr} {cap : Nat} (h : Ints w (.slice a m.args.length cap) m.args) : Ints w (cutV m a cap) (cutM m).args := by
  unfold cutM cutV
  dsimp only
  by_cases h5 : m.args.length ≤ 5
  · rw [List.take_of_length_le h5, Nat.min_eq_left h5]; exact h
  · rw [Nat.min_eq_right (by omega)]; exact nums_take h 5 (by omega)
def CutP (w : World) (m : Mach) (a : Option Addr) (cap : Nat) (e : Ending) (w' : World) : Prop := e = .returned (mv (cutM m) (cutV m a cap)) ∧ Since w w'

set_option maxHeartbeats 1000000 in
theorem cut_at (m : Mach) (a : Option Addr) (cap : Nat) (w : World) (hc1 : m.args.length ≤ cap) (hc2 : cap ≤ 9223372036854775807) : Calls Try.prog 6 #[mv m (.slice a m.args.length cap)] w (CutP w m a cap) := by
  unfold mv
  by_cases h5 : 5 < m.args.length
  · have h5' : (5 : Int) < (m.args.length : Int) := by omega
    have hv : cutV m a cap = .slice a 5 cap := by unfold cutV; rw [Nat.min_eq_right (by omega)]
    have HV := Lib.hid hv; clear hv
    go_enter Try.func6, Try.ntmps6
    go_wp2
    exact bodyPost_ret (v := mv (cutM m) (.slice a 5 cap)) (by simp [results, Try.results6, go_sem, mv, cutM]) rfl ⟨by rw [HV.out], ((Since.refl _).alloc _).alloc _⟩
  · have h5' : (m.args.length : Int) ≤ 5 := by omega
    have hv : cutV m a cap = .slice a m.args.length cap := by unfold cutV; rw [Nat.min_eq_left (by omega)]
    have HV := Lib.hid hv; clear hv
    go_enter Try.func6, Try.ntmps6
    go_wp2
    exact bodyPost_ret (v := mv (cutM m) (.slice a m.args.length cap)) (by simp [results, Try.results6, go_sem, mv, cutM]) rfl ⟨by rw [HV.out], ((Since.refl _).alloc _).alloc _⟩

theorem cut_any (m : Mach) (av : Value) (w : World) (h : Ints w av m.args) : Calls Try.prog 6 #[mv m av] w (GivesM w (cutM m)) := by
  have hlen := h.len
  obtain ⟨a, cap, rfl⟩ := nums_lenI h
  have hcap : m.args.length ≤ cap ∧ cap ≤ 9223372036854775807 := by
    rcases h with ⟨_, h1, h2⟩ | ⟨b, off, cap', h1, h2, h3, hb, hc⟩
    · rw [h2] at h1 ⊢
      injection h1 with _ _ h3
      subst h3
      exact ⟨Nat.le_refl _, by omega⟩
    · cases h1; unfold maxLen at h3; exact ⟨h2, by omega⟩
  exact (cut_at m a cap w hcap.1 hcap.2).mono fun e w' ⟨he, hs⟩ => ⟨_, he, (cut_ints h).keep hs, hs⟩
theorem ints_cap {w : World} {a : Option Addr} {cap n : Nat} {l : List Int} (h : Ints w (.slice a n cap) l) : n = l.length ∧ n ≤ cap ∧ cap ≤ 9223372036854775807 := by
  rcases h with ⟨_, h1, h2⟩ | ⟨b, off, cap', h1, h2, h3, hb, hc⟩
  · cases h1; subst h2; exact ⟨rfl, Nat.le_refl _, by omega⟩
  · cases h1; unfold maxLen at h3; exact ⟨rfl, h2, by omega⟩
end Go.Proofs.Ytgimpbmodobfmaa
