/- The walk of WordAll. -/
import Derived.Test.YtcjcbaohefcnlaaShown
import Derived.Test.YtcjcbaohefcnlaaRefDo
namespace Go.Proofs.Ytcjcbaohefcnlaa
open Go.RowKit

theorem bd32 {n : Int} (h : (Lit.int .i32 n).wf = true) : -2147483648 ≤ n ∧ n ≤ 2147483647 := by
  simp [Lit.wf, IntKind.min, IntKind.max, IntKind.signed, IntKind.bits] at h
  omega

set_option maxHeartbeats 1000000 in
theorem walk_all (a b op : Int) (ha : (Lit.int .i32 a).wf = true) (hb : (Lit.int .i32 b).wf = true) (_ho : (Lit.int .i64 op).wf = true) (w : World) :
    Calls Try.prog 3 #[.int .i32 a, .int .i32 b, .int .i64 op] w fun e w' => e = .returned (.bool true) ∧ Below w.heap.size w w' := by
  obtain ⟨ha, ha'⟩ := bd32 ha
  obtain ⟨hb, hb'⟩ := bd32 hb
  go_enter Try.func3, Try.ntmps3
  go_wp2_with fail
  refine (shown_any _).mono ?_
  rintro e w1 ⟨rfl, hb1⟩
  go_wp2_with fail
  go_loopw [8] (fun i wr => ∃ k : Int, -1 ≤ k ∧ k ≤ 20 ∧ i = .int .i64 k ∧ Below w.heap.size w wr) (fun i _ => (20 - intOf i).toNat)
  case atStart => exact ⟨_, by omega, by omega, rfl, hb1⟩
  case round =>
    obtain ⟨k, hk1, hk2, rfl, hbr⟩ := hrel
    by_cases hlt : k < 20
    · go_wp2_with fail
      refine (do_any _ _ _ _ ha ha' hb hb').mono ?_
      rintro e w2 ⟨rfl, hb2⟩
      go_wp2_with fail
      refine (rdo_any _ _ _ _ ha ha' hb hb').mono ?_
      rintro e w3 ⟨rfl, hb3⟩
      go_wp2_with fail
      have s1 := hbr.size
      have s2 := hb2.size
      go_roundw
      case rel => exact ⟨k + 1, by omega, by omega, rfl, (hbr.trans (hb2.mono s1)).trans (hb3.mono (Nat.le_trans s1 s2))⟩
      case measure => simp [intOf]; omega
    · go_wp2_with fail
      have s0 := hbr.size
      refine (do_any _ _ _ _ ha ha' hb hb').mono ?_
      rintro e w2 ⟨rfl, hb2⟩
      go_wp2_with fail
      refine (rdo_any _ _ _ _ ha ha' hb hb').mono ?_
      rintro e w3 ⟨rfl, hb3⟩
      go_wp2_with fail
      refine (wide_any _ _ _ ha ha' hb hb').mono ?_
      rintro e w4 ⟨rfl, rfl⟩
      go_wp2_with fail
      refine (rwide_any _ _ _ ha ha' hb hb').mono ?_
      rintro e w4 ⟨rfl, rfl⟩
      go_wp2_with fail
      have s2 := hb2.size
      go_ret
      exact ⟨rfl, (hbr.trans (hb2.mono s0)).trans (hb3.mono (Nat.le_trans s0 s2))⟩

end Go.Proofs.Ytcjcbaohefcnlaa
