/- jacquardref03's maker: take, word. -/
import Derived.Test.YtkpbmbhejpmboaaCallsMore
namespace Go.Proofs.Ytkpbmbhejpmboaa
open Go.RowKit
set_option linter.unusedVariables false

/-- A maker, that has taken at numbers. -/
def MkAt (w : World) (mb : Nat) (sv : Value) (at_ : Nat) (rest : List Value) : Prop := HeapIs w mb (sv :: .int .i64 at_ :: rest).toArray 122
theorem MkAt.keep {w w' : World} {mb : Nat} {sv : Value} {at_ : Nat} {rest : List Value} (h : MkAt w mb sv at_ rest) (s : Since w w') : MkAt w' mb sv at_ rest := HeapIs.keep h s
/-- The next number, from 0 to n less 1. -/
def takeF (l : List Int) (at_ : Nat) (n : Int) : Int := ((l.getD at_ 0).tmod n + n) % n
theorem takeF_bounds (l : List Int) (at_ : Nat) {n : Int} (hn : 0 < n) : 0 ≤ takeF l at_ n ∧ takeF l at_ n < n := by
  unfold takeF
  have h1 := Int.tmod_lt_of_pos (l.getD at_ 0) hn
  have h2 : -n < (l.getD at_ 0).tmod n := by
    have := Int.lt_tmod_of_pos (l.getD at_ 0) hn
    exact this
  exact ⟨Int.emod_nonneg _ (by omega), Int.emod_lt_of_pos _ hn⟩
/-- What take leaves. -/
def TakeQ (w : World) (mb : Nat) (sv : Value) (at_ k : Nat) (rest : List Value) (r : Value) (e : Ending) (w' : World) : Prop := e = .returned r ∧ MkAt w' mb sv (at_ + k) rest ∧ Turn (fun q => q = mb) w w' ∧ w'.heap.size = w.heap.size
theorem MkAt.next {w : World} {mb : Nat} {sv : Value} {at_ : Nat} {rest : List Value} (h : MkAt w mb sv at_ rest) : MkAt (w.setCell ⟨mb, 1, none⟩ (.int .i64 (at_ + 1))) mb sv (at_ + 1) rest := by
  have h1 := HeapIs.set (show HeapIs w mb _ _ from h) 1 (.int .i64 (at_ + 1))
  simpa [MkAt] using h1
theorem setCell_size (w : World) (a : Addr) (v : Value) : (w.setCell a v).heap.size = w.heap.size := by simp [World.setCell]

set_option maxHeartbeats 1000000 in
set_option maxRecDepth 100000 in
theorem take_any (sv : Value) (l : List Int) (w : World) (mb at_ : Nat) (rest : List Value) (n : Int) (hm : MkAt w mb sv at_ rest) (hs : Ints w sv l) (hat : at_ ≤ 1000000) (hn : 1 ≤ n ∧ n ≤ 1048576) : Calls Try.prog 77 #[.pointer (some ⟨mb, 0, none⟩), .int .i64 n] w (TakeQ w mb sv at_ 1 rest (.int .i64 (takeF l at_ n))) := by
  obtain ⟨sa, sc, rfl⟩ := nums_lenI hs
  have hlen := hs.len
  unfold maxLen at hlen
  obtain ⟨x, hx⟩ : ∃ x, l.getD at_ 0 = x := ⟨_, rfl⟩
  unfold takeF
  rw [hx]
  have hb1 := Int.tmod_lt_of_pos x (show 0 < n by omega)
  have hb2 : -n < x.tmod n := Int.lt_tmod_of_pos x (by omega)
  have HX := Lib.hid hx
  have HM := Lib.hid hm
  have HS := Lib.hid hs
  have c0 : w.cell? ⟨mb, 0, none⟩ = some (.slice sa l.length sc) := hm.cell 0
  have c1 : w.cell? ⟨mb, 1, none⟩ = some (.int .i64 at_) := hm.cell 1
  have hl := hm.lt
  have hfz := hm.frozen
  clear hx hm hs
  by_cases hlt : at_ < l.length
  · obtain ⟨_, hcc⟩ := nums_cell HS.out
    obtain ⟨B, off, rfl, hB, hcell⟩ := hcc (by intro e; rw [e] at hlt; simp at hlt)
    have hxx : l[at_]? = some x := by rw [← HX.out, List.getD_eq_getElem?_getD, List.getElem?_eq_getElem hlt]; rfl
    have c2 := hcell at_ x hxx
    clear hcell hcc hxx
    go_enter Try.func77, Try.ntmps77
    go_wp2_with fail
    go_quiet (fail)
    go_wp2_with fail
    go_quiet (fail)
    go_wp2
    go_ret
    exact ⟨rfl, (HM.out.keep (Since.drewN (Since.refl w) _)).next, (Turn.since (Since.drewN (Since.refl w) _)).trans ((Turn.refl (fun q => q = mb) _).setCell (p := ⟨mb, 1, none⟩) rfl _), by rw [setCell_size]; rfl⟩
  · obtain rfl : x = 0 := by rw [← HX.out, List.getD_eq_getElem?_getD, List.getElem?_eq_none (by omega)]; rfl
    rw [show ((0 : Int).tmod n + n) % n = 0 from by simp]
    go_enter Try.func77, Try.ntmps77
    go_wp2_with fail
    go_quiet (fail)
    go_wp2
    go_ret
    exact ⟨rfl, (HM.out.keep (Since.drewN (Since.refl w) _)).next, (Turn.since (Since.drewN (Since.refl w) _)).trans ((Turn.refl (fun q => q = mb) _).setCell (p := ⟨mb, 1, none⟩) rfl _), by rw [setCell_size]; rfl⟩

/-- A word: small ones, and others. -/
def wordF (l : List Int) (at_ : Nat) : Int :=
  if takeF l (at_ + 1) 8 = 0 then wrap32 (takeF l at_ 1048576 * 4099)
  else if takeF l (at_ + 1) 8 = 1 then -takeF l at_ 1048576
  else if takeF l (at_ + 1) 8 = 2 then -2147483648
  else if takeF l (at_ + 1) 8 = 3 then takeF l at_ 1048576 % 70000
  else takeF l at_ 1048576 % 20 - 4

theorem wrap32_in (x : Int) : In32 (wrap32 x) := by
  unfold wrap32 In32
  omega
theorem wordF_32 (l : List Int) (at_ : Nat) : In32 (wordF l at_) := by
  have b1 := takeF_bounds l at_ (n := 1048576) (by decide)
  unfold wordF
  split
  · exact wrap32_in _
  split
  · unfold In32; omega
  split
  · unfold In32; omega
  split
  · unfold In32; omega
  · unfold In32; omega

set_option maxHeartbeats 1000000 in
set_option maxRecDepth 100000 in
theorem word_any (sv : Value) (l : List Int) (w : World) (mb at_ : Nat) (rest : List Value) (hm : MkAt w mb sv at_ rest) (hs : ∀ w', Turn (fun q => q = mb) w w' → Ints w' sv l) (hat : at_ ≤ 100000) : Calls Try.prog 76 #[.pointer (some ⟨mb, 0, none⟩)] w (TakeQ w mb sv at_ 2 rest (.int .i32 (wordF l at_))) := by
  have ht1 := take_any sv l w mb at_ rest 1048576 hm (hs w (Turn.refl _ _)) (by omega) (by decide)
  have ht2 := fun w1 (h : MkAt w1 mb sv (at_ + 1) rest) (h2 : Ints w1 sv l) => take_any sv l w1 mb (at_ + 1) rest 8 h h2 (by omega) (by decide)
  have b1 := takeF_bounds l at_ (n := 1048576) (by decide)
  have b2 := takeF_bounds l (at_ + 1) (n := 8) (by decide)
  obtain ⟨r, hr⟩ : ∃ r, wordF l at_ = r := ⟨_, rfl⟩
  rw [hr]
  unfold wordF at hr
  generalize takeF l at_ 1048576 = x at *
  generalize takeF l (at_ + 1) 8 = y at *
  have HR := Lib.hid hr
  clear hr
  have HT1 := Lib.hid ht1
  have HT2 := Lib.hid ht2
  have HS := Lib.hid hs
  clear ht1 ht2 hm hs
  have hy : y = 0 ∨ y = 1 ∨ y = 2 ∨ y = 3 ∨ (4 ≤ y ∧ y < 8) := by omega
  go_enter Try.func76, Try.ntmps76
  go_wp2_with fail
  refine HT1.out.mono ?_
  rintro e w1 ⟨rfl, hm1, t1, z1⟩
  have hs1 : Ints w1 sv l := HS.out w1 t1
  have HM1 := Lib.hid hm1
  have HS1 := Lib.hid hs1
  have HT1' := Lib.hid t1
  have HZ1 := Lib.hid z1
  clear hm1 hs1 t1 z1
  go_wp2_with fail
  refine (HT2.out w1 HM1.out HS1.out).mono ?_
  rintro e w2 ⟨rfl, hm2, t2, z2⟩
  have HQ := Lib.hid (show MkAt w2 mb sv (at_ + 2) rest ∧ Turn (fun q => q = mb) w w2 ∧ w2.heap.size = w.heap.size from ⟨hm2, HT1'.out.trans t2, z2.trans HZ1.out⟩)
  clear hm2 t2 z2
  rcases hy with rfl | rfl | rfl | rfl | hy
  · obtain rfl : wrap32 (x * 4099) = r := HR.out
    go_wp2
    go_ret
    exact ⟨rfl, HQ.out⟩
  · obtain rfl : -x = r := HR.out
    go_wp2
    go_ret
    exact ⟨rfl, HQ.out⟩
  · obtain rfl : (-2147483648 : Int) = r := HR.out
    go_wp2
    go_ret
    exact ⟨rfl, HQ.out⟩
  · obtain rfl : x % 70000 = r := HR.out
    go_wp2
    go_ret
    exact ⟨rfl, HQ.out⟩
  · have y0 : (y == 0) = false := by simp; omega
    have y1 : (y == 1) = false := by simp; omega
    have y2 : (y == 2) = false := by simp; omega
    have y3 : (y == 3) = false := by simp; omega
    have hr := HR.out
    rw [if_neg (by omega), if_neg (by omega), if_neg (by omega), if_neg (by omega)] at hr
    subst hr
    go_wp2
    go_ret
    exact ⟨rfl, HQ.out⟩
end Go.Proofs.Ytkpbmbhejpmboaa
