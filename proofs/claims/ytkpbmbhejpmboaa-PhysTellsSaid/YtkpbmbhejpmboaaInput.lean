/- jacquardref03.Input: what it hands back. -/
import Derived.Test.YtkpbmbhejpmboaaTake
import Derived.Test.YtkpbmbhejpmboaaCallsMore
import Derived.Test.YtkpbmbhejpmboaaRunHead
import Derived.Test.YtkpbmbhejpmboaaRegion9
namespace Go.Proofs.Ytkpbmbhejpmboaa
open Go.RowKit
set_option linter.unusedVariables false

def wordsF (l : List Int) (b k : Nat) : List Int := (List.range k).map fun t => wordF l (b + 2 * t)
theorem wordsF_len (l : List Int) (b k : Nat) : (wordsF l b k).length = k := by simp [wordsF]
theorem wordsF_succ (l : List Int) (b k : Nat) : wordsF l b (k + 1) = wordsF l b k ++ [wordF l (b + 2 * k)] := by
  unfold wordsF
  rw [List.range_succ, List.map_append]; rfl
theorem wordsF_32 (l : List Int) (b k : Nat) : ∀ x ∈ wordsF l b k, In32 x := by
  intro x hx
  obtain ⟨t, _, rfl⟩ := List.mem_map.1 hx
  exact wordF_32 _ _
def inNm (l : List Int) : Nat := (4 + takeF l 8 13).toNat
def inNa (l : List Int) : Nat := (takeF l (9 + 2 * inNm l) 7).toNat
/-- A new block of one datum. -/
def OneT (mb : Nat) (cs : Array Value) (T : TypeId) (v : Value) (w : World) : Prop := ∃ b, v = .slice (some ⟨b, 0, none⟩) 1 1 ∧ HeapIs w b cs T ∧ b ≠ mb
theorem OneT.stableT (mb : Nat) (cs : Array Value) (T : TypeId) : StableT (fun q => q = mb) (OneT mb cs T) := fun v w w' ⟨b, h1, h2, h3⟩ t => ⟨b, h1, h2.turn t h3, h3⟩
/-- An input as it is made: a row that grows, others that stay. -/
structure InPh (w0 : World) (mb ib base B0 : Nat) (sv : Value) (rest : List Value) (cs : Array Value) (v : Value) (xs : List Int) (ks : List (Value × List Int)) (at_ : Nat) (w : World) : Prop where
  made : MkAt w mb sv at_ rest
  box : HeapIs w ib cs 36
  old : Since w0 w
  res : HeapIs w w0.heap.size #[.slice none 0 0, .slice none 0 0, .slice none 0 0, .int .i64 0] 36
  above : base ≤ w.heap.size
  own : Own32 base w v xs
  kept : ∀ x ∈ ks, Nums .i32 w x.1 x.2 ∧ ∀ q, x.1.ownBlock = some q → B0 ≤ q ∧ q < base
  low : w0.heap.size < mb ∧ mb < B0 ∧ w0.heap.size < ib ∧ ib < B0 ∧ B0 ≤ base ∧ mb ≠ ib
section
variable {w0 w w' : World} {mb ib base B0 at_ : Nat} {sv v : Value} {rest : List Value} {cs : Array Value} {xs : List Int} {ks : List (Value × List Int)}
theorem InPh.keep (h : InPh w0 mb ib base B0 sv rest cs v xs ks at_ w) (s : Since w w') : InPh w0 mb ib base B0 sv rest cs v xs ks at_ w' :=
  ⟨h.made.keep s, h.box.keep s, h.old.trans s, h.res.keep s, Nat.le_trans h.above s.size, own_keep h.own s, fun x hx => ⟨(h.kept x hx).1.keep s, (h.kept x hx).2⟩, h.low⟩
theorem InPh.take {at' : Nat} (h : InPh w0 mb ib base B0 sv rest cs v xs ks at_ w) (hm : MkAt w' mb sv at' rest) (t : Turn (fun q => q = mb) w w') : InPh w0 mb ib base B0 sv rest cs v xs ks at' w' := by
  have hl := h.low
  refine ⟨hm, h.box.turn t fun e => hl.2.2.2.2.2 e.symm, t.toSince h.old fun q hq e => by omega, h.res.turn t fun e => by omega, Nat.le_trans h.above t.size, own_turn h.own t fun q hq e => ?_, fun x hx => ⟨(h.kept x hx).1.turn t fun q hq e => ?_, (h.kept x hx).2⟩, hl⟩
  · have := (World.ownsRow.lt h.own q hq).1; omega
  · have := (h.kept x hx).2 q hq; omega
theorem InPh.grow {v' : Value} {xs' : List Int} (h : InPh w0 mb ib base B0 sv rest cs v xs ks at_ w) (hown : Own32 base w' v' xs') (t : Turn (fun q => v.ownBlock = some q) w w') (f : Nat) : InPh w0 mb ib base B0 sv rest (cs.setIfInBounds f v') v' xs' ks at_ (w'.setCell ⟨ib, f, none⟩ v') := by
  have hl := h.low
  have hv : ∀ q, v.ownBlock = some q → base ≤ q := fun q hq => (World.ownsRow.lt h.own q hq).1
  have t2 : Turn (fun q => q = ib) w' (w'.setCell ⟨ib, f, none⟩ v') := (Turn.refl (fun q => q = ib) w').setCell (p := ⟨ib, f, none⟩) rfl _
  have tt : Turn (fun q => v.ownBlock = some q ∨ q = ib) w (w'.setCell ⟨ib, f, none⟩ v') := (t.mono fun q _ h => .inl h).trans (t2.mono fun q _ h => .inr h)
  refine ⟨HeapIs.turn (show HeapIs w mb _ _ from h.made) tt fun e => ?_, HeapIs.set (h.box.turn t fun e => ?_) f v', tt.toSince h.old fun q hq e => ?_, h.res.turn tt fun e => ?_, Nat.le_trans h.above tt.size, own_turn hown t2 fun q hq e => ?_, fun x hx => ⟨(h.kept x hx).1.turn tt fun q hq e => ?_, (h.kept x hx).2⟩, hl⟩
  · rcases e with e | e
    · have := hv _ e; omega
    · omega
  · have := hv _ e; omega
  · rcases e with e | e
    · have := hv _ e; omega
    · omega
  · rcases e with e | e
    · have := hv _ e; omega
    · omega
  · have := (World.ownsRow.lt hown q hq).1; omega
  · have h1 := (h.kept x hx).2 q hq
    rcases e with e | e
    · have := hv _ e; omega
    · omega
theorem InPh.next (h : InPh w0 mb ib base B0 sv rest cs v xs ks at_ w) : InPh w0 mb ib w.heap.size B0 sv rest cs (.slice none 0 0) [] ((v, xs) :: ks) at_ w := by
  have hl := h.low
  have hb := h.above
  refine ⟨h.made, h.box, h.old, h.res, Nat.le_refl _, own_nil _ _ _ _, fun x hx => ?_, by omega⟩
  rcases List.mem_cons.1 hx with rfl | hx
  · exact ⟨nums_of_own h.own, fun q hq => by have := World.ownsRow.lt h.own q hq; omega⟩
  · exact ⟨(h.kept x hx).1, fun q hq => by have := (h.kept x hx).2 q hq; omega⟩
end
def InputQ (l : List Int) (w : World) (e : Ending) (w' : World) : Prop := ∃ i : InV, e = .returned (iv i) ∧ InOk w' i ∧ i.args = wordsF l 0 4 ∧ i.mem = wordsF l 9 (inNm l) ∧ i.ans = wordsF l (9 + 2 * inNm l + 1) (inNa l) ∧ i.steps = 300 ∧ Since w w' ∧ ∀ q, i.argsv.ownBlock = some q ∨ i.memv.ownBlock = some q ∨ i.ansv.ownBlock = some q → w.heap.size ≤ q

set_option maxHeartbeats 4000000 in
set_option maxRecDepth 100000 in
theorem input_any (sv : Value) (l : List Int) (w : World) (hs : Ints w sv l) : Calls Try.prog 45 #[sv] w (InputQ l w) := by
  obtain ⟨sa, sc, rfl⟩ := nums_lenI hs
  generalize hsn : l.length = sn at *
  clear hsn
  have HS := Lib.hid hs
  clear hs
  obtain ⟨nm, hnm⟩ : ∃ n, inNm l = n := ⟨_, rfl⟩
  obtain ⟨na, hna⟩ : ∃ n, inNa l = n := ⟨_, rfl⟩
  have b1 := takeF_bounds l 8 (n := 13) (by decide)
  have b2 := takeF_bounds l (9 + 2 * nm) (n := 7) (by decide)
  have e1 : takeF l 8 13 = (nm : Int) - 4 := by unfold inNm at hnm; omega
  have e2 : takeF l (9 + 2 * nm) 7 = na := by unfold inNa at hna; rw [hnm] at hna; omega
  rw [e1] at b1
  rw [e2] at b2
  have E1 := Lib.hid e1
  have E2 := Lib.hid e2
  have HNM := Lib.hid hnm
  have HNA := Lib.hid hna
  clear hnm hna e1 e2
  obtain ⟨w3, hw3⟩ : ∃ x, x = ((w.alloc (.cells #[.slice none 0 0, .slice none 0 0, .slice none 0 0, .int .i64 0] 36)).alloc (.cells #[.slice sa sn sc, .int .i64 0, .int .i64 0, .slice none 0 0, .int .i64 0, .slice none 0 0] 122)).alloc (.cells #[.slice none 0 0, .slice none 0 0, .slice none 0 0, .int .i64 300] 36) := ⟨_, rfl⟩
  obtain ⟨B0, hB0⟩ : ∃ n, n = w3.heap.size := ⟨_, rfl⟩
  have hB1 : B0 = w.heap.size + 3 := by rw [hB0, hw3]; simp
  have hst : InPh w (w.heap.size + 1) (w.heap.size + 1 + 1) B0 B0 (.slice sa sn sc) [.int .i64 0, .slice none 0 0, .int .i64 0, .slice none 0 0] #[.slice none 0 0, .slice none 0 0, .slice none 0 0, .int .i64 300] (.slice none 0 0) (wordsF l 0 0) [] (0 + 2 * 0) w3 := by
    refine ⟨?_, ?_, ?_, ?_, by omega, own_nil _ _ _ _, fun x hx => (by cases hx), by omega⟩
    · have h1 := HeapIs.new (w.alloc (.cells #[.slice none 0 0, .slice none 0 0, .slice none 0 0, .int .i64 0] 36)) #[.slice sa sn sc, .int .i64 0, .int .i64 0, .slice none 0 0, .int .i64 0, .slice none 0 0] 122
      rw [show (w.alloc (.cells #[.slice none 0 0, .slice none 0 0, .slice none 0 0, .int .i64 0] 36)).heap.size = w.heap.size + 1 from by simp] at h1
      rw [hw3]
      exact HeapIs.keep h1 ((Since.refl _).alloc _)
    · have h1 := HeapIs.new ((w.alloc (.cells #[.slice none 0 0, .slice none 0 0, .slice none 0 0, .int .i64 0] 36)).alloc (.cells #[.slice sa sn sc, .int .i64 0, .int .i64 0, .slice none 0 0, .int .i64 0, .slice none 0 0] 122)) #[.slice none 0 0, .slice none 0 0, .slice none 0 0, .int .i64 300] 36
      rw [show ((w.alloc (.cells #[.slice none 0 0, .slice none 0 0, .slice none 0 0, .int .i64 0] 36)).alloc (.cells #[.slice sa sn sc, .int .i64 0, .int .i64 0, .slice none 0 0, .int .i64 0, .slice none 0 0] 122)).heap.size = w.heap.size + 1 + 1 from by simp] at h1
      rw [hw3]
      exact h1
    · rw [hw3]; exact (((Since.refl w).alloc _).alloc _).alloc _
    · rw [hw3]; exact ((HeapIs.new _ _ _).keep ((Since.refl _).alloc _)).keep ((Since.refl _).alloc _)
  have HST := Lib.hid hst
  have HW3 := Lib.hid hw3
  clear hst hB0 hw3
  go_enter Try.func45, Try.ntmps45
  go_wp2_with fail
  rw [← HW3.out]
  clear HW3
  go_loopw [5] (fun i wr => ∃ (k : Nat) (v : Value), k ≤ 4 ∧ i = .int .i64 k ∧ InPh w (w.heap.size + 1) (w.heap.size + 1 + 1) B0 B0 (.slice sa sn sc) [.int .i64 0, .slice none 0 0, .int .i64 0, .slice none 0 0] #[v, .slice none 0 0, .slice none 0 0, .int .i64 300] (v) (wordsF l 0 k) [] (0 + 2 * k) wr) (fun i _ => 4 - (intOf i).toNat)
  case atStart => exact ⟨0, _, Nat.zero_le _, rfl, HST.out⟩
  case round =>
    obtain ⟨k, v, hk, rfl, hst⟩ := hrel
    obtain ⟨va, vc, hv⟩ := own_shape (show wr.ownsRow _ _ _ _ _ _ from hst.own)
    rw [wordsF_len] at hv
    subst hv
    have HST := Lib.hid hst
    clear hst
    by_cases hlt : k < 4
    · have HWD := Lib.hid (fun w1 (h : InPh w (w.heap.size + 1) (w.heap.size + 1 + 1) B0 B0 (.slice sa sn sc) [.int .i64 0, .slice none 0 0, .int .i64 0, .slice none 0 0] #[.slice va k vc, .slice none 0 0, .slice none 0 0, .int .i64 300] (.slice va k vc) (wordsF l 0 k) [] (0 + 2 * k) w1) => word_any (.slice sa sn sc) l w1 (w.heap.size + 1) (0 + 2 * k) [.int .i64 0, .slice none 0 0, .int .i64 0, .slice none 0 0] h.made (fun w2 t => HS.out.keep (t.toSince h.old fun q hq e => by omega)) (by omega))
      obtain ⟨y, hy⟩ : ∃ y, wordF l (0 + 2 * k) = y := ⟨_, rfl⟩
      rw [hy] at HWD
      have HY := Lib.hid hy
      clear hy
      go_wp2_with fail
      try rw [show decide ((k : Int) < (4 : Int)) = true from decide_eq_true (by omega)]
      refine wp_region_turn_tail 5 [3] [0, 0, 0, 0, 1] [1, 1, 0, 0, 1] [0, 0, 0, 1, 0] (fun q => q = (w.heap.size + 1)) (fun p w1 => InPh w (w.heap.size + 1) (w.heap.size + 1 + 1) B0 B0 (.slice sa sn sc) [.int .i64 0, .slice none 0 0, .int .i64 0, .slice none 0 0] #[.slice va k vc, .slice none 0 0, .slice none 0 0, .int .i64 300] (.slice va k vc) (wordsF l 0 k) [] (0 + 2 * k + (if p = 0 then 0 else 2)) w1) rfl (by decide +kernel) (by decide +kernel) (by decide +kernel) (by decide) (by decide +kernel)
        [Is (.pointer (some ⟨(w.heap.size + 1 + 1), 0, none⟩)), Is (.slice va k vc), Is (.pointer (some ⟨(w.heap.size + 1), 0, none⟩)), Is (.int .i32 y), OneT (w.heap.size + 1) #[.int .i32 y] 21]
        (by repeat (first | exact trivial | refine ⟨Is.stableT _ _, ?_⟩ | refine ⟨OneT.stableT _ _ _, ?_⟩)) (HST.out.keep (Since.refl _).drew) ⟨?_, ?_, ?_, ?_, ?_, trivial⟩ ?_
      rotate_right
      · intro vs w1 ht hph hk
        simp only [List.take, List.drop, putAll, Act.put, KnowsAll, nthF, Is, List.setIfInBounds_toArray, List.set_cons_zero, List.set_cons_succ, Nat.reduceAdd] at hk ⊢
        try simp only [hk]
        obtain ⟨b1, hb1, hb2, _⟩ := hk.2.2.2.2.1
        simp only [hb1]
        have HPH := Lib.hid hph
        have HNM := Lib.hid (show Nums .i32 w1 (.slice (some ⟨b1, 0, none⟩) 1 1) [y] from nums_heap (k := .i32) (l := [y]) hb2 (by show 1 ≤ maxLen; decide))
        clear ht hk hb1 hb2 hph
        refine wpList_append_nums_turn (base := B0) .i32 rfl _ _ 34 rfl 21 (.int .i32 0) 4 Try.underlying34 Try.info32 rfl (by decide) (.slice va k vc) _ (wordsF l 0 k) [y] rfl rfl HPH.out.own HNM.out (by rw [wordsF_len]; simp; omega) HPH.out.above ?_
        intro v2 w5 hown2 ht2
        rw [← HY.out, ← wordsF_succ] at hown2
        obtain ⟨a5, c5, hv5⟩ := own_shape hown2
        rw [wordsF_len] at hv5
        subst hv5
        have hnx := HPH.out.grow hown2 ht2 0
        have hb5 := HPH.out.box.turn ht2 (own_not (show w1.ownsRow _ _ _ _ _ _ from HPH.out.own) HPH.out.box (by decide))
        have kc5 : w5.cell? ⟨(w.heap.size + 1 + 1), 0, none⟩ = some (.slice va k vc) := hb5.cell 0
        have kf5 := hb5.frozen
        have kl5 := hb5.lt
        have HNX := Lib.hid hnx
        clear hnx hown2 ht2 hb5
        go_wp2
        go_roundw
        case rel => exact ⟨k + 1, _, by omega, by go_num, HNX.out⟩
        case measure => simp [intOf]; omega
      all_goals
        intro p vs w1 hlo hhi ht hph hk
        simp only [List.take, putAll, Act.put, Knows, nthF, Is, List.setIfInBounds_toArray, List.set_cons_zero, List.set_cons_succ, Nat.reduceAdd] at hk ⊢
        try simp only [hk]
      · go_wp2
        exact ⟨_, rfl, rfl, Turn.refl _ _, hph⟩
      · have hc : w1.cell? ⟨(w.heap.size + 1 + 1), 0, none⟩ = some (.slice va k vc) := hph.box.cell 0
        have hl := hph.box.lt
        go_wp2
        exact ⟨_, rfl, rfl, Turn.refl _ _, hph⟩
      · go_wp2
        exact ⟨_, rfl, rfl, Turn.refl _ _, hph⟩
      · obtain rfl : p = 0 := by omega
        have hph0 : InPh w (w.heap.size + 1) (w.heap.size + 1 + 1) B0 B0 (.slice sa sn sc) [.int .i64 0, .slice none 0 0, .int .i64 0, .slice none 0 0] #[.slice va k vc, .slice none 0 0, .slice none 0 0, .int .i64 300] (.slice va k vc) (wordsF l 0 k) [] (0 + 2 * k) w1 := hph
        have HC := Lib.hid (HWD.out w1 hph0)
        have HP0 := Lib.hid hph0
        clear hph hph0
        go_wp2_with fail
        refine HC.out.mono ?_
        rintro e w7 ⟨rfl, hm7, t7, _⟩
        have h7 := HP0.out.take hm7 t7
        have HX := Lib.hid (And.intro t7 h7)
        clear hm7 t7 h7
        go_wp2
        exact ⟨_, rfl, rfl, HX.out.1, HX.out.2⟩
      · have hne : w1.heap.size ≠ (w.heap.size + 1) := by have := HeapIs.lt (show HeapIs w1 _ _ _ from hph.made); omega
        go_wp2
        exact ⟨_, rfl, ⟨_, rfl, HeapIs.new _ _ _, hne⟩, Turn.since ((Since.refl _).alloc _), hph.keep ((Since.refl _).alloc _)⟩
    · obtain rfl : 4 = k := by omega
      have hst2 := HST.out.next
      have HST := Lib.hid hst2
      clear hst2 hlt hk
      obtain ⟨va1, hva1⟩ : ∃ a, a = va := ⟨_, rfl⟩
      obtain ⟨vc1, hvc1⟩ : ∃ a, a = vc := ⟨_, rfl⟩
      rw [← hva1, ← hvc1] at HST
      clear hva1 hvc1
      have HTK : Hid (Calls Try.prog 77 _ wr (TakeQ wr (w.heap.size + 1) (.slice sa sn sc) (8) 1 [.int .i64 0, .slice none 0 0, .int .i64 0, .slice none 0 0] (.int .i64 (takeF l (8) 13)))) := Lib.hid (take_any (.slice sa sn sc) l wr (w.heap.size + 1) (8) [.int .i64 0, .slice none 0 0, .int .i64 0, .slice none 0 0] 13 HST.out.made (HS.out.keep HST.out.old) (by omega) (by decide))
      rw [E1.out] at HTK
      go_wp2_with fail
      refine HTK.out.mono ?_
      rintro e w8 ⟨rfl, hm8, t8, _⟩
      have h8 := HST.out.take hm8 t8
      obtain ⟨B2, hB2⟩ : ∃ n, n = wr.heap.size := ⟨_, rfl⟩
      rw [← hB2] at h8
      clear hB2
      have HST : Hid (InPh w (w.heap.size + 1) (w.heap.size + 1 + 1) B2 B0 (.slice sa sn sc) [.int .i64 0, .slice none 0 0, .int .i64 0, .slice none 0 0] #[.slice va1 4 vc1, .slice none 0 0, .slice none 0 0, .int .i64 300] (.slice none 0 0) (wordsF l 9 0) _ (9 + 2 * 0) w8) := Lib.hid h8
      clear hm8 t8 h8
      go_wp2_with fail
      try rw [show (4 : Int) + ((nm : Int) - 4) = nm from by omega]
      go_loopw [7] (fun i wr => ∃ (k : Nat) (v : Value), k ≤ nm ∧ i = .int .i64 k ∧ InPh w (w.heap.size + 1) (w.heap.size + 1 + 1) B2 B0 (.slice sa sn sc) [.int .i64 0, .slice none 0 0, .int .i64 0, .slice none 0 0] #[.slice va1 4 vc1, v, .slice none 0 0, .int .i64 300] (v) (wordsF l 9 k) [(.slice va1 4 vc1, wordsF l 0 4)] (9 + 2 * k) wr) (fun i _ => nm - (intOf i).toNat)
      case atStart => exact ⟨0, _, Nat.zero_le _, rfl, HST.out⟩
      case round =>
        obtain ⟨k, v, hk, rfl, hst⟩ := hrel
        obtain ⟨va, vc, hv⟩ := own_shape (show wr.ownsRow _ _ _ _ _ _ from hst.own)
        rw [wordsF_len] at hv
        subst hv
        have HST := Lib.hid hst
        clear hst
        by_cases hlt : k < nm
        · have HWD := Lib.hid (fun w1 (h : InPh w (w.heap.size + 1) (w.heap.size + 1 + 1) B2 B0 (.slice sa sn sc) [.int .i64 0, .slice none 0 0, .int .i64 0, .slice none 0 0] #[.slice va1 4 vc1, .slice va k vc, .slice none 0 0, .int .i64 300] (.slice va k vc) (wordsF l 9 k) [(.slice va1 4 vc1, wordsF l 0 4)] (9 + 2 * k) w1) => word_any (.slice sa sn sc) l w1 (w.heap.size + 1) (9 + 2 * k) [.int .i64 0, .slice none 0 0, .int .i64 0, .slice none 0 0] h.made (fun w2 t => HS.out.keep (t.toSince h.old fun q hq e => by omega)) (by omega))
          obtain ⟨y, hy⟩ : ∃ y, wordF l (9 + 2 * k) = y := ⟨_, rfl⟩
          rw [hy] at HWD
          have HY := Lib.hid hy
          clear hy
          go_wp2_with fail
          try rw [show decide ((k : Int) < (nm : Int)) = true from decide_eq_true (by omega)]
          refine wp_region_turn_tail 5 [3] [0, 0, 0, 0, 1] [1, 1, 0, 0, 1] [0, 0, 0, 1, 0] (fun q => q = (w.heap.size + 1)) (fun p w1 => InPh w (w.heap.size + 1) (w.heap.size + 1 + 1) B2 B0 (.slice sa sn sc) [.int .i64 0, .slice none 0 0, .int .i64 0, .slice none 0 0] #[.slice va1 4 vc1, .slice va k vc, .slice none 0 0, .int .i64 300] (.slice va k vc) (wordsF l 9 k) [(.slice va1 4 vc1, wordsF l 0 4)] (9 + 2 * k + (if p = 0 then 0 else 2)) w1) rfl (by decide +kernel) (by decide +kernel) (by decide +kernel) (by decide) (by decide +kernel)
            [Is (.pointer (some ⟨(w.heap.size + 1 + 1), 1, none⟩)), Is (.slice va k vc), Is (.pointer (some ⟨(w.heap.size + 1), 0, none⟩)), Is (.int .i32 y), OneT (w.heap.size + 1) #[.int .i32 y] 21]
            (by repeat (first | exact trivial | refine ⟨Is.stableT _ _, ?_⟩ | refine ⟨OneT.stableT _ _ _, ?_⟩)) (HST.out.keep (Since.refl _).drew) ⟨?_, ?_, ?_, ?_, ?_, trivial⟩ ?_
          rotate_right
          · intro vs w1 ht hph hk
            simp only [List.take, List.drop, putAll, Act.put, KnowsAll, nthF, Is, List.setIfInBounds_toArray, List.set_cons_zero, List.set_cons_succ, Nat.reduceAdd] at hk ⊢
            try simp only [hk]
            obtain ⟨b1, hb1, hb2, _⟩ := hk.2.2.2.2.1
            simp only [hb1]
            have HPH := Lib.hid hph
            have HNM := Lib.hid (show Nums .i32 w1 (.slice (some ⟨b1, 0, none⟩) 1 1) [y] from nums_heap (k := .i32) (l := [y]) hb2 (by show 1 ≤ maxLen; decide))
            clear ht hk hb1 hb2 hph
            refine wpList_append_nums_turn (base := B2) .i32 rfl _ _ 34 rfl 21 (.int .i32 0) 4 Try.underlying34 Try.info32 rfl (by decide) (.slice va k vc) _ (wordsF l 9 k) [y] rfl rfl HPH.out.own HNM.out (by rw [wordsF_len]; simp; omega) HPH.out.above ?_
            intro v2 w5 hown2 ht2
            rw [← HY.out, ← wordsF_succ] at hown2
            obtain ⟨a5, c5, hv5⟩ := own_shape hown2
            rw [wordsF_len] at hv5
            subst hv5
            have hnx := HPH.out.grow hown2 ht2 1
            have hb5 := HPH.out.box.turn ht2 (own_not (show w1.ownsRow _ _ _ _ _ _ from HPH.out.own) HPH.out.box (by decide))
            have kc5 : w5.cell? ⟨(w.heap.size + 1 + 1), 1, none⟩ = some (.slice va k vc) := hb5.cell 1
            have kf5 := hb5.frozen
            have kl5 := hb5.lt
            have HNX := Lib.hid hnx
            clear hnx hown2 ht2 hb5
            go_wp2
            go_roundw
            case rel => exact ⟨k + 1, _, by omega, by go_num, HNX.out⟩
            case measure => simp [intOf]; omega
          all_goals
            intro p vs w1 hlo hhi ht hph hk
            simp only [List.take, putAll, Act.put, Knows, nthF, Is, List.setIfInBounds_toArray, List.set_cons_zero, List.set_cons_succ, Nat.reduceAdd] at hk ⊢
            try simp only [hk]
          · go_wp2
            exact ⟨_, rfl, rfl, Turn.refl _ _, hph⟩
          · have hc : w1.cell? ⟨(w.heap.size + 1 + 1), 1, none⟩ = some (.slice va k vc) := hph.box.cell 1
            have hl := hph.box.lt
            go_wp2
            exact ⟨_, rfl, rfl, Turn.refl _ _, hph⟩
          · go_wp2
            exact ⟨_, rfl, rfl, Turn.refl _ _, hph⟩
          · obtain rfl : p = 0 := by omega
            have hph0 : InPh w (w.heap.size + 1) (w.heap.size + 1 + 1) B2 B0 (.slice sa sn sc) [.int .i64 0, .slice none 0 0, .int .i64 0, .slice none 0 0] #[.slice va1 4 vc1, .slice va k vc, .slice none 0 0, .int .i64 300] (.slice va k vc) (wordsF l 9 k) [(.slice va1 4 vc1, wordsF l 0 4)] (9 + 2 * k) w1 := hph
            have HC := Lib.hid (HWD.out w1 hph0)
            have HP0 := Lib.hid hph0
            clear hph hph0
            go_wp2_with fail
            refine HC.out.mono ?_
            rintro e w7 ⟨rfl, hm7, t7, _⟩
            have h7 := HP0.out.take hm7 t7
            have HX := Lib.hid (And.intro t7 h7)
            clear hm7 t7 h7
            go_wp2
            exact ⟨_, rfl, rfl, HX.out.1, HX.out.2⟩
          · have hne : w1.heap.size ≠ (w.heap.size + 1) := by have := HeapIs.lt (show HeapIs w1 _ _ _ from hph.made); omega
            go_wp2
            exact ⟨_, rfl, ⟨_, rfl, HeapIs.new _ _ _, hne⟩, Turn.since ((Since.refl _).alloc _), hph.keep ((Since.refl _).alloc _)⟩
        · obtain rfl : nm = k := by omega
          have hst2 := HST.out.next
          have HST := Lib.hid hst2
          clear hst2 hlt hk
          obtain ⟨va2, hva2⟩ : ∃ a, a = va := ⟨_, rfl⟩
          obtain ⟨vc2, hvc2⟩ : ∃ a, a = vc := ⟨_, rfl⟩
          rw [← hva2, ← hvc2] at HST
          clear hva2 hvc2
          have HTK : Hid (Calls Try.prog 77 _ wr (TakeQ wr (w.heap.size + 1) (.slice sa sn sc) (9 + 2 * nm) 1 [.int .i64 0, .slice none 0 0, .int .i64 0, .slice none 0 0] (.int .i64 (takeF l (9 + 2 * nm) 7)))) := Lib.hid (take_any (.slice sa sn sc) l wr (w.heap.size + 1) (9 + 2 * nm) [.int .i64 0, .slice none 0 0, .int .i64 0, .slice none 0 0] 7 HST.out.made (HS.out.keep HST.out.old) (by omega) (by decide))
          rw [E2.out] at HTK
          go_wp2_with fail
          refine HTK.out.mono ?_
          rintro e w8 ⟨rfl, hm8, t8, _⟩
          have h8 := HST.out.take hm8 t8
          obtain ⟨B3, hB3⟩ : ∃ n, n = wr.heap.size := ⟨_, rfl⟩
          rw [← hB3] at h8
          clear hB3
          have HST : Hid (InPh w (w.heap.size + 1) (w.heap.size + 1 + 1) B3 B0 (.slice sa sn sc) [.int .i64 0, .slice none 0 0, .int .i64 0, .slice none 0 0] #[.slice va1 4 vc1, .slice va2 nm vc2, .slice none 0 0, .int .i64 300] (.slice none 0 0) (wordsF l (9 + 2 * nm + 1) 0) _ ((9 + 2 * nm + 1) + 2 * 0) w8) := Lib.hid h8
          clear hm8 t8 h8
          go_wp2_with fail
          go_loopw [8] (fun i wr => ∃ (k : Nat) (v : Value), k ≤ na ∧ i = .int .i64 k ∧ InPh w (w.heap.size + 1) (w.heap.size + 1 + 1) B3 B0 (.slice sa sn sc) [.int .i64 0, .slice none 0 0, .int .i64 0, .slice none 0 0] #[.slice va1 4 vc1, .slice va2 nm vc2, v, .int .i64 300] (v) (wordsF l (9 + 2 * nm + 1) k) [(.slice va2 nm vc2, wordsF l 9 nm), (.slice va1 4 vc1, wordsF l 0 4)] ((9 + 2 * nm + 1) + 2 * k) wr) (fun i _ => na - (intOf i).toNat)
          case atStart => exact ⟨0, _, Nat.zero_le _, rfl, HST.out⟩
          case round =>
            obtain ⟨k, v, hk, rfl, hst⟩ := hrel
            obtain ⟨va, vc, hv⟩ := own_shape (show wr.ownsRow _ _ _ _ _ _ from hst.own)
            rw [wordsF_len] at hv
            subst hv
            have HST := Lib.hid hst
            clear hst
            by_cases hlt : k < na
            · have HWD := Lib.hid (fun w1 (h : InPh w (w.heap.size + 1) (w.heap.size + 1 + 1) B3 B0 (.slice sa sn sc) [.int .i64 0, .slice none 0 0, .int .i64 0, .slice none 0 0] #[.slice va1 4 vc1, .slice va2 nm vc2, .slice va k vc, .int .i64 300] (.slice va k vc) (wordsF l (9 + 2 * nm + 1) k) [(.slice va2 nm vc2, wordsF l 9 nm), (.slice va1 4 vc1, wordsF l 0 4)] ((9 + 2 * nm + 1) + 2 * k) w1) => word_any (.slice sa sn sc) l w1 (w.heap.size + 1) ((9 + 2 * nm + 1) + 2 * k) [.int .i64 0, .slice none 0 0, .int .i64 0, .slice none 0 0] h.made (fun w2 t => HS.out.keep (t.toSince h.old fun q hq e => by omega)) (by omega))
              obtain ⟨y, hy⟩ : ∃ y, wordF l ((9 + 2 * nm + 1) + 2 * k) = y := ⟨_, rfl⟩
              rw [hy] at HWD
              have HY := Lib.hid hy
              clear hy
              go_wp2_with fail
              try rw [show decide ((k : Int) < (na : Int)) = true from decide_eq_true (by omega)]
              refine wp_region_turn_tail 5 [3] [0, 0, 0, 0, 1] [1, 1, 0, 0, 1] [0, 0, 0, 1, 0] (fun q => q = (w.heap.size + 1)) (fun p w1 => InPh w (w.heap.size + 1) (w.heap.size + 1 + 1) B3 B0 (.slice sa sn sc) [.int .i64 0, .slice none 0 0, .int .i64 0, .slice none 0 0] #[.slice va1 4 vc1, .slice va2 nm vc2, .slice va k vc, .int .i64 300] (.slice va k vc) (wordsF l (9 + 2 * nm + 1) k) [(.slice va2 nm vc2, wordsF l 9 nm), (.slice va1 4 vc1, wordsF l 0 4)] ((9 + 2 * nm + 1) + 2 * k + (if p = 0 then 0 else 2)) w1) rfl (by decide +kernel) (by decide +kernel) (by decide +kernel) (by decide) (by decide +kernel)
                [Is (.pointer (some ⟨(w.heap.size + 1 + 1), 2, none⟩)), Is (.slice va k vc), Is (.pointer (some ⟨(w.heap.size + 1), 0, none⟩)), Is (.int .i32 y), OneT (w.heap.size + 1) #[.int .i32 y] 21]
                (by repeat (first | exact trivial | refine ⟨Is.stableT _ _, ?_⟩ | refine ⟨OneT.stableT _ _ _, ?_⟩)) (HST.out.keep (Since.refl _).drew) ⟨?_, ?_, ?_, ?_, ?_, trivial⟩ ?_
              rotate_right
              · intro vs w1 ht hph hk
                simp only [List.take, List.drop, putAll, Act.put, KnowsAll, nthF, Is, List.setIfInBounds_toArray, List.set_cons_zero, List.set_cons_succ, Nat.reduceAdd] at hk ⊢
                try simp only [hk]
                obtain ⟨b1, hb1, hb2, _⟩ := hk.2.2.2.2.1
                simp only [hb1]
                have HPH := Lib.hid hph
                have HNM := Lib.hid (show Nums .i32 w1 (.slice (some ⟨b1, 0, none⟩) 1 1) [y] from nums_heap (k := .i32) (l := [y]) hb2 (by show 1 ≤ maxLen; decide))
                clear ht hk hb1 hb2 hph
                refine wpList_append_nums_turn (base := B3) .i32 rfl _ _ 34 rfl 21 (.int .i32 0) 4 Try.underlying34 Try.info32 rfl (by decide) (.slice va k vc) _ (wordsF l (9 + 2 * nm + 1) k) [y] rfl rfl HPH.out.own HNM.out (by rw [wordsF_len]; simp; omega) HPH.out.above ?_
                intro v2 w5 hown2 ht2
                rw [← HY.out, ← wordsF_succ] at hown2
                obtain ⟨a5, c5, hv5⟩ := own_shape hown2
                rw [wordsF_len] at hv5
                subst hv5
                have hnx := HPH.out.grow hown2 ht2 2
                have hb5 := HPH.out.box.turn ht2 (own_not (show w1.ownsRow _ _ _ _ _ _ from HPH.out.own) HPH.out.box (by decide))
                have kc5 : w5.cell? ⟨(w.heap.size + 1 + 1), 2, none⟩ = some (.slice va k vc) := hb5.cell 2
                have kf5 := hb5.frozen
                have kl5 := hb5.lt
                have HNX := Lib.hid hnx
                clear hnx hown2 ht2 hb5
                go_wp2
                go_roundw
                case rel => exact ⟨k + 1, _, by omega, by go_num, HNX.out⟩
                case measure => simp [intOf]; omega
              all_goals
                intro p vs w1 hlo hhi ht hph hk
                simp only [List.take, putAll, Act.put, Knows, nthF, Is, List.setIfInBounds_toArray, List.set_cons_zero, List.set_cons_succ, Nat.reduceAdd] at hk ⊢
                try simp only [hk]
              · go_wp2
                exact ⟨_, rfl, rfl, Turn.refl _ _, hph⟩
              · have hc : w1.cell? ⟨(w.heap.size + 1 + 1), 2, none⟩ = some (.slice va k vc) := hph.box.cell 2
                have hl := hph.box.lt
                go_wp2
                exact ⟨_, rfl, rfl, Turn.refl _ _, hph⟩
              · go_wp2
                exact ⟨_, rfl, rfl, Turn.refl _ _, hph⟩
              · obtain rfl : p = 0 := by omega
                have hph0 : InPh w (w.heap.size + 1) (w.heap.size + 1 + 1) B3 B0 (.slice sa sn sc) [.int .i64 0, .slice none 0 0, .int .i64 0, .slice none 0 0] #[.slice va1 4 vc1, .slice va2 nm vc2, .slice va k vc, .int .i64 300] (.slice va k vc) (wordsF l (9 + 2 * nm + 1) k) [(.slice va2 nm vc2, wordsF l 9 nm), (.slice va1 4 vc1, wordsF l 0 4)] ((9 + 2 * nm + 1) + 2 * k) w1 := hph
                have HC := Lib.hid (HWD.out w1 hph0)
                have HP0 := Lib.hid hph0
                clear hph hph0
                go_wp2_with fail
                refine HC.out.mono ?_
                rintro e w7 ⟨rfl, hm7, t7, _⟩
                have h7 := HP0.out.take hm7 t7
                have HX := Lib.hid (And.intro t7 h7)
                clear hm7 t7 h7
                go_wp2
                exact ⟨_, rfl, rfl, HX.out.1, HX.out.2⟩
              · have hne : w1.heap.size ≠ (w.heap.size + 1) := by have := HeapIs.lt (show HeapIs w1 _ _ _ from hph.made); omega
                go_wp2
                exact ⟨_, rfl, ⟨_, rfl, HeapIs.new _ _ _, hne⟩, Turn.since ((Since.refl _).alloc _), hph.keep ((Since.refl _).alloc _)⟩
            · obtain rfl : na = k := by omega
              have hst2 := HST.out.next
              have HST := Lib.hid hst2
              clear hst2 hlt hk
              have hst3 := HST.out
              have HF := Lib.hid hst3
              have c0 := hst3.box.cell 0
              have c1 := hst3.box.cell 1
              have c2 := hst3.box.cell 2
              have c3 := hst3.box.cell 3
              have cl := hst3.box.lt
              clear hst3
              go_wp2_with (refine wpList_store_row rfl 36 _ _ rfl w.heap.size #[.slice va1 4 vc1, .slice va2 nm vc2, .slice va na vc, .int .i64 300] rfl rfl 36 _ HF.out.res (by kernel_rfl) rfl (by rw [← Array.all_toList]; rfl) ?_)
              have hb5 := setRow_block HF.out.res #[.slice va1 4 vc1, .slice va2 nm vc2, .slice va na vc, .int .i64 300]
              have t5 : Turn (fun q => q = w.heap.size) wr (wr.setRow w.heap.size #[.slice va1 4 vc1, .slice va2 nm vc2, .slice va na vc, .int .i64 300]) := setRow_turn (S := fun q => q = w.heap.size) rfl _
              generalize wr.setRow w.heap.size #[.slice va1 4 vc1, .slice va2 nm vc2, .slice va na vc, .int .i64 300] = w5 at *
              have hb5 : HeapIs w5 w.heap.size #[.slice va1 4 vc1, .slice va2 nm vc2, .slice va na vc, .int .i64 300] 36 := hb5
              have e0 := hb5.cell 0
              have e1 := hb5.cell 1
              have e2 := hb5.cell 2
              have e3 := hb5.cell 3
              have hl5 := hb5.lt
              have ho : InOk w5 ⟨wordsF l 0 4, .slice va1 4 vc1, wordsF l 9 nm, .slice va2 nm vc2, wordsF l (9 + 2 * nm + 1) na, .slice va na vc, 300⟩ := by
                have hk := HF.out.kept
                have hlow := HF.out.low
                have g1 := hk (.slice va na vc, wordsF l (9 + 2 * nm + 1) na) (by simp)
                have g2 := hk (.slice va2 nm vc2, wordsF l 9 nm) (by simp)
                have g3 := hk (.slice va1 4 vc1, wordsF l 0 4) (by simp)
                exact ⟨⟨g3.1.turn t5 fun q hq e => (by have := g3.2 q hq; omega), g2.1.turn t5 fun q hq e => (by have := g2.2 q hq; omega), g1.1.turn t5 fun q hq e => (by have := g1.2 q hq; omega)⟩, ⟨wordsF_32 _ _ _, wordsF_32 _ _ _, wordsF_32 _ _ _⟩, (by show (300 : Int) ≤ 1000000; decide)⟩
              have hs5 : Since w w5 := t5.toSince HF.out.old fun q hq e => by omega
              have hqs : ∀ q, Value.ownBlock (.slice va1 4 vc1) = some q ∨ Value.ownBlock (.slice va2 nm vc2) = some q ∨ Value.ownBlock (.slice va na vc) = some q → w.heap.size ≤ q := fun q hq => by
                have hk := HF.out.kept
                rcases hq with hq | hq | hq
                · have := (hk (.slice va1 4 vc1, wordsF l 0 4) (by simp)).2 q hq; omega
                · have := (hk (.slice va2 nm vc2, wordsF l 9 nm) (by simp)).2 q hq; omega
                · have := (hk (.slice va na vc, wordsF l (9 + 2 * nm + 1) na) (by simp)).2 q hq; omega
              have HO := Lib.hid (And.intro ho (And.intro hs5 hqs))
              clear hb5 t5 ho hs5
              go_wp2
              exact bodyPost_ret (v := .agg #[.slice va1 4 vc1, .slice va2 nm vc2, .slice va na vc, .int .i64 300]) (by simp [results, Try.results45, go_sem, e0, e1, e2, e3]) rfl ⟨_, rfl, HO.out.1, rfl, by rw [HNM.out], by rw [HNM.out, HNA.out], rfl, HO.out.2.1, HO.out.2.2⟩

set_option maxHeartbeats 1000000 in
set_option maxRecDepth 100000 in
theorem lawinput_any (sv : Value) (l : List Int) (w : World) (hs : Ints w sv l) : Calls Try.prog 15 #[sv] w (InputQ (l.take 40) w) := by
  obtain ⟨sa, sc, rfl⟩ := nums_lenI hs
  have hcap : l.length ≤ sc := (nums_caps hs).2.1
  have hcap2 : sc ≤ 9223372036854775807 := (nums_caps hs).2.2
  obtain ⟨m, hm⟩ : ∃ m, m = min l.length 40 := ⟨_, rfl⟩
  have htk : l.take 40 = l.take m := by rw [hm, Nat.min_comm, ← List.take_take, List.take_length]
  have hin := fun w1 (h : Since w w1) => input_any (.slice sa m sc) (l.take m) w1 (nums_take (hs.keep h) m (by omega))
  rw [htk]
  generalize hL : l.take m = L at *
  generalize hln : l.length = n at *
  have hm1 : m ≤ n := by omega
  have hm2 : (min (n : Int) 40) = (m : Int) := by omega
  have HIN := Lib.hid hin
  clear hin hs hL hln htk hm2
  by_cases h40 : n ≤ 40
  · obtain rfl : n = m := by omega
    clear hm
    go_enter Try.func15, Try.ntmps15
    go_wp2_with fail
    refine (HIN.out _ ((Since.refl _).alloc _)).mono ?_
    rintro e w1 ⟨⟨i1, v1, i2, v2, i3, v3, i4⟩, rfl, hok, q1, q2, q3, q4, hs1, hown⟩
    dsimp only at q1 q2 q3 q4 hown
    have hz0 : HeapIs (w.alloc (.cells #[.slice none 0 0, .slice none 0 0, .slice none 0 0, .int .i64 0] 36)) w.heap.size #[.slice none 0 0, .slice none 0 0, .slice none 0 0, .int .i64 0] 36 := HeapIs.new _ _ _
    have hz := hz0.keep hs1
    have hsz := hz0.lt
    have hs := ((Since.refl w).alloc _).trans hs1
    obtain ⟨a1, c1, hv1⟩ := nums_lenI hok.1.1
    obtain ⟨a2, c2, hv2⟩ := nums_lenI hok.1.2.1
    obtain ⟨a3, c3, hv3⟩ := nums_lenI hok.1.2.2
    dsimp only at hv1 hv2 hv3
    subst hv1 hv2 hv3
    have HZ := Lib.hid hz
    have HOK := Lib.hid (And.intro hok (And.intro q1 (And.intro q2 (And.intro q3 q4))))
    have HSS := Lib.hid (And.intro hs (And.intro hsz hown))
    clear hz0 hz hok q1 q2 q3 q4 hs hsz hown hs1
    unfold iv
    dsimp only
    go_wp2_with (refine wpList_store_row rfl 36 _ _ rfl w.heap.size #[.slice a1 i1.length c1, .slice a2 i2.length c2, .slice a3 i3.length c3, .int .i64 i4] rfl rfl 36 _ HZ.out (by kernel_rfl) rfl (by rw [← Array.all_toList]; rfl) ?_)
    have hb5 := setRow_block HZ.out #[.slice a1 i1.length c1, .slice a2 i2.length c2, .slice a3 i3.length c3, .int .i64 i4]
    have t5 : Turn (fun q => q = w.heap.size) w1 (w1.setRow w.heap.size #[.slice a1 i1.length c1, .slice a2 i2.length c2, .slice a3 i3.length c3, .int .i64 i4]) := setRow_turn (S := fun q => q = w.heap.size) rfl _
    generalize w1.setRow w.heap.size #[.slice a1 i1.length c1, .slice a2 i2.length c2, .slice a3 i3.length c3, .int .i64 i4] = w5 at *
    have hb5 : HeapIs w5 w.heap.size #[.slice a1 i1.length c1, .slice a2 i2.length c2, .slice a3 i3.length c3, .int .i64 i4] 36 := hb5
    have e0 := hb5.cell 0
    have e1 := hb5.cell 1
    have e2 := hb5.cell 2
    have e3 := hb5.cell 3
    have hl5 := hb5.lt
    have hfin : InputQ L w (.returned (.agg #[.slice a1 i1.length c1, .slice a2 i2.length c2, .slice a3 i3.length c3, .int .i64 i4])) w5 := by
      obtain ⟨hok, q1, q2, q3, q4⟩ := HOK.out
      obtain ⟨hs, hsz, hown⟩ := HSS.out
      refine ⟨⟨i1, .slice a1 i1.length c1, i2, .slice a2 i2.length c2, i3, .slice a3 i3.length c3, i4⟩, rfl, ⟨⟨hok.1.1.turn t5 fun q hq e => ?_, hok.1.2.1.turn t5 fun q hq e => ?_, hok.1.2.2.turn t5 fun q hq e => ?_⟩, hok.2⟩, q1, q2, q3, q4, t5.toSince hs fun q hq e => by omega, fun q hq => ?_⟩
      · have := hown q (.inl hq); omega
      · have := hown q (.inr (.inl hq)); omega
      · have := hown q (.inr (.inr hq)); omega
      · have := hown q hq; omega
    have HFIN := Lib.hid hfin
    clear hb5 t5 hfin
    go_wp2
    exact bodyPost_ret (v := .agg #[.slice a1 i1.length c1, .slice a2 i2.length c2, .slice a3 i3.length c3, .int .i64 i4]) (by simp [results, Try.results15, go_sem, e0, e1, e2, e3]) rfl HFIN.out
  · obtain rfl : 40 = m := by omega
    clear hm
    go_enter Try.func15, Try.ntmps15
    go_wp2_with fail
    refine (HIN.out _ ((Since.refl _).alloc _)).mono ?_
    rintro e w1 ⟨⟨i1, v1, i2, v2, i3, v3, i4⟩, rfl, hok, q1, q2, q3, q4, hs1, hown⟩
    dsimp only at q1 q2 q3 q4 hown
    have hz0 : HeapIs (w.alloc (.cells #[.slice none 0 0, .slice none 0 0, .slice none 0 0, .int .i64 0] 36)) w.heap.size #[.slice none 0 0, .slice none 0 0, .slice none 0 0, .int .i64 0] 36 := HeapIs.new _ _ _
    have hz := hz0.keep hs1
    have hsz := hz0.lt
    have hs := ((Since.refl w).alloc _).trans hs1
    obtain ⟨a1, c1, hv1⟩ := nums_lenI hok.1.1
    obtain ⟨a2, c2, hv2⟩ := nums_lenI hok.1.2.1
    obtain ⟨a3, c3, hv3⟩ := nums_lenI hok.1.2.2
    dsimp only at hv1 hv2 hv3
    subst hv1 hv2 hv3
    have HZ := Lib.hid hz
    have HOK := Lib.hid (And.intro hok (And.intro q1 (And.intro q2 (And.intro q3 q4))))
    have HSS := Lib.hid (And.intro hs (And.intro hsz hown))
    clear hz0 hz hok q1 q2 q3 q4 hs hsz hown hs1
    unfold iv
    dsimp only
    go_wp2_with (refine wpList_store_row rfl 36 _ _ rfl w.heap.size #[.slice a1 i1.length c1, .slice a2 i2.length c2, .slice a3 i3.length c3, .int .i64 i4] rfl rfl 36 _ HZ.out (by kernel_rfl) rfl (by rw [← Array.all_toList]; rfl) ?_)
    have hb5 := setRow_block HZ.out #[.slice a1 i1.length c1, .slice a2 i2.length c2, .slice a3 i3.length c3, .int .i64 i4]
    have t5 : Turn (fun q => q = w.heap.size) w1 (w1.setRow w.heap.size #[.slice a1 i1.length c1, .slice a2 i2.length c2, .slice a3 i3.length c3, .int .i64 i4]) := setRow_turn (S := fun q => q = w.heap.size) rfl _
    generalize w1.setRow w.heap.size #[.slice a1 i1.length c1, .slice a2 i2.length c2, .slice a3 i3.length c3, .int .i64 i4] = w5 at *
    have hb5 : HeapIs w5 w.heap.size #[.slice a1 i1.length c1, .slice a2 i2.length c2, .slice a3 i3.length c3, .int .i64 i4] 36 := hb5
    have e0 := hb5.cell 0
    have e1 := hb5.cell 1
    have e2 := hb5.cell 2
    have e3 := hb5.cell 3
    have hl5 := hb5.lt
    have hfin : InputQ L w (.returned (.agg #[.slice a1 i1.length c1, .slice a2 i2.length c2, .slice a3 i3.length c3, .int .i64 i4])) w5 := by
      obtain ⟨hok, q1, q2, q3, q4⟩ := HOK.out
      obtain ⟨hs, hsz, hown⟩ := HSS.out
      refine ⟨⟨i1, .slice a1 i1.length c1, i2, .slice a2 i2.length c2, i3, .slice a3 i3.length c3, i4⟩, rfl, ⟨⟨hok.1.1.turn t5 fun q hq e => ?_, hok.1.2.1.turn t5 fun q hq e => ?_, hok.1.2.2.turn t5 fun q hq e => ?_⟩, hok.2⟩, q1, q2, q3, q4, t5.toSince hs fun q hq e => by omega, fun q hq => ?_⟩
      · have := hown q (.inl hq); omega
      · have := hown q (.inr (.inl hq)); omega
      · have := hown q (.inr (.inr hq)); omega
      · have := hown q hq; omega
    have HFIN := Lib.hid hfin
    clear hb5 t5 hfin
    go_wp2
    exact bodyPost_ret (v := .agg #[.slice a1 i1.length c1, .slice a2 i2.length c2, .slice a3 i3.length c3, .int .i64 i4]) (by simp [results, Try.results15, go_sem, e0, e1, e2, e3]) rfl HFIN.out
end Go.Proofs.Ytkpbmbhejpmboaa
