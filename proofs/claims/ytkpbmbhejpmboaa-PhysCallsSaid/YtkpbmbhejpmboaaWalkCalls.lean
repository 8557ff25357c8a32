/- jacquardlaw12.PhysCalls walked. -/
import Derived.Test.YtkpbmbhejpmboaaCallsMore
namespace Go.Proofs.Ytkpbmbhejpmboaa
open Go.RowKit
set_option linter.unusedVariables false

theorem and65535 (n : Int) : bits .and .i64 n 65535 = n % 65536 := by
  have h : (BitVec.ofInt 64 65535).toNat = 2 ^ 16 - 1 := by decide
  have key : (BitVec.ofInt 64 n &&& BitVec.ofInt 64 65535).toNat = (n % ((2 ^ 64 : Nat) : Int)).toNat % 2 ^ 16 := by
    rw [BitVec.toNat_and, BitVec.toNat_ofInt, h, Nat.and_two_pow_sub_one_eq_mod]
  show IntKind.i64.wrap ((BitVec.ofInt 64 n &&& BitVec.ofInt 64 65535).toNat : Nat) = n % 65536
  rw [key, IntKind.wrap_i64]
  omega
abbrev PlOwn (base : Nat) (w : World) (v : Value) (l : List PlV) : Prop := OwnRow plcells 9 58 base w v l
def OnePl (x : PlV) (v : Value) (w : World) : Prop := ∃ b, v = .slice (some ⟨b, 0, none⟩) 1 1 ∧ HeapIs w b (plcells x).toArray 58
theorem OnePl.stable (x : PlV) : Stable (OnePl x) := fun v w w' ⟨b, h1, h2⟩ s => ⟨b, h1, h2.keep s⟩
theorem Try.infoPl : (Try.prog.info? 58).map (fun i => (i.zero, i.size, i.bytes)) = some (some (.agg #[.int .i64 0, .int .i64 0, .int .i64 0, .int .i64 0, .int .i64 0, .int .i64 0, .int .i32 0, .slice none 0 0, .int .i64 0]), 9, 88) := by kernel_rfl
def plZero : Value := .agg #[.int .i64 0, .int .i64 0, .int .i64 0, .int .i64 0, .int .i64 0, .int .i64 0, .int .i32 0, .slice none 0 0, .int .i64 0]
/-- What stays of a block's making. -/
def Kc (w3 : World) (DB DV : Nat) (av : Value) (m : Nat) (w : World) : Prop :=
  Since w3 w ∧ HeapIs w DB #[.int .i64 28, .int .i64 0, .int .i64 0, .int .i64 0, .int .i64 0, .int .i64 0, .int .i32 10, .slice (some ⟨DV, 0, none⟩) 4 4] 46 ∧ HeapIs w DV #[.int .i64 0, .int .i64 1, .int .i64 2, .int .i64 3] 3 ∧ w.ownsRow w3.heap.size 3 1 av (upTo m).length ((upTo m).map (Value.int .i64))
theorem Kc.keep {w3 w w' : World} {DB DV : Nat} {av : Value} {m : Nat} (h : Kc w3 DB DV av m w) (s : Since w w') : Kc w3 DB DV av m w' := ⟨h.1.trans s, h.2.1.keep s, h.2.2.1.keep s, own_keep h.2.2.2 s⟩
theorem Kc.grow {w3 w w' : World} {DB DV : Nat} {av v : Value} {m : Nat} {l : List PlV} (h : Kc w3 DB DV av m w) (ho : PlOwn w3.heap.size w v l) (t : Turn (fun q => v.ownBlock = some q) w w') : Kc w3 DB DV av m w' :=
  ⟨t.toSince h.1 fun q hq hs => (by have := (World.ownsRow.lt ho q hs).1; omega), h.2.1.turn t (own_not ho h.2.1 (by decide)), h.2.2.1.turn t (own_not ho h.2.2.1 (by decide)), own_turn h.2.2.2 t fun q hq => own_ne h.2.2.2 ho (by decide) q hq⟩
theorem Kc.set {w3 w : World} {DB DV E : Nat} {av x : Value} {m : Nat} {cs : Array Value} (h : Kc w3 DB DV av m w) (hE : HeapIs w E cs 56) (h3 : w3.heap.size ≤ E) (i : Nat) : Kc w3 DB DV av m (w.setCell ⟨E, i, none⟩ x) := by
  have t : Turn (fun q => q = E) w (w.setCell ⟨E, i, none⟩ x) := (Turn.refl (fun q => q = E) w).setCell (p := ⟨E, i, none⟩) rfl x
  have ne : ∀ {q : Nat} {cs' : Array Value} {T : TypeId}, HeapIs w q cs' T → T ≠ 56 → ¬ q = E := fun hb hT e => by
    subst e
    have h1 : w.heap[_]? = _ := hb
    rw [show w.heap[_]? = _ from hE] at h1
    simp only [Option.some.injEq, Obj.cells.injEq] at h1
    exact hT h1.2.1.symm
  exact ⟨t.toSince h.1 fun q hq hs => (by omega), h.2.1.turn t (ne h.2.1 (by decide)), h.2.2.1.turn t (ne h.2.2.1 (by decide)), own_turn h.2.2.2 t fun q hq e => own_not h.2.2.2 hE (by decide) (by rw [hq, e])⟩

set_option maxHeartbeats 8000000 in
set_option maxRecDepth 100000 in
theorem walk_calls (n : Int) (wv av : Value) (ws ans : List Int) (w : World) (hw : Nums .i32 w wv ws) (ha : Nums .i32 w av ans) (hw32 : ∀ x ∈ ws, In32 x) (ha32 : ∀ x ∈ ans, In32 x) :
    Calls Try.prog 5 #[.int .i64 n, wv, av] w (TellsS true w) := by
  obtain ⟨wa, wc, rfl⟩ := nums_lenI hw
  obtain ⟨aa, ac, rfl⟩ := nums_lenI ha
  obtain ⟨_, hac1, hac2⟩ := nums_caps ha
  have HW := Lib.hid hw; clear hw
  have HA := Lib.hid ha; clear ha
  have hand := and65535 n
  obtain ⟨m, hm, hm4⟩ : ∃ m : Nat, (bits .and .i64 n 65535).tmod 5 = (m : Int) ∧ m ≤ 4 := by
    rw [hand]
    have h0 : 0 ≤ n % 65536 := Int.emod_nonneg _ (by decide)
    have h1 := Int.tmod_lt_of_pos (n % 65536) (show (0 : Int) < 5 by decide)
    have h2 := Int.tmod_nonneg 5 h0
    exact ⟨((n % 65536).tmod 5).toNat, by omega, by omega⟩
  clear hand
  obtain ⟨ti, hti, hz0, hz1, hz2⟩ := info_parts (P := Try.prog) (e := 21) (z := .int .i32 0) (size := 1) (bytes := 4) (by kernel_rfl)
  go_enter Try.func5, Try.ntmps5
  go_wp2_with fail
  refine (shown_any _).mono ?_
  rintro e w1 ⟨rfl, hs1⟩
  have HS1 := Lib.hid hs1; clear hs1
  go_wp2_with (first
    | (at_make; refine wpList_make_full _ rfl (.const (.int .i64 16)) (.const (.int .i64 16)) 34 rfl w1.heap.size 21 ti (.int .i32 0) 1 Try.underlying34 hti hz0 hz1 .i64 .i64 _ _ 16 rfl rfl rfl rfl (by rw [hz2]; decide) (by decide) (Nat.le_refl _) ?_; intro w2 hown hgrow; obtain ⟨hs2, hz⟩ := made_zeros hown hgrow; have HS2 := Lib.hid hs2; have HZ2 := Lib.hid (show HeapIs w2 w1.heap.size (List.replicate 16 (Value.int .i32 0) ++ []).toArray 21 from by rw [List.append_nil]; exact hz); clear hown hgrow hs2 hz)
    | (refine wpList_copy_nums rfl _ _ 34 34 rfl 21 Try.underlying34 (by kernel_rfl) w1.heap.size 16 16 wa ws.length wc rfl rfl ws (HW.out.keep (HS1.out.trans HS2.out)) _ 21 HZ2.out (by decide) ?_; intro v3 w3 hcp ht3; rw [regs_copy 16 ws [] (by decide), List.append_nil] at hcp; have HT3 := Lib.hid ht3; have HCP := Lib.hid hcp; clear hcp ht3))
  go_loopw [10] (fun i wr => ∃ k : Nat, k ≤ 16 ∧ i = .int .i64 k ∧ Since w3 wr ∧ ∃ v, HeapIs wr w3.heap.size #[v, .int .i64 7, .int .i64 0, .int .i64 0, .slice none 0 0, .int .i32 0] 56 ∧ PlOwn w3.heap.size wr v (lw (regsP 16 ws) k)) (fun i _ => 16 - (intOf i).toNat)
  case atStart => exact ⟨0, by decide, rfl, (Since.refl _).alloc _, _, HeapIs.new _ _ _, OwnRow.nil _ _ _ _ _⟩
  case round =>
    obtain ⟨k, hk, rfl, hs, v, he, ho⟩ := hrel
    obtain ⟨va, vc, hv⟩ := ho.shape
    rw [lw_len] at hv
    subst hv
    have HS := Lib.hid hs
    have HE := Lib.hid he
    have HO := Lib.hid ho
    clear hs he ho
    by_cases hlt : k < 16
    · have hcw := fun wX (hX : Since w3 wX) => (WAt.keep (rest := []) (R := regsP 16 ws) (T := 21) (b := w1.heap.size) (w := w3) (by unfold WAt; rw [List.append_nil]; exact HCP.out) hX).cell (i := k) (by rw [regsP_len]; exact hlt)
      have HCW := Lib.hid hcw
      have hsuc := lw_succ (regsP 16 ws) k
      unfold lwAt at hsuc
      clear hcw
      generalize (regsP 16 ws).getD k 0 = x at *
      have HSUC := Lib.hid hsuc
      clear hsuc
      go_wp2_with fail
      refine wp_region_since_tail 10 rfl (by decide +kernel) (by decide +kernel) (by decide +kernel) (by decide)
        [Is (.pointer (some ⟨w3.heap.size, 0, none⟩)), Is (.slice va k vc), Is (.int .i64 k), Is (.slice (some ⟨w1.heap.size, 0, none⟩) 16 16), Is (.int .i64 k), Is (.pointer (some ⟨w1.heap.size, k, none⟩)), Is (.int .i32 x), Is (.agg #[.int .i64 4, .int .i64 k, .int .i64 0, .int .i64 0, .int .i64 0, .int .i64 0, .int .i32 x, .slice none 0 0]), Is (.agg #[.int .i64 4, .int .i64 k, .int .i64 0, .int .i64 0, .int .i64 0, .int .i64 0, .int .i32 x, .slice none 0 0, .int .i64 0]), OnePl ⟨⟨4, (k : Int), 0, 0, 0, 0, x, []⟩, .slice none 0 0, 0⟩]
        (by repeat (first | exact trivial | refine ⟨Is.stable _, ?_⟩ | refine ⟨OnePl.stable _, ?_⟩)) ⟨?_, ?_, ?_, ?_, ?_, ?_, ?_, ?_, ?_, ?_, trivial⟩ ?_
      rotate_right
      · intro vs w4 hs hk
        simp only [List.take, List.drop, putAll, Act.put, KnowsAll, nthF, Is, List.setIfInBounds_toArray, List.set_cons_zero, List.set_cons_succ, Nat.reduceAdd] at hk ⊢
        try simp only [hk]
        obtain ⟨b1, hb1, hb2⟩ := hk.2.2.2.2.2.2.2.2.2.1
        simp only [hb1]
        have HS1' := Lib.hid hs
        have HB2 := Lib.hid hb2
        clear hs hk hb1 hb2
        refine wpList_append_turn (base := w3.heap.size) plcells 9 plcells_len (by decide) rfl _ _ 54 rfl 58 plZero 88 Try.underlying54 Try.infoPl rfl (.slice va k vc) (lw (regsP 16 ws) k) ⟨⟨4, (k : Int), 0, 0, 0, 0, x, []⟩, .slice none 0 0, 0⟩ b1 1 58 rfl rfl (OwnRow.keep HO.out HS1'.out) HB2.out (by simp [plcells, Value.oneCell']) (by rw [lw_len]; unfold maxLen; omega) (by rw [lw_len]; omega) (HS.out.trans HS1'.out).size ?_
        intro v2 w5 hown2 ht2
        obtain ⟨a2, c2, hv2⟩ := own_shape hown2
        rw [List.length_append, lw_len] at hv2
        subst hv2
        have he2 := (HE.out.keep HS1'.out).turn ht2 (own_not (OwnRow.keep HO.out HS1'.out) (HE.out.keep HS1'.out) (by decide))
        have hs2 : Since w3 w5 := ht2.toSince (HS.out.trans HS1'.out) fun q hq hs => by have := (World.ownsRow.lt HO.out q hs).1; omega
        have hc := he2.cell 0
        have hfz := he2.frozen
        have hl := he2.lt
        have HE2 := Lib.hid he2
        have HO2 := Lib.hid hown2
        have HS2' := Lib.hid hs2
        clear he2 hown2 hs2 ht2
        go_wp2
        go_roundw
        case rel =>
          have t := (Turn.refl (fun q => q = w3.heap.size) w5).setCell (p := ⟨w3.heap.size, 0, none⟩) rfl (.slice a2 (k + 1) c2)
          refine ⟨k + 1, by omega, by go_num, t.toSince HS2'.out (fun q hq e => by omega), _, HE2.out.set 0 _, ?_⟩
          rw [HSUC.out]
          exact own_turn HO2.out t fun q hq e => by subst e; exact own_not HO2.out HE2.out (by decide) hq
        case measure => simp [intOf]; omega
      all_goals
        intro vs w4 hs hk _
        simp only [List.take, putAll, Act.put, Knows, nthF, Is, List.setIfInBounds_toArray, List.set_cons_zero, List.set_cons_succ, Nat.reduceAdd] at hk ⊢
        try simp only [hk]
      · go_wp2
        exact ⟨_, rfl, rfl, Since.refl _⟩
      · have hc := (HE.out.keep hs).cell 0
        have hl := (HE.out.keep hs).lt
        go_wp2
        exact ⟨_, rfl, rfl, Since.refl _⟩
      · go_wp2
        exact ⟨_, rfl, rfl, Since.refl _⟩
      · go_wp2
        exact ⟨_, rfl, rfl, Since.refl _⟩
      · go_wp2
        exact ⟨_, rfl, rfl, Since.refl _⟩
      · go_wp2
        exact ⟨_, rfl, rfl, Since.refl _⟩
      · have hc := HCW.out w4 (HS.out.trans hs)
        go_wp2
        exact ⟨_, rfl, rfl, Since.refl _⟩
      · go_wp2
        exact ⟨_, rfl, rfl, Since.refl _⟩
      · go_wp2
        exact ⟨_, rfl, rfl, Since.refl _⟩
      · go_wp2
        exact ⟨_, rfl, ⟨_, rfl, HeapIs.new _ _ _⟩, (Since.refl _).alloc _⟩
    · obtain rfl : k = 16 := by omega
      obtain ⟨w4, hw4⟩ : ∃ x, x = wr := ⟨_, rfl⟩
      subst hw4
      rw [show ((16 : Nat) : Int) = 16 from rfl]
      go_wp2_with fail
      go_loopw [12] (fun i wr => ∃ k : Nat, k ≤ m ∧ i = .int .i64 k ∧ Since w4 wr ∧ ∃ z, HeapIs wr w4.heap.size #[.int .i64 28, .int .i64 0, .int .i64 0, .int .i64 0, .int .i64 0, .int .i64 0, .int .i32 9, z] 46 ∧ wr.ownsRow w4.heap.size 3 1 z (upTo k).length ((upTo k).map (Value.int .i64))) (fun i _ => m - (intOf i).toNat)
      case atStart => exact ⟨0, Nat.zero_le _, rfl, (Since.refl _).alloc _, _, HeapIs.new _ _ _, own_nil _ _ _ _⟩
      case round =>
        obtain ⟨k, hk, rfl, hs, z, hcb, hoz⟩ := hrel
        have hoz2 := hoz
        rw [upTo_len] at hoz2
        obtain ⟨za, zc, hz⟩ := own_shape hoz2
        subst hz
        have HS4 := Lib.hid hs
        have HCB := Lib.hid hcb
        have HOZ := Lib.hid hoz
        clear hs hoz hoz2
        by_cases hlt : k < m
        · have hc7 := hcb.cell 7
          have hlb := hcb.lt
          clear hcb
          go_wp2_with (at_builtin; go_loud (refine wpList_append_nums_turn (base := w4.heap.size) .i64 rfl _ _ 25 rfl 3 (.int .i64 0) 8 Try.underlying25 Try.info3 rfl (by decide) _ _ (upTo k) [(k : Int)] rfl rfl (own_keep HOZ.out ((Since.refl wr).alloc (.cells #[.int .i64 k] 3))) (two_new wr 3 .i64 [(k : Int)] (show 1 ≤ maxLen by decide)) (by rw [upTo_len]; simp; omega) (HS4.out.alloc _).size ?_); intro v2 w5 hown2 ht2; obtain ⟨a2, c2, hv2⟩ := own_shape hown2; rw [List.length_append, upTo_len] at hv2; subst hv2; have he2 := (HCB.out.keep ((Since.refl wr).alloc (.cells #[.int .i64 k] 3))).turn ht2 (own_not (own_keep HOZ.out ((Since.refl wr).alloc (.cells #[.int .i64 k] 3))) (HCB.out.keep ((Since.refl wr).alloc (.cells #[.int .i64 k] 3))) (by decide)); have hs2 : Since w4 w5 := ht2.toSince (HS4.out.alloc _) (fun q hq hs => by have := (World.ownsRow.lt HOZ.out q hs).1; omega); have hc := he2.cell 7; have hfz := he2.frozen; have hl := he2.lt; have HE2 := Lib.hid he2; have HO2 := Lib.hid hown2; have HS2' := Lib.hid hs2; clear he2 hown2 hs2 ht2 hc7 hlb)
          go_roundw
          case rel =>
            have t : Turn (fun q => q = w4.heap.size) w5 (w5.setCell ⟨w4.heap.size, 7, none⟩ (.slice a2 (k + 1) c2)) := (Turn.refl (fun q => q = w4.heap.size) w5).setCell (p := ⟨w4.heap.size, 7, none⟩) rfl _
            refine ⟨k + 1, by omega, by go_num, t.toSince HS2'.out (fun q hq e => by omega), _, HE2.out.set 7 _, ?_⟩
            rw [upTo_succ]
            exact own_turn HO2.out t fun q hq e => by subst e; exact own_not HO2.out HE2.out (by decide) hq
          case measure => simp [intOf]; omega
        · obtain rfl : k = m := by omega
          obtain ⟨wq, hwq⟩ : ∃ x, x = wr := ⟨_, rfl⟩
          subst hwq
          have e3 : w3.heap.size ≤ w4.heap.size := HS.out.size
          have hEr := HE.out.keep HS4.out
          have hOr := OwnRow.keep HO.out HS4.out
          have hdv : HeapIs (wq.alloc (.cells #[.int .i64 0, .int .i64 1, .int .i64 2, .int .i64 3] 3)) wq.heap.size #[.int .i64 0, .int .i64 1, .int .i64 2, .int .i64 3] 3 := HeapIs.new _ _ _
          have hdb : HeapIs ((wq.alloc (.cells #[.int .i64 0, .int .i64 1, .int .i64 2, .int .i64 3] 3)).alloc (.cells #[.int .i64 28, .int .i64 0, .int .i64 0, .int .i64 0, .int .i64 0, .int .i64 0, .int .i32 10, .slice (some ⟨wq.heap.size, 0, none⟩) 4 4] 46)) (wq.heap.size + 1) #[.int .i64 28, .int .i64 0, .int .i64 0, .int .i64 0, .int .i64 0, .int .i64 0, .int .i32 10, .slice (some ⟨wq.heap.size, 0, none⟩) 4 4] 46 := by
            have := HeapIs.new (wq.alloc (.cells #[.int .i64 0, .int .i64 1, .int .i64 2, .int .i64 3] 3)) #[.int .i64 28, .int .i64 0, .int .i64 0, .int .i64 0, .int .i64 0, .int .i64 0, .int .i32 10, .slice (some ⟨wq.heap.size, 0, none⟩) 4 4] 46
            rwa [show (wq.alloc (.cells #[.int .i64 0, .int .i64 1, .int .i64 2, .int .i64 3] 3)).heap.size = wq.heap.size + 1 from by simp] at this
          have hp2 : HeapIs (((wq.alloc (.cells #[.int .i64 0, .int .i64 1, .int .i64 2, .int .i64 3] 3)).alloc (.cells #[.int .i64 28, .int .i64 0, .int .i64 0, .int .i64 0, .int .i64 0, .int .i64 0, .int .i32 10, .slice (some ⟨wq.heap.size, 0, none⟩) 4 4] 46)).alloc (.cells #[.int .i64 28, .int .i64 0, .int .i64 0, .int .i64 0, .int .i64 0, .int .i64 0, .int .i32 9, .slice za k zc, .int .i64 0, .int .i64 28, .int .i64 0, .int .i64 0, .int .i64 0, .int .i64 0, .int .i64 0, .int .i32 10, .slice (some ⟨wq.heap.size, 0, none⟩) 4 4, .int .i64 0] 58)) (wq.heap.size + 2) #[.int .i64 28, .int .i64 0, .int .i64 0, .int .i64 0, .int .i64 0, .int .i64 0, .int .i32 9, .slice za k zc, .int .i64 0, .int .i64 28, .int .i64 0, .int .i64 0, .int .i64 0, .int .i64 0, .int .i64 0, .int .i32 10, .slice (some ⟨wq.heap.size, 0, none⟩) 4 4, .int .i64 0] 58 := by
            have := HeapIs.new ((wq.alloc (.cells #[.int .i64 0, .int .i64 1, .int .i64 2, .int .i64 3] 3)).alloc (.cells #[.int .i64 28, .int .i64 0, .int .i64 0, .int .i64 0, .int .i64 0, .int .i64 0, .int .i32 10, .slice (some ⟨wq.heap.size, 0, none⟩) 4 4] 46)) #[.int .i64 28, .int .i64 0, .int .i64 0, .int .i64 0, .int .i64 0, .int .i64 0, .int .i32 9, .slice za k zc, .int .i64 0, .int .i64 28, .int .i64 0, .int .i64 0, .int .i64 0, .int .i64 0, .int .i64 0, .int .i32 10, .slice (some ⟨wq.heap.size, 0, none⟩) 4 4, .int .i64 0] 58
            rwa [show ((wq.alloc (.cells #[.int .i64 0, .int .i64 1, .int .i64 2, .int .i64 3] 3)).alloc (.cells #[.int .i64 28, .int .i64 0, .int .i64 0, .int .i64 0, .int .i64 0, .int .i64 0, .int .i32 10, .slice (some ⟨wq.heap.size, 0, none⟩) 4 4] 46)).heap.size = wq.heap.size + 2 from by simp] at this
          have hsb : Since wq ((wq.alloc (.cells #[.int .i64 0, .int .i64 1, .int .i64 2, .int .i64 3] 3)).alloc (.cells #[.int .i64 28, .int .i64 0, .int .i64 0, .int .i64 0, .int .i64 0, .int .i64 0, .int .i32 10, .slice (some ⟨wq.heap.size, 0, none⟩) 4 4] 46)) := ((Since.refl wq).alloc _).alloc _
          have hsc : Since wq (((wq.alloc (.cells #[.int .i64 0, .int .i64 1, .int .i64 2, .int .i64 3] 3)).alloc (.cells #[.int .i64 28, .int .i64 0, .int .i64 0, .int .i64 0, .int .i64 0, .int .i64 0, .int .i32 10, .slice (some ⟨wq.heap.size, 0, none⟩) 4 4] 46)).alloc (.cells #[.int .i64 28, .int .i64 0, .int .i64 0, .int .i64 0, .int .i64 0, .int .i64 0, .int .i32 9, .slice za k zc, .int .i64 0, .int .i64 28, .int .i64 0, .int .i64 0, .int .i64 0, .int .i64 0, .int .i64 0, .int .i32 10, .slice (some ⟨wq.heap.size, 0, none⟩) 4 4, .int .i64 0] 58)) := hsb.alloc _
          have hkc : Kc w3 (wq.heap.size + 1) wq.heap.size (.slice za k zc) k (((wq.alloc (.cells #[.int .i64 0, .int .i64 1, .int .i64 2, .int .i64 3] 3)).alloc (.cells #[.int .i64 28, .int .i64 0, .int .i64 0, .int .i64 0, .int .i64 0, .int .i64 0, .int .i32 10, .slice (some ⟨wq.heap.size, 0, none⟩) 4 4] 46)).alloc (.cells #[.int .i64 28, .int .i64 0, .int .i64 0, .int .i64 0, .int .i64 0, .int .i64 0, .int .i32 9, .slice za k zc, .int .i64 0, .int .i64 28, .int .i64 0, .int .i64 0, .int .i64 0, .int .i64 0, .int .i64 0, .int .i32 10, .slice (some ⟨wq.heap.size, 0, none⟩) 4 4, .int .i64 0] 58)) :=
            ⟨HS.out.trans (HS4.out.trans hsc), hdb.keep ((Since.refl _).alloc _), hdv.keep (((Since.refl _).alloc _).alloc _), own_keep (own_base HOZ.out e3) hsc⟩
          have gE : wq.cell? ⟨w3.heap.size, 0, none⟩ = some (.slice va 16 vc) := hEr.cell 0
          have lE := hEr.lt
          have z0 := hcb.cell 0
          have z1 := hcb.cell 1
          have z2 := hcb.cell 2
          have z3 := hcb.cell 3
          have z4 := hcb.cell 4
          have z5 := hcb.cell 5
          have z6 := hcb.cell 6
          have z7 := hcb.cell 7
          have lz := hcb.lt
          have HKC := Lib.hid hkc
          have HER := Lib.hid (hEr.keep hsc)
          have HOR := Lib.hid (OwnRow.keep hOr hsc)
          have HP2 := Lib.hid hp2
          have HSC := Lib.hid (show w3.heap.size ≤ (((wq.alloc (.cells #[.int .i64 0, .int .i64 1, .int .i64 2, .int .i64 3] 3)).alloc (.cells #[.int .i64 28, .int .i64 0, .int .i64 0, .int .i64 0, .int .i64 0, .int .i64 0, .int .i32 10, .slice (some ⟨wq.heap.size, 0, none⟩) 4 4] 46)).alloc (.cells #[.int .i64 28, .int .i64 0, .int .i64 0, .int .i64 0, .int .i64 0, .int .i64 0, .int .i32 9, .slice za k zc, .int .i64 0, .int .i64 28, .int .i64 0, .int .i64 0, .int .i64 0, .int .i64 0, .int .i64 0, .int .i32 10, .slice (some ⟨wq.heap.size, 0, none⟩) 4 4, .int .i64 0] 58)).heap.size from (HS.out.trans (HS4.out.trans hsc)).size)
          clear hEr hOr hdv hdb hp2 hsb hsc hkc hcb
          go_wp2_with (at_builtin; go_loud (refine wpList_append_list (base := w3.heap.size) plcells 9 plcells_len (by decide) rfl _ _ 54 rfl 58 plZero 88 Try.underlying54 Try.infoPl rfl (.slice va 16 vc) (lw (regsP 16 ws) 16) [cM k (.slice za k zc), dM (.slice (some ⟨wq.heap.size, 0, none⟩) 4 4)] (wq.heap.size + 2) 2 58 rfl rfl HOR.out HP2.out (by simp [plcells, cM, dM, Value.oneCell']) (by rw [lw_len]; show 16 + 2 ≤ maxLen; decide) (by rw [lw_len]; show (16 + 2) * 88 ≤ 140737488355328; decide) HSC.out ?_); intro v2 w5 hown2 ht2; obtain ⟨a2, c2, hv2⟩ := own_shape hown2; rw [List.length_append, lw_len] at hv2; subst hv2; have he2 := HER.out.turn ht2 (own_not HOR.out HER.out (by decide)); have hk2 := HKC.out.grow HOR.out ht2; have hc := he2.cell 0; have hfz := he2.frozen; have hl := he2.lt; have HE2 := Lib.hid he2; have HO2 := Lib.hid hown2; have HK2 := Lib.hid hk2; clear he2 hown2 hk2 ht2 gE lE z0 z1 z2 z3 z4 z5 z6 z7 lz)
          have hlc : ∀ n : Nat, (((lw (regsP 16 ws) 16 ++ [cM k (.slice za k zc), dM (.slice (some ⟨wq.heap.size, 0, none⟩) 4 4)]) ++ mvs n)).length = 18 + n := fun n => by simp [lw_len, mvs_len]; omega
          go_loopw [14] (fun i wr => ∃ t : Nat, t ≤ 4 ∧ i = .int .i64 t ∧ Kc w3 (wq.heap.size + 1) wq.heap.size (.slice za k zc) k wr ∧ ∃ v, HeapIs wr w3.heap.size #[v, .int .i64 7, .int .i64 0, .int .i64 0, .slice none 0 0, .int .i32 0] 56 ∧ PlOwn w3.heap.size wr v ((lw (regsP 16 ws) 16 ++ [cM k (.slice za k zc), dM (.slice (some ⟨wq.heap.size, 0, none⟩) 4 4)]) ++ mvs t)) (fun i _ => 4 - (intOf i).toNat)
          case atStart =>
            have tt : Turn (fun q => q = w3.heap.size) w5 (w5.setCell ⟨w3.heap.size, 0, none⟩ (.slice a2 18 c2)) := (Turn.refl (fun q => q = w3.heap.size) w5).setCell (p := ⟨w3.heap.size, 0, none⟩) rfl _
            refine ⟨0, by decide, rfl, HK2.out.set HE2.out (Nat.le_refl _) 0, _, HE2.out.set 0 _, ?_⟩
            have ho : PlOwn w3.heap.size w5 (.slice a2 18 c2) ((lw (regsP 16 ws) 16 ++ [cM k (.slice za k zc), dM (.slice (some ⟨wq.heap.size, 0, none⟩) 4 4)]) ++ mvs 0) := by
              have := HO2.out
              rw [show mvs 0 = [] from rfl, List.append_nil]
              exact this
            exact own_turn ho tt fun q hq e => by subst e; exact own_not ho HE2.out (by decide) hq
          case round =>
            obtain ⟨t, ht, hti', hk6, v, he6, ho6⟩ := hrel
            subst hti'
            obtain ⟨va6, vc6, hv6⟩ := ho6.shape
            rw [hlc] at hv6
            subst hv6
            have HK6 := Lib.hid hk6
            have HE6 := Lib.hid he6
            have HO6 := Lib.hid ho6
            have gE : wr.cell? ⟨w3.heap.size, 0, none⟩ = some (.slice va6 (18 + t) vc6) := he6.cell 0
            have lE := he6.lt
            by_cases hlt : t < 4
            · have hp6 : HeapIs (wr.alloc (.cells #[.int .i64 1, .int .i64 t, .int .i64 0, .int .i64 (12 + (t : Int)), .int .i64 0, .int .i64 0, .int .i32 0, .slice none 0 0, .int .i64 0] 58)) wr.heap.size (plcells (mvAt t)).toArray 58 := HeapIs.new _ _ _
              have HP6 := Lib.hid hp6
              clear hk6 he6 ho6 hp6
              go_wp2_with (at_builtin; go_loud (refine wpList_append_turn (base := w3.heap.size) plcells 9 plcells_len (by decide) rfl _ _ 54 rfl 58 plZero 88 Try.underlying54 Try.infoPl rfl (.slice va6 (18 + t) vc6) ((lw (regsP 16 ws) 16 ++ [cM k (.slice za k zc), dM (.slice (some ⟨wq.heap.size, 0, none⟩) 4 4)]) ++ mvs t) (mvAt t) wr.heap.size 1 58 rfl rfl (OwnRow.keep HO6.out ((Since.refl wr).alloc (.cells #[.int .i64 1, .int .i64 t, .int .i64 0, .int .i64 (12 + (t : Int)), .int .i64 0, .int .i64 0, .int .i32 0, .slice none 0 0, .int .i64 0] 58))) HP6.out (by simp [plcells, mvAt, Value.oneCell']) (by rw [hlc]; unfold maxLen; omega) (by rw [hlc]; omega) (HK6.out.1.alloc _).size ?_); intro v2 w7 hown2 ht2; obtain ⟨a2, c2, hv2⟩ := own_shape hown2; rw [List.length_append, hlc] at hv2; subst hv2; have he2 := (HE6.out.keep ((Since.refl wr).alloc (.cells #[.int .i64 1, .int .i64 t, .int .i64 0, .int .i64 (12 + (t : Int)), .int .i64 0, .int .i64 0, .int .i32 0, .slice none 0 0, .int .i64 0] 58))).turn ht2 (own_not (OwnRow.keep HO6.out ((Since.refl wr).alloc (.cells #[.int .i64 1, .int .i64 t, .int .i64 0, .int .i64 (12 + (t : Int)), .int .i64 0, .int .i64 0, .int .i32 0, .slice none 0 0, .int .i64 0] 58))) (HE6.out.keep ((Since.refl wr).alloc (.cells #[.int .i64 1, .int .i64 t, .int .i64 0, .int .i64 (12 + (t : Int)), .int .i64 0, .int .i64 0, .int .i32 0, .slice none 0 0, .int .i64 0] 58))) (by decide)); have hk2 := (HK6.out.keep ((Since.refl wr).alloc (.cells #[.int .i64 1, .int .i64 t, .int .i64 0, .int .i64 (12 + (t : Int)), .int .i64 0, .int .i64 0, .int .i32 0, .slice none 0 0, .int .i64 0] 58))).grow (OwnRow.keep HO6.out ((Since.refl wr).alloc (.cells #[.int .i64 1, .int .i64 t, .int .i64 0, .int .i64 (12 + (t : Int)), .int .i64 0, .int .i64 0, .int .i32 0, .slice none 0 0, .int .i64 0] 58))) ht2; have hc := he2.cell 0; have hfz := he2.frozen; have hl := he2.lt; have HE7 := Lib.hid he2; have HO7 := Lib.hid hown2; have HK7 := Lib.hid hk2; clear he2 hown2 hk2 ht2 gE lE)
              go_roundw
              case rel =>
                have tt : Turn (fun q => q = w3.heap.size) w7 (w7.setCell ⟨w3.heap.size, 0, none⟩ (.slice a2 (18 + t + 1) c2)) := (Turn.refl (fun q => q = w3.heap.size) w7).setCell (p := ⟨w3.heap.size, 0, none⟩) rfl _
                refine ⟨t + 1, by omega, by go_num, HK7.out.set HE7.out (Nat.le_refl _) 0, _, HE7.out.set 0 _, ?_⟩
                rw [mvs_succ, ← List.append_assoc]
                exact own_turn HO7.out tt fun q hq e => by subst e; exact own_not HO7.out HE7.out (by decide) hq
              case measure => simp [intOf]; omega
            · obtain rfl : t = 4 := by omega
              rw [show ((4 : Nat) : Int) = 4 from rfl]
              rw [show 18 + 4 = 22 from rfl] at HE6 HO6 gE
              have z0 := hk6.2.1.cell 0
              have z1 := hk6.2.1.cell 1
              have z2 := hk6.2.1.cell 2
              have z3 := hk6.2.1.cell 3
              have z4 := hk6.2.1.cell 4
              have z5 := hk6.2.1.cell 5
              have z6 := hk6.2.1.cell 6
              have z7 := hk6.2.1.cell 7
              have lz := hk6.2.1.lt
              have hp6 : HeapIs (wr.alloc (.cells #[.int .i64 28, .int .i64 0, .int .i64 0, .int .i64 0, .int .i64 0, .int .i64 0, .int .i32 10, .slice (some ⟨wq.heap.size, 0, none⟩) 4 4, .int .i64 0] 58)) wr.heap.size (plcells (dM (.slice (some ⟨wq.heap.size, 0, none⟩) 4 4))).toArray 58 := HeapIs.new _ _ _
              have HP6 := Lib.hid hp6
              clear hk6 he6 ho6 hp6
              go_wp2_with (at_builtin; go_loud (refine wpList_append_turn (base := w3.heap.size) plcells 9 plcells_len (by decide) rfl _ _ 54 rfl 58 plZero 88 Try.underlying54 Try.infoPl rfl (.slice va6 22 vc6) ((lw (regsP 16 ws) 16 ++ [cM k (.slice za k zc), dM (.slice (some ⟨wq.heap.size, 0, none⟩) 4 4)]) ++ mvs 4) (dM (.slice (some ⟨wq.heap.size, 0, none⟩) 4 4)) wr.heap.size 1 58 rfl rfl (OwnRow.keep HO6.out ((Since.refl wr).alloc (.cells #[.int .i64 28, .int .i64 0, .int .i64 0, .int .i64 0, .int .i64 0, .int .i64 0, .int .i32 10, .slice (some ⟨wq.heap.size, 0, none⟩) 4 4, .int .i64 0] 58))) HP6.out (by simp [plcells, dM, Value.oneCell']) (by rw [hlc]; decide) (by rw [hlc]; decide) (HK6.out.1.alloc _).size ?_); intro v2 w7 hown2 ht2; obtain ⟨a2, c2, hv2⟩ := own_shape hown2; rw [List.length_append, hlc] at hv2; subst hv2; have he2 := (HE6.out.keep ((Since.refl wr).alloc (.cells #[.int .i64 28, .int .i64 0, .int .i64 0, .int .i64 0, .int .i64 0, .int .i64 0, .int .i32 10, .slice (some ⟨wq.heap.size, 0, none⟩) 4 4, .int .i64 0] 58))).turn ht2 (own_not (OwnRow.keep HO6.out ((Since.refl wr).alloc (.cells #[.int .i64 28, .int .i64 0, .int .i64 0, .int .i64 0, .int .i64 0, .int .i64 0, .int .i32 10, .slice (some ⟨wq.heap.size, 0, none⟩) 4 4, .int .i64 0] 58))) (HE6.out.keep ((Since.refl wr).alloc (.cells #[.int .i64 28, .int .i64 0, .int .i64 0, .int .i64 0, .int .i64 0, .int .i64 0, .int .i32 10, .slice (some ⟨wq.heap.size, 0, none⟩) 4 4, .int .i64 0] 58))) (by decide)); have hk2 := (HK6.out.keep ((Since.refl wr).alloc (.cells #[.int .i64 28, .int .i64 0, .int .i64 0, .int .i64 0, .int .i64 0, .int .i64 0, .int .i32 10, .slice (some ⟨wq.heap.size, 0, none⟩) 4 4, .int .i64 0] 58))).grow (OwnRow.keep HO6.out ((Since.refl wr).alloc (.cells #[.int .i64 28, .int .i64 0, .int .i64 0, .int .i64 0, .int .i64 0, .int .i64 0, .int .i32 10, .slice (some ⟨wq.heap.size, 0, none⟩) 4 4, .int .i64 0] 58))) ht2; have hc := he2.cell 0; have hfz := he2.frozen; have hl := he2.lt; have HE7 := Lib.hid he2; have HO7 := Lib.hid hown2; have HK7 := Lib.hid hk2; clear he2 hown2 hk2 ht2 gE lE z0 z1 z2 z3 z4 z5 z6 z7 lz)
              obtain ⟨w8, hw8⟩ : ∃ x, x = w7.setCell ⟨w3.heap.size, 0, none⟩ (.slice a2 23 c2) := ⟨_, rfl⟩
              have tt : Turn (fun q => q = w3.heap.size) w7 w8 := by rw [hw8]; exact (Turn.refl (fun q => q = w3.heap.size) w7).setCell (p := ⟨w3.heap.size, 0, none⟩) rfl _
              have hk8 : Kc w3 (wq.heap.size + 1) wq.heap.size (.slice za k zc) k w8 := by rw [hw8]; exact HK7.out.set HE7.out (Nat.le_refl _) 0
              have he8 : HeapIs w8 w3.heap.size (blkV (.slice a2 23 c2)) 56 := by rw [hw8]; exact HE7.out.set 0 _
              have ho8 : OwnRow plcells 9 58 w3.heap.size w8 (.slice a2 23 c2) (callsL (regsP 16 ws) k (.slice za k zc) (.slice (some ⟨wq.heap.size, 0, none⟩) 4 4)) :=
                own_turn HO7.out tt fun q hq e => by subst e; exact own_not HO7.out HE7.out (by decide) hq
              rw [← hw8]
              have HK8 := Lib.hid hk8
              have HE8 := Lib.hid he8
              have HO8 := Lib.hid ho8
              have S8 := Lib.hid (show Since w w8 from HS1.out.trans ((HT3.out.toSince HS2.out (fun q hq e => by omega)).trans hk8.1))
              obtain ⟨MN, hMN⟩ : ∃ x, x = min ans.length 9 := ⟨_, rfl⟩
              have hMa : MN ≤ ac := by omega
              have hMl : MN ≤ ans.length := by omega
              have hM9 : MN ≤ 9 := by omega
              have HAN := Lib.hid (fun wX (h : Since w wX) => (nums_take HA.out MN hMl).keep h)
              have HA32 := Lib.hid ha32
              have HMN := Lib.hid hMN
              clear hMN
              clear tt hk8 he8 ho8 hw8 hc hfz hl
              refine wp_region_since_tail 11 rfl (by decide +kernel) (by decide +kernel) (by decide +kernel) (by decide)
                [Is (.agg (blkV (.slice a2 23 c2))), BlkS (.slice a2 23 c2), BlkP (.slice a2 23 c2), Is (.slice aa ans.length ac), Is (.slice aa ans.length ac), Is (.int .i64 ans.length), Is (.int .i64 MN), Is (.slice aa MN ac), Is (.agg #[.slice none 0 0, .slice none 0 0, .slice aa MN ac, .int .i64 100]), OutV ((ans.take MN).getD 2 0) (callsO (regsP 16 ws) k (ans.take MN)).calls, OBox w8]
                (by repeat (first | exact trivial | refine ⟨Is.stable _, ?_⟩ | refine ⟨BlkS.stable _, ?_⟩ | refine ⟨BlkP.stable _, ?_⟩ | refine ⟨OutV.stable _ _, ?_⟩ | refine ⟨OBox.stable _, ?_⟩)) ⟨?_, ?_, ?_, ?_, ?_, ?_, ?_, ?_, ?_, ?_, ?_, trivial⟩ ?_
              rotate_right
              · intro vs w9 hs hk
                simp only [List.take, List.drop, putAll, Act.put, KnowsAll, nthF, Is, List.setIfInBounds_toArray, List.set_cons_zero, List.set_cons_succ, Nat.reduceAdd] at hk ⊢
                try simp only [hk]
                obtain ⟨a9, n9, c9, g9, cap9, base9, hv9, hev9⟩ := hk.2.2.2.2.2.2.2.2.2.1
                obtain ⟨bo, hv10, hbo, hbw⟩ := hk.2.2.2.2.2.2.2.2.2.2.1
                simp only [hv9, hv10]
                have HS9 := Lib.hid hs
                have HEV9 := Lib.hid hev9
                have HBO := Lib.hid hbo
                clear hs hk hv9 hv10 hev9 hbo
                refine wpList_store_row rfl 42 _ _ rfl bo (outV ((ans.take MN).getD 2 0) a9 n9 c9 g9 cap9) rfl rfl 42 outZ HBO.out (by kernel_rfl) rfl (by rw [← Array.all_toList]; rfl) ?_
                have hob : HeapIs (w9.setRow bo (outV ((ans.take MN).getD 2 0) a9 n9 c9 g9 cap9)) bo (outV ((ans.take MN).getD 2 0) a9 n9 c9 g9 cap9) 42 := setRow_block HBO.out _
                have hev := HEV9.out.setRow HBO.out (outV ((ans.take MN).getD 2 0) a9 n9 c9 g9 cap9)
                have tS : Turn (fun q => q = bo) w9 (w9.setRow bo (outV ((ans.take MN).getD 2 0) a9 n9 c9 g9 cap9)) := setRow_turn (S := fun q => q = bo) rfl _
                have hsX : Since w8 (w9.setRow bo (outV ((ans.take MN).getD 2 0) a9 n9 c9 g9 cap9)) := tS.toSince HS9.out (fun q hq e => by omega)
                generalize w9.setRow bo (outV ((ans.take MN).getD 2 0) a9 n9 c9 g9 cap9) = wX at *
                have HOB := Lib.hid hob
                have HEV := Lib.hid hev
                have HSX := Lib.hid hsX
                clear hob hev tS hsX
                have hww : ∀ wY, Since wX wY → WAt wY w1.heap.size (regsP 16 ws) [] 21 := fun wY hY => WAt.keep (w := w3) (by unfold WAt; rw [List.append_nil]; exact HCP.out) (HK8.out.1.trans (HSX.out.trans hY))
                have HWW := Lib.hid hww
                clear hww
                have hf0 : (ans.take MN).getD 0 0 = ans.getD 0 0 := take_getD (by have := HMN.out; omega)
                have hf2 : (ans.take MN).getD 2 0 = ans.getD 2 0 := take_getD (by have := HMN.out; omega)
                rw [hf2] at HOB
                obtain ⟨v0, v1, v2', hcells, hn0, hn1, hn2, hg9⟩ := three_evs (show EvRow base9 wX (.slice (some ⟨g9, 0, none⟩) 3 cap9) [(9, (List.range k).map fun r => (regsP 16 ws).getD r 0), (10, [(ans.take MN).getD 0 0, 24302, 24303, 24304]), (10, [(regsP 16 ws).getD 12 0, (regsP 16 ws).getD 13 0, (regsP 16 ws).getD 14 0, (regsP 16 ws).getD 15 0])] from HEV.out)
                rw [hf0] at hn1
                obtain ⟨p0, q0, hv0⟩ := nums_lenI hn0
                obtain ⟨p1, q1, hv1⟩ := nums_lenI hn1
                obtain ⟨p2, q2, hv2⟩ := nums_lenI hn2
                rw [List.length_map, List.length_range] at hv0
                subst hv0 hv1 hv2
                have HCE := Lib.hid hcells
                have HN0 := Lib.hid hn0
                have HN1 := Lib.hid hn1
                have HN2 := Lib.hid hn2
                have hcA : ∀ i, i < ans.length → ∃ AB aoff, aa = some ⟨AB, aoff, none⟩ ∧ AB < w.heap.size ∧ w.cell? ⟨AB, aoff + i, none⟩ = some (.int .i32 (ans.getD i 0)) := fun i hi => by
                  obtain ⟨_, hc⟩ := nums_cell HA.out
                  obtain ⟨AB, aoff, h1, h2, h3⟩ := hc (by intro e; rw [e] at hi; simp at hi)
                  exact ⟨AB, aoff, h1, h2, h3 i _ (by rw [List.getD_eq_getElem?_getD, List.getElem?_eq_getElem hi]; rfl)⟩
                have HcA := Lib.hid hcA
                have h0z : ans.length ≤ 0 → ans.getD 0 0 = 0 := fun h => by rw [List.getD_eq_getElem?_getD, List.getElem?_eq_none h]; rfl
                have h2z : ans.length ≤ 2 → ans.getD 2 0 = 0 := fun h => by rw [List.getD_eq_getElem?_getD, List.getElem?_eq_none h]; rfl
                have H0Z := Lib.hid h0z
                have H2Z := Lib.hid h2z
                clear hcells hn0 hn1 hn2 hf0 hf2 hcA h0z h2z
                go_wp2_with fail
                refine wp_region_list_facts rfl (by decide +kernel) (by decide +kernel)
                  [Is (.pointer (some ⟨bo, 0, none⟩)), Is (.int .i64 1), Is (.bool false), Is (.bool false), Is (.pointer (some ⟨bo, 3, none⟩)), Is (.slice (some ⟨g9, 0, none⟩) 3 cap9), Is (.int .i64 3), Is (.bool false), Is (.bool false), Is (.bool false), Is (.pointer (some ⟨bo, 3, none⟩)), Is (.slice (some ⟨g9, 0, none⟩) 3 cap9), Is (.pointer (some ⟨g9, 0, none⟩)), Is (.pointer (some ⟨g9, 1, none⟩)), Is (.slice p0 k q0), Is (.slice (some ⟨w1.heap.size, 0, none⟩) 16 16), Is (.int .i64 k), Is (.slice (some ⟨w1.heap.size, 0, none⟩) k 16), Is (.bool true), Is (.bool false), Is (.bool false)]
                  (by repeat (first | exact trivial | refine ⟨Is.stable _, ?_⟩ | refine ⟨IsNums.stable _ _, ?_⟩ | refine ⟨IsRows.stable _ _, ?_⟩)) ⟨?_, ?_, ?_, ?_, ?_, ?_, ?_, ?_, ?_, ?_, ?_, ?_, ?_, ?_, ?_, ?_, ?_, ?_, ?_, ?_, ?_, trivial⟩ ?_
                all_goals
                  intro vs wY hs hk
                  simp only [putAll, Act.put, Knows, KnowsAll, nthF, Is, List.setIfInBounds_toArray, List.set_cons_zero, List.set_cons_succ, Nat.reduceAdd, List.length_cons, List.length_nil] at hk ⊢
                  try simp only [hk]
                · go_wp2
                  exact ⟨_, rfl, rfl, Since.refl _⟩
                · have hc : wY.cell? ⟨bo, 0, none⟩ = some (.int .i64 1) := (HOB.out.keep hs).cell 0
                  have hl := (HOB.out.keep hs).lt
                  go_wp2
                  exact ⟨_, rfl, rfl, Since.refl _⟩
                · go_wp2
                  exact ⟨_, rfl, rfl, Since.refl _⟩
                · go_wp2
                  exact ⟨_, rfl, rfl, Since.refl _⟩
                · go_wp2
                  exact ⟨_, rfl, rfl, Since.refl _⟩
                · have hc : wY.cell? ⟨bo, 3, none⟩ = some (.slice (some ⟨g9, 0, none⟩) 3 cap9) := (HOB.out.keep hs).cell 3
                  have hl := (HOB.out.keep hs).lt
                  go_wp2
                  exact ⟨_, rfl, rfl, Since.refl _⟩
                · go_wp2
                  exact ⟨_, rfl, rfl, Since.refl _⟩
                · go_wp2
                  exact ⟨_, rfl, rfl, Since.refl _⟩
                · go_wp2
                  exact ⟨_, rfl, rfl, Since.refl _⟩
                · go_wp2
                  exact ⟨_, rfl, rfl, Since.refl _⟩
                · go_wp2
                  exact ⟨_, rfl, rfl, Since.refl _⟩
                · have hc : wY.cell? ⟨bo, 3, none⟩ = some (.slice (some ⟨g9, 0, none⟩) 3 cap9) := (HOB.out.keep hs).cell 3
                  have hl := (HOB.out.keep hs).lt
                  go_wp2
                  exact ⟨_, rfl, rfl, Since.refl _⟩
                · go_wp2
                  exact ⟨_, rfl, rfl, Since.refl _⟩
                · go_wp2
                  exact ⟨_, rfl, rfl, Since.refl _⟩
                · have hc := (hs.cell (p := ⟨g9, 1, none⟩) hg9).trans HCE.out.2.1
                  go_wp2
                  exact ⟨_, rfl, rfl, Since.refl _⟩
                · go_wp2
                  exact ⟨_, rfl, rfl, Since.refl _⟩
                · go_wp2
                  exact ⟨_, rfl, rfl, Since.refl _⟩
                · have hk16 : k ≤ 16 := by omega
                  have hk16' : (k : Int) ≤ 16 := by omega
                  go_wp2
                  exact ⟨_, rfl, rfl, Since.refl _⟩
                · have HS23 := Lib.hid hs
                  clear hk hs
                  go_wp2_with fail
                  refine (words_same _ _ _ wY (HN0.out.keep HS23.out) (row_head (HWW.out wY HS23.out) (regsP_len _ _) hm4) (by simp <;> omega)).mono ?_
                  rintro e wZ ⟨rfl, hsZ⟩
                  go_wp2
                  exact ⟨_, rfl, rfl, hsZ⟩
                · go_wp2
                  exact ⟨_, rfl, rfl, Since.refl _⟩
                · go_wp2
                  exact ⟨_, rfl, rfl, Since.refl _⟩
                · have HSQ := Lib.hid hs
                  have hsW : Since w wY := S8.out.trans (HSX.out.trans hs)
                  clear hk
                  by_cases hA0 : 0 < ans.length
                  · obtain ⟨AB, aoff, rfl, hAB, hcell0⟩ := HcA.out 0 hA0
                    have hc0 := (hsW.cell (p := ⟨AB, aoff + 0, none⟩) hAB).trans hcell0
                    rw [Nat.add_zero] at hc0
                    by_cases hA2 : 2 < ans.length
                    · obtain ⟨AB', aoff', haa, hAB', hcell2⟩ := HcA.out 2 hA2
                      cases haa
                      have hc2 := (hsW.cell (p := ⟨AB, aoff + 2, none⟩) hAB).trans hcell2
                      generalize ans.getD 0 0 = f0 at *
                      generalize ans.getD 2 0 = f2 at *
                      have hd2 : decide ((2 : Int) < (ans.length : Int)) = true := decide_eq_true (by omega)
                      have HD2 := Lib.hid hd2
                      clear hs hsW hcell0 hcell2 hd2
                      go_wp2_with fail
                      rw [HD2.out]
                      clear hA2
                      refine wp_region_list_facts rfl (by decide +kernel) (by decide +kernel)
                        (Is (.bool true) :: Is (.bool true) :: Is (.pointer (some ⟨bo, 3, none⟩)) :: Is (.slice (some ⟨g9, 0, none⟩) 3 cap9) :: Is (.pointer (some ⟨g9, 0, none⟩)) :: Is (.pointer (some ⟨g9, 0, none⟩)) :: Is (.int .i32 9) :: Is (.bool true) :: Is (.bool true) :: Is (.bool true) :: Is (.pointer (some ⟨bo, 3, none⟩)) :: Is (.slice (some ⟨g9, 0, none⟩) 3 cap9) :: Is (.pointer (some ⟨g9, 2, none⟩)) :: Is (.pointer (some ⟨g9, 3, none⟩)) :: Is (.slice p1 4 q1) :: Is (.int .i32 f0) :: IsNums .i32 [f0, 24302, 24303, 24304] :: Is (.bool true) :: Is (.bool true) :: Is (.bool true) :: Is (.pointer (some ⟨bo, 3, none⟩)) :: Is (.slice (some ⟨g9, 0, none⟩) 3 cap9) :: Is (.pointer (some ⟨g9, 4, none⟩)) :: Is (.pointer (some ⟨g9, 5, none⟩)) :: Is (.slice p2 4 q2) :: Is (.slice (some ⟨w1.heap.size, 0, none⟩) 16 16) :: Is (.slice (some ⟨w1.heap.size, 12, none⟩) 4 4) :: Is (.bool true) :: Is (.bool true) :: Is (.bool true) :: Is (.pointer (some ⟨bo, 1, none⟩)) :: Is (.int .i32 f2) :: Is (.int .i32 f2) :: Is (.bool true) :: Is (.bool true) :: Is (.bool true) :: [])
                        (by repeat (first | exact trivial | refine ⟨Is.stable _, ?_⟩ | refine ⟨IsNums.stable _ _, ?_⟩ | refine ⟨IsRows.stable _ _, ?_⟩)) ⟨?_, ?_, ?_, ?_, ?_, ?_, ?_, ?_, ?_, ?_, ?_, ?_, ?_, ?_, ?_, ?_, ?_, ?_, ?_, ?_, ?_, ?_, ?_, ?_, ?_, ?_, ?_, ?_, ?_, ?_, ?_, ?_, ?_, ?_, ?_, ?_, trivial⟩ ?_
                      all_goals
                        intro vs wY hs hk
                        simp only [putAll, Act.put, Knows, KnowsAll, nthF, Is, List.setIfInBounds_toArray, List.set_cons_zero, List.set_cons_succ, Nat.reduceAdd, List.length_cons, List.length_nil] at hk ⊢
                        try simp only [hk]
                      · go_wp2
                        exact ⟨_, rfl, rfl, Since.refl _⟩
                      · go_wp2
                        exact ⟨_, rfl, rfl, Since.refl _⟩
                      · go_wp2
                        exact ⟨_, rfl, rfl, Since.refl _⟩
                      · have hc : wY.cell? ⟨bo, 3, none⟩ = some (.slice (some ⟨g9, 0, none⟩) 3 cap9) := (HOB.out.keep (HSQ.out.trans hs)).cell 3
                        have hl := (HOB.out.keep (HSQ.out.trans hs)).lt
                        go_wp2
                        exact ⟨_, rfl, rfl, Since.refl _⟩
                      · go_wp2
                        exact ⟨_, rfl, rfl, Since.refl _⟩
                      · go_wp2
                        exact ⟨_, rfl, rfl, Since.refl _⟩
                      · have hc := ((HSQ.out.trans hs).cell (p := ⟨g9, 0, none⟩) hg9).trans HCE.out.1
                        go_wp2
                        exact ⟨_, rfl, rfl, Since.refl _⟩
                      · go_wp2
                        exact ⟨_, rfl, rfl, Since.refl _⟩
                      · go_wp2
                        exact ⟨_, rfl, rfl, Since.refl _⟩
                      · go_wp2
                        exact ⟨_, rfl, rfl, Since.refl _⟩
                      · go_wp2
                        exact ⟨_, rfl, rfl, Since.refl _⟩
                      · have hc : wY.cell? ⟨bo, 3, none⟩ = some (.slice (some ⟨g9, 0, none⟩) 3 cap9) := (HOB.out.keep (HSQ.out.trans hs)).cell 3
                        have hl := (HOB.out.keep (HSQ.out.trans hs)).lt
                        go_wp2
                        exact ⟨_, rfl, rfl, Since.refl _⟩
                      · go_wp2
                        exact ⟨_, rfl, rfl, Since.refl _⟩
                      · go_wp2
                        exact ⟨_, rfl, rfl, Since.refl _⟩
                      · have hc := ((HSQ.out.trans hs).cell (p := ⟨g9, 3, none⟩) hg9).trans HCE.out.2.2.2.1
                        go_wp2
                        exact ⟨_, rfl, rfl, Since.refl _⟩
                      · go_wp2
                        exact ⟨_, rfl, rfl, Since.refl _⟩
                      · go_wp2
                        exact ⟨_, rfl, two_new wY _ .i32 [f0, 24302, 24303, 24304] (by show 4 ≤ maxLen; decide), (Since.refl _).alloc _⟩
                      · have h4 : Nums .i32 wY (vs 16) [f0, 24302, 24303, 24304] := hk.2.1
                        obtain ⟨a42, c42, hv42⟩ := nums_lenI h4
                        have H4 := Lib.hid h4
                        try simp only [hk.1]
                        rw [hv42] at H4
                        simp only [hv42]
                        have HS23 := Lib.hid (HSQ.out.trans hs)
                        clear hk h4 hv42 hs
                        go_wp2_with fail
                        refine (words_same _ _ _ wY (HN1.out.keep HS23.out) H4.out (by show 4 ≤ 100000; decide)).mono ?_
                        rintro e wZ ⟨rfl, hsZ⟩
                        go_wp2
                        exact ⟨_, rfl, rfl, hsZ⟩
                      · go_wp2
                        exact ⟨_, rfl, rfl, Since.refl _⟩
                      · go_wp2
                        exact ⟨_, rfl, rfl, Since.refl _⟩
                      · go_wp2
                        exact ⟨_, rfl, rfl, Since.refl _⟩
                      · have hc : wY.cell? ⟨bo, 3, none⟩ = some (.slice (some ⟨g9, 0, none⟩) 3 cap9) := (HOB.out.keep (HSQ.out.trans hs)).cell 3
                        have hl := (HOB.out.keep (HSQ.out.trans hs)).lt
                        go_wp2
                        exact ⟨_, rfl, rfl, Since.refl _⟩
                      · go_wp2
                        exact ⟨_, rfl, rfl, Since.refl _⟩
                      · go_wp2
                        exact ⟨_, rfl, rfl, Since.refl _⟩
                      · have hc := ((HSQ.out.trans hs).cell (p := ⟨g9, 5, none⟩) hg9).trans HCE.out.2.2.2.2.2
                        go_wp2
                        exact ⟨_, rfl, rfl, Since.refl _⟩
                      · go_wp2
                        exact ⟨_, rfl, rfl, Since.refl _⟩
                      · go_wp2
                        exact ⟨_, rfl, rfl, Since.refl _⟩
                      · have HS23 := Lib.hid (HSQ.out.trans hs)
                        clear hk hs
                        go_wp2_with fail
                        refine (words_same _ _ _ wY (HN2.out.keep HS23.out) (row_tail (HWW.out wY HS23.out) (regsP_len _ _)) (by show 4 ≤ 100000; decide)).mono ?_
                        rintro e wZ ⟨rfl, hsZ⟩
                        go_wp2
                        exact ⟨_, rfl, rfl, hsZ⟩
                      · go_wp2
                        exact ⟨_, rfl, rfl, Since.refl _⟩
                      · go_wp2
                        exact ⟨_, rfl, rfl, Since.refl _⟩
                      · go_wp2
                        exact ⟨_, rfl, rfl, Since.refl _⟩
                      · have hc : wY.cell? ⟨bo, 1, none⟩ = some (.int .i32 (f2)) := (HOB.out.keep (HSQ.out.trans hs)).cell 1
                        have hl := (HOB.out.keep (HSQ.out.trans hs)).lt
                        go_wp2
                        exact ⟨_, rfl, rfl, Since.refl _⟩
                      · go_wp2
                        exact ⟨_, rfl, rfl, Since.refl _⟩
                      · have hzz : (f2 == f2) = true := beq_self_eq_true _
                        go_wp2
                        exact ⟨_, rfl, rfl, Since.refl _⟩
                      · go_wp2
                        exact ⟨_, rfl, rfl, Since.refl _⟩
                      · go_wp2
                        exact ⟨_, rfl, rfl, Since.refl _⟩
                      · have HSF := Lib.hid hs
                        clear hk hs
                        go_wp2
                        go_ret
                        exact ⟨rfl, S8.out.trans (HSX.out.trans (HSQ.out.trans HSF.out))⟩
                    · have e2 := H2Z.out (by omega)
                      rw [e2] at HOB
                      generalize ans.getD 0 0 = f0 at *
                      clear hs hsW hcell0 e2
                      go_wp2_with fail
                      refine wp_region_list_facts rfl (by decide +kernel) (by decide +kernel)
                        (Is (.bool true) :: Is (.bool true) :: Is (.pointer (some ⟨bo, 3, none⟩)) :: Is (.slice (some ⟨g9, 0, none⟩) 3 cap9) :: Is (.pointer (some ⟨g9, 0, none⟩)) :: Is (.pointer (some ⟨g9, 0, none⟩)) :: Is (.int .i32 9) :: Is (.bool true) :: Is (.bool true) :: Is (.bool true) :: Is (.pointer (some ⟨bo, 3, none⟩)) :: Is (.slice (some ⟨g9, 0, none⟩) 3 cap9) :: Is (.pointer (some ⟨g9, 2, none⟩)) :: Is (.pointer (some ⟨g9, 3, none⟩)) :: Is (.slice p1 4 q1) :: Is (.int .i32 f0) :: IsNums .i32 [f0, 24302, 24303, 24304] :: Is (.bool true) :: Is (.bool true) :: Is (.bool true) :: Is (.pointer (some ⟨bo, 3, none⟩)) :: Is (.slice (some ⟨g9, 0, none⟩) 3 cap9) :: Is (.pointer (some ⟨g9, 4, none⟩)) :: Is (.pointer (some ⟨g9, 5, none⟩)) :: Is (.slice p2 4 q2) :: Is (.slice (some ⟨w1.heap.size, 0, none⟩) 16 16) :: Is (.slice (some ⟨w1.heap.size, 12, none⟩) 4 4) :: Is (.bool true) :: Is (.bool true) :: Is (.bool true) :: Is (.pointer (some ⟨bo, 1, none⟩)) :: Is (.int .i32 0) :: Is (.int .i32 0) :: Is (.bool true) :: Is (.bool true) :: Is (.bool true) :: [])
                        (by repeat (first | exact trivial | refine ⟨Is.stable _, ?_⟩ | refine ⟨IsNums.stable _ _, ?_⟩ | refine ⟨IsRows.stable _ _, ?_⟩)) ⟨?_, ?_, ?_, ?_, ?_, ?_, ?_, ?_, ?_, ?_, ?_, ?_, ?_, ?_, ?_, ?_, ?_, ?_, ?_, ?_, ?_, ?_, ?_, ?_, ?_, ?_, ?_, ?_, ?_, ?_, ?_, ?_, ?_, ?_, ?_, ?_, trivial⟩ ?_
                      all_goals
                        intro vs wY hs hk
                        simp only [putAll, Act.put, Knows, KnowsAll, nthF, Is, List.setIfInBounds_toArray, List.set_cons_zero, List.set_cons_succ, Nat.reduceAdd, List.length_cons, List.length_nil] at hk ⊢
                        try simp only [hk]
                      · go_wp2
                        exact ⟨_, rfl, rfl, Since.refl _⟩
                      · go_wp2
                        exact ⟨_, rfl, rfl, Since.refl _⟩
                      · go_wp2
                        exact ⟨_, rfl, rfl, Since.refl _⟩
                      · have hc : wY.cell? ⟨bo, 3, none⟩ = some (.slice (some ⟨g9, 0, none⟩) 3 cap9) := (HOB.out.keep (HSQ.out.trans hs)).cell 3
                        have hl := (HOB.out.keep (HSQ.out.trans hs)).lt
                        go_wp2
                        exact ⟨_, rfl, rfl, Since.refl _⟩
                      · go_wp2
                        exact ⟨_, rfl, rfl, Since.refl _⟩
                      · go_wp2
                        exact ⟨_, rfl, rfl, Since.refl _⟩
                      · have hc := ((HSQ.out.trans hs).cell (p := ⟨g9, 0, none⟩) hg9).trans HCE.out.1
                        go_wp2
                        exact ⟨_, rfl, rfl, Since.refl _⟩
                      · go_wp2
                        exact ⟨_, rfl, rfl, Since.refl _⟩
                      · go_wp2
                        exact ⟨_, rfl, rfl, Since.refl _⟩
                      · go_wp2
                        exact ⟨_, rfl, rfl, Since.refl _⟩
                      · go_wp2
                        exact ⟨_, rfl, rfl, Since.refl _⟩
                      · have hc : wY.cell? ⟨bo, 3, none⟩ = some (.slice (some ⟨g9, 0, none⟩) 3 cap9) := (HOB.out.keep (HSQ.out.trans hs)).cell 3
                        have hl := (HOB.out.keep (HSQ.out.trans hs)).lt
                        go_wp2
                        exact ⟨_, rfl, rfl, Since.refl _⟩
                      · go_wp2
                        exact ⟨_, rfl, rfl, Since.refl _⟩
                      · go_wp2
                        exact ⟨_, rfl, rfl, Since.refl _⟩
                      · have hc := ((HSQ.out.trans hs).cell (p := ⟨g9, 3, none⟩) hg9).trans HCE.out.2.2.2.1
                        go_wp2
                        exact ⟨_, rfl, rfl, Since.refl _⟩
                      · go_wp2
                        exact ⟨_, rfl, rfl, Since.refl _⟩
                      · go_wp2
                        exact ⟨_, rfl, two_new wY _ .i32 [f0, 24302, 24303, 24304] (by show 4 ≤ maxLen; decide), (Since.refl _).alloc _⟩
                      · have h4 : Nums .i32 wY (vs 16) [f0, 24302, 24303, 24304] := hk.2.1
                        obtain ⟨a42, c42, hv42⟩ := nums_lenI h4
                        have H4 := Lib.hid h4
                        try simp only [hk.1]
                        rw [hv42] at H4
                        simp only [hv42]
                        have HS23 := Lib.hid (HSQ.out.trans hs)
                        clear hk h4 hv42 hs
                        go_wp2_with fail
                        refine (words_same _ _ _ wY (HN1.out.keep HS23.out) H4.out (by show 4 ≤ 100000; decide)).mono ?_
                        rintro e wZ ⟨rfl, hsZ⟩
                        go_wp2
                        exact ⟨_, rfl, rfl, hsZ⟩
                      · go_wp2
                        exact ⟨_, rfl, rfl, Since.refl _⟩
                      · go_wp2
                        exact ⟨_, rfl, rfl, Since.refl _⟩
                      · go_wp2
                        exact ⟨_, rfl, rfl, Since.refl _⟩
                      · have hc : wY.cell? ⟨bo, 3, none⟩ = some (.slice (some ⟨g9, 0, none⟩) 3 cap9) := (HOB.out.keep (HSQ.out.trans hs)).cell 3
                        have hl := (HOB.out.keep (HSQ.out.trans hs)).lt
                        go_wp2
                        exact ⟨_, rfl, rfl, Since.refl _⟩
                      · go_wp2
                        exact ⟨_, rfl, rfl, Since.refl _⟩
                      · go_wp2
                        exact ⟨_, rfl, rfl, Since.refl _⟩
                      · have hc := ((HSQ.out.trans hs).cell (p := ⟨g9, 5, none⟩) hg9).trans HCE.out.2.2.2.2.2
                        go_wp2
                        exact ⟨_, rfl, rfl, Since.refl _⟩
                      · go_wp2
                        exact ⟨_, rfl, rfl, Since.refl _⟩
                      · go_wp2
                        exact ⟨_, rfl, rfl, Since.refl _⟩
                      · have HS23 := Lib.hid (HSQ.out.trans hs)
                        clear hk hs
                        go_wp2_with fail
                        refine (words_same _ _ _ wY (HN2.out.keep HS23.out) (row_tail (HWW.out wY HS23.out) (regsP_len _ _)) (by show 4 ≤ 100000; decide)).mono ?_
                        rintro e wZ ⟨rfl, hsZ⟩
                        go_wp2
                        exact ⟨_, rfl, rfl, hsZ⟩
                      · go_wp2
                        exact ⟨_, rfl, rfl, Since.refl _⟩
                      · go_wp2
                        exact ⟨_, rfl, rfl, Since.refl _⟩
                      · go_wp2
                        exact ⟨_, rfl, rfl, Since.refl _⟩
                      · have hc : wY.cell? ⟨bo, 1, none⟩ = some (.int .i32 (0)) := (HOB.out.keep (HSQ.out.trans hs)).cell 1
                        have hl := (HOB.out.keep (HSQ.out.trans hs)).lt
                        go_wp2
                        exact ⟨_, rfl, rfl, Since.refl _⟩
                      · go_wp2
                        exact ⟨_, rfl, rfl, Since.refl _⟩
                      · have hzz : (0 == 0) = true := beq_self_eq_true _
                        go_wp2
                        exact ⟨_, rfl, rfl, Since.refl _⟩
                      · go_wp2
                        exact ⟨_, rfl, rfl, Since.refl _⟩
                      · go_wp2
                        exact ⟨_, rfl, rfl, Since.refl _⟩
                      · have HSF := Lib.hid hs
                        clear hk hs
                        go_wp2
                        go_ret
                        exact ⟨rfl, S8.out.trans (HSX.out.trans (HSQ.out.trans HSF.out))⟩
                  · have e0 := H0Z.out (by omega)
                    have e2 := H2Z.out (by omega)
                    rw [e2] at HOB
                    rw [e0] at HN1
                    clear hs hsW e0 e2
                    generalize ans.length = L at *
                    obtain rfl : L = 0 := by omega
                    clear hA0
                    go_wp2_with fail
                    refine wp_region_list_facts rfl (by decide +kernel) (by decide +kernel)
                      (Is (.bool true) :: Is (.bool true) :: Is (.pointer (some ⟨bo, 3, none⟩)) :: Is (.slice (some ⟨g9, 0, none⟩) 3 cap9) :: Is (.pointer (some ⟨g9, 0, none⟩)) :: Is (.pointer (some ⟨g9, 0, none⟩)) :: Is (.int .i32 9) :: Is (.bool true) :: Is (.bool true) :: Is (.bool true) :: Is (.pointer (some ⟨bo, 3, none⟩)) :: Is (.slice (some ⟨g9, 0, none⟩) 3 cap9) :: Is (.pointer (some ⟨g9, 2, none⟩)) :: Is (.pointer (some ⟨g9, 3, none⟩)) :: Is (.slice p1 4 q1) :: Is (.int .i32 0) :: IsNums .i32 [0, 24302, 24303, 24304] :: Is (.bool true) :: Is (.bool true) :: Is (.bool true) :: Is (.pointer (some ⟨bo, 3, none⟩)) :: Is (.slice (some ⟨g9, 0, none⟩) 3 cap9) :: Is (.pointer (some ⟨g9, 4, none⟩)) :: Is (.pointer (some ⟨g9, 5, none⟩)) :: Is (.slice p2 4 q2) :: Is (.slice (some ⟨w1.heap.size, 0, none⟩) 16 16) :: Is (.slice (some ⟨w1.heap.size, 12, none⟩) 4 4) :: Is (.bool true) :: Is (.bool true) :: Is (.bool true) :: Is (.pointer (some ⟨bo, 1, none⟩)) :: Is (.int .i32 0) :: Is (.int .i32 0) :: Is (.bool true) :: Is (.bool true) :: Is (.bool true) :: [])
                      (by repeat (first | exact trivial | refine ⟨Is.stable _, ?_⟩ | refine ⟨IsNums.stable _ _, ?_⟩ | refine ⟨IsRows.stable _ _, ?_⟩)) ⟨?_, ?_, ?_, ?_, ?_, ?_, ?_, ?_, ?_, ?_, ?_, ?_, ?_, ?_, ?_, ?_, ?_, ?_, ?_, ?_, ?_, ?_, ?_, ?_, ?_, ?_, ?_, ?_, ?_, ?_, ?_, ?_, ?_, ?_, ?_, ?_, trivial⟩ ?_
                    all_goals
                      intro vs wY hs hk
                      simp only [putAll, Act.put, Knows, KnowsAll, nthF, Is, List.setIfInBounds_toArray, List.set_cons_zero, List.set_cons_succ, Nat.reduceAdd, List.length_cons, List.length_nil] at hk ⊢
                      try simp only [hk]
                    · go_wp2
                      exact ⟨_, rfl, rfl, Since.refl _⟩
                    · go_wp2
                      exact ⟨_, rfl, rfl, Since.refl _⟩
                    · go_wp2
                      exact ⟨_, rfl, rfl, Since.refl _⟩
                    · have hc : wY.cell? ⟨bo, 3, none⟩ = some (.slice (some ⟨g9, 0, none⟩) 3 cap9) := (HOB.out.keep (HSQ.out.trans hs)).cell 3
                      have hl := (HOB.out.keep (HSQ.out.trans hs)).lt
                      go_wp2
                      exact ⟨_, rfl, rfl, Since.refl _⟩
                    · go_wp2
                      exact ⟨_, rfl, rfl, Since.refl _⟩
                    · go_wp2
                      exact ⟨_, rfl, rfl, Since.refl _⟩
                    · have hc := ((HSQ.out.trans hs).cell (p := ⟨g9, 0, none⟩) hg9).trans HCE.out.1
                      go_wp2
                      exact ⟨_, rfl, rfl, Since.refl _⟩
                    · go_wp2
                      exact ⟨_, rfl, rfl, Since.refl _⟩
                    · go_wp2
                      exact ⟨_, rfl, rfl, Since.refl _⟩
                    · go_wp2
                      exact ⟨_, rfl, rfl, Since.refl _⟩
                    · go_wp2
                      exact ⟨_, rfl, rfl, Since.refl _⟩
                    · have hc : wY.cell? ⟨bo, 3, none⟩ = some (.slice (some ⟨g9, 0, none⟩) 3 cap9) := (HOB.out.keep (HSQ.out.trans hs)).cell 3
                      have hl := (HOB.out.keep (HSQ.out.trans hs)).lt
                      go_wp2
                      exact ⟨_, rfl, rfl, Since.refl _⟩
                    · go_wp2
                      exact ⟨_, rfl, rfl, Since.refl _⟩
                    · go_wp2
                      exact ⟨_, rfl, rfl, Since.refl _⟩
                    · have hc := ((HSQ.out.trans hs).cell (p := ⟨g9, 3, none⟩) hg9).trans HCE.out.2.2.2.1
                      go_wp2
                      exact ⟨_, rfl, rfl, Since.refl _⟩
                    · go_wp2
                      exact ⟨_, rfl, rfl, Since.refl _⟩
                    · go_wp2
                      exact ⟨_, rfl, two_new wY _ .i32 [0, 24302, 24303, 24304] (by show 4 ≤ maxLen; decide), (Since.refl _).alloc _⟩
                    · have h4 : Nums .i32 wY (vs 16) [0, 24302, 24303, 24304] := hk.2.1
                      obtain ⟨a42, c42, hv42⟩ := nums_lenI h4
                      have H4 := Lib.hid h4
                      try simp only [hk.1]
                      rw [hv42] at H4
                      simp only [hv42]
                      have HS23 := Lib.hid (HSQ.out.trans hs)
                      clear hk h4 hv42 hs
                      go_wp2_with fail
                      refine (words_same _ _ _ wY (HN1.out.keep HS23.out) H4.out (by show 4 ≤ 100000; decide)).mono ?_
                      rintro e wZ ⟨rfl, hsZ⟩
                      go_wp2
                      exact ⟨_, rfl, rfl, hsZ⟩
                    · go_wp2
                      exact ⟨_, rfl, rfl, Since.refl _⟩
                    · go_wp2
                      exact ⟨_, rfl, rfl, Since.refl _⟩
                    · go_wp2
                      exact ⟨_, rfl, rfl, Since.refl _⟩
                    · have hc : wY.cell? ⟨bo, 3, none⟩ = some (.slice (some ⟨g9, 0, none⟩) 3 cap9) := (HOB.out.keep (HSQ.out.trans hs)).cell 3
                      have hl := (HOB.out.keep (HSQ.out.trans hs)).lt
                      go_wp2
                      exact ⟨_, rfl, rfl, Since.refl _⟩
                    · go_wp2
                      exact ⟨_, rfl, rfl, Since.refl _⟩
                    · go_wp2
                      exact ⟨_, rfl, rfl, Since.refl _⟩
                    · have hc := ((HSQ.out.trans hs).cell (p := ⟨g9, 5, none⟩) hg9).trans HCE.out.2.2.2.2.2
                      go_wp2
                      exact ⟨_, rfl, rfl, Since.refl _⟩
                    · go_wp2
                      exact ⟨_, rfl, rfl, Since.refl _⟩
                    · go_wp2
                      exact ⟨_, rfl, rfl, Since.refl _⟩
                    · have HS23 := Lib.hid (HSQ.out.trans hs)
                      clear hk hs
                      go_wp2_with fail
                      refine (words_same _ _ _ wY (HN2.out.keep HS23.out) (row_tail (HWW.out wY HS23.out) (regsP_len _ _)) (by show 4 ≤ 100000; decide)).mono ?_
                      rintro e wZ ⟨rfl, hsZ⟩
                      go_wp2
                      exact ⟨_, rfl, rfl, hsZ⟩
                    · go_wp2
                      exact ⟨_, rfl, rfl, Since.refl _⟩
                    · go_wp2
                      exact ⟨_, rfl, rfl, Since.refl _⟩
                    · go_wp2
                      exact ⟨_, rfl, rfl, Since.refl _⟩
                    · have hc : wY.cell? ⟨bo, 1, none⟩ = some (.int .i32 (0)) := (HOB.out.keep (HSQ.out.trans hs)).cell 1
                      have hl := (HOB.out.keep (HSQ.out.trans hs)).lt
                      go_wp2
                      exact ⟨_, rfl, rfl, Since.refl _⟩
                    · go_wp2
                      exact ⟨_, rfl, rfl, Since.refl _⟩
                    · have hzz : (0 == 0) = true := beq_self_eq_true _
                      go_wp2
                      exact ⟨_, rfl, rfl, Since.refl _⟩
                    · go_wp2
                      exact ⟨_, rfl, rfl, Since.refl _⟩
                    · go_wp2
                      exact ⟨_, rfl, rfl, Since.refl _⟩
                    · have HSF := Lib.hid hs
                      clear hk hs
                      go_wp2
                      go_ret
                      exact ⟨rfl, S8.out.trans (HSX.out.trans (HSQ.out.trans HSF.out))⟩
              all_goals
                intro vs w9 hs hk _
                simp only [List.take, putAll, Act.put, Knows, nthF, Is, List.setIfInBounds_toArray, List.set_cons_zero, List.set_cons_succ, Nat.reduceAdd] at hk ⊢
                try simp only [hk]
              · have k0 : w9.cell? ⟨w3.heap.size, 0, none⟩ = some (.slice a2 23 c2) := (HE8.out.keep hs).cell 0
                have k1 : w9.cell? ⟨w3.heap.size, 1, none⟩ = some (.int .i64 7) := (HE8.out.keep hs).cell 1
                have k2 : w9.cell? ⟨w3.heap.size, 2, none⟩ = some (.int .i64 0) := (HE8.out.keep hs).cell 2
                have k3 : w9.cell? ⟨w3.heap.size, 3, none⟩ = some (.int .i64 0) := (HE8.out.keep hs).cell 3
                have k4 : w9.cell? ⟨w3.heap.size, 4, none⟩ = some (.slice none 0 0) := (HE8.out.keep hs).cell 4
                have k5 : w9.cell? ⟨w3.heap.size, 5, none⟩ = some (.int .i32 0) := (HE8.out.keep hs).cell 5
                have hl := (HE8.out.keep hs).lt
                go_wp2
                exact ⟨_, rfl, rfl, Since.refl _⟩
              · unfold blkV
                go_wp2
                exact ⟨_, rfl, ⟨_, rfl, HeapIs.new _ _ _⟩, (Since.refl _).alloc _⟩
              · obtain ⟨b, hb1, hb2⟩ := hk.1
                simp only [hb1]
                have HB := Lib.hid hb2
                clear hk hb1 hb2
                go_wp2
                exact ⟨_, rfl, ⟨b, rfl, HB.out⟩, Since.refl _⟩
              · go_wp2
                exact ⟨_, rfl, rfl, Since.refl _⟩
              · go_wp2
                exact ⟨_, rfl, rfl, Since.refl _⟩
              · go_wp2
                exact ⟨_, rfl, rfl, Since.refl _⟩
              · by_cases h5 : 9 < ans.length
                · have h5' : (9 : Int) < (ans.length : Int) := by omega
                  have e9 : (MN : Int) = 9 := by have := HMN.out; omega
                  have E9 := Lib.hid e9
                  clear e9
                  go_wp2
                  exact ⟨_, rfl, (show Value.int .i64 9 = .int .i64 (MN : Int) by rw [E9.out]), Since.refl _⟩
                · have h5' : (ans.length : Int) ≤ 9 := by omega
                  have e9 : (MN : Int) = (ans.length : Int) := by have := HMN.out; omega
                  have E9 := Lib.hid e9
                  clear e9
                  go_wp2
                  exact ⟨_, rfl, (show Value.int .i64 (ans.length : Int) = .int .i64 (MN : Int) by rw [E9.out]), Since.refl _⟩
              · go_wp2
                exact ⟨_, rfl, rfl, Since.refl _⟩
              · go_wp2
                exact ⟨_, rfl, rfl, Since.refl _⟩
              · obtain ⟨b, hb1, hb2⟩ := hk.1
                simp only [hb1]
                have hkk := HK8.out.keep hs
                have hoz := hkk.2.2.2
                have hoz2 := hoz
                rw [upTo_len] at hoz2
                have hp := callsP_ok (W := regsP 16 ws) (n := k) (av := (.slice za k zc)) (dv := (.slice (some ⟨wq.heap.size, 0, none⟩) 4 4)) (regsP_32 hw32) hm4 (nums_of_own hoz) (fun q hq => (World.ownsRow.lt hoz2 q hq).2) (nums_heap (l := [0, 1, 2, 3]) hkk.2.2.1 (by decide)) (fun q hq => by have hq' : wq.heap.size = q := Option.some.inj hq; subst hq'; exact hkk.2.2.1.lt) (OwnRow.keep HO8.out hs) hb2
                have hin : InOk w9 (callsI (ans.take MN) (.slice aa MN ac)) := ⟨⟨.nil _ _, .nil _ _, HAN.out w9 (S8.out.trans hs)⟩, ⟨fun x h => (by cases h), fun x h => (by cases h), fun x h => HA32.out x (List.mem_of_mem_take h)⟩, show (100 : Int) ≤ 1000000 by decide⟩
                have hrun := run_any _ _ w9 hp hin
                unfold RunQ at hrun
                rw [run_calls _ _ _ hm4] at hrun
                unfold pv iv callsP callsI at hrun
                dsimp only at hrun
                have HR := Lib.hid hrun
                clear hkk hoz hoz2 hp hin hrun hk hb1 hb2
                go_wp2_with fail
                refine HR.out.mono ?_
                rintro e w10 ⟨v10, rfl, ho10, hs10⟩
                obtain ⟨a10, n10, c10, g10, cap10, rfl, hov⟩ := outs_calls ho10
                have HOV := Lib.hid hov
                clear hov ho10
                go_wp2
                exact ⟨_, rfl, HOV.out, hs10⟩
              · go_wp2
                exact ⟨_, rfl, ⟨_, rfl, HeapIs.new _ _ _, hs.size⟩, (Since.refl _).alloc _⟩
end Go.Proofs.Ytkpbmbhejpmboaa
