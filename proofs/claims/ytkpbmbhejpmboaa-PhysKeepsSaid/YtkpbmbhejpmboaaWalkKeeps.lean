/- jacquardlaw12.PhysKeeps walked. -/
import Derived.Test.YtkpbmbhejpmboaaProbe
import Derived.Test.YtkpbmbhejpmboaaIn
import Derived.Test.YtkpbmbhejpmboaaOpen
namespace Go.Proofs.Ytkpbmbhejpmboaa
open Go.RowKit
set_option linter.unusedVariables false

def OwnI (W0 : World) (l : List Int) (v : Value) (w : World) : Prop := w.ownsRow W0.heap.size 3 1 v l.length (l.map (Value.int .i64))
theorem OwnI.stable (W0 : World) (l : List Int) : Stable (OwnI W0 l) := fun _ _ _ h s => own_keep h s
def pad19 (l : List Int) : List Int := (List.range 19).map fun t => l.getD t 0
theorem pad19_len (l : List Int) : (pad19 l).length = 19 := by simp [pad19]
theorem pad19_32 {l : List Int} (h : ∀ x ∈ l, In32 x) : ∀ x ∈ pad19 l, In32 x := by
  intro x hx
  obtain ⟨t, _, rfl⟩ := List.mem_map.1 hx
  exact in32_getD h t
theorem pad19_copy (l : List Int) : (l.take 19).map (Value.int .i32) ++ (List.replicate 19 (Value.int .i32 0)).drop (min l.length 19) = (pad19 l).map (Value.int .i32) := by
  rw [List.drop_replicate]
  have e : pad19 l = l.take 19 ++ List.replicate (19 - min l.length 19) 0 := by
    refine List.ext_getElem? fun i => ?_
    have hlt : (l.take 19).length = min l.length 19 := by rw [List.length_take]; omega
    by_cases hi : i < 19
    · have h1 : (pad19 l)[i]? = some (l.getD i 0) := by
        unfold pad19
        rw [List.getElem?_map, List.getElem?_range hi]; rfl
      rw [h1]
      by_cases hiq : i < min l.length 19
      · rw [List.getElem?_append_left (by rw [hlt]; exact hiq), List.getElem?_take_of_lt (by omega), List.getD_eq_getElem?_getD, List.getElem?_eq_getElem (by omega)]
        rfl
      · rw [List.getElem?_append_right (by rw [hlt]; omega), hlt, List.getElem?_replicate, if_pos (by omega), List.getD_eq_getElem?_getD, List.getElem?_eq_none (by omega)]
        rfl
    · rw [List.getElem?_eq_none (by rw [pad19_len]; omega), List.getElem?_eq_none (by rw [List.length_append, hlt, List.length_replicate]; omega)]
  rw [e, List.map_append, List.map_replicate]
theorem xor_32 (x y : Int) : In32 (bits .xor .i32 x y) := by
  show In32 (IntKind.i32.wrap _)
  rw [IntKind.wrap_i32]
  unfold In32; omega
theorem and64k (n : Int) : bits .and .i64 n 65535 = n % 65536 := by
  have h : (BitVec.ofInt 64 65535).toNat = 2 ^ 16 - 1 := by decide
  have key : (BitVec.ofInt 64 n &&& BitVec.ofInt 64 65535).toNat = (n % ((2 ^ 64 : Nat) : Int)).toNat % 2 ^ 16 := by
    rw [BitVec.toNat_and, BitVec.toNat_ofInt, h, Nat.and_two_pow_sub_one_eq_mod]
  show IntKind.i64.wrap ((BitVec.ofInt 64 n &&& BitVec.ofInt 64 65535).toNat : Nat) = n % 65536
  rw [key, IntKind.wrap_i64]
  omega
theorem rest_19 (n : Int) : ∃ q : Nat, (bits .and .i64 n 65535).tmod 19 = (q : Int) ∧ q ≤ 18 := by
  rw [and64k]
  have h0 : 0 ≤ n % 65536 := Int.emod_nonneg _ (by decide)
  have h1 := Int.tmod_lt_of_pos (n % 65536) (show (0 : Int) < 19 by decide)
  have h2 := Int.tmod_nonneg 19 h0
  exact ⟨((n % 65536).tmod 19).toNat, by omega, by omega⟩
/-- A new block, all of it set. -/
theorem store_new (w : World) (cs0 cs : Array Value) (T : TypeId) (w8 : World) (h : w8 = (w.alloc (.cells cs0 T)).setRow w.heap.size cs) : HeapIs w8 w.heap.size cs T ∧ Since w w8 := by
  subst h
  exact ⟨setRow_block (HeapIs.new w cs0 T) _, (setRow_turn (S := fun q => q = w.heap.size) rfl _).toSince ((Since.refl w).alloc _) (fun q hq e => by omega)⟩
theorem any_no {l : List Int} {k : Int} (h : (l.any fun y => y == k) = false) : k ∉ l := by
  intro hm
  rw [List.any_eq_false] at h
  exact h k hm (beq_self_eq_true k)
theorem any_yes {l : List Int} {k : Int} (h : (l.any fun y => y == k) = true) : k ∈ l := by
  obtain ⟨x, hx, he⟩ := List.any_eq_true.1 h
  rw [← eq_of_beq he]; exact hx
/-- One word of an own row turned. -/
theorem own_set32 {w : World} {base : Nat} {v : Value} {l : List Int} (h : w.ownsRow base 21 1 v l.length (l.map (Value.int .i32))) {q : Nat} (hq : q < l.length) (x : Int) :
    ∃ g cap, v = .slice (some ⟨g, 0, none⟩) l.length cap ∧ base ≤ g ∧ g < w.heap.size ∧ w.cell? ⟨g, q, none⟩ = some (.int .i32 (l.getD q 0)) ∧ (∀ i, w.frozen? ⟨g, i, none⟩ = false) ∧ l.length ≤ cap ∧ cap ≤ maxLen ∧ Nums .i32 (w.setCell ⟨g, q, none⟩ (.int .i32 x)) v (l.set q x) := by
  obtain ⟨h0, ⟨hv, hn⟩ | ⟨g, cap, cur, hv, hb, hg, hc, hm, hs, htake⟩⟩ := h
  · omega
  · have hW : WAt w g l (cur.toList.drop l.length) 21 := by
      unfold WAt
      rw [hg]
      rw [Nat.mul_one] at htake
      rw [← htake, List.take_append_drop]
    refine ⟨g, cap, hv, hb, hW.lt, hW.cell hq, fun i => hW.frozen i, hc, hm, ?_⟩
    have hW2 := hW.set hq x
    have hlen : (l.set q x).length = l.length := List.length_set
    rw [hv, ← hlen]
    exact nums_new (cs := (l.set q x).map (Value.int .i32) ++ cur.toList.drop l.length) (l.set q x) 21 cap (by rw [hlen]; exact hc) hm hW2 fun j n hj => by
      have hlt := (List.getElem?_eq_some_iff.1 hj).1
      rw [List.getElem?_append_left (by simpa using hlt), List.getElem?_map, hj]
      rfl
/-- What a probe's outcome is read as. -/
theorem outis_mem {w : World} {base : Nat} {a : Option Addr} {c : Nat} {e v st : Int} {cv : Value} {o : OutP} (h : OutIs w base (.agg #[.int .i64 e, .int .i32 v, .slice a o.mem.length c, cv, .int .i64 st]) o) (hl : o.mem.length = 19) :
    ∃ g, a = some ⟨g, 0, none⟩ ∧ g < w.heap.size ∧ ∀ k : Nat, k < 19 → w.cell? ⟨g, k, none⟩ = some (.int .i32 (o.mem.getD k 0)) := by
  obtain ⟨mv2, cv2, h1, h2, _, _⟩ := h
  simp only [Value.agg.injEq, Array.mk.injEq, List.cons.injEq] at h1
  obtain ⟨_, _, rfl, _⟩ := h1
  obtain ⟨g, rest, T, h3, h4⟩ := h2.at (i := 0) (by omega)
  exact ⟨g, h3, h4.lt, fun k hk => h4.cell (by omega)⟩


set_option maxHeartbeats 8000000 in
set_option maxRecDepth 100000 in
theorem walk_keeps (m : Mach) (av wv : Value) (ws : List Int) (other : Int) (w : World) (ha : Ints w av m.args) (hwf : Wf m) (hw : Nums .i32 w wv ws) (hw32 : ∀ x ∈ ws, In32 x) (hmem : memOp m = false) :
    Calls Try.prog 4 #[mv m av, wv, .int .i64 other] w (TellsS true w) := by
  obtain ⟨op, d, e, a, b, c, imm, args⟩ := m
  have hfine : Fine (⟨op, d, e, a, b, c, imm, args.take 6⟩ : Mach) := by
    refine ⟨(imm_bounds hwf).1, (imm_bounds hwf).2, ?_⟩
    have := List.length_take_le 6 args
    dsimp only; omega
  have h24 : (op == 24) = false ∧ (op == 25) = false ∧ (op == 26) = false ∧ (op == 27) = false := by
    unfold memOp at hmem; simp at hmem ⊢; omega
  obtain ⟨h24, h25, h26, h27⟩ := h24
  have hmem' : memOp (⟨op, d, e, a, b, c, imm, args.take 6⟩ : Mach) = false := hmem
  dsimp only at ha
  obtain ⟨aa, ac, rfl⟩ := nums_lenI ha
  obtain ⟨wa, wc, rfl⟩ := nums_lenI hw
  obtain ⟨_, hac1, hac2⟩ := nums_caps ha
  obtain ⟨N, hN⟩ : ∃ N, N = min args.length 6 := ⟨_, rfl⟩
  have hm6 : (if (6 : Int) < (args.length : Int) then (6 : Int) else (args.length : Int)) = (N : Int) := by split <;> omega
  have hN1 : N ≤ args.length := by omega
  have hN2 : N ≤ ac := by omega
  have hN6 : N ≤ 6 := by omega
  have hXX : Ints w (.slice aa N ac) (args.take 6) := by
    have h := nums_take ha N hN1
    rw [show args.take N = args.take 6 from by rw [hN]; by_cases h6 : args.length ≤ 6; (rw [Nat.min_eq_left h6, List.take_of_length_le h6, List.take_of_length_le (Nat.le_refl _)]); (rw [Nat.min_eq_right (by omega)])] at h
    exact h
  have hXl : (args.take 6).length = N := by rw [List.length_take]; omega
  generalize args.take 6 = X at *
  have HX := Lib.hid hXX
  have HXL := Lib.hid hXl
  have HF := Lib.hid hfine
  have HM := Lib.hid hmem'
  have HW := Lib.hid hw
  have HW32 := Lib.hid hw32
  have HN6 := Lib.hid hN6
  clear hN ha hwf hw hw32 hmem hmem' hfine hXX hXl hN6
  unfold mv
  obtain ⟨q, hqm, hq18⟩ := rest_19 other
  have HQM := Lib.hid hqm
  clear hqm
  go_enter Try.func4, Try.ntmps4
  go_wp2_with fail
  refine (shown_any _).mono ?_
  rintro e0 w1 ⟨rfl, hs1⟩
  dsimp only at hs1 ⊢
  have hb1 : HeapIs w1 w.heap.size #[.int .i64 op, .int .i64 d, .int .i64 e, .int .i64 a, .int .i64 b, .int .i64 c, .int .i32 imm, .slice aa args.length ac] 46 := (HeapIs.new _ _ _).keep hs1
  have hq1 : Since w w1 := ((Since.refl w).alloc _).trans hs1
  have HS1 := Lib.hid hq1
  have HB1 := Lib.hid hb1
  have hl1 := hb1.lt
  have hc7 : w1.cell? ⟨w.heap.size, 7, none⟩ = some (.slice aa args.length ac) := hb1.cell 7
  clear hs1 hb1 hq1
  go_wp2_with (at_builtin; go_loud (refine wpList_append_nums (w0 := w1) .i64 rfl _ _ 25 rfl 3 (.int .i64 0) 8 Try.underlying25 Try.info3 rfl (by decide) (.slice (some ⟨w1.heap.size, 0, none⟩) 0 0) (.slice aa N ac) [] X rfl rfl (own_empty rfl (Nat.le_refl _) _ _) (HX.out.keep (HS1.out.alloc _)) (by have := HXL.out; have := HN6.out; simp; omega) ((Since.refl _).alloc _) ?_); intro v2 w2 hown2 hs2; rw [List.nil_append] at hown2; obtain ⟨a2, c2, hv2⟩ := own_shape hown2; rw [HXL.out] at hv2; subst hv2; have hb2 := HB1.out.keep hs2; have HB2 := Lib.hid hb2; have HO2 := Lib.hid hown2; have HS2 := Lib.hid hs2; have k0 : w2.cell? ⟨w.heap.size, 0, none⟩ = some (.int .i64 op) := hb2.cell 0; have k1 : w2.cell? ⟨w.heap.size, 1, none⟩ = some (.int .i64 d) := hb2.cell 1; have k2 : w2.cell? ⟨w.heap.size, 2, none⟩ = some (.int .i64 e) := hb2.cell 2; have k3 : w2.cell? ⟨w.heap.size, 3, none⟩ = some (.int .i64 a) := hb2.cell 3; have k4 : w2.cell? ⟨w.heap.size, 4, none⟩ = some (.int .i64 b) := hb2.cell 4; have k5 : w2.cell? ⟨w.heap.size, 5, none⟩ = some (.int .i64 c) := hb2.cell 5; have k6 : w2.cell? ⟨w.heap.size, 6, none⟩ = some (.int .i32 imm) := hb2.cell 6; have k7 : w2.cell? ⟨w.heap.size, 7, none⟩ = some (.slice aa args.length ac) := hb2.cell 7; have hl2 := hb2.lt; have hz2 := hb2.frozen; clear hb2 hown2 hs2 hc7 hl1)
  have e1 := hl2
  clear k0 k1 k2 k3 k4 k5 k6 k7 hz2
  obtain ⟨w3, hw3⟩ : ∃ x, x = w2.setCell ⟨w.heap.size, 7, none⟩ (.slice a2 N c2) := ⟨_, rfl⟩
  rw [← hw3]
  have t3 : Turn (fun q => q = w.heap.size) w2 w3 := by rw [hw3]; exact (Turn.refl (fun q => q = w.heap.size) w2).setCell (p := ⟨w.heap.size, 7, none⟩) rfl _
  have hs3 : Since w w3 := t3.toSince (HS1.out.trans HS2.out) (fun q hq e => by omega)
  have hb3 : HeapIs w3 w.heap.size #[.int .i64 op, .int .i64 d, .int .i64 e, .int .i64 a, .int .i64 b, .int .i64 c, .int .i32 imm, .slice a2 N c2] 46 := by rw [hw3]; exact HB2.out.set 7 _
  have hlw : w.heap.size < w1.heap.size := HB1.out.lt
  have ho3 : w3.ownsRow w1.heap.size 3 1 (.slice a2 N c2) X.length (X.map (Value.int .i64)) := own_turn HO2.out t3 fun q hq e => by have := (World.ownsRow.lt HO2.out q hq).1; omega
  have hx3 : Ints w3 (.slice a2 N c2) X := nums_of_own ho3
  have hq3 : ∀ q, (Value.slice a2 N c2).ownBlock = some q → q < w3.heap.size := fun q hq => (World.ownsRow.lt ho3 q hq).2
  have hins := ins_any ⟨op, d, e, a, b, c, imm, X⟩ (.slice a2 N c2) 16 3 w3 hx3 HF.out
  generalize hE : insE ⟨op, d, e, a, b, c, imm, X⟩ 16 3 = E at *
  unfold mv at hins
  have HS3 := Lib.hid hs3
  have HB3 := Lib.hid hb3
  have HX3 := Lib.hid hx3
  have HQ3 := Lib.hid hq3
  have HINS := Lib.hid hins
  have HE := Lib.hid hE
  clear t3 hs3 hb3 hlw ho3 hx3 hq3 hins hE hw3 e1
  refine HINS.out.mono ?_
  rintro e0 w4 ⟨rfl, hs4⟩
  by_cases hE0 : E = 0
  rotate_left
  · have hbE : (E != 0) = true := by simpa using hE0
    clear hE0
    go_wp2
    go_ret
    exact ⟨rfl, HS3.out.trans hs4⟩
  subst hE0
  have HS4 := Lib.hid hs4
  clear hs4 HINS HO2 HB2 HS2 HB1 HS1
  obtain ⟨ti, hti, hz0, hz1, hz2⟩ := info_parts (P := Try.prog) (e := 21) (z := .int .i32 0) (size := 1) (bytes := 4) (by kernel_rfl)
  go_wp2_with (first
    | (at_make; refine wpList_make_full _ rfl (.const (.int .i64 19)) (.const (.int .i64 19)) 34 rfl w4.heap.size 21 ti (.int .i32 0) 1 Try.underlying34 hti hz0 hz1 .i64 .i64 _ _ 19 rfl rfl rfl rfl (by rw [hz2]; decide) (by decide) (Nat.le_refl _) ?_; intro w5 hown hgrow; obtain ⟨hs5, hz⟩ := made_zeros hown hgrow; have HS5 := Lib.hid hs5; have HZ5 := Lib.hid (show HeapIs w5 w4.heap.size (List.replicate 19 (Value.int .i32 0)).toArray 21 from by simpa [zeros] using hz); clear hs5 hz hown hgrow)
    | (refine wpList_copy_nums rfl _ _ 34 34 rfl 21 Try.underlying34 (by kernel_rfl) w4.heap.size 19 19 wa ws.length wc rfl rfl ws (HW.out.keep (HS3.out.trans (HS4.out.trans HS5.out))) (List.replicate 19 (Value.int .i32 0)) 21 HZ5.out (by decide) ?_; intro v3 w6 hcp ht6; rw [pad19_copy ws] at hcp; have hs6 : Since w4 w6 := ht6.toSince HS5.out (fun q hq e => by omega); have hb6 := (HB3.out.keep HS4.out).keep hs6; have k0 : w6.cell? ⟨w.heap.size, 0, none⟩ = some (.int .i64 op) := hb6.cell 0; have k1 : w6.cell? ⟨w.heap.size, 1, none⟩ = some (.int .i64 d) := hb6.cell 1; have k2 : w6.cell? ⟨w.heap.size, 2, none⟩ = some (.int .i64 e) := hb6.cell 2; have k3 : w6.cell? ⟨w.heap.size, 3, none⟩ = some (.int .i64 a) := hb6.cell 3; have k4 : w6.cell? ⟨w.heap.size, 4, none⟩ = some (.int .i64 b) := hb6.cell 4; have k5 : w6.cell? ⟨w.heap.size, 5, none⟩ = some (.int .i64 c) := hb6.cell 5; have k6 : w6.cell? ⟨w.heap.size, 6, none⟩ = some (.int .i32 imm) := hb6.cell 6; have k7 : w6.cell? ⟨w.heap.size, 7, none⟩ = some (.slice a2 N c2) := hb6.cell 7; have hl6 := hb6.lt; have HS6 := Lib.hid hs6; have HB6 := Lib.hid hb6; have HCP := Lib.hid hcp; clear hcp ht6 hs6 hb6))
  clear k0 k1 k2 k3 k4 k5 k6 k7 hl6
  obtain ⟨W, hW⟩ : ∃ W, W = pad19 ws := ⟨_, rfl⟩
  have hWl : W.length = 19 := by rw [hW]; exact pad19_len ws
  have hW32 : ∀ x ∈ W, In32 x := by rw [hW]; exact pad19_32 HW32.out
  rw [← hW] at HCP
  have hwn : Nums .i32 w6 (.slice (some ⟨w4.heap.size, 0, none⟩) 19 19) W := by
    have h := nums_heap (k := .i32) HCP.out (by rw [hWl]; decide)
    rw [hWl] at h
    exact h
  have hwa : WAt w6 w4.heap.size W [] 21 := by unfold WAt; rw [List.append_nil]; exact HCP.out
  have hS6 : Since w w6 := HS3.out.trans (HS4.out.trans HS6.out)
  have hx6 : Ints w6 (.slice a2 N c2) X := (HX3.out.keep HS4.out).keep HS6.out
  have hq6 : ∀ q, (Value.slice a2 N c2).ownBlock = some q → q < w6.heap.size := fun q hq => Nat.lt_of_lt_of_le (HQ3.out q hq) (HS4.out.trans HS6.out).size
  have hp := probe_any ⟨op, d, e, a, b, c, imm, X⟩ (.slice a2 N c2) (.slice (some ⟨w4.heap.size, 0, none⟩) 19 19) W w6 hx6 hq6 HF.out hwn hWl hW32
  unfold mv at hp
  have HP := Lib.hid hp
  have HWA := Lib.hid hwa
  have HWN := Lib.hid hwn
  have HSW := Lib.hid hS6
  have HX6 := Lib.hid hx6
  have HQ6 := Lib.hid hq6
  have HWL := Lib.hid hWl
  have HWW := Lib.hid hW32
  clear hp hwa hwn hS6 hx6 hq6 hWl hW32 hW HCP HZ5 HS5 HS6 HS4 HS3 HX3 HQ3 HB3 HW HW32
  refine HP.out.mono ?_
  rintro e0 w7 ⟨vA, rfl, ⟨bA, x1, x2, x3, x4, hbA, hoA⟩, hs7⟩
  have hrA : ProbeR ⟨op, d, e, a, b, c, imm, X⟩ W (probeRun ⟨op, d, e, a, b, c, imm, X⟩ (.slice a2 N c2) W x1 x2 x3 x4) := probe_runP _ _ _ _ _ _ W HE.out HM.out
  generalize probeRun ⟨op, d, e, a, b, c, imm, X⟩ (.slice a2 N c2) W x1 x2 x3 x4 = oA at *
  obtain ⟨ma, mc, ca, cn, cc, hvA⟩ := hoA.shape
  subst hvA
  have hk1 := keeps_one HE.out HM.out hrA
  have HRA := Lib.hid hrA
  have HOA := Lib.hid hoA
  have HS7 := Lib.hid (HSW.out.trans hs7)
  have HB7 := Lib.hid (HB6.out.keep hs7)
  have HWA7 := Lib.hid (HWA.out.keep hs7)
  have HWN7 := Lib.hid (HWN.out.keep hs7)
  have HX7 := Lib.hid (HX6.out.keep hs7)
  have HQ7 := Lib.hid (fun q hq => Nat.lt_of_lt_of_le (HQ6.out q hq) hs7.size)
  have hlw7 := HB7.out.lt
  clear hrA hoA hs7 hbA HP HWA HWN HX6 HQ6 HB6 HSW
  rcases hk1 with ⟨g1, g2, g3, ⟨g4, g5⟩, g6⟩ | ⟨g1, g2, g3⟩
  · dsimp only at g3 g4 g5 g6
    obtain ⟨n, rfl⟩ := Int.eq_ofNat_of_zero_le g4
    have hop : (op == 17) = true := by simp [g3]
    rw [Int.toNat_natCast] at g6
    rw [g1, g2]
    have hn19 : n < 19 := by omega
    go_wp2_with (
      refine wpList_store_row rfl 42 _ _ rfl w7.heap.size #[.int .i64 2, .int .i32 (-1), .slice ma oA.mem.length mc, .slice ca cn cc, .int .i64 oA.steps] rfl rfl 42 _ (HeapIs.new w7 #[.int .i64 0, .int .i32 0, .slice none 0 0, .slice none 0 0, .int .i64 0] 42) (by kernel_rfl) rfl (by rw [← Array.all_toList]; rfl) ?_
      obtain ⟨w8, hst⟩ : ∃ x, x = (w7.alloc (.cells #[.int .i64 0, .int .i32 0, .slice none 0 0, .slice none 0 0, .int .i64 0] 42)).setRow w7.heap.size #[.int .i64 2, .int .i32 (-1), .slice ma oA.mem.length mc, .slice ca cn cc, .int .i64 oA.steps] := ⟨_, rfl⟩
      rw [← hst]
      obtain ⟨hbo, hso⟩ := store_new _ _ _ _ w8 hst
      clear hst
      have ce0 : w8.cell? ⟨w7.heap.size, 0, none⟩ = some (.int .i64 2) := hbo.cell 0
      have ce1 : w8.cell? ⟨w7.heap.size, 1, none⟩ = some (.int .i32 (-1)) := hbo.cell 1
      have lA := hbo.lt
      have hb8 := HB7.out.keep hso
      have hw8 := HWA7.out.keep hso
      have k0 : w8.cell? ⟨w.heap.size, 0, none⟩ = some (.int .i64 op) := hb8.cell 0
      have k1 : w8.cell? ⟨w.heap.size, 1, none⟩ = some (.int .i64 d) := hb8.cell 1
      have k2 : w8.cell? ⟨w.heap.size, 2, none⟩ = some (.int .i64 e) := hb8.cell 2
      have k3 : w8.cell? ⟨w.heap.size, 3, none⟩ = some (.int .i64 a) := hb8.cell 3
      have k4 : w8.cell? ⟨w.heap.size, 4, none⟩ = some (.int .i64 (n : Int)) := hb8.cell 4
      have k5 : w8.cell? ⟨w.heap.size, 5, none⟩ = some (.int .i64 c) := hb8.cell 5
      have k6 : w8.cell? ⟨w.heap.size, 6, none⟩ = some (.int .i32 imm) := hb8.cell 6
      have k7 : w8.cell? ⟨w.heap.size, 7, none⟩ = some (.slice a2 N c2) := hb8.cell 7
      have lB := hb8.lt
      have hcn := hw8.cell (i := n) (by rw [HWL.out]; omega)
      rw [g6] at hcn
      have lW := hw8.lt
      have HSO := Lib.hid hso
      clear hbo hso hb8 hw8 g1 g2 g3 g4 g5 g6)
    go_ret
    exact ⟨rfl, HS7.out.trans HSO.out⟩
  obtain ⟨g, rfl, hg1, hg2⟩ := outis_mem HOA.out g2
  have HGC := Lib.hid hg2
  have HGL7 := Lib.hid hg1
  have HG3 := Lib.hid g3
  rw [g1, g2]
  have HG1 := Lib.hid g1
  clear g1 g2 g3 hg1 hg2
  go_wp2_with (
    refine wpList_store_row rfl 42 _ _ rfl w7.heap.size #[.int .i64 1, .int .i32 oA.v, .slice (some ⟨g, 0, none⟩) 19 mc, .slice ca cn cc, .int .i64 oA.steps] rfl rfl 42 _ (HeapIs.new w7 #[.int .i64 0, .int .i32 0, .slice none 0 0, .slice none 0 0, .int .i64 0] 42) (by kernel_rfl) rfl (by rw [← Array.all_toList]; rfl) ?_
    obtain ⟨w8, hst⟩ : ∃ x, x = (w7.alloc (.cells #[.int .i64 0, .int .i32 0, .slice none 0 0, .slice none 0 0, .int .i64 0] 42)).setRow w7.heap.size #[.int .i64 1, .int .i32 oA.v, .slice (some ⟨g, 0, none⟩) 19 mc, .slice ca cn cc, .int .i64 oA.steps] := ⟨_, rfl⟩
    rw [← hst]
    obtain ⟨hbo, hso⟩ := store_new _ _ _ _ w8 hst
    clear hst
    have ce0 : w8.cell? ⟨w7.heap.size, 0, none⟩ = some (.int .i64 1) := hbo.cell 0
    have ce2 : w8.cell? ⟨w7.heap.size, 2, none⟩ = some (.slice (some ⟨g, 0, none⟩) 19 mc) := hbo.cell 2
    have lA := hbo.lt
    have HBM := Lib.hid (HB7.out.keep hso)
    have HS8 := Lib.hid (HS7.out.trans hso)
    have HX8 := Lib.hid (HX7.out.keep hso)
    have HQ8 := Lib.hid (fun q hq => Nat.lt_of_lt_of_le (HQ7.out q hq) hso.size)
    have HWA8 := Lib.hid (HWA7.out.keep hso)
    have HWN8 := Lib.hid (HWN7.out.keep hso)
    have HBO := Lib.hid hbo
    have hGL8 := Nat.lt_of_lt_of_le HGL7.out hso.size
    have HGL8 := Lib.hid hGL8
    have HC8 := Lib.hid (fun (k : Nat) (hk : k < 19) => (hso.cell (p := ⟨g, k, none⟩) HGL7.out).trans (HGC.out k hk))
    have HMAK := Lib.hid (fun w h => makes_any ⟨op, d, e, a, b, c, imm, X⟩ (.slice a2 N c2) w h HF.out)
    have HTAK := Lib.hid (fun w h => takes_any ⟨op, d, e, a, b, c, imm, X⟩ (.slice a2 N c2) w h HF.out)
    have HSPO := Lib.hid (fun w => spoils_any ⟨op, d, e, a, b, c, imm, X⟩ (.slice a2 N c2) w)
    unfold mv at HMAK HTAK HSPO
    have HML := Lib.hid (makes_len ⟨op, d, e, a, b, c, imm, X⟩)
    have HSL := Lib.hid (spoils_len ⟨op, d, e, a, b, c, imm, X⟩)
    have HTW := Lib.hid (fun (V : List Int) (o' : OutP) hk hV h' => keeps_two (k := q) (V := V) (o' := o') HE.out HM.out hk hV HRA.out h' HG1.out)
    clear hbo hso hGL8 HWA7 HWN7 HX7 HQ7 HB7 HS7 HGC HGL7 HRA HG1 hlw7)
  generalize makes ⟨op, d, e, a, b, c, imm, X⟩ = MK at *
  generalize spoils ⟨op, d, e, a, b, c, imm, X⟩ = SK at *
  clear ce0 ce2 lA
  refine wp_region_windows [false, true, false, false, true, false, false, false] [false, false, false, true, false, false, true, false] [false, false, false, false, false, false, false, true]
    rfl (by decide +kernel) (by decide +kernel) (by decide +kernel) rfl
    [OwnI w8 [], Is (.agg #[.int .i64 op, .int .i64 d, .int .i64 e, .int .i64 a, .int .i64 b, .int .i64 c, .int .i32 imm, .slice a2 N c2]), IsNums .i64 MK, OwnI w8 ([] ++ MK), Is (.agg #[.int .i64 op, .int .i64 d, .int .i64 e, .int .i64 a, .int .i64 b, .int .i64 c, .int .i32 imm, .slice a2 N c2]), IsNums .i64 SK, OwnI w8 ([] ++ MK ++ SK), OwnI w8 ([] ++ MK ++ SK)]
    ⟨OwnI.stable _ _, Is.stable _, IsNums.stable _ _, OwnI.stable _ _, Is.stable _, IsNums.stable _ _, OwnI.stable _ _, OwnI.stable _ _, trivial⟩ ⟨Is.fixed _, Is.fixed _, trivial⟩ (by simp) ⟨?_, ?_, ?_, ?_, ?_, ?_, ?_, ?_, trivial⟩ ?_
  all_goals
    intro vs w9 hs hk
    simp only [putAll, Act.put, KnowsD, KnowsFin, nthF, Is, List.setIfInBounds_toArray, List.set_cons_zero, List.set_cons_succ, Nat.reduceAdd] at hk ⊢
    try simp only [hk]
  · go_wp2
    exact ⟨_, rfl, own_empty rfl hs.size _ _, (Since.refl _).alloc _⟩
  · have hbm := HBM.out.keep hs
    have k0 : w9.cell? ⟨w.heap.size, 0, none⟩ = some (.int .i64 op) := hbm.cell 0
    have k1 : w9.cell? ⟨w.heap.size, 1, none⟩ = some (.int .i64 d) := hbm.cell 1
    have k2 : w9.cell? ⟨w.heap.size, 2, none⟩ = some (.int .i64 e) := hbm.cell 2
    have k3 : w9.cell? ⟨w.heap.size, 3, none⟩ = some (.int .i64 a) := hbm.cell 3
    have k4 : w9.cell? ⟨w.heap.size, 4, none⟩ = some (.int .i64 b) := hbm.cell 4
    have k5 : w9.cell? ⟨w.heap.size, 5, none⟩ = some (.int .i64 c) := hbm.cell 5
    have k6 : w9.cell? ⟨w.heap.size, 6, none⟩ = some (.int .i32 imm) := hbm.cell 6
    have k7 : w9.cell? ⟨w.heap.size, 7, none⟩ = some (.slice a2 N c2) := hbm.cell 7
    have hl := hbm.lt
    go_wp2
    exact ⟨_, rfl, rfl, Since.refl _⟩
  · go_wp2_with fail
    refine (HMAK.out _ (HX8.out.keep hs)).mono ?_
    rintro e0 w10 ⟨v, rfl, hv, hs2⟩
    go_wp2
    exact ⟨_, rfl, hv, hs2⟩
  · have K := Lib.hid hk; clear hk
    go_wp2_with (at_builtin; refine wpList_append_nums (w0 := w8) .i64 rfl _ _ 25 rfl 3 (.int .i64 0) 8 Try.underlying25 Try.info3 rfl (by decide) _ _ [] MK rfl rfl K.out.1 K.out.2.1 (by have := HML.out; have := HSL.out; simp; omega) hs ?_; intro v' w' hown hs2)
    exact ⟨_, rfl, hown, hs2⟩
  · have hbm := HBM.out.keep hs
    have k0 : w9.cell? ⟨w.heap.size, 0, none⟩ = some (.int .i64 op) := hbm.cell 0
    have k1 : w9.cell? ⟨w.heap.size, 1, none⟩ = some (.int .i64 d) := hbm.cell 1
    have k2 : w9.cell? ⟨w.heap.size, 2, none⟩ = some (.int .i64 e) := hbm.cell 2
    have k3 : w9.cell? ⟨w.heap.size, 3, none⟩ = some (.int .i64 a) := hbm.cell 3
    have k4 : w9.cell? ⟨w.heap.size, 4, none⟩ = some (.int .i64 b) := hbm.cell 4
    have k5 : w9.cell? ⟨w.heap.size, 5, none⟩ = some (.int .i64 c) := hbm.cell 5
    have k6 : w9.cell? ⟨w.heap.size, 6, none⟩ = some (.int .i32 imm) := hbm.cell 6
    have k7 : w9.cell? ⟨w.heap.size, 7, none⟩ = some (.slice a2 N c2) := hbm.cell 7
    have hl := hbm.lt
    go_wp2
    exact ⟨_, rfl, rfl, Since.refl _⟩
  · go_wp2_with fail
    refine (HSPO.out _).mono ?_
    rintro e0 w10 ⟨v, rfl, hv, hs2⟩
    go_wp2
    exact ⟨_, rfl, hv, hs2⟩
  · have K := Lib.hid hk; clear hk
    go_wp2_with (at_builtin; refine wpList_append_nums (w0 := w8) .i64 rfl _ _ 25 rfl 3 (.int .i64 0) 8 Try.underlying25 Try.info3 rfl (by decide) _ _ ([] ++ MK) SK rfl rfl K.out.1 K.out.2.1 (by have := HML.out; have := HSL.out; simp; omega) hs ?_; intro v' w' hown hs2)
    exact ⟨_, rfl, hown, hs2⟩
  · go_wp2
    exact ⟨_, rfl, hk.1, Since.refl _⟩
  obtain ⟨MD, hMD⟩ : ∃ x, x = MK ++ SK := ⟨_, rfl⟩
  rw [← hMD] at HG3 HTW
  have hx := hk.1
  rw [List.nil_append, ← hMD] at hx
  have hx := nums_of_own hx
  obtain ⟨da, dc, e1⟩ := nums_lenI hx
  rw [e1] at hx ⊢
  have hdl := hx.len
  unfold maxLen at hdl
  have HMD := Lib.hid hx
  have HS9 := Lib.hid (HS8.out.trans hs)
  have HBM9 := Lib.hid (HBM.out.keep hs)
  have HBA := Lib.hid (HBO.out.keep hs)
  have HX9 := Lib.hid (HX8.out.keep hs)
  have HQ9 := Lib.hid (fun q hq => Nat.lt_of_lt_of_le (HQ8.out q hq) hs.size)
  have HWA9 := Lib.hid (HWA8.out.keep hs)
  have HWN9 := Lib.hid (HWN8.out.keep hs)
  have HGL := Lib.hid (Nat.lt_of_lt_of_le HGL8.out hs.size)
  have HC9 := Lib.hid (fun (k : Nat) (hk : k < 19) => (hs.cell (p := ⟨g, k, none⟩) HGL8.out).trans (HC8.out k hk))
  clear hx hs hk e1 hMD HMAK HSPO HML HSL HBO HBM HX8 HQ8 HWA8 HWN8 HGL8 HC8 HS8
  go_wp2_with fail
  go_loopw [12] (fun i wr => ∃ k : Nat, k ≤ 19 ∧ i = .int .i64 k ∧ Since w9 wr) (fun i _ => 19 - (intOf i).toNat)
  case atStart => exact ⟨0, by decide, rfl, Since.refl _⟩
  case round =>
    obtain ⟨k, hk, rfl, hsr⟩ := hrel
    have HSR := Lib.hid hsr
    clear hsr
    by_cases hlt : k < 19
    · cases hB : (MD.any fun y => y == (k : Int)) with
      | true =>
        have HBB := Lib.hid hB
        clear hB
        go_wp2_with fail
        rw [show decide ((k : Int) < 19) = true from decide_eq_true (by omega)]
        refine wp_region_list_facts rfl (by decide +kernel) (by decide +kernel)
          [Is (.slice da MD.length dc), Is (.int .i64 k), Is (.bool true), Is (.bool false), Is (.bool false), Any, Any, Any, Any, Any, Any, Any, Any, Any, Any, Is (.bool false)]
          (by repeat (first | exact trivial | refine ⟨Is.stable _, ?_⟩ | refine ⟨Any.stable, ?_⟩)) ⟨?_, ?_, ?_, ?_, ?_, ?_, ?_, ?_, ?_, ?_, ?_, ?_, ?_, ?_, ?_, ?_, trivial⟩ ?_
        all_goals
          intro vs w10 hs hk
          simp only [putAll, Act.put, Knows, KnowsAll, nthF, Is, Any, List.setIfInBounds_toArray, List.set_cons_zero, List.set_cons_succ, Nat.reduceAdd, List.length_cons, List.length_nil] at hk ⊢
          try simp only [hk]
        · go_wp2
          exact ⟨_, rfl, rfl, Since.refl _⟩
        · go_wp2
          exact ⟨_, rfl, rfl, Since.refl _⟩
        · clear hk hlt
          go_wp2_with fail
          refine (in_any _ _ _ _ (HMD.out.keep (HSR.out.trans hs))).mono ?_
          rw [HBB.out]
          rintro e0 wi ⟨rfl, rfl⟩
          go_wp2
          exact ⟨_, rfl, rfl, Since.refl _⟩
        · go_wp2
          exact ⟨_, rfl, rfl, Since.refl _⟩
        · go_wp2
          exact ⟨_, rfl, rfl, Since.refl _⟩
        · go_wp2
          exact ⟨_, rfl, trivial, Since.refl _⟩
        · go_wp2
          exact ⟨_, rfl, trivial, Since.refl _⟩
        · go_wp2
          exact ⟨_, rfl, trivial, Since.refl _⟩
        · go_wp2
          exact ⟨_, rfl, trivial, Since.refl _⟩
        · go_wp2
          exact ⟨_, rfl, trivial, Since.refl _⟩
        · go_wp2
          exact ⟨_, rfl, trivial, Since.refl _⟩
        · go_wp2
          exact ⟨_, rfl, trivial, Since.refl _⟩
        · go_wp2
          exact ⟨_, rfl, trivial, Since.refl _⟩
        · go_wp2
          exact ⟨_, rfl, trivial, Since.refl _⟩
        · go_wp2
          exact ⟨_, rfl, trivial, Since.refl _⟩
        · go_wp2
          exact ⟨_, rfl, rfl, Since.refl _⟩
        · go_wp2
          go_roundw
          case rel => exact ⟨k + 1, by omega, by go_num, HSR.out.trans hs⟩
          case measure => simp [intOf]; omega
      | false =>
        have HBB := Lib.hid hB
        obtain ⟨x, hx⟩ : ∃ x, x = W.getD k 0 := ⟨_, rfl⟩
        have heq := HG3.out k hlt (any_no hB)
        rw [← hx] at heq
        have HCA := Lib.hid (fun wX (h : Since w9 wX) => (h.cell (p := ⟨g, k, none⟩) HGL.out).trans ((HC9.out k hlt).trans (by rw [heq])))
        have HCW := Lib.hid (fun wX (h : Since w9 wX) => ((HWA9.out.keep h).cell (i := k) (by rw [HWL.out]; exact hlt)).trans (by rw [← hx]))
        clear hB hx heq
        go_wp2_with fail
        rw [show decide ((k : Int) < 19) = true from decide_eq_true (by omega)]
        refine wp_region_list_facts rfl (by decide +kernel) (by decide +kernel)
          [Is (.slice da MD.length dc), Is (.int .i64 k), Is (.bool false), Is (.bool true), Is (.bool true), Is (.pointer (some ⟨w7.heap.size, 2, none⟩)), Is (.slice (some ⟨g, 0, none⟩) 19 mc), Is (.int .i64 k), Is (.pointer (some ⟨g, k, none⟩)), Is (.int .i32 x), Is (.slice (some ⟨w4.heap.size, 0, none⟩) 19 19), Is (.int .i64 k), Is (.pointer (some ⟨w4.heap.size, k, none⟩)), Is (.int .i32 x), Is (.bool false), Is (.bool false)]
          (by repeat (first | exact trivial | refine ⟨Is.stable _, ?_⟩ | refine ⟨Any.stable, ?_⟩)) ⟨?_, ?_, ?_, ?_, ?_, ?_, ?_, ?_, ?_, ?_, ?_, ?_, ?_, ?_, ?_, ?_, trivial⟩ ?_
        all_goals
          intro vs w10 hs hk
          simp only [putAll, Act.put, Knows, KnowsAll, nthF, Is, List.setIfInBounds_toArray, List.set_cons_zero, List.set_cons_succ, Nat.reduceAdd, List.length_cons, List.length_nil] at hk ⊢
          try simp only [hk]
        · go_wp2
          exact ⟨_, rfl, rfl, Since.refl _⟩
        · go_wp2
          exact ⟨_, rfl, rfl, Since.refl _⟩
        · clear hk hlt
          go_wp2_with fail
          refine (in_any _ _ _ _ (HMD.out.keep (HSR.out.trans hs))).mono ?_
          rw [HBB.out]
          rintro e0 wi ⟨rfl, rfl⟩
          go_wp2
          exact ⟨_, rfl, rfl, Since.refl _⟩
        · go_wp2
          exact ⟨_, rfl, rfl, Since.refl _⟩
        · go_wp2
          exact ⟨_, rfl, rfl, Since.refl _⟩
        · go_wp2
          exact ⟨_, rfl, rfl, Since.refl _⟩
        · have hc : w10.cell? ⟨w7.heap.size, 2, none⟩ = some (.slice (some ⟨g, 0, none⟩) 19 mc) := (HBA.out.keep (HSR.out.trans hs)).cell 2
          have hl := (HBA.out.keep (HSR.out.trans hs)).lt
          go_wp2
          exact ⟨_, rfl, rfl, Since.refl _⟩
        · go_wp2
          exact ⟨_, rfl, rfl, Since.refl _⟩
        · go_wp2
          exact ⟨_, rfl, (by show Value.pointer _ = _; simp [go_sem]), Since.refl _⟩
        · have hc := HCA.out _ (HSR.out.trans hs)
          have hl := Nat.lt_of_lt_of_le HGL.out (HSR.out.trans hs).size
          go_wp2
          exact ⟨_, rfl, rfl, Since.refl _⟩
        · go_wp2
          exact ⟨_, rfl, rfl, Since.refl _⟩
        · go_wp2
          exact ⟨_, rfl, rfl, Since.refl _⟩
        · go_wp2
          exact ⟨_, rfl, (by show Value.pointer _ = _; simp [go_sem]), Since.refl _⟩
        · have hc := HCW.out _ (HSR.out.trans hs)
          have hl := (HWA9.out.keep (HSR.out.trans hs)).lt
          go_wp2
          exact ⟨_, rfl, rfl, Since.refl _⟩
        · go_wp2
          exact ⟨_, rfl, rfl, Since.refl _⟩
        · go_wp2
          exact ⟨_, rfl, rfl, Since.refl _⟩
        · go_wp2
          go_roundw
          case rel => exact ⟨k + 1, by omega, by go_num, HSR.out.trans hs⟩
          case measure => simp [intOf]; omega
    · obtain rfl : k = 19 := by omega
      rw [show ((19 : Nat) : Int) = 19 from rfl]
      obtain ⟨wB, hwB⟩ : ∃ x, x = wr := ⟨_, rfl⟩
      subst hwB
      have hbm := HBM9.out.keep HSR.out
      have k0 : wB.cell? ⟨w.heap.size, 0, none⟩ = some (.int .i64 op) := hbm.cell 0
      have k1 : wB.cell? ⟨w.heap.size, 1, none⟩ = some (.int .i64 d) := hbm.cell 1
      have k2 : wB.cell? ⟨w.heap.size, 2, none⟩ = some (.int .i64 e) := hbm.cell 2
      have k3 : wB.cell? ⟨w.heap.size, 3, none⟩ = some (.int .i64 a) := hbm.cell 3
      have k4 : wB.cell? ⟨w.heap.size, 4, none⟩ = some (.int .i64 b) := hbm.cell 4
      have k5 : wB.cell? ⟨w.heap.size, 5, none⟩ = some (.int .i64 c) := hbm.cell 5
      have k6 : wB.cell? ⟨w.heap.size, 6, none⟩ = some (.int .i32 imm) := hbm.cell 6
      have k7 : wB.cell? ⟨w.heap.size, 7, none⟩ = some (.slice a2 N c2) := hbm.cell 7
      have lB := hbm.lt
      have hqm := HQM.out
      clear hlt hk hbm
      go_wp2_with fail
      clear k0 k1 k2 k3 k4 k5 k6 k7 lB hqm
      refine (HTAK.out _ (HX9.out.keep HSR.out)).mono ?_
      rintro e0 w11 ⟨vT, rfl, hvT, hs11⟩
      obtain ⟨ta, tc, rfl⟩ := nums_lenI hvT
      have HVT := Lib.hid hvT
      have HS11 := Lib.hid (HSR.out.trans hs11)
      clear hvT hs11
      go_wp2_with fail
      refine (in_any _ _ _ _ HVT.out).mono ?_
      cases hT : ((takes ⟨op, d, e, a, b, c, imm, X⟩).any fun y => y == (q : Int)) with
      | true =>
        rintro e0 w12 ⟨rfl, rfl⟩
        go_wp2
        go_ret
        exact ⟨rfl, HS9.out.trans HS11.out⟩
      | false =>
        rintro e0 w12 ⟨rfl, rfl⟩
        have HNT := Lib.hid (any_no hT)
        clear hT HVT HTAK
        obtain ⟨y, hy⟩ : ∃ y, W.getD q 0 = y := ⟨_, rfl⟩
        obtain ⟨xv, hxv⟩ : ∃ x, bits .xor .i32 y 23130 = x := ⟨_, rfl⟩
        have HY := Lib.hid hy
        have HXV := Lib.hid (show In32 xv from by rw [← hxv]; exact xor_32 _ _)
        clear hy
        go_wp2_with (
          at_builtin
          go_loud (
            refine wpList_append_nums (w0 := w11) .i32 rfl _ _ 34 rfl 21 (.int .i32 0) 4 Try.underlying34 Try.info32 rfl (by decide) (.slice (some ⟨w11.heap.size, 0, none⟩) 0 0) (.slice (some ⟨w4.heap.size, 0, none⟩) 19 19) [] W rfl rfl (own_empty rfl (Nat.le_refl _) _ _) ((HWN9.out.keep HS11.out).keep ((Since.refl _).alloc _)) (by rw [HWL.out]; simp) ((Since.refl _).alloc _) ?_
            intro v5 w13 hown13 hs13
            rw [List.nil_append] at hown13
            obtain ⟨g5, c5, hv5, ho1, ho2, ho3, ho4, ho5, ho6, ho7⟩ := own_set32 hown13 (q := q) (by rw [HWL.out]; omega) xv
            rw [HWL.out] at hv5 ho5
            rw [HY.out] at ho3
            subst hv5
            unfold maxLen at ho6
            obtain ⟨w14, hw14⟩ : ∃ x, x = w13.setCell ⟨g5, q, none⟩ (.int .i32 xv) := ⟨_, rfl⟩
            have t14 : Turn (fun z => z = g5) w13 w14 := by
              rw [hw14]
              exact (Turn.refl (fun z => z = g5) w13).setCell (p := ⟨g5, q, none⟩) rfl _
            have hs14 : Since w11 w14 := t14.toSince hs13 (fun z hz e => by omega)
            have hb14 := HBM9.out.keep (HS11.out.trans hs14)
            rw [← hw14] at ho7
            have HO7 := Lib.hid ho7
            have HS14 := Lib.hid (HS11.out.trans hs14)
            have HW14 := Lib.hid hw14
            have k0 : w14.cell? ⟨w.heap.size, 0, none⟩ = some (.int .i64 op) := hb14.cell 0
            have k1 : w14.cell? ⟨w.heap.size, 1, none⟩ = some (.int .i64 d) := hb14.cell 1
            have k2 : w14.cell? ⟨w.heap.size, 2, none⟩ = some (.int .i64 e) := hb14.cell 2
            have k3 : w14.cell? ⟨w.heap.size, 3, none⟩ = some (.int .i64 a) := hb14.cell 3
            have k4 : w14.cell? ⟨w.heap.size, 4, none⟩ = some (.int .i64 b) := hb14.cell 4
            have k5 : w14.cell? ⟨w.heap.size, 5, none⟩ = some (.int .i64 c) := hb14.cell 5
            have k6 : w14.cell? ⟨w.heap.size, 6, none⟩ = some (.int .i32 imm) := hb14.cell 6
            have k7 : w14.cell? ⟨w.heap.size, 7, none⟩ = some (.slice a2 N c2) := hb14.cell 7
            have lB := hb14.lt
            rw [hw14] at k0 k1 k2 k3 k4 k5 k6 k7 lB
            clear hown13 hs13 t14 hs14 hb14 ho7 hw14))
        rw [← HW14.out]
        clear k0 k1 k2 k3 k4 k5 k6 k7 lB ho1 ho2 ho3 ho4 ho5 ho6 HW14 hxv
        have hx14 : Ints w14 (.slice a2 N c2) X := HX9.out.keep HS14.out
        have hq14 : ∀ q, (Value.slice a2 N c2).ownBlock = some q → q < w14.heap.size := fun q hq => Nat.lt_of_lt_of_le (HQ9.out q hq) HS14.out.size
        have hp := probe_any ⟨op, d, e, a, b, c, imm, X⟩ (.slice a2 N c2) (.slice (some ⟨g5, 0, none⟩) 19 c5) (W.set q xv) w14 hx14 hq14 HF.out HO7.out (by rw [List.length_set]; exact HWL.out) (fun z hz => by
          rcases List.mem_or_eq_of_mem_set hz with h | h
          · exact HWW.out z h
          · rw [h]; exact HXV.out)
        unfold mv at hp
        have HP := Lib.hid hp
        clear hp hx14 hq14
        refine HP.out.mono ?_
        rintro e0 w15 ⟨vB, rfl, ⟨bB, y1, y2, y3, y4, hbB, hoB⟩, hs15⟩
        have hrB : ProbeR ⟨op, d, e, a, b, c, imm, X⟩ (W.set q xv) (probeRun ⟨op, d, e, a, b, c, imm, X⟩ (.slice a2 N c2) (W.set q xv) y1 y2 y3 y4) := probe_runP _ _ _ _ _ _ (W.set q xv) HE.out HM.out
        generalize probeRun ⟨op, d, e, a, b, c, imm, X⟩ (.slice a2 N c2) (W.set q xv) y1 y2 y3 y4 = oB at *
        obtain ⟨na, nc, na2, nn, nnc, hvB⟩ := hoB.shape
        subst hvB
        obtain ⟨f1, f2, f3⟩ := HTW.out (W.set q xv) oB HNT.out (fun n hn => by rw [List.getD_eq_getElem?_getD, List.getD_eq_getElem?_getD, List.getElem?_set_ne (fun e => hn e.symm)]) hrB
        obtain ⟨h, rfl, hh1, hh2⟩ := outis_mem hoB f2
        have HF3 := Lib.hid f3
        have HHC := Lib.hid hh2
        have HH1 := Lib.hid hh1
        have HS15 := Lib.hid (HS14.out.trans hs15)
        rw [f1, f2]
        clear f1 f2 f3 hh1 hh2 hoB hrB hs15 hbB HP HNT HTW HXV HY HO7
        go_wp2_with (
          refine wpList_store_row rfl 42 _ _ rfl w15.heap.size #[.int .i64 1, .int .i32 oB.v, .slice (some ⟨h, 0, none⟩) 19 nc, .slice na2 nn nnc, .int .i64 oB.steps] rfl rfl 42 _ (HeapIs.new w15 #[.int .i64 0, .int .i32 0, .slice none 0 0, .slice none 0 0, .int .i64 0] 42) (by kernel_rfl) rfl (by rw [← Array.all_toList]; rfl) ?_
          obtain ⟨w16, hst⟩ : ∃ x, x = (w15.alloc (.cells #[.int .i64 0, .int .i32 0, .slice none 0 0, .slice none 0 0, .int .i64 0] 42)).setRow w15.heap.size #[.int .i64 1, .int .i32 oB.v, .slice (some ⟨h, 0, none⟩) 19 nc, .slice na2 nn nnc, .int .i64 oB.steps] := ⟨_, rfl⟩
          rw [← hst]
          obtain ⟨hbo, hso⟩ := store_new _ _ _ _ w16 hst
          clear hst
          have ce0 : w16.cell? ⟨w15.heap.size, 0, none⟩ = some (.int .i64 1) := hbo.cell 0
          have ce2 : w16.cell? ⟨w15.heap.size, 2, none⟩ = some (.slice (some ⟨h, 0, none⟩) 19 nc) := hbo.cell 2
          have lA := hbo.lt
          have HBB2 := Lib.hid hbo
          have HS916 := Lib.hid (HS15.out.trans hso)
          have HHL := Lib.hid (Nat.lt_of_lt_of_le HH1.out hso.size)
          have HC16 := Lib.hid (fun (k : Nat) (hk : k < 19) => (hso.cell (p := ⟨h, k, none⟩) HH1.out).trans (HHC.out k hk))
          clear hbo hso HHC HH1)
        go_wp2_with fail
        clear ce0 ce2 lA HSR
        go_loopw [16] (fun i wr => ∃ k : Nat, k ≤ 19 ∧ i = .int .i64 k ∧ Since w16 wr) (fun i _ => 19 - (intOf i).toNat)
        case atStart => exact ⟨0, by decide, rfl, Since.refl _⟩
        case round =>
          obtain ⟨k, hk, rfl, hsr⟩ := hrel
          have HSR := Lib.hid hsr
          clear hsr
          by_cases hlt : k < 19
          · cases hB : (MD.any fun y => y == (k : Int)) with
            | false =>
              have HBB := Lib.hid hB
              clear hB
              go_wp2_with fail
              rw [show decide ((k : Int) < 19) = true from decide_eq_true (by omega)]
              refine wp_region_list_facts rfl (by decide +kernel) (by decide +kernel)
                [Is (.slice da MD.length dc), Is (.int .i64 k), Is (.bool false), Is (.bool false), Any, Any, Any, Any, Any, Any, Any, Any, Any, Any, Any, Is (.bool false)]
                (by repeat (first | exact trivial | refine ⟨Is.stable _, ?_⟩ | refine ⟨Any.stable, ?_⟩)) ⟨?_, ?_, ?_, ?_, ?_, ?_, ?_, ?_, ?_, ?_, ?_, ?_, ?_, ?_, ?_, ?_, trivial⟩ ?_
              all_goals
                intro vs w17 hs hk
                simp only [putAll, Act.put, Knows, KnowsAll, nthF, Is, Any, List.setIfInBounds_toArray, List.set_cons_zero, List.set_cons_succ, Nat.reduceAdd, List.length_cons, List.length_nil] at hk ⊢
                try simp only [hk]
              · go_wp2
                exact ⟨_, rfl, rfl, Since.refl _⟩
              · go_wp2
                exact ⟨_, rfl, rfl, Since.refl _⟩
              · clear hk hlt
                go_wp2_with fail
                refine (in_any _ _ _ _ (HMD.out.keep (HS916.out.trans (HSR.out.trans hs)))).mono ?_
                rw [HBB.out]
                rintro e0 wi ⟨rfl, rfl⟩
                go_wp2
                exact ⟨_, rfl, rfl, Since.refl _⟩
              · go_wp2
                exact ⟨_, rfl, rfl, Since.refl _⟩
              · go_wp2
                exact ⟨_, rfl, trivial, Since.refl _⟩
              · go_wp2
                exact ⟨_, rfl, trivial, Since.refl _⟩
              · go_wp2
                exact ⟨_, rfl, trivial, Since.refl _⟩
              · go_wp2
                exact ⟨_, rfl, trivial, Since.refl _⟩
              · go_wp2
                exact ⟨_, rfl, trivial, Since.refl _⟩
              · go_wp2
                exact ⟨_, rfl, trivial, Since.refl _⟩
              · go_wp2
                exact ⟨_, rfl, trivial, Since.refl _⟩
              · go_wp2
                exact ⟨_, rfl, trivial, Since.refl _⟩
              · go_wp2
                exact ⟨_, rfl, trivial, Since.refl _⟩
              · go_wp2
                exact ⟨_, rfl, trivial, Since.refl _⟩
              · go_wp2
                exact ⟨_, rfl, trivial, Since.refl _⟩
              · go_wp2
                exact ⟨_, rfl, rfl, Since.refl _⟩
              · go_wp2
                go_roundw
                case rel => exact ⟨k + 1, by omega, by go_num, HSR.out.trans hs⟩
                case measure => simp [intOf]; omega
            | true =>
              have HBB := Lib.hid hB
              obtain ⟨x, hx⟩ : ∃ x, x = oA.mem.getD k 0 := ⟨_, rfl⟩
              have heq := HF3.out k hlt (any_yes hB)
              rw [← hx] at heq
              have HCA := Lib.hid (fun wX (hX : Since w9 wX) => (hX.cell (p := ⟨g, k, none⟩) HGL.out).trans ((HC9.out k hlt).trans (by rw [← hx])))
              have HCB := Lib.hid (fun wX (hX : Since w16 wX) => (hX.cell (p := ⟨h, k, none⟩) HHL.out).trans ((HC16.out k hlt).trans (by rw [← heq])))
              clear hB hx heq
              go_wp2_with fail
              rw [show decide ((k : Int) < 19) = true from decide_eq_true (by omega)]
              refine wp_region_list_facts rfl (by decide +kernel) (by decide +kernel)
                [Is (.slice da MD.length dc), Is (.int .i64 k), Is (.bool true), Is (.bool true), Is (.pointer (some ⟨w7.heap.size, 2, none⟩)), Is (.slice (some ⟨g, 0, none⟩) 19 mc), Is (.int .i64 k), Is (.pointer (some ⟨g, k, none⟩)), Is (.int .i32 x), Is (.pointer (some ⟨w15.heap.size, 2, none⟩)), Is (.slice (some ⟨h, 0, none⟩) 19 nc), Is (.int .i64 k), Is (.pointer (some ⟨h, k, none⟩)), Is (.int .i32 x), Is (.bool false), Is (.bool false)]
                (by repeat (first | exact trivial | refine ⟨Is.stable _, ?_⟩ | refine ⟨Any.stable, ?_⟩)) ⟨?_, ?_, ?_, ?_, ?_, ?_, ?_, ?_, ?_, ?_, ?_, ?_, ?_, ?_, ?_, ?_, trivial⟩ ?_
              all_goals
                intro vs w17 hs hk
                simp only [putAll, Act.put, Knows, KnowsAll, nthF, Is, List.setIfInBounds_toArray, List.set_cons_zero, List.set_cons_succ, Nat.reduceAdd, List.length_cons, List.length_nil] at hk ⊢
                try simp only [hk]
              · go_wp2
                exact ⟨_, rfl, rfl, Since.refl _⟩
              · go_wp2
                exact ⟨_, rfl, rfl, Since.refl _⟩
              · clear hk hlt
                go_wp2_with fail
                refine (in_any _ _ _ _ (HMD.out.keep (HS916.out.trans (HSR.out.trans hs)))).mono ?_
                rw [HBB.out]
                rintro e0 wi ⟨rfl, rfl⟩
                go_wp2
                exact ⟨_, rfl, rfl, Since.refl _⟩
              · go_wp2
                exact ⟨_, rfl, rfl, Since.refl _⟩
              · go_wp2
                exact ⟨_, rfl, rfl, Since.refl _⟩
              · have hc : w17.cell? ⟨w7.heap.size, 2, none⟩ = some (.slice (some ⟨g, 0, none⟩) 19 mc) := (HBA.out.keep (HS916.out.trans (HSR.out.trans hs))).cell 2
                have hl := (HBA.out.keep (HS916.out.trans (HSR.out.trans hs))).lt
                go_wp2
                exact ⟨_, rfl, rfl, Since.refl _⟩
              · go_wp2
                exact ⟨_, rfl, rfl, Since.refl _⟩
              · go_wp2
                exact ⟨_, rfl, (by show Value.pointer _ = _; simp [go_sem]), Since.refl _⟩
              · have hc := HCA.out _ (HS916.out.trans (HSR.out.trans hs))
                have hl := Nat.lt_of_lt_of_le HGL.out (HS916.out.trans (HSR.out.trans hs)).size
                go_wp2
                exact ⟨_, rfl, rfl, Since.refl _⟩
              · go_wp2
                exact ⟨_, rfl, rfl, Since.refl _⟩
              · have hc : w17.cell? ⟨w15.heap.size, 2, none⟩ = some (.slice (some ⟨h, 0, none⟩) 19 nc) := (HBB2.out.keep (HSR.out.trans hs)).cell 2
                have hl := (HBB2.out.keep (HSR.out.trans hs)).lt
                go_wp2
                exact ⟨_, rfl, rfl, Since.refl _⟩
              · go_wp2
                exact ⟨_, rfl, rfl, Since.refl _⟩
              · go_wp2
                exact ⟨_, rfl, (by show Value.pointer _ = _; simp [go_sem]), Since.refl _⟩
              · have hc := HCB.out _ (HSR.out.trans hs)
                have hl := Nat.lt_of_lt_of_le HHL.out (HSR.out.trans hs).size
                go_wp2
                exact ⟨_, rfl, rfl, Since.refl _⟩
              · go_wp2
                exact ⟨_, rfl, rfl, Since.refl _⟩
              · go_wp2
                exact ⟨_, rfl, rfl, Since.refl _⟩
              · go_wp2
                go_roundw
                case rel => exact ⟨k + 1, by omega, by go_num, HSR.out.trans hs⟩
                case measure => simp [intOf]; omega
          · obtain rfl : k = 19 := by omega
            rw [show ((19 : Nat) : Int) = 19 from rfl]
            go_wp2
            go_ret
            exact ⟨rfl, HS9.out.trans (HS916.out.trans HSR.out)⟩
end Go.Proofs.Ytkpbmbhejpmboaa

