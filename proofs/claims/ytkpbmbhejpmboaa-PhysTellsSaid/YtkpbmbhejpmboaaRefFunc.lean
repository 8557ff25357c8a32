/- jacquardref12.Func, Right: what a program may be, by the document. -/
import Derived.Test.YtkpbmbhejpmboaaRefIns
import Derived.Test.YtkpbmbhejpmboaaRefEnd
import Derived.Test.YtkpbmbhejpmboaaPhysFunc
import Derived.Test.YtkpbmbhejpmboaaRunHead
namespace Go.Proofs.Ytkpbmbhejpmboaa
open Go.RowKit
set_option linter.unusedVariables false

def GotP (p : PrgV) (w : World) (e : Ending) (w' : World) : Prop := e = .returned (.agg #[.int .i64 (funcE p).1, .int .i64 ((funcE p).2.1 : Nat), .int .i64 ((funcE p).2.2 : Nat)]) ∧ Since w w'

set_option maxHeartbeats 8000000 in
set_option maxRecDepth 100000 in
theorem rfunc_any (p : PrgV) (w : World) (h : PrgOk w p) : Calls Try.prog 14 #[pv p] w (GotP p w) := by
  obtain ⟨params, k, slots, blocks, bv⟩ := p
  obtain ⟨hb, hbl⟩ := h
  dsimp only at hb hbl
  obtain ⟨ba, bc, rfl, hmax⟩ := hb.shape
  have H := Lib.hid hb
  have hsum : insSum blocks ≤ 10000000000 := by
    have h1 := insSum_le 100000 blocks (fun b hm => by
      obtain ⟨j, hj⟩ := List.getElem?_of_mem hm
      obtain ⟨_, _, x, _, _, hx, _, hok⟩ := RowIn.at H.out (List.getElem?_eq_some_iff.1 hj).1
      rw [hj] at hx; cases hx
      exact hok.2.2)
    have h2 : blocks.length * 100000 ≤ 100000 * 100000 := Nat.mul_le_mul_right _ hbl
    omega
  have hpre : ∀ j, j ≤ blocks.length → insSum (blocks.take j) ≤ insSum blocks := fun j _ => by
    have e : insSum blocks = insSum (blocks.take j) + insSum (blocks.drop j) := by
      unfold insSum; rw [← List.sum_append, ← List.map_append, List.take_append_drop]
    omega
  have HPRE := Lib.hid hpre
  clear hb hpre hmax
  generalize hF : funcE ⟨params, k, slots, blocks, .slice ba blocks.length bc⟩ = F
  unfold GotP
  rw [hF]
  obtain ⟨fe, fb, fp⟩ := F
  have hF1 : headE ⟨params, k, slots, blocks, .slice ba blocks.length bc⟩ = (if params < 0 ∨ 4 < params ∨ k < 4 ∨ 16 < k ∨ slots < 0 ∨ 16384 < slots then 1 else if blocks.length = 0 then 14 else if 512 < blocks.length ∨ 65536 < blocks.length + insSum blocks then 2 else 0) := rfl
  have HF := Lib.hid hF
  have HF1 := Lib.hid hF1
  clear hF hF1
  unfold funcE at HF
  have hbad : ∀ c : Int, headE ⟨params, k, slots, blocks, .slice ba blocks.length bc⟩ = c → c ≠ 0 → fe = c ∧ fb = 0 ∧ fp = 0 := fun c hc h0 => by
    have h1 := HF.out
    rw [hc, if_neg h0] at h1
    simp only [Prod.mk.injEq] at h1
    exact ⟨h1.1.symm, h1.2.1.symm, h1.2.2.symm⟩
  have HBAD := Lib.hid hbad
  clear hbad
  have hs2 : Since w ((w.alloc (.cells #[.int .i64 params, .int .i64 k, .int .i64 slots, .slice ba blocks.length bc] 24)).alloc (.cells #[.int .i64 0, .int .i64 0, .int .i64 0] 32)) := ((Since.refl _).alloc _).alloc _
  have hg2 : HeapIs ((w.alloc (.cells #[.int .i64 params, .int .i64 k, .int .i64 slots, .slice ba blocks.length bc] 24)).alloc (.cells #[.int .i64 0, .int .i64 0, .int .i64 0] 32)) (w.heap.size + 1) #[.int .i64 0, .int .i64 0, .int .i64 0] 32 := by
    have := HeapIs.new (w.alloc (.cells #[.int .i64 params, .int .i64 k, .int .i64 slots, .slice ba blocks.length bc] 24)) #[.int .i64 0, .int .i64 0, .int .i64 0] 32
    rw [show (w.alloc (.cells #[.int .i64 params, .int .i64 k, .int .i64 slots, .slice ba blocks.length bc] 24)).heap.size = w.heap.size + 1 from by simp] at this
    exact this
  have hp2 : HeapIs ((w.alloc (.cells #[.int .i64 params, .int .i64 k, .int .i64 slots, .slice ba blocks.length bc] 24)).alloc (.cells #[.int .i64 0, .int .i64 0, .int .i64 0] 32)) w.heap.size #[.int .i64 params, .int .i64 k, .int .i64 slots, .slice ba blocks.length bc] 24 := (HeapIs.new _ _ _).keep ((Since.refl _).alloc _)
  have HS2 := Lib.hid hs2
  have HG2 := Lib.hid hg2
  have HP2 := Lib.hid hp2
  clear hs2 hg2 hp2
  unfold pv
  dsimp only
  by_cases q1 : params < 0
  · have hh := HBAD.out 1 (by rw [HF1.out, if_pos (by omega)]) (by decide)
    obtain ⟨rfl, rfl, rfl⟩ := hh
    have q1d : decide (params < 0) = true := decide_eq_true q1
    go_enter Try.func14, Try.ntmps14
    go_wp2_with (
      refine wpList_store_row rfl 32 _ _ rfl (w.heap.size + 1) #[.int .i64 1, .int .i64 0, .int .i64 0] rfl rfl 32 #[.int .i64 0, .int .i64 0, .int .i64 0] (HG2.out) (by kernel_rfl) rfl (by rw [← Array.all_toList]; rfl) ?_
      obtain ⟨w9, hst⟩ : ∃ x, x = (((w.alloc (.cells #[.int .i64 params, .int .i64 k, .int .i64 slots, .slice ba blocks.length bc] 24)).alloc (.cells #[.int .i64 0, .int .i64 0, .int .i64 0] 32))).setRow (w.heap.size + 1) #[.int .i64 1, .int .i64 0, .int .i64 0] := ⟨_, rfl⟩
      rw [← hst]
      have hbo : HeapIs w9 (w.heap.size + 1) #[.int .i64 1, .int .i64 0, .int .i64 0] 32 := by rw [hst]; exact setRow_block (HG2.out) _
      have hso : Since w w9 := by rw [hst]; exact (setRow_turn (S := fun q => q = w.heap.size + 1) rfl _).toSince (HS2.out) (fun q hq e => by omega)
      clear hst
      have ce0 : w9.cell? ⟨w.heap.size + 1, 0, none⟩ = some (.int .i64 1) := hbo.cell 0
      have ce1 : w9.cell? ⟨w.heap.size + 1, 1, none⟩ = some (.int .i64 0) := hbo.cell 1
      have ce2 : w9.cell? ⟨w.heap.size + 1, 2, none⟩ = some (.int .i64 0) := hbo.cell 2
      have hlo := hbo.lt
      have HSO := Lib.hid hso
      clear hbo hso)
    exact bodyPost_ret (v := .agg #[.int .i64 1, .int .i64 0, .int .i64 0]) (by simp [results, Try.results14, go_sem, ce0, ce1, ce2]) rfl ⟨rfl, HSO.out⟩
  have q1d : decide (params < 0) = false := decide_eq_false q1
  by_cases q2 : 4 < params
  · have hh := HBAD.out 1 (by rw [HF1.out, if_pos (by omega)]) (by decide)
    obtain ⟨rfl, rfl, rfl⟩ := hh
    have q2d : decide (4 < params) = true := decide_eq_true q2
    go_enter Try.func14, Try.ntmps14
    go_wp2_with (
      refine wpList_store_row rfl 32 _ _ rfl (w.heap.size + 1) #[.int .i64 1, .int .i64 0, .int .i64 0] rfl rfl 32 #[.int .i64 0, .int .i64 0, .int .i64 0] (HG2.out) (by kernel_rfl) rfl (by rw [← Array.all_toList]; rfl) ?_
      obtain ⟨w9, hst⟩ : ∃ x, x = (((w.alloc (.cells #[.int .i64 params, .int .i64 k, .int .i64 slots, .slice ba blocks.length bc] 24)).alloc (.cells #[.int .i64 0, .int .i64 0, .int .i64 0] 32))).setRow (w.heap.size + 1) #[.int .i64 1, .int .i64 0, .int .i64 0] := ⟨_, rfl⟩
      rw [← hst]
      have hbo : HeapIs w9 (w.heap.size + 1) #[.int .i64 1, .int .i64 0, .int .i64 0] 32 := by rw [hst]; exact setRow_block (HG2.out) _
      have hso : Since w w9 := by rw [hst]; exact (setRow_turn (S := fun q => q = w.heap.size + 1) rfl _).toSince (HS2.out) (fun q hq e => by omega)
      clear hst
      have ce0 : w9.cell? ⟨w.heap.size + 1, 0, none⟩ = some (.int .i64 1) := hbo.cell 0
      have ce1 : w9.cell? ⟨w.heap.size + 1, 1, none⟩ = some (.int .i64 0) := hbo.cell 1
      have ce2 : w9.cell? ⟨w.heap.size + 1, 2, none⟩ = some (.int .i64 0) := hbo.cell 2
      have hlo := hbo.lt
      have HSO := Lib.hid hso
      clear hbo hso)
    exact bodyPost_ret (v := .agg #[.int .i64 1, .int .i64 0, .int .i64 0]) (by simp [results, Try.results14, go_sem, ce0, ce1, ce2]) rfl ⟨rfl, HSO.out⟩
  have q2d : decide (4 < params) = false := decide_eq_false q2
  by_cases q3 : k < 4
  · have hh := HBAD.out 1 (by rw [HF1.out, if_pos (by omega)]) (by decide)
    obtain ⟨rfl, rfl, rfl⟩ := hh
    have q3d : decide (k < 4) = true := decide_eq_true q3
    go_enter Try.func14, Try.ntmps14
    go_wp2_with (
      refine wpList_store_row rfl 32 _ _ rfl (w.heap.size + 1) #[.int .i64 1, .int .i64 0, .int .i64 0] rfl rfl 32 #[.int .i64 0, .int .i64 0, .int .i64 0] (HG2.out) (by kernel_rfl) rfl (by rw [← Array.all_toList]; rfl) ?_
      obtain ⟨w9, hst⟩ : ∃ x, x = (((w.alloc (.cells #[.int .i64 params, .int .i64 k, .int .i64 slots, .slice ba blocks.length bc] 24)).alloc (.cells #[.int .i64 0, .int .i64 0, .int .i64 0] 32))).setRow (w.heap.size + 1) #[.int .i64 1, .int .i64 0, .int .i64 0] := ⟨_, rfl⟩
      rw [← hst]
      have hbo : HeapIs w9 (w.heap.size + 1) #[.int .i64 1, .int .i64 0, .int .i64 0] 32 := by rw [hst]; exact setRow_block (HG2.out) _
      have hso : Since w w9 := by rw [hst]; exact (setRow_turn (S := fun q => q = w.heap.size + 1) rfl _).toSince (HS2.out) (fun q hq e => by omega)
      clear hst
      have ce0 : w9.cell? ⟨w.heap.size + 1, 0, none⟩ = some (.int .i64 1) := hbo.cell 0
      have ce1 : w9.cell? ⟨w.heap.size + 1, 1, none⟩ = some (.int .i64 0) := hbo.cell 1
      have ce2 : w9.cell? ⟨w.heap.size + 1, 2, none⟩ = some (.int .i64 0) := hbo.cell 2
      have hlo := hbo.lt
      have HSO := Lib.hid hso
      clear hbo hso)
    exact bodyPost_ret (v := .agg #[.int .i64 1, .int .i64 0, .int .i64 0]) (by simp [results, Try.results14, go_sem, ce0, ce1, ce2]) rfl ⟨rfl, HSO.out⟩
  have q3d : decide (k < 4) = false := decide_eq_false q3
  by_cases q4 : 16 < k
  · have hh := HBAD.out 1 (by rw [HF1.out, if_pos (by omega)]) (by decide)
    obtain ⟨rfl, rfl, rfl⟩ := hh
    have q4d : decide (16 < k) = true := decide_eq_true q4
    go_enter Try.func14, Try.ntmps14
    go_wp2_with (
      refine wpList_store_row rfl 32 _ _ rfl (w.heap.size + 1) #[.int .i64 1, .int .i64 0, .int .i64 0] rfl rfl 32 #[.int .i64 0, .int .i64 0, .int .i64 0] (HG2.out) (by kernel_rfl) rfl (by rw [← Array.all_toList]; rfl) ?_
      obtain ⟨w9, hst⟩ : ∃ x, x = (((w.alloc (.cells #[.int .i64 params, .int .i64 k, .int .i64 slots, .slice ba blocks.length bc] 24)).alloc (.cells #[.int .i64 0, .int .i64 0, .int .i64 0] 32))).setRow (w.heap.size + 1) #[.int .i64 1, .int .i64 0, .int .i64 0] := ⟨_, rfl⟩
      rw [← hst]
      have hbo : HeapIs w9 (w.heap.size + 1) #[.int .i64 1, .int .i64 0, .int .i64 0] 32 := by rw [hst]; exact setRow_block (HG2.out) _
      have hso : Since w w9 := by rw [hst]; exact (setRow_turn (S := fun q => q = w.heap.size + 1) rfl _).toSince (HS2.out) (fun q hq e => by omega)
      clear hst
      have ce0 : w9.cell? ⟨w.heap.size + 1, 0, none⟩ = some (.int .i64 1) := hbo.cell 0
      have ce1 : w9.cell? ⟨w.heap.size + 1, 1, none⟩ = some (.int .i64 0) := hbo.cell 1
      have ce2 : w9.cell? ⟨w.heap.size + 1, 2, none⟩ = some (.int .i64 0) := hbo.cell 2
      have hlo := hbo.lt
      have HSO := Lib.hid hso
      clear hbo hso)
    exact bodyPost_ret (v := .agg #[.int .i64 1, .int .i64 0, .int .i64 0]) (by simp [results, Try.results14, go_sem, ce0, ce1, ce2]) rfl ⟨rfl, HSO.out⟩
  have q4d : decide (16 < k) = false := decide_eq_false q4
  by_cases q5 : slots < 0
  · have hh := HBAD.out 1 (by rw [HF1.out, if_pos (by omega)]) (by decide)
    obtain ⟨rfl, rfl, rfl⟩ := hh
    have q5d : decide (slots < 0) = true := decide_eq_true q5
    go_enter Try.func14, Try.ntmps14
    go_wp2_with (
      refine wpList_store_row rfl 32 _ _ rfl (w.heap.size + 1) #[.int .i64 1, .int .i64 0, .int .i64 0] rfl rfl 32 #[.int .i64 0, .int .i64 0, .int .i64 0] (HG2.out) (by kernel_rfl) rfl (by rw [← Array.all_toList]; rfl) ?_
      obtain ⟨w9, hst⟩ : ∃ x, x = (((w.alloc (.cells #[.int .i64 params, .int .i64 k, .int .i64 slots, .slice ba blocks.length bc] 24)).alloc (.cells #[.int .i64 0, .int .i64 0, .int .i64 0] 32))).setRow (w.heap.size + 1) #[.int .i64 1, .int .i64 0, .int .i64 0] := ⟨_, rfl⟩
      rw [← hst]
      have hbo : HeapIs w9 (w.heap.size + 1) #[.int .i64 1, .int .i64 0, .int .i64 0] 32 := by rw [hst]; exact setRow_block (HG2.out) _
      have hso : Since w w9 := by rw [hst]; exact (setRow_turn (S := fun q => q = w.heap.size + 1) rfl _).toSince (HS2.out) (fun q hq e => by omega)
      clear hst
      have ce0 : w9.cell? ⟨w.heap.size + 1, 0, none⟩ = some (.int .i64 1) := hbo.cell 0
      have ce1 : w9.cell? ⟨w.heap.size + 1, 1, none⟩ = some (.int .i64 0) := hbo.cell 1
      have ce2 : w9.cell? ⟨w.heap.size + 1, 2, none⟩ = some (.int .i64 0) := hbo.cell 2
      have hlo := hbo.lt
      have HSO := Lib.hid hso
      clear hbo hso)
    exact bodyPost_ret (v := .agg #[.int .i64 1, .int .i64 0, .int .i64 0]) (by simp [results, Try.results14, go_sem, ce0, ce1, ce2]) rfl ⟨rfl, HSO.out⟩
  have q5d : decide (slots < 0) = false := decide_eq_false q5
  by_cases q6 : 16384 < slots
  · have hh := HBAD.out 1 (by rw [HF1.out, if_pos (by omega)]) (by decide)
    obtain ⟨rfl, rfl, rfl⟩ := hh
    have q6d : decide (16384 < slots) = true := decide_eq_true q6
    go_enter Try.func14, Try.ntmps14
    go_wp2_with (
      refine wpList_store_row rfl 32 _ _ rfl (w.heap.size + 1) #[.int .i64 1, .int .i64 0, .int .i64 0] rfl rfl 32 #[.int .i64 0, .int .i64 0, .int .i64 0] (HG2.out) (by kernel_rfl) rfl (by rw [← Array.all_toList]; rfl) ?_
      obtain ⟨w9, hst⟩ : ∃ x, x = (((w.alloc (.cells #[.int .i64 params, .int .i64 k, .int .i64 slots, .slice ba blocks.length bc] 24)).alloc (.cells #[.int .i64 0, .int .i64 0, .int .i64 0] 32))).setRow (w.heap.size + 1) #[.int .i64 1, .int .i64 0, .int .i64 0] := ⟨_, rfl⟩
      rw [← hst]
      have hbo : HeapIs w9 (w.heap.size + 1) #[.int .i64 1, .int .i64 0, .int .i64 0] 32 := by rw [hst]; exact setRow_block (HG2.out) _
      have hso : Since w w9 := by rw [hst]; exact (setRow_turn (S := fun q => q = w.heap.size + 1) rfl _).toSince (HS2.out) (fun q hq e => by omega)
      clear hst
      have ce0 : w9.cell? ⟨w.heap.size + 1, 0, none⟩ = some (.int .i64 1) := hbo.cell 0
      have ce1 : w9.cell? ⟨w.heap.size + 1, 1, none⟩ = some (.int .i64 0) := hbo.cell 1
      have ce2 : w9.cell? ⟨w.heap.size + 1, 2, none⟩ = some (.int .i64 0) := hbo.cell 2
      have hlo := hbo.lt
      have HSO := Lib.hid hso
      clear hbo hso)
    exact bodyPost_ret (v := .agg #[.int .i64 1, .int .i64 0, .int .i64 0]) (by simp [results, Try.results14, go_sem, ce0, ce1, ce2]) rfl ⟨rfl, HSO.out⟩
  have q6d : decide (16384 < slots) = false := decide_eq_false q6
  have HOR := Lib.hid (show ¬ (params < 0 ∨ 4 < params ∨ k < 4 ∨ 16 < k ∨ slots < 0 ∨ 16384 < slots) by omega)
  rw [if_neg HOR.out] at HF1
  clear q1 q2 q3 q4 q5 q6
  by_cases h0 : blocks.length = 0
  · have hh := HBAD.out 14 (by rw [HF1.out, if_pos h0]) (by decide)
    obtain ⟨rfl, rfl, rfl⟩ := hh
    have hd0 : ((blocks.length : Int) == 0) = true := by simp [h0]
    clear h0
    go_enter Try.func14, Try.ntmps14
    go_wp2_with (
      refine wpList_store_row rfl 32 _ _ rfl (w.heap.size + 1) #[.int .i64 14, .int .i64 0, .int .i64 0] rfl rfl 32 #[.int .i64 0, .int .i64 0, .int .i64 0] (HG2.out) (by kernel_rfl) rfl (by rw [← Array.all_toList]; rfl) ?_
      obtain ⟨w9, hst⟩ : ∃ x, x = (((w.alloc (.cells #[.int .i64 params, .int .i64 k, .int .i64 slots, .slice ba blocks.length bc] 24)).alloc (.cells #[.int .i64 0, .int .i64 0, .int .i64 0] 32))).setRow (w.heap.size + 1) #[.int .i64 14, .int .i64 0, .int .i64 0] := ⟨_, rfl⟩
      rw [← hst]
      have hbo : HeapIs w9 (w.heap.size + 1) #[.int .i64 14, .int .i64 0, .int .i64 0] 32 := by rw [hst]; exact setRow_block (HG2.out) _
      have hso : Since w w9 := by rw [hst]; exact (setRow_turn (S := fun q => q = w.heap.size + 1) rfl _).toSince (HS2.out) (fun q hq e => by omega)
      clear hst
      have ce0 : w9.cell? ⟨w.heap.size + 1, 0, none⟩ = some (.int .i64 14) := hbo.cell 0
      have ce1 : w9.cell? ⟨w.heap.size + 1, 1, none⟩ = some (.int .i64 0) := hbo.cell 1
      have ce2 : w9.cell? ⟨w.heap.size + 1, 2, none⟩ = some (.int .i64 0) := hbo.cell 2
      have hlo := hbo.lt
      have HSO := Lib.hid hso
      clear hbo hso)
    exact bodyPost_ret (v := .agg #[.int .i64 14, .int .i64 0, .int .i64 0]) (by simp [results, Try.results14, go_sem, ce0, ce1, ce2]) rfl ⟨rfl, HSO.out⟩
  have hd0 : ((blocks.length : Int) == 0) = false := beq_eq_false_iff_ne.2 (by omega)
  rw [if_neg h0] at HF1
  clear h0
  go_enter Try.func14, Try.ntmps14
  go_wp2
  have HL := Lib.hid hsum
  clear hsum
  go_loop [3, 4] (fun n i => ∃ j : Nat, j ≤ blocks.length ∧ i = .int .i64 j ∧ n = .int .i64 ((blocks.length : Int) + ((insSum (blocks.take j) : Nat) : Int))) (fun _ i => blocks.length - (intOf i).toNat)
  case atStart => exact ⟨0, Nat.zero_le _, rfl, by simp [insSum]⟩
  case round =>
    obtain ⟨j, hj, rfl, rfl⟩ := hrel
    by_cases hlt : j < blocks.length
    · obtain ⟨B, off, x, rfl, hB, hx, hc, hok⟩ := RowIn.at H.out hlt
      obtain ⟨xins, xinsv, ⟨eop, ea, eb, eto, etov, eimm⟩⟩ := x
      obtain ⟨hok1, hok2, hok3⟩ := hok
      dsimp only at hok1 hok2 hok3
      obtain ⟨ia, ic, rfl, hil⟩ := hok1.shape
      unfold maxLen at hil
      have hcx : (((w.alloc (.cells #[.int .i64 params, .int .i64 k, .int .i64 slots, .slice (some ⟨B, off, none⟩) blocks.length bc] 24)).alloc (.cells #[.int .i64 0, .int .i64 0, .int .i64 0] 32))).cell? ⟨B, off + j * 6, none⟩ = some (.slice ia xins.length ic) := (HS2.out.cell (p := ⟨B, off + j * 6, none⟩) hB).trans (hc 0 (by show 0 < 6; decide))
      have hBl : B < (((w.alloc (.cells #[.int .i64 params, .int .i64 k, .int .i64 slots, .slice (some ⟨B, off, none⟩) blocks.length bc] 24)).alloc (.cells #[.int .i64 0, .int .i64 0, .int .i64 0] 32))).heap.size := Nat.lt_of_lt_of_le hB HS2.out.size
      clear hc hB
      have hss := insSum_succ hx
      have hp := HPRE.out j (by omega)
      have hp2 := HPRE.out (j + 1) (by omega)
      have HSS := Lib.hid hss
      have hl := HL.out
      dsimp only at hss
      generalize insSum (blocks.take j) = sj at *
      have hb1 : sj + xins.length ≤ 10000000000 := by omega
      clear hss hp hp2 hok1 hok2 hok3 hx hl
      go_wp2
      go_round
      case rel => exact ⟨j + 1, by omega, by go_num, by rw [HSS.out]; exact congrArg (Value.int .i64) (by push_cast; omega)⟩
      case measure => simp [intOf]; omega
    · obtain rfl : j = blocks.length := by omega
      rw [List.take_length]
      have hp := HL.out
      clear hlt hj
      generalize hN : insSum blocks = sN at *
      clear hN HPRE
      by_cases h1 : 512 < blocks.length
      · have hh := HBAD.out 2 (by rw [HF1.out, if_pos (.inl h1)]) (by decide)
        obtain ⟨rfl, rfl, rfl⟩ := hh
        have hd1 : decide ((512 : Int) < (blocks.length : Int)) = true := decide_eq_true (by omega)
        clear h1
        go_wp2_with (
          refine wpList_store_row rfl 32 _ _ rfl (w.heap.size + 1) #[.int .i64 2, .int .i64 0, .int .i64 0] rfl rfl 32 #[.int .i64 0, .int .i64 0, .int .i64 0] (HG2.out) (by kernel_rfl) rfl (by rw [← Array.all_toList]; rfl) ?_
          obtain ⟨w9, hst⟩ : ∃ x, x = (((w.alloc (.cells #[.int .i64 params, .int .i64 k, .int .i64 slots, .slice ba blocks.length bc] 24)).alloc (.cells #[.int .i64 0, .int .i64 0, .int .i64 0] 32))).setRow (w.heap.size + 1) #[.int .i64 2, .int .i64 0, .int .i64 0] := ⟨_, rfl⟩
          rw [← hst]
          have hbo : HeapIs w9 (w.heap.size + 1) #[.int .i64 2, .int .i64 0, .int .i64 0] 32 := by rw [hst]; exact setRow_block (HG2.out) _
          have hso : Since w w9 := by rw [hst]; exact (setRow_turn (S := fun q => q = w.heap.size + 1) rfl _).toSince (HS2.out) (fun q hq e => by omega)
          clear hst
          have ce0 : w9.cell? ⟨w.heap.size + 1, 0, none⟩ = some (.int .i64 2) := hbo.cell 0
          have ce1 : w9.cell? ⟨w.heap.size + 1, 1, none⟩ = some (.int .i64 0) := hbo.cell 1
          have ce2 : w9.cell? ⟨w.heap.size + 1, 2, none⟩ = some (.int .i64 0) := hbo.cell 2
          have hlo := hbo.lt
          have HSO := Lib.hid hso
          clear hbo hso)
        exact bodyPost_ret (v := .agg #[.int .i64 2, .int .i64 0, .int .i64 0]) (by simp [results, Try.results14, go_sem, ce0, ce1, ce2]) rfl ⟨rfl, HSO.out⟩
      have hd1 : decide ((512 : Int) < (blocks.length : Int)) = false := decide_eq_false (by omega)
      by_cases h2 : 65536 < blocks.length + sN
      · have hh := HBAD.out 2 (by rw [HF1.out, if_pos (.inr h2)]) (by decide)
        obtain ⟨rfl, rfl, rfl⟩ := hh
        have hd2 : decide ((65536 : Int) < (blocks.length : Int) + (sN : Int)) = true := decide_eq_true (by omega)
        clear h1 h2
        go_wp2_with (
          refine wpList_store_row rfl 32 _ _ rfl (w.heap.size + 1) #[.int .i64 2, .int .i64 0, .int .i64 0] rfl rfl 32 #[.int .i64 0, .int .i64 0, .int .i64 0] (HG2.out) (by kernel_rfl) rfl (by rw [← Array.all_toList]; rfl) ?_
          obtain ⟨w9, hst⟩ : ∃ x, x = (((w.alloc (.cells #[.int .i64 params, .int .i64 k, .int .i64 slots, .slice ba blocks.length bc] 24)).alloc (.cells #[.int .i64 0, .int .i64 0, .int .i64 0] 32))).setRow (w.heap.size + 1) #[.int .i64 2, .int .i64 0, .int .i64 0] := ⟨_, rfl⟩
          rw [← hst]
          have hbo : HeapIs w9 (w.heap.size + 1) #[.int .i64 2, .int .i64 0, .int .i64 0] 32 := by rw [hst]; exact setRow_block (HG2.out) _
          have hso : Since w w9 := by rw [hst]; exact (setRow_turn (S := fun q => q = w.heap.size + 1) rfl _).toSince (HS2.out) (fun q hq e => by omega)
          clear hst
          have ce0 : w9.cell? ⟨w.heap.size + 1, 0, none⟩ = some (.int .i64 2) := hbo.cell 0
          have ce1 : w9.cell? ⟨w.heap.size + 1, 1, none⟩ = some (.int .i64 0) := hbo.cell 1
          have ce2 : w9.cell? ⟨w.heap.size + 1, 2, none⟩ = some (.int .i64 0) := hbo.cell 2
          have hlo := hbo.lt
          have HSO := Lib.hid hso
          clear hbo hso)
        exact bodyPost_ret (v := .agg #[.int .i64 2, .int .i64 0, .int .i64 0]) (by simp [results, Try.results14, go_sem, ce0, ce1, ce2]) rfl ⟨rfl, HSO.out⟩
      have hd2 : decide ((65536 : Int) < (blocks.length : Int) + (sN : Int)) = false := decide_eq_false (by omega)
      rw [if_neg (by omega)] at HF1
      have hFF := HF.out
      rw [HF1.out, if_pos rfl] at hFF
      have HFF := Lib.hid hFF
      clear hFF HF1 HF h1 h2 HBAD HL
      go_wp2
      go_loopw [5] (fun i wr2 => ∃ j : Nat, j ≤ blocks.length ∧ i = .int .i64 j ∧ (∀ (t : Nat) (y : BlkV), t < j → blocks[t]? = some y → blkE k slots blocks.length y = none) ∧ Since ((w.alloc (.cells #[.int .i64 params, .int .i64 k, .int .i64 slots, .slice ba blocks.length bc] 24)).alloc (.cells #[.int .i64 0, .int .i64 0, .int .i64 0] 32)) wr2) (fun i _ => blocks.length - (intOf i).toNat)
      case atStart => exact ⟨0, Nat.zero_le _, rfl, fun t y ht => by omega, Since.refl _⟩
      case round =>
        obtain ⟨j, hj, rfl, hall, hsr⟩ := hrel
        have HALL := Lib.hid hall
        have HS0 := Lib.hid hsr
        have HS := Lib.hid (HS2.out.trans hsr)
        have hpb := HP2.out.keep hsr
        have HPB := Lib.hid hpb
        have HGB := Lib.hid (HG2.out.keep hsr)
        have kp : wr.cell? ⟨w.heap.size, 3, none⟩ = some (.slice ba blocks.length bc) := hpb.cell 3
        have lp := hpb.lt
        clear hsr hall hpb hd1 hd2 hd0
        by_cases hlt : j < blocks.length
        · obtain ⟨B, off, x, rfl, hB, hx, hc, hok⟩ := RowIn.at H.out hlt
          obtain ⟨xins, xinsv, ⟨eop, ea, eb, eto, etov, eimm⟩⟩ := x
          obtain ⟨hok1, hok2, hok3⟩ := hok
          dsimp only at hok1 hok2 hok3
          obtain ⟨ia, ic, rfl, hil⟩ := hok1.shape
          obtain ⟨ta, tc, rfl⟩ := nums_lenI hok2
          unfold maxLen at hil
          have hcw := fun t ht => (HS.out.cell (p := ⟨B, off + j * 6 + t, none⟩) hB).trans (hc t ht)
          have c0 : wr.cell? ⟨B, off + j * 6, none⟩ = some (.slice ia xins.length ic) := hcw 0 (by decide)
          have c1 : wr.cell? ⟨B, off + j * 6 + 1, none⟩ = some (.int .i64 eop) := hcw 1 (by decide)
          have c2 : wr.cell? ⟨B, off + j * 6 + 2, none⟩ = some (.int .i64 ea) := hcw 2 (by decide)
          have c3 : wr.cell? ⟨B, off + j * 6 + 3, none⟩ = some (.int .i64 eb) := hcw 3 (by decide)
          have c4 : wr.cell? ⟨B, off + j * 6 + 4, none⟩ = some (.slice ta eto.length tc) := hcw 4 (by decide)
          have c5 : wr.cell? ⟨B, off + j * 6 + 5, none⟩ = some (.int .i32 eimm) := hcw 5 (by decide)
          have lB := Nat.lt_of_lt_of_le hB HS.out.size
          clear hcw hc hB
          have hbE : blkE k slots blocks.length ⟨xins, .slice ia xins.length ic, ⟨eop, ea, eb, eto, .slice ta eto.length tc, eimm⟩⟩ = (match insList k slots xins 0 with
            | some x => some x
            | none => if endE ⟨eop, ea, eb, eto, .slice ta eto.length tc, eimm⟩ k blocks.length = 0 then none else some (endE ⟨eop, ea, eb, eto, .slice ta eto.length tc, eimm⟩ k blocks.length, xins.length)) := rfl
          have hfin : ∀ x, blkE k slots blocks.length ⟨xins, .slice ia xins.length ic, ⟨eop, ea, eb, eto, .slice ta eto.length tc, eimm⟩⟩ = some x → fe = x.1 ∧ fb = j ∧ fp = x.2 := fun x hxx => by
            have := HFF.out
            rw [blkList_at 0 hx HALL.out hxx] at this
            simp only [Option.getD_some, Prod.mk.injEq, Nat.zero_add] at this
            exact ⟨this.1.symm, this.2.1.symm, this.2.2.symm⟩
          have HE := Lib.hid hbE
          have HFIN := Lib.hid hfin
          have HX := Lib.hid hx
          have HI := Lib.hid hok1
          have hend := fun w2 (hs : Since w w2) => rend_any ⟨eop, ea, eb, eto, .slice ta eto.length tc, eimm⟩ k blocks.length w2 (hok2.keep hs)
          simp only [ev] at hend
          generalize endE ⟨eop, ea, eb, eto, .slice ta eto.length tc, eimm⟩ k blocks.length = EE at *
          have HEND := Lib.hid hend
          clear hbE hfin hx hok1 hok2 hend
          obtain ⟨wa, hwa⟩ : ∃ x, x = wr := ⟨_, rfl⟩
          subst hwa
          go_wp2
          obtain ⟨wb, hwb⟩ : ∃ x, x = wa.alloc (.cells #[.slice ia xins.length ic, .int .i64 eop, .int .i64 ea, .int .i64 eb, .slice ta eto.length tc, .int .i32 eimm] 56) := ⟨_, rfl⟩
          rw [← hwb]
          have hsb : Since wa wb := by rw [hwb]; exact (Since.refl _).alloc _
          have hbx : HeapIs wb wa.heap.size #[.slice ia xins.length ic, .int .i64 eop, .int .i64 ea, .int .i64 eb, .slice ta eto.length tc, .int .i32 eimm] 56 := by rw [hwb]; exact HeapIs.new _ _ _
          have HSB := Lib.hid hsb
          have HBX := Lib.hid hbx
          clear hsb hbx hwb c0 c1 c2 c3 c4 c5 lB kp lp
          go_loopw [7] (fun i wr => ∃ t : Nat, t ≤ xins.length ∧ i = .int .i64 t ∧ (∀ (u : Nat) (y : PlV), u < t → xins[u]? = some y → insE y.m k slots = 0) ∧ Since wb wr) (fun i _ => xins.length - (intOf i).toNat)
          case atStart => exact ⟨0, Nat.zero_le _, rfl, fun u y hu => by omega, Since.refl _⟩
          case round =>
            obtain ⟨t, ht, rfl, hall, hs2⟩ := hrel
            have HALL2 := Lib.hid hall
            have HS2' := Lib.hid hs2
            have hsw2 : Since w wr := HS.out.trans (HSB.out.trans hs2)
            have HSW2 := Lib.hid hsw2
            have hbx2 := HBX.out.keep hs2
            have HBX2 := Lib.hid hbx2
            have HPB2 := Lib.hid (HPB.out.keep (HSB.out.trans hs2))
            have HGB2 := Lib.hid (HGB.out.keep (HSB.out.trans hs2))
            have kb : wr.cell? ⟨wa.heap.size, 0, none⟩ = some (.slice ia xins.length ic) := hbx2.cell 0
            have lb := hbx2.lt
            clear hs2 hsw2 hall
            by_cases hlt2 : t < xins.length
            · obtain ⟨B2, off2, y, rfl, hB2, hy, hc2, hyok⟩ := RowIn.at HI.out hlt2
              obtain ⟨ym, yav, ysrc⟩ := y
              obtain ⟨hy1, hy2, _⟩ : Ints w yav ym.args ∧ Fine ym ∧ _ := hyok
              obtain ⟨ya, yc, rfl⟩ := nums_lenI hy1
              have HC2 := Lib.hid hc2
              have HB2' := Lib.hid hB2
              have hins := fun wX (hX : Since w wX) => rins_any ym (.slice ya ym.args.length yc) k slots wX (hy1.keep hX) hy2
              unfold mv at hins
              have hiE : insE ym k slots ≠ 0 → insList k slots xins 0 = some (insE ym k slots, 0 + t) := fun hne => insList_at 0 hy HALL2.out hne
              have HIE := Lib.hid hiE
              have HY := Lib.hid hy
              generalize hIE : insE ym k slots = IE at *
              have HIEQ := Lib.hid hIE
              have HINS := Lib.hid hins
              clear hIE hc2 hB2 hy hy1 hy2 hins hiE hbx2
              go_wp2_with fail
              try rw [show decide ((t : Int) < (xins.length : Int)) = true from decide_eq_true (by omega)]
              refine wp_region_list_facts rfl (by decide +kernel) (by decide +kernel)
                [Is (.pointer (some ⟨wa.heap.size, 0, none⟩)), Is (.slice (some ⟨B2, off2, none⟩) xins.length ic), Is (.int .i64 t), Is (.pointer (some ⟨B2, off2 + t * 9, none⟩)), Is (.pointer (some ⟨B2, off2 + t * 9, none⟩)), Is (.agg #[.int .i64 ym.op, .int .i64 ym.d, .int .i64 ym.e, .int .i64 ym.a, .int .i64 ym.b, .int .i64 ym.c, .int .i32 ym.imm, .slice ya ym.args.length yc]), Is (.pointer (some ⟨w.heap.size, 1, none⟩)), Is (.int .i64 k), Is (.pointer (some ⟨w.heap.size, 2, none⟩)), Is (.int .i64 slots), Is (.int .i64 IE), Is (.int .i64 IE)]
                (by repeat (first | exact trivial | refine ⟨Is.stable _, ?_⟩ | refine ⟨Any.stable, ?_⟩)) ⟨?_, ?_, ?_, ?_, ?_, ?_, ?_, ?_, ?_, ?_, ?_, ?_, trivial⟩ ?_
              all_goals
                intro vs w3 hs hk
                simp only [putAll, Act.put, Knows, KnowsAll, nthF, Is, List.setIfInBounds_toArray, List.set_cons_zero, List.set_cons_succ, Nat.reduceAdd, List.length_cons, List.length_nil] at hk ⊢
                try simp only [hk]
              · go_wp2
                exact ⟨_, rfl, rfl, Since.refl _⟩
              · have hc : w3.cell? ⟨wa.heap.size, 0, none⟩ = some (.slice (some ⟨B2, off2, none⟩) xins.length ic) := (HBX2.out.keep hs).cell 0
                have hl := (HBX2.out.keep hs).lt
                go_wp2
                exact ⟨_, rfl, rfl, Since.refl _⟩
              · go_wp2
                exact ⟨_, rfl, rfl, Since.refl _⟩
              · go_wp2
                exact ⟨_, rfl, rfl, Since.refl _⟩
              · go_wp2
                exact ⟨_, rfl, rfl, Since.refl _⟩
              · have hcw := fun t' ht' => ((HSW2.out.trans hs).cell (p := ⟨B2, off2 + t * 9 + t', none⟩) HB2'.out).trans (HC2.out t' ht')
                have c0 : w3.cell? ⟨B2, off2 + t * 9, none⟩ = some (.int .i64 ym.op) := hcw 0 (by decide)
                have c1 : w3.cell? ⟨B2, off2 + t * 9 + 1, none⟩ = some (.int .i64 ym.d) := hcw 1 (by decide)
                have c2 : w3.cell? ⟨B2, off2 + t * 9 + 2, none⟩ = some (.int .i64 ym.e) := hcw 2 (by decide)
                have c3 : w3.cell? ⟨B2, off2 + t * 9 + 3, none⟩ = some (.int .i64 ym.a) := hcw 3 (by decide)
                have c4 : w3.cell? ⟨B2, off2 + t * 9 + 4, none⟩ = some (.int .i64 ym.b) := hcw 4 (by decide)
                have c5 : w3.cell? ⟨B2, off2 + t * 9 + 5, none⟩ = some (.int .i64 ym.c) := hcw 5 (by decide)
                have c6 : w3.cell? ⟨B2, off2 + t * 9 + 6, none⟩ = some (.int .i32 ym.imm) := hcw 6 (by decide)
                have c7 : w3.cell? ⟨B2, off2 + t * 9 + 7, none⟩ = some (.slice ya ym.args.length yc) := hcw 7 (by decide)
                have hl := Nat.lt_of_lt_of_le HB2'.out (HSW2.out.trans hs).size
                clear hcw
                go_wp2
                exact ⟨_, rfl, rfl, Since.refl _⟩
              · go_wp2
                exact ⟨_, rfl, rfl, Since.refl _⟩
              · have hc : w3.cell? ⟨w.heap.size, 1, none⟩ = some (.int .i64 k) := (HPB2.out.keep hs).cell 1
                have hl := (HPB2.out.keep hs).lt
                go_wp2
                exact ⟨_, rfl, rfl, Since.refl _⟩
              · go_wp2
                exact ⟨_, rfl, rfl, Since.refl _⟩
              · have hc : w3.cell? ⟨w.heap.size, 2, none⟩ = some (.int .i64 slots) := (HPB2.out.keep hs).cell 2
                have hl := (HPB2.out.keep hs).lt
                go_wp2
                exact ⟨_, rfl, rfl, Since.refl _⟩
              · clear hk hlt2
                go_wp2_with fail
                refine (HINS.out _ (HSW2.out.trans hs)).mono ?_
                rintro e3 w4 ⟨rfl, hs4⟩
                go_wp2
                exact ⟨_, rfl, rfl, hs4⟩
              · go_wp2
                exact ⟨_, rfl, rfl, Since.refl _⟩
              · have hs' := hs
                have HW3 := Lib.hid (HSW2.out.trans hs)
                have HS3 := Lib.hid (HS2'.out.trans hs)
                have HGB3 := Lib.hid (HGB2.out.keep hs)
                clear hs hs' kb lb
                by_cases hz : IE = 0
                · have hb : (IE != 0) = false := by simp [hz]
                  have HZ := Lib.hid hz; clear hz
                  clear hk
                  go_wp2
                  go_roundw
                  case rel => exact ⟨t + 1, by omega, by go_num, fun u y hu hy => by
                    by_cases e : u = t
                    · subst e; rw [HY.out] at hy; cases hy; exact HIEQ.out.trans HZ.out
                    · exact HALL2.out u y (by omega) hy, HS3.out⟩
                  case measure => simp [intOf]; omega
                · have hb : (IE != 0) = true := by simpa using hz
                  have hh := HFIN.out (IE, t) (by rw [HE.out, HIE.out hz, Nat.zero_add])
                  obtain ⟨rfl, rfl, rfl⟩ := hh
                  clear hz hk
                  go_wp2_with (
                    refine wpList_store_row rfl 32 _ _ rfl (w.heap.size + 1) #[.int .i64 fe, .int .i64 fb, .int .i64 fp] rfl rfl 32 #[.int .i64 0, .int .i64 0, .int .i64 0] (HGB3.out) (by kernel_rfl) rfl (by rw [← Array.all_toList]; rfl) ?_
                    obtain ⟨w9, hst⟩ : ∃ x, x = (w3).setRow (w.heap.size + 1) #[.int .i64 fe, .int .i64 fb, .int .i64 fp] := ⟨_, rfl⟩
                    rw [← hst]
                    have hbo : HeapIs w9 (w.heap.size + 1) #[.int .i64 fe, .int .i64 fb, .int .i64 fp] 32 := by rw [hst]; exact setRow_block (HGB3.out) _
                    have hso : Since w w9 := by rw [hst]; exact (setRow_turn (S := fun q => q = w.heap.size + 1) rfl _).toSince (HW3.out) (fun q hq e => by omega)
                    clear hst
                    have ce0 : w9.cell? ⟨w.heap.size + 1, 0, none⟩ = some (.int .i64 fe) := hbo.cell 0
                    have ce1 : w9.cell? ⟨w.heap.size + 1, 1, none⟩ = some (.int .i64 fb) := hbo.cell 1
                    have ce2 : w9.cell? ⟨w.heap.size + 1, 2, none⟩ = some (.int .i64 fp) := hbo.cell 2
                    have hlo := hbo.lt
                    have HSO := Lib.hid hso
                    clear hbo hso)
                  exact bodyPost_ret (v := .agg #[.int .i64 fe, .int .i64 fb, .int .i64 fp]) (by simp [results, Try.results14, go_sem, ce0, ce1, ce2]) rfl ⟨rfl, HSO.out⟩
            · obtain rfl : t = xins.length := by omega
              have hnone : insList k slots xins 0 = none := insList_none 0 fun y hy => by
                obtain ⟨u, hu⟩ := List.getElem?_of_mem hy
                exact HALL2.out u y (List.getElem?_eq_some_iff.1 hu).1 hu
              have hE2 := HE.out
              rw [hnone] at hE2
              dsimp only at hE2
              have HE2 := Lib.hid hE2
              have k1 : wr.cell? ⟨wa.heap.size, 1, none⟩ = some (.int .i64 eop) := hbx2.cell 1
              have k2 : wr.cell? ⟨wa.heap.size, 2, none⟩ = some (.int .i64 ea) := hbx2.cell 2
              have k3 : wr.cell? ⟨wa.heap.size, 3, none⟩ = some (.int .i64 eb) := hbx2.cell 3
              have k4 : wr.cell? ⟨wa.heap.size, 4, none⟩ = some (.slice ta eto.length tc) := hbx2.cell 4
              have k5 : wr.cell? ⟨wa.heap.size, 5, none⟩ = some (.int .i32 eimm) := hbx2.cell 5
              have kp1 : wr.cell? ⟨w.heap.size, 1, none⟩ = some (.int .i64 k) := HPB2.out.cell 1
              have kp3 : wr.cell? ⟨w.heap.size, 3, none⟩ = some (.slice (some ⟨B, off, none⟩) blocks.length bc) := HPB2.out.cell 3
              have lp := HPB2.out.lt
              clear hE2 hnone hbx2 hlt2
              go_wp2_with fail
              refine (HEND.out _ HSW2.out).mono ?_
              rintro e3 w3 ⟨rfl, hs3⟩
              have HW3 := Lib.hid (HSW2.out.trans hs3)
              have HS3 := Lib.hid (HSB.out.trans (HS2'.out.trans hs3))
              have HGB3 := Lib.hid (HGB2.out.keep hs3)
              have hbx3 := HBX2.out.keep hs3
              have kb3 : w3.cell? ⟨wa.heap.size, 0, none⟩ = some (.slice ia xins.length ic) := hbx3.cell 0
              have lb3 := hbx3.lt
              clear hs3 hbx3 k1 k2 k3 k4 k5 kp1 kp3 lp kb lb
              by_cases hz : EE = 0
              · have hb : (EE != 0) = false := by simp [hz]
                have HZ := Lib.hid hz; clear hz
                go_wp2
                go_roundw
                case rel => exact ⟨j + 1, by omega, by go_num, fun u y hu hy => by
                  by_cases e : u = j
                  · subst e; rw [HX.out] at hy; cases hy; rw [HE2.out, if_pos HZ.out]
                  · exact HALL.out u y (by omega) hy, HS0.out.trans HS3.out⟩
                case measure => simp [intOf]; omega
              · have hb : (EE != 0) = true := by simpa using hz
                have hh := HFIN.out (EE, xins.length) (by rw [HE2.out, if_neg hz])
                obtain ⟨rfl, rfl, rfl⟩ := hh
                clear hz
                go_wp2_with (
                  refine wpList_store_row rfl 32 _ _ rfl (w.heap.size + 1) #[.int .i64 fe, .int .i64 fb, .int .i64 xins.length] rfl rfl 32 #[.int .i64 0, .int .i64 0, .int .i64 0] (HGB3.out) (by kernel_rfl) rfl (by rw [← Array.all_toList]; rfl) ?_
                  obtain ⟨w9, hst⟩ : ∃ x, x = (w3).setRow (w.heap.size + 1) #[.int .i64 fe, .int .i64 fb, .int .i64 xins.length] := ⟨_, rfl⟩
                  rw [← hst]
                  have hbo : HeapIs w9 (w.heap.size + 1) #[.int .i64 fe, .int .i64 fb, .int .i64 xins.length] 32 := by rw [hst]; exact setRow_block (HGB3.out) _
                  have hso : Since w w9 := by rw [hst]; exact (setRow_turn (S := fun q => q = w.heap.size + 1) rfl _).toSince (HW3.out) (fun q hq e => by omega)
                  clear hst
                  have ce0 : w9.cell? ⟨w.heap.size + 1, 0, none⟩ = some (.int .i64 fe) := hbo.cell 0
                  have ce1 : w9.cell? ⟨w.heap.size + 1, 1, none⟩ = some (.int .i64 fb) := hbo.cell 1
                  have ce2 : w9.cell? ⟨w.heap.size + 1, 2, none⟩ = some (.int .i64 xins.length) := hbo.cell 2
                  have hlo := hbo.lt
                  have HSO := Lib.hid hso
                  clear hbo hso)
                exact bodyPost_ret (v := .agg #[.int .i64 fe, .int .i64 fb, .int .i64 xins.length]) (by simp [results, Try.results14, go_sem, ce0, ce1, ce2]) rfl ⟨rfl, HSO.out⟩
        · obtain rfl : j = blocks.length := by omega
          have hnone : blkList k slots blocks.length blocks 0 = none := blkList_none 0 fun y hy => by
            obtain ⟨u, hu⟩ := List.getElem?_of_mem hy
            exact HALL.out u y (List.getElem?_eq_some_iff.1 hu).1 hu
          have hh := HFF.out
          rw [hnone] at hh
          simp only [Option.getD_none, Prod.mk.injEq] at hh
          obtain ⟨rfl, rfl, rfl⟩ := hh
          clear hnone hlt hj
          go_wp2_with (
            refine wpList_store_row rfl 32 _ _ rfl (w.heap.size + 1) #[.int .i64 0, .int .i64 0, .int .i64 0] rfl rfl 32 #[.int .i64 0, .int .i64 0, .int .i64 0] (HGB.out) (by kernel_rfl) rfl (by rw [← Array.all_toList]; rfl) ?_
            obtain ⟨w9, hst⟩ : ∃ x, x = (wr).setRow (w.heap.size + 1) #[.int .i64 0, .int .i64 0, .int .i64 0] := ⟨_, rfl⟩
            rw [← hst]
            have hbo : HeapIs w9 (w.heap.size + 1) #[.int .i64 0, .int .i64 0, .int .i64 0] 32 := by rw [hst]; exact setRow_block (HGB.out) _
            have hso : Since w w9 := by rw [hst]; exact (setRow_turn (S := fun q => q = w.heap.size + 1) rfl _).toSince (HS.out) (fun q hq e => by omega)
            clear hst
            have ce0 : w9.cell? ⟨w.heap.size + 1, 0, none⟩ = some (.int .i64 0) := hbo.cell 0
            have ce1 : w9.cell? ⟨w.heap.size + 1, 1, none⟩ = some (.int .i64 0) := hbo.cell 1
            have ce2 : w9.cell? ⟨w.heap.size + 1, 2, none⟩ = some (.int .i64 0) := hbo.cell 2
            have hlo := hbo.lt
            have HSO := Lib.hid hso
            clear hbo hso)
          exact bodyPost_ret (v := .agg #[.int .i64 0, .int .i64 0, .int .i64 0]) (by simp [results, Try.results14, go_sem, ce0, ce1, ce2]) rfl ⟨rfl, HSO.out⟩
end Go.Proofs.Ytkpbmbhejpmboaa
