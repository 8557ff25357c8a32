/- jacquardlaw12.PhysBounds walked. -/
import Derived.Test.YtkpbmbhejpmboaaRefFunc
import Derived.Test.YtkpbmbhejpmboaaCallsMore
namespace Go.Proofs.Ytkpbmbhejpmboaa
open Go.RowKit
set_option linter.unusedVariables false

theorem and64b (n : Int) : bits .and .i64 n 65535 = n % 65536 := by
  have h : (BitVec.ofInt 64 65535).toNat = 2 ^ 16 - 1 := by decide
  have key : (BitVec.ofInt 64 n &&& BitVec.ofInt 64 65535).toNat = (n % ((2 ^ 64 : Nat) : Int)).toNat % 2 ^ 16 := by
    rw [BitVec.toNat_and, BitVec.toNat_ofInt, h, Nat.and_two_pow_sub_one_eq_mod]
  show IntKind.i64.wrap ((BitVec.ofInt 64 n &&& BitVec.ofInt 64 65535).toNat : Nat) = n % 65536
  rw [key, IntKind.wrap_i64]
  omega
theorem rest_of (n m : Int) (hm : 0 < m) : ∃ q : Nat, (bits .and .i64 n 65535).tmod m = (q : Int) ∧ (q : Int) < m := by
  rw [and64b]
  have h0 : 0 ≤ n % 65536 := Int.emod_nonneg _ (by decide)
  have h1 := Int.tmod_lt_of_pos (n % 65536) hm
  have h2 := Int.tmod_nonneg m h0
  exact ⟨((n % 65536).tmod m).toNat, by omega, by omega⟩
def mvP : PlV := ⟨⟨1, 1, 0, 2, 0, 0, 0, []⟩, .slice none 0 0, 0⟩
def bkP (mn : Nat) (lv : Value) : BlkV := ⟨List.replicate mn mvP, lv, ⟨7, -1, 0, [], .slice none 0 0, 0⟩⟩
def bdP (x0 k slots : Int) (n mn : Nat) (lv bv : Value) : PrgV := ⟨x0, k, slots, List.replicate n (bkP mn lv), bv⟩
abbrev PlR (base : Nat) (w : World) (v : Value) (l : List PlV) : Prop := OwnRow plcells 9 58 base w v l
abbrev BkR (base : Nat) (w : World) (v : Value) (l : List BlkV) : Prop := OwnRow blcells 6 56 base w v l
theorem Try.infoPl2 : (Try.prog.info? 58).map (fun i => (i.zero, i.size, i.bytes)) = some (some (.agg #[.int .i64 0, .int .i64 0, .int .i64 0, .int .i64 0, .int .i64 0, .int .i64 0, .int .i32 0, .slice none 0 0, .int .i64 0]), 9, 88) := by kernel_rfl
theorem Try.infoBk : (Try.prog.info? 56).map (fun i => (i.zero, i.size, i.bytes)) = some (some (.agg #[.slice none 0 0, .int .i64 0, .int .i64 0, .int .i64 0, .slice none 0 0, .int .i32 0]), 6, 80) := by kernel_rfl
def plZ2 : Value := .agg #[.int .i64 0, .int .i64 0, .int .i64 0, .int .i64 0, .int .i64 0, .int .i64 0, .int .i32 0, .slice none 0 0, .int .i64 0]
def bkZ : Value := .agg #[.slice none 0 0, .int .i64 0, .int .i64 0, .int .i64 0, .slice none 0 0, .int .i32 0]
theorem pl_empty {w : World} {base b : Nat} (hb : HeapIs w b #[] 58) (h : base ≤ b) : PlR base w (.slice (some ⟨b, 0, none⟩) 0 0) [] := ⟨rfl, .inr ⟨b, 0, #[], rfl, h, hb, Nat.le_refl _, by decide, rfl, rfl⟩⟩
theorem mvP_ok (w : World) : PlOk w mvP := ⟨.nil _ _, ⟨by decide, by decide, by decide⟩, fun q hq => (nomatch (show none = some q from hq))⟩
theorem bd_ok {w : World} {b1 b2 : Nat} {x0 k slots : Int} {n mn : Nat} {lv bv : Value} (hl : PlR b1 w lv (List.replicate mn mvP)) (hb : BkR b2 w bv (List.replicate n (bkP mn lv))) (hn : n ≤ 1000) (hm : mn ≤ 1000) : PrgOk w (bdP x0 k slots n mn lv bv) := by
  refine ⟨row_of_own blcells_len hb fun y hy => ?_, by show (List.replicate n (bkP mn lv)).length ≤ 100000; rw [List.length_replicate]; omega⟩
  obtain rfl := List.eq_of_mem_replicate hy
  refine ⟨row_of_own plcells_len hl fun z hz => ?_, .nil _ _, by show (List.replicate mn mvP).length ≤ 100000; rw [List.length_replicate]; omega⟩
  obtain rfl := List.eq_of_mem_replicate hz
  exact mvP_ok w
/-- What is wrong with such a program. -/
def bdE (x0 k slots : Int) (n mn : Nat) : Int :=
  if x0 < 0 ∨ 4 < x0 ∨ k < 4 ∨ 16 < k ∨ slots < 0 ∨ 16384 < slots then 1 else if n = 0 then 14 else if 512 < n ∨ 65536 < n * (mn + 1) then 2 else 0
theorem bd_funcE (x0 k slots : Int) (n mn : Nat) (lv bv : Value) : funcE (bdP x0 k slots n mn lv bv) = (bdE x0 k slots n mn, 0, 0) := by
  have hh : headE (bdP x0 k slots n mn lv bv) = bdE x0 k slots n mn := by
    unfold headE bdE bdP
    dsimp only
    have ht : ptotal (List.replicate n (bkP mn lv)) = n * (mn + 1) := by
      unfold ptotal
      rw [List.length_replicate, List.map_replicate, List.sum_replicate_nat]
      show n + n * (List.replicate mn mvP).length = _
      rw [List.length_replicate, Nat.mul_add, Nat.mul_one, Nat.add_comm]
    rw [List.length_replicate, ht]
  unfold funcE
  rw [hh]
  by_cases h0 : bdE x0 k slots n mn = 0
  · rw [if_pos h0, h0]
    have hk : 4 ≤ k := by
      unfold bdE at h0
      by_cases c : x0 < 0 ∨ 4 < x0 ∨ k < 4 ∨ 16 < k ∨ slots < 0 ∨ 16384 < slots
      · rw [if_pos c] at h0; omega
      · omega
    have hi : insE mvP.m k slots = 0 := by
      have h1 : shapeB mvP.m = true := rfl
      have h2 : badReg k (regsOf mvP.m) = false := by
        show badReg k [2, 1] = false
        unfold badReg
        simp; omega
      unfold insE
      rw [h1, h2]
      rfl
    have hb : ∀ b ∈ (bdP x0 k slots n mn lv bv).blocks, blkE k slots (bdP x0 k slots n mn lv bv).blocks.length b = none := by
      intro b hb
      obtain rfl := List.eq_of_mem_replicate hb
      unfold blkE
      rw [insList_none 0 fun y hy => by obtain rfl := List.eq_of_mem_replicate hy; exact hi]
      have he : endE (bkP mn lv).fin k (bdP x0 k slots n mn lv bv).blocks.length = 0 := rfl
      dsimp only
      rw [if_pos he]
    have := blkList_none (k := k) (slots := slots) (n := (bdP x0 k slots n mn lv bv).blocks.length) 0 hb
    show (blkList k slots (bdP x0 k slots n mn lv bv).blocks.length (bdP x0 k slots n mn lv bv).blocks 0).getD (0, 0, 0) = _
    rw [this]
    rfl
  · rw [if_neg h0]


set_option maxHeartbeats 8000000 in
set_option maxRecDepth 100000 in
theorem walk_bounds (k slots x0 x1 x2 : Int) (w : World) : Calls Try.prog 6 #[.int .i64 k, .int .i64 slots, .agg #[.int .i64 x0, .int .i64 x1, .int .i64 x2]] w (TellsS true w) := by
  obtain ⟨n, hn, hn5⟩ := rest_of x1 531 (by decide)
  obtain ⟨mn, hm, hm2⟩ := rest_of x2 201 (by decide)
  have hfd : ∀ (z : Int) (wX : World), (Instr.field 32 (.agg #[.int .i64 z, .int .i64 0, .int .i64 0]) 0).run Try.prog wX = .ok (.int .i64 z) wX := fun _ _ => by kernel_rfl
  go_enter Try.func6, Try.ntmps6
  go_wp2_with fail
  refine (shown_any _).mono ?_
  rintro e0 w1 ⟨rfl, hs1⟩
  have hb1 : HeapIs w1 w.heap.size #[.int .i64 x0, .int .i64 x1, .int .i64 x2] 63 := (HeapIs.new _ _ _).keep hs1
  have hq1 : Since w w1 := ((Since.refl w).alloc _).trans hs1
  have k0 : w1.cell? ⟨w.heap.size, 0, none⟩ = some (.int .i64 x0) := hb1.cell 0
  have k1 : w1.cell? ⟨w.heap.size, 1, none⟩ = some (.int .i64 x1) := hb1.cell 1
  have k2 : w1.cell? ⟨w.heap.size, 2, none⟩ = some (.int .i64 x2) := hb1.cell 2
  have hl1 := hb1.lt
  have HS1 := Lib.hid hq1
  have HB1 := Lib.hid hb1
  clear hs1 hb1 hq1
  go_wp2_with fail
  obtain ⟨wF, hwF⟩ : ∃ x, x = w1.alloc (.cells #[.int .i64 x0, .int .i64 k, .int .i64 slots, .slice none 0 0] 24) := ⟨_, rfl⟩
  have hsF : Since w1 wF := by rw [hwF]; exact (Since.refl _).alloc _
  have hzF : wF.heap.size = w1.heap.size + 1 := by rw [hwF]; simp
  have hpF : HeapIs wF w1.heap.size #[.int .i64 x0, .int .i64 k, .int .i64 slots, .slice none 0 0] 24 := by rw [hwF]; exact HeapIs.new _ _ _
  rw [← hwF, ← hzF]
  have HSF := Lib.hid hsF
  have HZF := Lib.hid hzF
  have HPF0 := Lib.hid hpF
  clear hsF hzF hpF hwF k0 k1 k2 hl1 hn hm
  go_loopw [11, 12] (fun l i wr => ∃ j : Nat, j ≤ mn ∧ i = .int .i64 j ∧ PlR wF.heap.size wr l (List.replicate j mvP) ∧ Since wF wr) (fun _ i _ => mn - (intOf i).toNat)
  case atStart => exact ⟨0, Nat.zero_le _, rfl, pl_empty (HeapIs.new _ _ _) (Nat.le_refl _), (Since.refl _).alloc _⟩
  case round =>
    obtain ⟨j, hj, rfl, ho, hsr⟩ := hrel
    obtain ⟨la, lc, hv⟩ := ho.shape
    rw [List.length_replicate] at hv
    subst hv
    have HO := Lib.hid ho
    have HSR := Lib.hid hsr
    clear ho hsr
    by_cases hlt : j < mn
    · have HPN := Lib.hid (HeapIs.new wr #[.int .i64 1, .int .i64 1, .int .i64 0, .int .i64 2, .int .i64 0, .int .i64 0, .int .i32 0, .slice none 0 0, .int .i64 0] 58)
      go_wp2_with (
        at_builtin
        go_loud (
          refine wpList_append_turn (base := wF.heap.size) plcells 9 plcells_len (by decide) rfl _ _ 54 rfl 58 plZ2 88 Try.underlying54 Try.infoPl2 rfl (.slice la j lc) (List.replicate j mvP) mvP wr.heap.size 1 58 rfl rfl (OwnRow.keep HO.out ((Since.refl wr).alloc (.cells #[.int .i64 1, .int .i64 1, .int .i64 0, .int .i64 2, .int .i64 0, .int .i64 0, .int .i32 0, .slice none 0 0, .int .i64 0] 58))) HPN.out (by simp [plcells, mvP, Value.oneCell']) (by rw [List.length_replicate]; unfold maxLen; omega) (by rw [List.length_replicate]; omega) (HSR.out.alloc _).size ?_
          intro v2 w5 hown2 ht2
          have hs5 : Since wF w5 := ht2.toSince (HSR.out.alloc _) (fun q hq hs => by have := (World.ownsRow.lt HO.out q hs).1; omega)
          rw [← List.replicate_succ'] at hown2
          have HO5 := Lib.hid hown2
          have HS5 := Lib.hid hs5
          clear hown2 ht2 hs5))
      go_roundw
      case rel => exact ⟨j + 1, by omega, by go_num, HO5.out, HS5.out⟩
      case measure => simp [intOf]; omega
    · obtain rfl : mn = j := by omega
      obtain ⟨wl, hwl⟩ : ∃ x, x = wr := ⟨_, rfl⟩
      subst hwl
      have hzl : wF.heap.size ≤ wl.heap.size := HSR.out.size
      clear hlt hj
      go_wp2_with fail
      go_loopw [13] (fun i wr => ∃ j : Nat, j ≤ n ∧ i = .int .i64 j ∧ ∃ v, HeapIs wr w1.heap.size #[.int .i64 x0, .int .i64 k, .int .i64 slots, v] 24 ∧ BkR wl.heap.size wr v (List.replicate j (bkP mn (.slice la mn lc))) ∧ PlR wF.heap.size wr (.slice la mn lc) (List.replicate mn mvP) ∧ Since w1 wr ∧ wl.heap.size ≤ wr.heap.size) (fun i _ => n - (intOf i).toNat)
      case atStart => exact ⟨0, Nat.zero_le _, rfl, _, HPF0.out.keep HSR.out, OwnRow.nil _ _ _ _ _, HO.out, HSF.out.trans HSR.out, Nat.le_refl _⟩
      case round =>
        obtain ⟨j, hj, rfl, v, hpf, hbk, hpl, hsr, hle⟩ := hrel
        obtain ⟨ba, bc, hv⟩ := hbk.shape
        rw [List.length_replicate] at hv
        subst hv
        have p3 : wr.cell? ⟨w1.heap.size, 3, none⟩ = some (.slice ba j bc) := hpf.cell 3
        have lP := hpf.lt
        have HPF := Lib.hid hpf
        have HBK := Lib.hid hbk
        have HPL := Lib.hid hpl
        have HS2 := Lib.hid hsr
        clear hpf hbk hpl hsr
        by_cases hlt : j < n
        · have HPN := Lib.hid (HeapIs.new wr #[.slice la mn lc, .int .i64 7, .int .i64 (-1), .int .i64 0, .slice none 0 0, .int .i32 0] 56)
          go_wp2_with (
            at_builtin
            go_loud (
              refine wpList_append_turn (base := wl.heap.size) blcells 6 blcells_len (by decide) rfl _ _ 22 rfl 56 bkZ 80 Try.underlying22 Try.infoBk rfl (.slice ba j bc) (List.replicate j (bkP mn (.slice la mn lc))) (bkP mn (.slice la mn lc)) wr.heap.size 1 56 rfl rfl (OwnRow.keep HBK.out ((Since.refl wr).alloc (.cells #[.slice la mn lc, .int .i64 7, .int .i64 (-1), .int .i64 0, .slice none 0 0, .int .i32 0] 56))) HPN.out (by simp [blcells, bkP, Value.oneCell']) (by rw [List.length_replicate]; unfold maxLen; omega) (by rw [List.length_replicate]; omega) (Nat.le_trans hle ((Since.refl wr).alloc _).size) ?_
              intro v2 w5 hown2 ht2
              rw [← List.replicate_succ'] at hown2
              obtain ⟨a2, c2, hv2⟩ := own_shape hown2
              rw [List.length_replicate] at hv2
              subst hv2
              have hal := (Since.refl wr).alloc (.cells #[.slice la mn lc, .int .i64 7, .int .i64 (-1), .int .i64 0, .slice none 0 0, .int .i32 0] 56)
              have hpf5 := (HPF.out.keep hal).turn ht2 (own_not (OwnRow.keep HBK.out hal) (HPF.out.keep hal) (by decide))
              have hpl5 : PlR wF.heap.size w5 (.slice la mn lc) (List.replicate mn mvP) := own_turn (OwnRow.keep HPL.out hal) ht2 (fun q hq => own_ne (OwnRow.keep HPL.out hal) (OwnRow.keep HBK.out hal) (by decide) q hq)
              have hs5 : Since w1 w5 := ht2.toSince (HS2.out.trans hal) (fun q hq hs => by have := (World.ownsRow.lt HBK.out q hs).1; have := HZF.out; omega)
              have hl5 : wl.heap.size ≤ w5.heap.size := Nat.le_trans hle (Nat.le_trans hal.size ht2.size)
              have lP5 := hpf5.lt
              have c35 : w5.cell? ⟨w1.heap.size, 3, none⟩ = some (.slice ba j bc) := hpf5.cell 3
              have fz5 := hpf5.frozen
              have HPF5 := Lib.hid hpf5
              have HPL5 := Lib.hid hpl5
              have HS5 := Lib.hid hs5
              have HO5 := Lib.hid hown2
              have HL5 := Lib.hid hl5
              clear hown2 ht2 hal hpf5 hpl5 hs5 hl5))
          go_roundw
          case rel =>
            have t : Turn (fun q => q = w1.heap.size) w5 (w5.setCell ⟨w1.heap.size, 3, none⟩ (.slice a2 (j + 1) c2)) := (Turn.refl (fun q => q = w1.heap.size) w5).setCell (p := ⟨w1.heap.size, 3, none⟩) rfl _
            exact ⟨j + 1, by omega, by go_num, _, HPF5.out.set 3 _, own_turn HO5.out t (fun q hq e => by subst e; exact own_not HO5.out HPF5.out (by decide) hq), own_turn HPL5.out t (fun q hq e => by subst e; exact own_not HPL5.out HPF5.out (by decide) hq), t.toSince HS5.out (fun q hq e => by omega), by simpa using HL5.out⟩
          case measure => simp [intOf]; omega
        · obtain rfl : n = j := by omega
          obtain ⟨wm, hwm⟩ : ∃ x, x = wr := ⟨_, rfl⟩
          subst hwm
          have hok : PrgOk wm (bdP x0 k slots n mn (.slice la mn lc) (.slice ba n bc)) := bd_ok HPL.out HBK.out (by omega) (by omega)
          have hfun : Calls Try.prog 13 #[.agg #[.int .i64 x0, .int .i64 k, .int .i64 slots, .slice ba n bc]] wm (ThreeS (bdE x0 k slots n mn) 0 0 wm) := by
            have h := func_any _ wm hok
            unfold FuncP at h
            rw [bd_funcE] at h
            exact h
          have hrf : ∀ wX, Since wm wX → Calls Try.prog 14 #[.agg #[.int .i64 x0, .int .i64 k, .int .i64 slots, .slice ba n bc]] wX (fun e w' => e = .returned (.agg #[.int .i64 (bdE x0 k slots n mn), .int .i64 0, .int .i64 0]) ∧ Since wX w') := fun wX hX => by
            have h := rfunc_any _ wX (hok.keep hX)
            unfold GotP at h
            rw [bd_funcE] at h
            exact h
          have hpf := HPF.out
          have p0 : wm.cell? ⟨w1.heap.size, 0, none⟩ = some (.int .i64 x0) := hpf.cell 0
          have p1 : wm.cell? ⟨w1.heap.size, 1, none⟩ = some (.int .i64 k) := hpf.cell 1
          have p2 : wm.cell? ⟨w1.heap.size, 2, none⟩ = some (.int .i64 slots) := hpf.cell 2
          have HAR := Lib.hid (HB1.out.keep HS2.out)
          have HSM := Lib.hid (HS1.out.trans HS2.out)
          have HFUN := Lib.hid hfun
          have HRF := Lib.hid hrf
          have HK := Lib.hid hlt
          clear hok hfun hrf hpf hlt hj hzl hle HBK HPL HS2 HSR HO HSF HZF HPF0 HB1 HS1
          by_cases q1 : x0 < 0
          · have hE : bdE x0 k slots n mn = 1 := by unfold bdE; rw [if_pos (by omega)]
            rw [hE] at HFUN HRF
            have q1d : decide (x0 < 0) = true := decide_eq_true q1
            clear hE
            clear HK
            go_wp2_with fail
            refine HFUN.out.mono ?_
            rintro e0 w7 ⟨rfl, hs7⟩
            have hpf7 := HPF.out.keep hs7
            have p0 : w7.cell? ⟨w1.heap.size, 0, none⟩ = some (.int .i64 x0) := hpf7.cell 0
            have p1 : w7.cell? ⟨w1.heap.size, 1, none⟩ = some (.int .i64 k) := hpf7.cell 1
            have p2 : w7.cell? ⟨w1.heap.size, 2, none⟩ = some (.int .i64 slots) := hpf7.cell 2
            have p3 : w7.cell? ⟨w1.heap.size, 3, none⟩ = some (.slice ba n bc) := hpf7.cell 3
            have lP := hpf7.lt
            have har7 := HAR.out.keep hs7
            have k0 : w7.cell? ⟨w.heap.size, 0, none⟩ = some (.int .i64 x0) := har7.cell 0
            have lA := har7.lt
            have HRF7 := Lib.hid (HRF.out _ hs7)
            have HS7 := Lib.hid (HSM.out.trans hs7)
            clear hs7 hpf7 har7
            go_wp2_with fail
            refine HRF7.out.mono ?_
            rintro e0 w8 ⟨rfl, hs8⟩
            go_wp2
            go_ret
            exact ⟨rfl, HS7.out.trans hs8⟩
          have q1d : decide (x0 < 0) = false := decide_eq_false q1
          by_cases q2 : 4 < x0
          · have hE : bdE x0 k slots n mn = 1 := by unfold bdE; rw [if_pos (by omega)]
            rw [hE] at HFUN HRF
            have q2d : decide (4 < x0) = true := decide_eq_true q2
            clear hE
            clear HK
            go_wp2_with fail
            refine HFUN.out.mono ?_
            rintro e0 w7 ⟨rfl, hs7⟩
            have hpf7 := HPF.out.keep hs7
            have p0 : w7.cell? ⟨w1.heap.size, 0, none⟩ = some (.int .i64 x0) := hpf7.cell 0
            have p1 : w7.cell? ⟨w1.heap.size, 1, none⟩ = some (.int .i64 k) := hpf7.cell 1
            have p2 : w7.cell? ⟨w1.heap.size, 2, none⟩ = some (.int .i64 slots) := hpf7.cell 2
            have p3 : w7.cell? ⟨w1.heap.size, 3, none⟩ = some (.slice ba n bc) := hpf7.cell 3
            have lP := hpf7.lt
            have har7 := HAR.out.keep hs7
            have k0 : w7.cell? ⟨w.heap.size, 0, none⟩ = some (.int .i64 x0) := har7.cell 0
            have lA := har7.lt
            have HRF7 := Lib.hid (HRF.out _ hs7)
            have HS7 := Lib.hid (HSM.out.trans hs7)
            clear hs7 hpf7 har7
            go_wp2_with fail
            refine HRF7.out.mono ?_
            rintro e0 w8 ⟨rfl, hs8⟩
            go_wp2
            go_ret
            exact ⟨rfl, HS7.out.trans hs8⟩
          have q2d : decide (4 < x0) = false := decide_eq_false q2
          by_cases q3 : k < 4
          · have hE : bdE x0 k slots n mn = 1 := by unfold bdE; rw [if_pos (by omega)]
            rw [hE] at HFUN HRF
            have q3d : decide (k < 4) = true := decide_eq_true q3
            clear hE
            clear HK
            go_wp2_with fail
            refine HFUN.out.mono ?_
            rintro e0 w7 ⟨rfl, hs7⟩
            have hpf7 := HPF.out.keep hs7
            have p0 : w7.cell? ⟨w1.heap.size, 0, none⟩ = some (.int .i64 x0) := hpf7.cell 0
            have p1 : w7.cell? ⟨w1.heap.size, 1, none⟩ = some (.int .i64 k) := hpf7.cell 1
            have p2 : w7.cell? ⟨w1.heap.size, 2, none⟩ = some (.int .i64 slots) := hpf7.cell 2
            have p3 : w7.cell? ⟨w1.heap.size, 3, none⟩ = some (.slice ba n bc) := hpf7.cell 3
            have lP := hpf7.lt
            have har7 := HAR.out.keep hs7
            have k0 : w7.cell? ⟨w.heap.size, 0, none⟩ = some (.int .i64 x0) := har7.cell 0
            have lA := har7.lt
            have HRF7 := Lib.hid (HRF.out _ hs7)
            have HS7 := Lib.hid (HSM.out.trans hs7)
            clear hs7 hpf7 har7
            go_wp2_with fail
            refine HRF7.out.mono ?_
            rintro e0 w8 ⟨rfl, hs8⟩
            go_wp2
            go_ret
            exact ⟨rfl, HS7.out.trans hs8⟩
          have q3d : decide (k < 4) = false := decide_eq_false q3
          by_cases q4 : 16 < k
          · have hE : bdE x0 k slots n mn = 1 := by unfold bdE; rw [if_pos (by omega)]
            rw [hE] at HFUN HRF
            have q4d : decide (16 < k) = true := decide_eq_true q4
            clear hE
            clear HK
            go_wp2_with fail
            refine HFUN.out.mono ?_
            rintro e0 w7 ⟨rfl, hs7⟩
            have hpf7 := HPF.out.keep hs7
            have p0 : w7.cell? ⟨w1.heap.size, 0, none⟩ = some (.int .i64 x0) := hpf7.cell 0
            have p1 : w7.cell? ⟨w1.heap.size, 1, none⟩ = some (.int .i64 k) := hpf7.cell 1
            have p2 : w7.cell? ⟨w1.heap.size, 2, none⟩ = some (.int .i64 slots) := hpf7.cell 2
            have p3 : w7.cell? ⟨w1.heap.size, 3, none⟩ = some (.slice ba n bc) := hpf7.cell 3
            have lP := hpf7.lt
            have har7 := HAR.out.keep hs7
            have k0 : w7.cell? ⟨w.heap.size, 0, none⟩ = some (.int .i64 x0) := har7.cell 0
            have lA := har7.lt
            have HRF7 := Lib.hid (HRF.out _ hs7)
            have HS7 := Lib.hid (HSM.out.trans hs7)
            clear hs7 hpf7 har7
            go_wp2_with fail
            refine HRF7.out.mono ?_
            rintro e0 w8 ⟨rfl, hs8⟩
            go_wp2
            go_ret
            exact ⟨rfl, HS7.out.trans hs8⟩
          have q4d : decide (16 < k) = false := decide_eq_false q4
          by_cases q5 : slots < 0
          · have hE : bdE x0 k slots n mn = 1 := by unfold bdE; rw [if_pos (by omega)]
            rw [hE] at HFUN HRF
            have q5d : decide (slots < 0) = true := decide_eq_true q5
            clear hE
            clear HK
            go_wp2_with fail
            refine HFUN.out.mono ?_
            rintro e0 w7 ⟨rfl, hs7⟩
            have hpf7 := HPF.out.keep hs7
            have p0 : w7.cell? ⟨w1.heap.size, 0, none⟩ = some (.int .i64 x0) := hpf7.cell 0
            have p1 : w7.cell? ⟨w1.heap.size, 1, none⟩ = some (.int .i64 k) := hpf7.cell 1
            have p2 : w7.cell? ⟨w1.heap.size, 2, none⟩ = some (.int .i64 slots) := hpf7.cell 2
            have p3 : w7.cell? ⟨w1.heap.size, 3, none⟩ = some (.slice ba n bc) := hpf7.cell 3
            have lP := hpf7.lt
            have har7 := HAR.out.keep hs7
            have k0 : w7.cell? ⟨w.heap.size, 0, none⟩ = some (.int .i64 x0) := har7.cell 0
            have lA := har7.lt
            have HRF7 := Lib.hid (HRF.out _ hs7)
            have HS7 := Lib.hid (HSM.out.trans hs7)
            clear hs7 hpf7 har7
            go_wp2_with fail
            refine HRF7.out.mono ?_
            rintro e0 w8 ⟨rfl, hs8⟩
            go_wp2
            go_ret
            exact ⟨rfl, HS7.out.trans hs8⟩
          have q5d : decide (slots < 0) = false := decide_eq_false q5
          by_cases q6 : 16384 < slots
          · have hE : bdE x0 k slots n mn = 1 := by unfold bdE; rw [if_pos (by omega)]
            rw [hE] at HFUN HRF
            have q6d : decide (16384 < slots) = true := decide_eq_true q6
            clear hE
            clear HK
            go_wp2_with fail
            refine HFUN.out.mono ?_
            rintro e0 w7 ⟨rfl, hs7⟩
            have hpf7 := HPF.out.keep hs7
            have p0 : w7.cell? ⟨w1.heap.size, 0, none⟩ = some (.int .i64 x0) := hpf7.cell 0
            have p1 : w7.cell? ⟨w1.heap.size, 1, none⟩ = some (.int .i64 k) := hpf7.cell 1
            have p2 : w7.cell? ⟨w1.heap.size, 2, none⟩ = some (.int .i64 slots) := hpf7.cell 2
            have p3 : w7.cell? ⟨w1.heap.size, 3, none⟩ = some (.slice ba n bc) := hpf7.cell 3
            have lP := hpf7.lt
            have har7 := HAR.out.keep hs7
            have k0 : w7.cell? ⟨w.heap.size, 0, none⟩ = some (.int .i64 x0) := har7.cell 0
            have lA := har7.lt
            have HRF7 := Lib.hid (HRF.out _ hs7)
            have HS7 := Lib.hid (HSM.out.trans hs7)
            clear hs7 hpf7 har7
            go_wp2_with fail
            refine HRF7.out.mono ?_
            rintro e0 w8 ⟨rfl, hs8⟩
            go_wp2
            go_ret
            exact ⟨rfl, HS7.out.trans hs8⟩
          have q6d : decide (16384 < slots) = false := decide_eq_false q6
          have hnor : ¬ (x0 < 0 ∨ 4 < x0 ∨ k < 4 ∨ 16 < k ∨ slots < 0 ∨ 16384 < slots) := by omega
          by_cases q7 : n = 0
          · have hE : bdE x0 k slots n mn = 14 := by unfold bdE; rw [if_neg hnor, if_pos q7]
            rw [hE] at HFUN HRF
            have q7d : ((n : Int) == 0) = true := by simp [q7]
            clear hE hnor q7
            clear HK
            go_wp2_with fail
            refine HFUN.out.mono ?_
            rintro e0 w7 ⟨rfl, hs7⟩
            have hpf7 := HPF.out.keep hs7
            have p0 : w7.cell? ⟨w1.heap.size, 0, none⟩ = some (.int .i64 x0) := hpf7.cell 0
            have p1 : w7.cell? ⟨w1.heap.size, 1, none⟩ = some (.int .i64 k) := hpf7.cell 1
            have p2 : w7.cell? ⟨w1.heap.size, 2, none⟩ = some (.int .i64 slots) := hpf7.cell 2
            have p3 : w7.cell? ⟨w1.heap.size, 3, none⟩ = some (.slice ba n bc) := hpf7.cell 3
            have lP := hpf7.lt
            have har7 := HAR.out.keep hs7
            have k0 : w7.cell? ⟨w.heap.size, 0, none⟩ = some (.int .i64 x0) := har7.cell 0
            have lA := har7.lt
            have HRF7 := Lib.hid (HRF.out _ hs7)
            have HS7 := Lib.hid (HSM.out.trans hs7)
            clear hs7 hpf7 har7
            go_wp2_with fail
            refine HRF7.out.mono ?_
            rintro e0 w8 ⟨rfl, hs8⟩
            go_wp2
            go_ret
            exact ⟨rfl, HS7.out.trans hs8⟩
          have q7d : ((n : Int) == 0) = false := beq_eq_false_iff_ne.2 (by omega)
          by_cases q8 : 512 < n
          · have hE : bdE x0 k slots n mn = 2 := by unfold bdE; rw [if_neg hnor, if_neg q7, if_pos (.inl q8)]
            rw [hE] at HFUN HRF
            have q8d : decide ((512 : Int) < (n : Int)) = true := decide_eq_true (by omega)
            clear hE hnor
            clear HK
            go_wp2_with fail
            refine HFUN.out.mono ?_
            rintro e0 w7 ⟨rfl, hs7⟩
            have hpf7 := HPF.out.keep hs7
            have p0 : w7.cell? ⟨w1.heap.size, 0, none⟩ = some (.int .i64 x0) := hpf7.cell 0
            have p1 : w7.cell? ⟨w1.heap.size, 1, none⟩ = some (.int .i64 k) := hpf7.cell 1
            have p2 : w7.cell? ⟨w1.heap.size, 2, none⟩ = some (.int .i64 slots) := hpf7.cell 2
            have p3 : w7.cell? ⟨w1.heap.size, 3, none⟩ = some (.slice ba n bc) := hpf7.cell 3
            have lP := hpf7.lt
            have har7 := HAR.out.keep hs7
            have k0 : w7.cell? ⟨w.heap.size, 0, none⟩ = some (.int .i64 x0) := har7.cell 0
            have lA := har7.lt
            have HRF7 := Lib.hid (HRF.out _ hs7)
            have HS7 := Lib.hid (HSM.out.trans hs7)
            clear hs7 hpf7 har7
            go_wp2_with fail
            refine HRF7.out.mono ?_
            rintro e0 w8 ⟨rfl, hs8⟩
            go_wp2
            go_ret
            exact ⟨rfl, HS7.out.trans hs8⟩
          have q8d : decide ((512 : Int) < (n : Int)) = false := decide_eq_false (by omega)
          have hM : n * (mn + 1) ≤ 530 * 201 := Nat.mul_le_mul (by omega) (by omega)
          have hMc : ((n * (mn + 1) : Nat) : Int) = (n : Int) * ((mn : Int) + 1) := by push_cast; rfl
          have hM0 : 0 ≤ (n : Int) * ((mn : Int) + 1) := by omega
          have hM1 : (n : Int) * ((mn : Int) + 1) ≤ 106530 := by omega
          by_cases q9 : 65536 < n * (mn + 1)
          · have hE : bdE x0 k slots n mn = 2 := by unfold bdE; rw [if_neg hnor, if_neg q7, if_pos (.inr q9)]
            rw [hE] at HFUN HRF
            have q9d : decide ((65536 : Int) < (n : Int) * ((mn : Int) + 1)) = true := decide_eq_true (by omega)
            clear hE hnor hM hMc
            clear HK
            go_wp2_with fail
            refine HFUN.out.mono ?_
            rintro e0 w7 ⟨rfl, hs7⟩
            have hpf7 := HPF.out.keep hs7
            have p0 : w7.cell? ⟨w1.heap.size, 0, none⟩ = some (.int .i64 x0) := hpf7.cell 0
            have p1 : w7.cell? ⟨w1.heap.size, 1, none⟩ = some (.int .i64 k) := hpf7.cell 1
            have p2 : w7.cell? ⟨w1.heap.size, 2, none⟩ = some (.int .i64 slots) := hpf7.cell 2
            have p3 : w7.cell? ⟨w1.heap.size, 3, none⟩ = some (.slice ba n bc) := hpf7.cell 3
            have lP := hpf7.lt
            have har7 := HAR.out.keep hs7
            have k0 : w7.cell? ⟨w.heap.size, 0, none⟩ = some (.int .i64 x0) := har7.cell 0
            have lA := har7.lt
            have HRF7 := Lib.hid (HRF.out _ hs7)
            have HS7 := Lib.hid (HSM.out.trans hs7)
            clear hs7 hpf7 har7
            go_wp2_with fail
            refine HRF7.out.mono ?_
            rintro e0 w8 ⟨rfl, hs8⟩
            go_wp2
            go_ret
            exact ⟨rfl, HS7.out.trans hs8⟩
          have q9d : decide ((65536 : Int) < (n : Int) * ((mn : Int) + 1)) = false := decide_eq_false (by omega)
          have hE : bdE x0 k slots n mn = 0 := by unfold bdE; rw [if_neg hnor, if_neg q7, if_neg (by omega)]
          rw [hE] at HFUN HRF
          clear hE hnor hM hMc
          clear HK
          go_wp2_with fail
          refine HFUN.out.mono ?_
          rintro e0 w7 ⟨rfl, hs7⟩
          have hpf7 := HPF.out.keep hs7
          have p0 : w7.cell? ⟨w1.heap.size, 0, none⟩ = some (.int .i64 x0) := hpf7.cell 0
          have p1 : w7.cell? ⟨w1.heap.size, 1, none⟩ = some (.int .i64 k) := hpf7.cell 1
          have p2 : w7.cell? ⟨w1.heap.size, 2, none⟩ = some (.int .i64 slots) := hpf7.cell 2
          have p3 : w7.cell? ⟨w1.heap.size, 3, none⟩ = some (.slice ba n bc) := hpf7.cell 3
          have lP := hpf7.lt
          have har7 := HAR.out.keep hs7
          have k0 : w7.cell? ⟨w.heap.size, 0, none⟩ = some (.int .i64 x0) := har7.cell 0
          have lA := har7.lt
          have HRF7 := Lib.hid (HRF.out _ hs7)
          have HS7 := Lib.hid (HSM.out.trans hs7)
          clear hs7 hpf7 har7
          go_wp2_with fail
          refine HRF7.out.mono ?_
          rintro e0 w8 ⟨rfl, hs8⟩
          go_wp2
          go_ret
          exact ⟨rfl, HS7.out.trans hs8⟩
end Go.Proofs.Ytkpbmbhejpmboaa

