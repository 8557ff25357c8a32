/- phys.Func, phys.Right. -/
import Derived.Test.YtkpbmbhejpmboaaPhysEnd
import Derived.Test.YtkpbmbhejpmboaaOpen
import Derived.Deep.QuietTactic
import Derived.BigQuiet
namespace Go.Proofs.Ytkpbmbhejpmboaa
open Go.RowKit
set_option linter.unusedVariables false

theorem Since.drewN {a b : World} (h : Since a b) (n : Nat) : Since a (b.drewN n) := ⟨h.os, h.tape, h.output, h.size, h.block⟩

/-! ### The data as they lie in memory -/
def plcells (x : PlV) : List Value := [.int .i64 x.m.op, .int .i64 x.m.d, .int .i64 x.m.e, .int .i64 x.m.a, .int .i64 x.m.b, .int .i64 x.m.c, .int .i32 x.m.imm, x.av, .int .i64 x.src]
theorem plcells_len (x : PlV) : (plcells x).length = 9 := rfl
def blcells (b : BlkV) : List Value := [b.insv, .int .i64 b.fin.op, .int .i64 b.fin.a, .int .i64 b.fin.b, b.fin.tov, .int .i32 b.fin.imm]
theorem blcells_len (b : BlkV) : (blcells b).length = 6 := rfl
def PlOk (w : World) (x : PlV) : Prop := Ints w x.av x.m.args ∧ Fine x.m ∧ ∀ q, x.av.ownBlock = some q → q < w.heap.size
theorem PlOk.keep (w w' : World) (x : PlV) (h : PlOk w x) (s : Since w w') : PlOk w' x := ⟨h.1.keep s, h.2.1, fun q hq => Nat.lt_of_lt_of_le (h.2.2 q hq) s.size⟩
abbrev Pls := RowIn plcells 9 PlOk
def BlkOk (w : World) (b : BlkV) : Prop := Pls w b.insv b.ins ∧ Ints w b.fin.tov b.fin.to ∧ b.ins.length ≤ 100000
theorem BlkOk.keep (w w' : World) (x : BlkV) (h : BlkOk w x) (s : Since w w') : BlkOk w' x := ⟨RowIn.keep PlOk.keep h.1 s, h.2.1.keep s, h.2.2⟩
abbrev Blks := RowIn blcells 6 BlkOk
def PrgOk (w : World) (p : PrgV) : Prop := Blks w p.bv p.blocks ∧ p.blocks.length ≤ 100000
theorem PrgOk.keep {w w' : World} {p : PrgV} (h : PrgOk w p) (s : Since w w') : PrgOk w' p := ⟨RowIn.keep BlkOk.keep h.1 s, h.2⟩
/-- A program as a value. -/
def pv (p : PrgV) : Value := .agg #[.int .i64 p.params, .int .i64 p.k, .int .i64 p.slots, p.bv]

/-! ### Sums, and the first that is wrong -/
def insSum (l : List BlkV) : Nat := (l.map fun b => b.ins.length).sum
theorem insSum_succ {l : List BlkV} {j : Nat} {b : BlkV} (h : l[j]? = some b) : insSum (l.take (j + 1)) = insSum (l.take j) + b.ins.length := by
  unfold insSum; rw [List.take_add_one, h]; simp
theorem insSum_le (M : Nat) : ∀ l : List BlkV, (∀ b ∈ l, b.ins.length ≤ M) → insSum l ≤ l.length * M
  | [], _ => by simp [insSum]
  | b :: r, h => by
    have h1 := h b List.mem_cons_self
    have h2 := insSum_le M r fun x hx => h x (List.mem_cons_of_mem _ hx)
    unfold insSum at h2 ⊢
    rw [List.map_cons, List.sum_cons, List.length_cons, Nat.succ_mul]; omega
theorem insList_none {k slots : Int} : ∀ {l : List PlV} (i : Nat), (∀ x ∈ l, insE x.m k slots = 0) → insList k slots l i = none
  | [], _, _ => rfl
  | x :: r, i, h => by unfold insList; rw [if_pos (h x List.mem_cons_self)]; exact insList_none (i + 1) fun y hy => h y (List.mem_cons_of_mem _ hy)
theorem insList_at {k slots : Int} : ∀ {l : List PlV} {j : Nat} {x : PlV} (i : Nat), l[j]? = some x → (∀ (t : Nat) (y : PlV), t < j → l[t]? = some y → insE y.m k slots = 0) → insE x.m k slots ≠ 0 → insList k slots l i = some (insE x.m k slots, i + j)
  | [], _, _, _, h, _, _ => by cases h
  | y :: r, 0, x, i, h, _, hne => by
    obtain rfl : y = x := by simpa using h
    unfold insList; rw [if_neg hne]; rfl
  | y :: r, j + 1, x, i, h, hall, hne => by
    unfold insList
    rw [if_pos (hall 0 y (by omega) rfl), insList_at (i + 1) (by simpa using h) (fun t z ht hz => hall (t + 1) z (by omega) (by simpa using hz)) hne]
    congr 2; omega
theorem blkList_none {k slots n : Int} : ∀ {l : List BlkV} (i : Nat), (∀ b ∈ l, blkE k slots n b = none) → blkList k slots n l i = none
  | [], _, _ => rfl
  | x :: r, i, h => by unfold blkList; rw [h x List.mem_cons_self]; exact blkList_none (i + 1) fun y hy => h y (List.mem_cons_of_mem _ hy)
theorem blkList_at {k slots n : Int} : ∀ {l : List BlkV} {j : Nat} {b : BlkV} (i : Nat) {x : Int × Nat}, l[j]? = some b → (∀ (t : Nat) (y : BlkV), t < j → l[t]? = some y → blkE k slots n y = none) → blkE k slots n b = some x → blkList k slots n l i = some (x.1, i + j, x.2)
  | [], _, _, _, _, h, _, _ => by cases h
  | y :: r, 0, b, i, x, h, _, hb => by
    obtain rfl : y = b := by simpa using h
    unfold blkList; rw [hb]; rfl
  | y :: r, j + 1, b, i, x, h, hall, hb => by
    unfold blkList
    rw [hall 0 y (by omega) rfl]
    dsimp only
    rw [blkList_at (i + 1) (by simpa using h) (fun t z ht hz => hall (t + 1) z (by omega) (by simpa using hz)) hb]
    congr 3; omega

def ThreeS (x y z : Int) (w : World) (e : Ending) (w' : World) : Prop := e = .returned (.tuple #[.int .i64 x, .int .i64 y, .int .i64 z]) ∧ Since w w'
def FuncP (p : PrgV) : World → Ending → World → Prop := ThreeS (funcE p).1 ((funcE p).2.1 : Nat) ((funcE p).2.2 : Nat)

set_option maxHeartbeats 4000000 in
set_option maxRecDepth 100000 in
theorem func_any (p : PrgV) (w : World) (h : PrgOk w p) : Calls Try.prog 13 #[pv p] w (FuncP p w) := by
  obtain ⟨params, k, slots, blocks, bv⟩ := p
  obtain ⟨hb, hbl⟩ := h
  dsimp only at hb hbl
  obtain ⟨ba, bc, rfl, hmax⟩ := hb.shape
  have H := Lib.hid hb
  have hsum : insSum blocks ≤ 10000000000 := by
    have h1 := insSum_le 100000 blocks (fun b hm => by
      obtain ⟨j, hj⟩ := List.getElem?_of_mem hm
      obtain ⟨_, _, x, _, _, hx, _, hok⟩ := RowIn.at H.out (List.getElem?_eq_some_iff.1 hj).1
      rw [hj] at hx; cases hx
      exact hok.2.2)
    have h2 : blocks.length * 100000 ≤ 100000 * 100000 := Nat.mul_le_mul_right _ hbl
    omega
  have hpre : ∀ j, j ≤ blocks.length → insSum (blocks.take j) ≤ insSum blocks := fun j _ => by
    have e : insSum blocks = insSum (blocks.take j) + insSum (blocks.drop j) := by
      unfold insSum; rw [← List.sum_append, ← List.map_append, List.take_append_drop]
    omega
  have HPRE := Lib.hid hpre
  have W1 := Lib.hid (fun w => within_any params 0 4 w)
  have W2 := Lib.hid (fun w => within_any k 4 16 w)
  have W3 := Lib.hid (fun w => within_any slots 0 16384 w)
  clear hb hpre hmax
  generalize hF : funcE ⟨params, k, slots, blocks, .slice ba blocks.length bc⟩ = F
  unfold FuncP
  rw [hF]
  obtain ⟨fe, fb, fp⟩ := F
  have hF1 : headE ⟨params, k, slots, blocks, .slice ba blocks.length bc⟩ = (if params < 0 ∨ 4 < params ∨ k < 4 ∨ 16 < k ∨ slots < 0 ∨ 16384 < slots then 1 else if blocks.length = 0 then 14 else if 512 < blocks.length ∨ 65536 < blocks.length + insSum blocks then 2 else 0) := rfl
  have HF := Lib.hid hF
  have HF1 := Lib.hid hF1
  clear hF hF1
  unfold funcE at HF
  have hbad : ∀ c : Int, headE ⟨params, k, slots, blocks, .slice ba blocks.length bc⟩ = c → c ≠ 0 → fe = c ∧ fb = 0 ∧ fp = 0 := fun c hc h0 => by
    have h1 := HF.out
    rw [hc, if_neg h0] at h1
    simp only [Prod.mk.injEq] at h1
    exact ⟨h1.1.symm, h1.2.1.symm, h1.2.2.symm⟩
  have HBAD := Lib.hid hbad
  clear hbad
  unfold pv
  dsimp only
  go_enter Try.func13, Try.ntmps13
  go_wp2
  have HL := Lib.hid hsum
  go_loopw [5, 20] (fun n i wr => ∃ j : Nat, j ≤ blocks.length ∧ i = .int .i64 j ∧ n = .int .i64 ((blocks.length : Int) + ((insSum (blocks.take j) : Nat) : Int)) ∧ Since (w.alloc (.cells #[.int .i64 params, .int .i64 k, .int .i64 slots, .slice ba blocks.length bc] 24)) wr) (fun _ i _ => blocks.length - (intOf i).toNat)
  case atStart => exact ⟨0, Nat.zero_le _, rfl, by simp [insSum], Since.refl _⟩
  case round =>
    obtain ⟨j, hj, rfl, rfl, hsr⟩ := hrel
    have HS0 := Lib.hid hsr
    have HS := Lib.hid (((Since.refl w).alloc (.cells #[.int .i64 params, .int .i64 k, .int .i64 slots, .slice ba blocks.length bc] 24)).trans hsr)
    have hbox : ∀ i, wr.cell? ⟨w.heap.size, i, none⟩ = _ := fun i => hsr.cell (p := ⟨w.heap.size, i, none⟩) (by simp)
    have HBOX := Lib.hid hbox
    have hbsz : w.heap.size < wr.heap.size := by have := hsr.size; simp at this; omega
    have HBSZ := Lib.hid hbsz
    clear hsr hbsz
    by_cases hlt : j < blocks.length
    · clear hbox
      obtain ⟨B, off, x, rfl, hB, hx, hc, hok⟩ := RowIn.at H.out hlt
      obtain ⟨xins, xinsv, ⟨eop, ea, eb, eto, etov, eimm⟩⟩ := x
      obtain ⟨hok1, hok2, hok3⟩ := hok
      dsimp only at hok1 hok2 hok3
      obtain ⟨ia, ic, rfl, hil⟩ := hok1.shape
      obtain ⟨ta, tc, rfl⟩ := nums_lenI hok2
      unfold maxLen at hil
      have hcw := fun t ht => (HS.out.cell (p := ⟨B, off + j * 6 + t, none⟩) hB).trans (hc t ht)
      have c0 : wr.cell? ⟨B, off + j * 6, none⟩ = some (.slice ia xins.length ic) := hcw 0 (by decide)
      have c1 : wr.cell? ⟨B, off + j * 6 + 1, none⟩ = some (.int .i64 eop) := hcw 1 (by decide)
      have c2 : wr.cell? ⟨B, off + j * 6 + 2, none⟩ = some (.int .i64 ea) := hcw 2 (by decide)
      have c3 : wr.cell? ⟨B, off + j * 6 + 3, none⟩ = some (.int .i64 eb) := hcw 3 (by decide)
      have c4 : wr.cell? ⟨B, off + j * 6 + 4, none⟩ = some (.slice ta eto.length tc) := hcw 4 (by decide)
      have c5 : wr.cell? ⟨B, off + j * 6 + 5, none⟩ = some (.int .i32 eimm) := hcw 5 (by decide)
      clear hcw hc hB
      have hss := insSum_succ hx
      have hp := HPRE.out j (by omega)
      have hp2 := HPRE.out (j + 1) (by omega)
      have HSS := Lib.hid hss
      dsimp only at hss
      generalize insSum (blocks.take j) = sj at *
      have hb1 : sj + xins.length ≤ 10000000000 := by omega
      clear hss hp hp2 hok1 hok2 hok3 hx
      go_wp2
      go_roundw
      case rel => exact ⟨j + 1, by omega, by go_num, by rw [HSS.out]; exact congrArg (Value.int .i64) (by push_cast; omega), HS0.out.alloc _⟩
      case measure => simp [intOf]; omega
    · obtain rfl : j = blocks.length := by omega
      rw [List.take_length]
      have hp := HL.out
      generalize hN : insSum blocks = sN at *
      clear hN HPRE
      cases hP1 : (decide (0 ≤ params) && decide (params ≤ 4)) with
      | false =>
        have hor : params < 0 ∨ 4 < params ∨ k < 4 ∨ 16 < k ∨ slots < 0 ∨ 16384 < slots := by simp at hP1; omega
        have HOR := Lib.hid hor
        have HP1 := Lib.hid hP1
        clear hP1 hor
        have hh := HBAD.out 1 (by rw [HF1.out, if_pos HOR.out]) (by decide)
        obtain ⟨rfl, rfl, rfl⟩ := hh
        go_wp2_with fail
        refine (W1.out _).mono ?_
        rw [HP1.out]
        rintro e w1 ⟨rfl, rfl⟩
        go_wp2
        go_ret3
        exact ⟨rfl, HS.out⟩
      | true =>
      have HP1 := Lib.hid hP1
      clear hP1
      cases hP2 : (decide (4 ≤ k) && decide (k ≤ 16)) with
      | false =>
        have hor : params < 0 ∨ 4 < params ∨ k < 4 ∨ 16 < k ∨ slots < 0 ∨ 16384 < slots := by simp at hP2; omega
        have HOR := Lib.hid hor
        have HP2 := Lib.hid hP2
        clear hP2 hor
        have hh := HBAD.out 1 (by rw [HF1.out, if_pos HOR.out]) (by decide)
        obtain ⟨rfl, rfl, rfl⟩ := hh
        go_wp2_with fail
        refine (W1.out _).mono ?_
        rw [HP1.out]
        rintro e w1 ⟨rfl, rfl⟩
        go_wp2_with fail
        refine (W2.out _).mono ?_
        rw [HP2.out]
        rintro e w1 ⟨rfl, rfl⟩
        go_wp2
        go_ret3
        exact ⟨rfl, HS.out⟩
      | true =>
      have HP2 := Lib.hid hP2
      clear hP2
      cases hP3 : (decide (0 ≤ slots) && decide (slots ≤ 16384)) with
      | false =>
        have hor : params < 0 ∨ 4 < params ∨ k < 4 ∨ 16 < k ∨ slots < 0 ∨ 16384 < slots := by simp at hP3; omega
        have HOR := Lib.hid hor
        have HP3 := Lib.hid hP3
        clear hP3 hor
        have hh := HBAD.out 1 (by rw [HF1.out, if_pos HOR.out]) (by decide)
        obtain ⟨rfl, rfl, rfl⟩ := hh
        go_wp2_with fail
        refine (W1.out _).mono ?_
        rw [HP1.out]
        rintro e w1 ⟨rfl, rfl⟩
        go_wp2_with fail
        refine (W2.out _).mono ?_
        rw [HP2.out]
        rintro e w1 ⟨rfl, rfl⟩
        go_wp2_with fail
        refine (W3.out _).mono ?_
        rw [HP3.out]
        rintro e w1 ⟨rfl, rfl⟩
        go_wp2
        go_ret3
        exact ⟨rfl, HS.out⟩
      | true =>
      have HP3 := Lib.hid hP3
      have hor : ¬ (params < 0 ∨ 4 < params ∨ k < 4 ∨ 16 < k ∨ slots < 0 ∨ 16384 < slots) := by
        have h1 := HP1.out
        have h2 := HP2.out
        simp at h1 h2 hP3; omega
      have hF2 := HF1.out
      rw [if_neg hor] at hF2
      have HF2 := Lib.hid hF2
      clear hP3 hor hF2 HF1
      by_cases h0 : blocks.length = 0
      · have hd0 : ((blocks.length : Int) == 0) = true := by simp [h0]
        have hh := HBAD.out 14 (by rw [HF2.out, if_pos h0]) (by decide)
        obtain ⟨rfl, rfl, rfl⟩ := hh
        have H0 := Lib.hid h0; clear h0
        go_wp2_with fail
        refine (W1.out _).mono ?_
        rw [HP1.out]
        rintro e w1 ⟨rfl, rfl⟩
        go_wp2_with fail
        refine (W2.out _).mono ?_
        rw [HP2.out]
        rintro e w1 ⟨rfl, rfl⟩
        go_wp2_with fail
        refine (W3.out _).mono ?_
        rw [HP3.out]
        rintro e w1 ⟨rfl, rfl⟩
        go_wp2
        go_ret3
        exact ⟨rfl, HS.out⟩
      have hd0 : ((blocks.length : Int) == 0) = false := beq_eq_false_iff_ne.2 (by omega)
      have hF3 := HF2.out
      rw [if_neg h0] at hF3
      have HF3 := Lib.hid hF3
      clear hF3 HF2 h0
      by_cases h1 : 512 < blocks.length
      · have hh := HBAD.out 2 (by rw [HF3.out, if_pos (.inl h1)]) (by decide)
        obtain ⟨rfl, rfl, rfl⟩ := hh
        go_wp2_with fail
        refine (W1.out _).mono ?_
        rw [HP1.out]
        rintro e w1 ⟨rfl, rfl⟩
        go_wp2_with fail
        refine (W2.out _).mono ?_
        rw [HP2.out]
        rintro e w1 ⟨rfl, rfl⟩
        go_wp2_with fail
        refine (W3.out _).mono ?_
        rw [HP3.out]
        rintro e w1 ⟨rfl, rfl⟩
        go_wp2
        go_ret3
        exact ⟨rfl, HS.out⟩
      have hd1 : decide ((512 : Int) < (blocks.length : Int)) = false := by simp; omega
      by_cases h2 : 65536 < blocks.length + sN
      · have hd2 : decide ((65536 : Int) < (blocks.length : Int) + (sN : Int)) = true := by simp; omega
        have hh := HBAD.out 2 (by rw [HF3.out, if_pos (.inr h2)]) (by decide)
        obtain ⟨rfl, rfl, rfl⟩ := hh
        go_wp2_with fail
        refine (W1.out _).mono ?_
        rw [HP1.out]
        rintro e w1 ⟨rfl, rfl⟩
        go_wp2_with fail
        refine (W2.out _).mono ?_
        rw [HP2.out]
        rintro e w1 ⟨rfl, rfl⟩
        go_wp2_with fail
        refine (W3.out _).mono ?_
        rw [HP3.out]
        rintro e w1 ⟨rfl, rfl⟩
        go_wp2
        go_ret3
        exact ⟨rfl, HS.out⟩
      have hd2 : decide ((65536 : Int) < (blocks.length : Int) + (sN : Int)) = false := by simp; omega
      have hF4 := HF3.out
      rw [if_neg (by omega)] at hF4
      have hFF := HF.out
      rw [hF4, if_pos rfl] at hFF
      have HFF := Lib.hid hFF
      clear hF4 hFF HF3 HF h1 h2 HBAD
      go_wp2_with fail
      refine (W1.out _).mono ?_
      rw [HP1.out]
      rintro e w1 ⟨rfl, rfl⟩
      go_wp2_with fail
      refine (W2.out _).mono ?_
      rw [HP2.out]
      rintro e w1 ⟨rfl, rfl⟩
      go_wp2_with fail
      refine (W3.out _).mono ?_
      rw [HP3.out]
      rintro e w1 ⟨rfl, rfl⟩
      go_wp2
      go_loopw [64] (fun i wr2 => ∃ j : Nat, j ≤ blocks.length ∧ i = .int .i64 j ∧ (∀ (t : Nat) (y : BlkV), t < j → blocks[t]? = some y → blkE k slots blocks.length y = none) ∧ Since (w.alloc (.cells #[.int .i64 params, .int .i64 k, .int .i64 slots, .slice ba blocks.length bc] 24)) wr2) (fun i _ => blocks.length - (intOf i).toNat)
      case atStart => exact ⟨0, Nat.zero_le _, rfl, fun t y ht => by omega, HS0.out⟩
      case round =>
        clear HBOX HBSZ HS HS0 hd0 hd1 hd2 hbox
        obtain ⟨j, hj, rfl, hall, hsr⟩ := hrel
        have HALL := Lib.hid hall
        have HS0 := Lib.hid hsr
        have HS := Lib.hid (((Since.refl w).alloc (.cells #[.int .i64 params, .int .i64 k, .int .i64 slots, .slice ba blocks.length bc] 24)).trans hsr)
        have hbsz : w.heap.size < wr.heap.size := by have := hsr.size; simp at this; omega
        have HBSZ := Lib.hid hbsz
        clear hsr hbsz hall
        by_cases hlt : j < blocks.length
        · obtain ⟨B, off, x, rfl, hB, hx, hc, hok⟩ := RowIn.at H.out hlt
          obtain ⟨xins, xinsv, ⟨eop, ea, eb, eto, etov, eimm⟩⟩ := x
          obtain ⟨hok1, hok2, hok3⟩ := hok
          dsimp only at hok1 hok2 hok3
          obtain ⟨ia, ic, rfl, hil⟩ := hok1.shape
          obtain ⟨ta, tc, rfl⟩ := nums_lenI hok2
          unfold maxLen at hil
          have hcw := fun t ht => (HS.out.cell (p := ⟨B, off + j * 6 + t, none⟩) hB).trans (hc t ht)
          have c0 : wr.cell? ⟨B, off + j * 6, none⟩ = some (.slice ia xins.length ic) := hcw 0 (by decide)
          have c1 : wr.cell? ⟨B, off + j * 6 + 1, none⟩ = some (.int .i64 eop) := hcw 1 (by decide)
          have c2 : wr.cell? ⟨B, off + j * 6 + 2, none⟩ = some (.int .i64 ea) := hcw 2 (by decide)
          have c3 : wr.cell? ⟨B, off + j * 6 + 3, none⟩ = some (.int .i64 eb) := hcw 3 (by decide)
          have c4 : wr.cell? ⟨B, off + j * 6 + 4, none⟩ = some (.slice ta eto.length tc) := hcw 4 (by decide)
          have c5 : wr.cell? ⟨B, off + j * 6 + 5, none⟩ = some (.int .i32 eimm) := hcw 5 (by decide)
          clear hcw hc hB
          have hbE : blkE k slots blocks.length ⟨xins, .slice ia xins.length ic, ⟨eop, ea, eb, eto, .slice ta eto.length tc, eimm⟩⟩ = (match insList k slots xins 0 with
            | some x => some x
            | none => if endE ⟨eop, ea, eb, eto, .slice ta eto.length tc, eimm⟩ k blocks.length = 0 then none else some (endE ⟨eop, ea, eb, eto, .slice ta eto.length tc, eimm⟩ k blocks.length, xins.length)) := rfl
          have hfin : ∀ x, blkE k slots blocks.length ⟨xins, .slice ia xins.length ic, ⟨eop, ea, eb, eto, .slice ta eto.length tc, eimm⟩⟩ = some x → fe = x.1 ∧ fb = j ∧ fp = x.2 := fun x hxx => by
            have := HFF.out
            rw [blkList_at 0 hx HALL.out hxx] at this
            simp only [Option.getD_some, Prod.mk.injEq, Nat.zero_add] at this
            exact ⟨this.1.symm, this.2.1.symm, this.2.2.symm⟩
          have HE := Lib.hid hbE
          have HFIN := Lib.hid hfin
          have HX := Lib.hid hx
          have HI := Lib.hid hok1
          have HT := Lib.hid hok2
          have hend := fun w2 (hs : Since w w2) => end_any ⟨eop, ea, eb, eto, .slice ta eto.length tc, eimm⟩ k blocks.length w2 (hok2.keep hs)
          simp only [ev] at hend
          generalize endE ⟨eop, ea, eb, eto, .slice ta eto.length tc, eimm⟩ k blocks.length = EE at *
          have HEND := Lib.hid hend
          clear hbE hfin hx hok1 hok2 hend
          obtain ⟨wa, hwa⟩ : ∃ x, x = wr := ⟨_, rfl⟩
          subst hwa
          go_wp2
          go_loopw [72] (fun i wr => ∃ t : Nat, t ≤ xins.length ∧ i = .int .i64 t ∧ (∀ (u : Nat) (y : PlV), u < t → xins[u]? = some y → insE y.m k slots = 0) ∧ Since (wa.alloc (.cells #[.slice ia xins.length ic, .int .i64 eop, .int .i64 ea, .int .i64 eb, .slice ta eto.length tc, .int .i32 eimm] 56)) wr) (fun i _ => xins.length - (intOf i).toNat)
          case atStart => exact ⟨0, Nat.zero_le _, rfl, fun u y hu => by omega, Since.refl _⟩
          case round =>
            clear c0 c1 c2 c3 c4 c5
            obtain ⟨t, ht, rfl, hall, hs2⟩ := hrel
            have HALL2 := Lib.hid hall
            have hS2 := (HS0.out.alloc (.cells #[.slice ia xins.length ic, .int .i64 eop, .int .i64 ea, .int .i64 eb, .slice ta eto.length tc, .int .i32 eimm] 56)).trans hs2
            have HS2 := Lib.hid hS2
            have HSW := Lib.hid (Since.trans ((Since.refl w).alloc _) hS2)
            have HSB := Lib.hid hs2
            have hbsz2 : w.heap.size < wr.heap.size := by have := hS2.size; simp at this; omega
            have HBSZ2 := Lib.hid hbsz2
            clear hs2 hS2 hall hbsz2
            by_cases hlt2 : t < xins.length
            · obtain ⟨B2, off2, y, rfl, hB2, hy, hc2, hyok⟩ := RowIn.at HI.out hlt2
              obtain ⟨ym, yav, ysrc⟩ := y
              obtain ⟨hy1, hy2, _⟩ : Ints w yav ym.args ∧ Fine ym ∧ _ := hyok
              obtain ⟨ya, yc, rfl⟩ := nums_lenI hy1
              have hcw := fun t' ht' => (HSW.out.cell (p := ⟨B2, off2 + t * 9 + t', none⟩) hB2).trans (hc2 t' ht')
              have c0 : wr.cell? ⟨B2, off2 + t * 9, none⟩ = some (.int .i64 ym.op) := hcw 0 (by decide)
              have c1 : wr.cell? ⟨B2, off2 + t * 9 + 1, none⟩ = some (.int .i64 ym.d) := hcw 1 (by decide)
              have c2 : wr.cell? ⟨B2, off2 + t * 9 + 2, none⟩ = some (.int .i64 ym.e) := hcw 2 (by decide)
              have c3 : wr.cell? ⟨B2, off2 + t * 9 + 3, none⟩ = some (.int .i64 ym.a) := hcw 3 (by decide)
              have c4 : wr.cell? ⟨B2, off2 + t * 9 + 4, none⟩ = some (.int .i64 ym.b) := hcw 4 (by decide)
              have c5 : wr.cell? ⟨B2, off2 + t * 9 + 5, none⟩ = some (.int .i64 ym.c) := hcw 5 (by decide)
              have c6 : wr.cell? ⟨B2, off2 + t * 9 + 6, none⟩ = some (.int .i32 ym.imm) := hcw 6 (by decide)
              have c7 : wr.cell? ⟨B2, off2 + t * 9 + 7, none⟩ = some (.slice ya ym.args.length yc) := hcw 7 (by decide)
              have c8 : wr.cell? ⟨B2, off2 + t * 9 + 8, none⟩ = some (.int .i64 ysrc) := hcw 8 (by decide)
              have hbx2 : ∀ i, (wr.alloc (.cells #[.int .i64 ym.op, .int .i64 ym.d, .int .i64 ym.e, .int .i64 ym.a, .int .i64 ym.b, .int .i64 ym.c, .int .i32 ym.imm, .slice ya ym.args.length yc, .int .i64 ysrc] 58)).cell? ⟨w.heap.size, i, none⟩ = _ := fun i => (HS2.out.alloc _).cell (p := ⟨w.heap.size, i, none⟩) (by simp)
              have hins := ins_any ym (.slice ya ym.args.length yc) k slots _ (hy1.keep (HSW.out.alloc (.cells #[.int .i64 ym.op, .int .i64 ym.d, .int .i64 ym.e, .int .i64 ym.a, .int .i64 ym.b, .int .i64 ym.c, .int .i32 ym.imm, .slice ya ym.args.length yc, .int .i64 ysrc] 58))) hy2
              unfold mv at hins
              have hiE : insE ym k slots ≠ 0 → insList k slots xins 0 = some (insE ym k slots, 0 + t) := fun hne => insList_at 0 hy HALL2.out hne
              have HIE := Lib.hid hiE
              have HY := Lib.hid hy
              generalize hIE : insE ym k slots = IE at *
              have HIEQ := Lib.hid hIE; clear hIE
              have HINS := Lib.hid hins
              clear hcw hc2 hB2 hy hy1 hy2 hins hiE
              go_wp2_with fail
              refine HINS.out.mono ?_
              rintro e3 w3 ⟨rfl, hs3⟩
              have HS3 := Lib.hid (HSB.out.trans ((Since.refl wr).alloc _ |>.trans hs3))
              have HW3 := Lib.hid (HSW.out.trans ((Since.refl wr).alloc _ |>.trans hs3))
              clear hs3 hbx2 c0 c1 c2 c3 c4 c5 c6 c7 c8
              by_cases hz : IE = 0
              · have hb : (IE != 0) = false := by simp [hz]
                have HZ := Lib.hid hz; clear hz
                go_wp2
                go_roundw
                case rel => exact ⟨t + 1, by omega, by go_num, fun u y hu hy => by
                  by_cases e : u = t
                  · subst e; rw [HY.out] at hy; cases hy; exact HIEQ.out.trans HZ.out
                  · exact HALL2.out u y (by omega) hy, HS3.out⟩
                case measure => simp [intOf]; omega
              · have hb : (IE != 0) = true := by simpa using hz
                have hh := HFIN.out (IE, t) (by rw [HE.out, HIE.out hz, Nat.zero_add])
                obtain ⟨rfl, rfl, rfl⟩ := hh
                clear hz
                go_wp2
                go_ret3
                exact ⟨rfl, HW3.out⟩
            · obtain rfl : t = xins.length := by omega
              have hnone : insList k slots xins 0 = none := insList_none 0 fun y hy => by
                obtain ⟨u, hu⟩ := List.getElem?_of_mem hy
                exact HALL2.out u y (List.getElem?_eq_some_iff.1 hu).1 hu
              have hE2 := HE.out
              rw [hnone] at hE2
              dsimp only at hE2
              have HE2 := Lib.hid hE2
              have hbx2 : ∀ i, wr.cell? ⟨w.heap.size, i, none⟩ = _ := fun i => HS2.out.cell (p := ⟨w.heap.size, i, none⟩) (by simp)
              have hbx9 : ∀ i, wr.cell? ⟨wa.heap.size, i, none⟩ = _ := fun i => HSB.out.cell (p := ⟨wa.heap.size, i, none⟩) (by simp)
              clear hE2 hnone
              go_wp2_with fail
              refine (HEND.out _ HSW.out).mono ?_
              rintro e3 w3 ⟨rfl, hs3⟩
              have hbx9b : ∀ i, w3.cell? ⟨wa.heap.size, i, none⟩ = _ := fun i => (HSB.out.trans hs3).cell (p := ⟨wa.heap.size, i, none⟩) (by simp)
              have HW3 := Lib.hid (HSW.out.trans hs3)
              have HS3 := Lib.hid (HS2.out.trans hs3)
              clear hs3 hbx2 hbx9
              by_cases hz : EE = 0
              · have hb : (EE != 0) = false := by simp [hz]
                have HZ := Lib.hid hz; clear hz
                clear hbx9b
                go_wp2
                go_roundw
                case rel => exact ⟨j + 1, by omega, by go_num, fun u y hu hy => by
                  by_cases e : u = j
                  · subst e; rw [HX.out] at hy; cases hy; rw [HE2.out, if_pos HZ.out]
                  · exact HALL.out u y (by omega) hy, HS3.out⟩
                case measure => simp [intOf]; omega
              · have hb : (EE != 0) = true := by simpa using hz
                have hh := HFIN.out (EE, xins.length) (by rw [HE2.out, if_neg hz])
                obtain ⟨rfl, rfl, rfl⟩ := hh
                clear hz
                go_wp2_with fail
                go_quiet (fail)
                go_wp2
                go_ret3
                exact ⟨rfl, Since.drewN HW3.out _⟩
        · obtain rfl : j = blocks.length := by omega
          have hnone : blkList k slots blocks.length blocks 0 = none := blkList_none 0 fun y hy => by
            obtain ⟨u, hu⟩ := List.getElem?_of_mem hy
            exact HALL.out u y (List.getElem?_eq_some_iff.1 hu).1 hu
          have hh := HFF.out
          rw [hnone] at hh
          simp only [Option.getD_none, Prod.mk.injEq] at hh
          obtain ⟨rfl, rfl, rfl⟩ := hh
          clear hnone
          go_wp2
          go_ret3
          exact ⟨rfl, HS.out⟩

set_option maxHeartbeats 1000000 in
set_option maxRecDepth 100000 in
theorem right_any (p : PrgV) (w : World) (h : PrgOk w p) : Calls Try.prog 16 #[pv p] w (TellsS (rightB p) w) := by
  obtain ⟨ba, bc, hbv, _⟩ := h.1.shape
  have hfunc := fun w2 (hs : Since w w2) => func_any p w2 (h.keep hs)
  unfold rightB
  unfold FuncP at hfunc
  generalize (funcE p).1 = fe at *
  generalize (funcE p).2.1 = fb at *
  generalize (funcE p).2.2 = fp at *
  have HF := Lib.hid hfunc
  clear hfunc h
  unfold pv at HF
  unfold pv
  rw [hbv] at HF ⊢
  clear hbv
  go_enter Try.func16, Try.ntmps16
  go_wp2_with fail
  refine (HF.out _ ((Since.refl _).alloc _)).mono ?_
  rintro e w1 ⟨rfl, hs1⟩
  go_wp2
  go_ret
  exact ⟨rfl, ((Since.refl _).alloc _).trans hs1⟩
end Go.Proofs.Ytkpbmbhejpmboaa
