/- phys.machine.block. -/
import Derived.Test.YtkpbmbhejpmboaaWho
namespace Go.Proofs.Ytkpbmbhejpmboaa
open Go.RowKit
set_option linter.unusedVariables false

/-- Where a block ends: the run has ended; or goes on elsewhere. -/
def BlockQ (c : Cfg) (p : PrgV) (f0 : Nat) (F : EndSt) (e : Ending) (w' : World) : Prop :=
  (e = .returned (.int .i64 (-1)) ∧ ∃ cv', MRun c w' F.s cv' F.e F.v ((c.steps.toNat : Int) - (F.left : Int))) ∨
  (∃ (j : Nat) (b' : BlkV) (s' : St) (cv' : Value) (f' : Nat), e = .returned (.int .i64 j) ∧ p.blocks[j]? = some b' ∧ f' < f0 ∧ s'.slots.length = p.slots.toNat ∧ MRun c w' s' cv' 0 0 ((c.steps.toNat : Int) - (f' : Int)) ∧ runAt p c.ans f' s' b' b'.ins = F)

/-- What is known within the step of one instruction. -/
def BlkPh (c : Cfg) (cv1 : Value) (s1 s2 : St) (tr : Option Int) (st0 st1 : Int) (wa : World) (p : Nat) (w1 : World) : Prop :=
  Turn (Bz c cv1) wa w1 ∧ (if p = 0 then MRun c w1 s1 cv1 0 0 st0 else if p = 1 then MRun c w1 s1 cv1 0 0 st1 else ∃ cv', MRun c w1 s2 cv' (if tr.isNone then 0 else 2) (tr.getD 0) st1)
def BlkPz (c : Cfg) (cv1 : Value) (s1 : St) (st0 : Int) (p : Nat) (w1 : World) : Prop := if p = 0 then MRun c w1 s1 cv1 0 0 st0 else MRun c w1 s1 cv1 3 0 st0

def TrapPh (c : Cfg) (cv1 : Value) (s1 : St) (st1 imm : Int) (b : Nat) (cs : Array Value) (p : Nat) (w1 : World) : Prop :=
  HeapIs w1 b cs 56 ∧ (if p = 0 then MRun c w1 s1 cv1 0 0 st1 else if p = 1 then MRun c w1 s1 cv1 2 0 st1 else MRun c w1 s1 cv1 2 imm st1)

theorem stepM_slots (m : Mach) (ans : List Int) (s : St) : (stepM m ans s).2.slots.length = s.slots.length := by
  unfold stepM
  by_cases c1 : m.op = 30
  · rw [if_pos c1]
  rw [if_neg c1]
  by_cases c2 : m.op = 31
  · rw [if_pos c2]; simp
  rw [if_neg c2]
  by_cases c3 : m.op = 28
  · rw [if_pos c3]
  rw [if_neg c3]

set_option maxHeartbeats 4000000 in
set_option maxRecDepth 100000 in
theorem block_any (c : Cfg) (p : PrgV) (xins : List PlV) (ia : Option Addr) (ic : Nat) (eop ea eb : Int) (eto : List Int) (ta : Option Addr) (tc : Nat) (eimm : Int) (f0 : Nat) (s : St) (cv : Value) (w : World)
    (h : MRun c w s cv 0 0 ((c.steps.toNat : Int) - (f0 : Int))) (hf0 : f0 ≤ c.steps.toNat) (hst : c.steps ≤ 1000000) (hsl : s.slots.length = p.slots.toNat) (hk : p.k ≤ 16)
    (hi : Pls c.w0 (.slice ia xins.length ic) xins) (hto : Ints c.w0 (.slice ta eto.length tc) eto) (hleg : ∀ x ∈ xins, insE x.m p.k p.slots = 0) (hend : endE ⟨eop, ea, eb, eto, .slice ta eto.length tc, eimm⟩ p.k p.blocks.length = 0) :
    Calls Try.prog 48 #[MPtr c, .agg #[.slice ia xins.length ic, .int .i64 eop, .int .i64 ea, .int .i64 eb, .slice ta eto.length tc, .int .i32 eimm]] w (BlockQ c p f0 (runAt p c.ans f0 s ⟨xins, .slice ia xins.length ic, ⟨eop, ea, eb, eto, .slice ta eto.length tc, eimm⟩⟩ xins)) := by
  generalize hF : runAt p c.ans f0 s ⟨xins, .slice ia xins.length ic, ⟨eop, ea, eb, eto, .slice ta eto.length tc, eimm⟩⟩ xins = F
  have HF := Lib.hid hF; clear hF
  have H := Lib.hid h; clear h
  have HI := Lib.hid hi; clear hi
  have HTO := Lib.hid hto; clear hto
  have HLEG := Lib.hid hleg; clear hleg
  have HEND := Lib.hid hend; clear hend
  have HSL := Lib.hid hsl; clear hsl
  have hbw := H.out.base
  have hmbw := H.out.size
  have hil := RowIn.shape HI.out
  obtain ⟨_, _, _, hil⟩ := hil
  unfold maxLen at hil
  unfold MPtr
  go_enter Try.func48, Try.ntmps48
  go_wp2_with fail
  go_loopw [10] (fun i wr => ∃ (k : Nat) (s1 : St) (cv1 : Value) (f1 : Nat), k ≤ xins.length ∧ i = .int .i64 k ∧ f1 ≤ f0 ∧ s1.slots.length = p.slots.toNat ∧ MRun c wr s1 cv1 0 0 ((c.steps.toNat : Int) - (f1 : Int)) ∧ HeapIs wr w.heap.size #[.slice ia xins.length ic, .int .i64 eop, .int .i64 ea, .int .i64 eb, .slice ta eto.length tc, .int .i32 eimm] 56 ∧ runAt p c.ans f1 s1 ⟨xins, .slice ia xins.length ic, ⟨eop, ea, eb, eto, .slice ta eto.length tc, eimm⟩⟩ (xins.drop k) = F) (fun i _ => xins.length - (intOf i).toNat)
  case atStart => exact ⟨0, s, cv, f0, Nat.zero_le _, rfl, Nat.le_refl _, HSL.out, H.out.keep ((Since.refl w).alloc _), HeapIs.new _ _ _, HF.out⟩
  case round =>
    obtain ⟨k, s1, cv1, f1, hkn, rfl, hf1, hsl1, hm, hbx, hrun⟩ := hrel
    have HM := Lib.hid hm
    have HBX := Lib.hid hbx
    have HRUN := Lib.hid hrun
    have HSL1 := Lib.hid hsl1
    clear hm hbx hrun hsl1
    by_cases hlt : k < xins.length
    · obtain ⟨B, off, x, rfl, hB, hx, hc, hok⟩ := RowIn.at HI.out hlt
      obtain ⟨m, av, src⟩ := x
      obtain ⟨hok1, hok2, hok3⟩ := hok
      dsimp only at hok1 hok2 hok3
      obtain ⟨aa, ac, rfl⟩ := nums_lenI hok1
      have hle := HLEG.out _ (List.mem_of_getElem? hx)
      dsimp only at hle
      have hdrop : xins.drop k = ⟨m, .slice aa m.args.length ac, src⟩ :: xins.drop (k + 1) := by
        rw [List.drop_eq_getElem_cons hlt]
        congr 1
        have := (List.getElem?_eq_some_iff.1 hx).2
        exact this
      have hcw := fun t ht => (HM.out.old.cell (p := ⟨B, off + k * 9 + t, none⟩) hB).trans (hc t ht)
      have c0 : wr.cell? ⟨B, off + k * 9, none⟩ = some (.int .i64 m.op) := hcw 0 (by decide)
      have c1 : wr.cell? ⟨B, off + k * 9 + 1, none⟩ = some (.int .i64 m.d) := hcw 1 (by decide)
      have c2 : wr.cell? ⟨B, off + k * 9 + 2, none⟩ = some (.int .i64 m.e) := hcw 2 (by decide)
      have c3 : wr.cell? ⟨B, off + k * 9 + 3, none⟩ = some (.int .i64 m.a) := hcw 3 (by decide)
      have c4 : wr.cell? ⟨B, off + k * 9 + 4, none⟩ = some (.int .i64 m.b) := hcw 4 (by decide)
      have c5 : wr.cell? ⟨B, off + k * 9 + 5, none⟩ = some (.int .i64 m.c) := hcw 5 (by decide)
      have c6 : wr.cell? ⟨B, off + k * 9 + 6, none⟩ = some (.int .i32 m.imm) := hcw 6 (by decide)
      have c7 : wr.cell? ⟨B, off + k * 9 + 7, none⟩ = some (.slice aa m.args.length ac) := hcw 7 (by decide)
      have c8 : wr.cell? ⟨B, off + k * 9 + 8, none⟩ = some (.int .i64 src) := hcw 8 (by decide)
      rw [hdrop] at HRUN
      have HOK := Lib.hid hok1
      have HFI := Lib.hid hok2
      have HAV := Lib.hid hok3
      have HLE := Lib.hid hle
      clear hcw hc hB hx hok1 hok2 hok3 hle hdrop
      obtain ⟨wa, hwa⟩ : ∃ x, x = wr.alloc (.cells #[.int .i64 m.op, .int .i64 m.d, .int .i64 m.e, .int .i64 m.a, .int .i64 m.b, .int .i64 m.c, .int .i32 m.imm, .slice aa m.args.length ac, .int .i64 src] 58) := ⟨_, rfl⟩
      have hma : MRun c wa s1 cv1 0 0 ((c.steps.toNat : Int) - (f1 : Int)) := by rw [hwa]; exact HM.out.keep ((Since.refl wr).alloc _)
      have hba := HBX.out.keep (w' := wa) (by rw [hwa]; exact (Since.refl wr).alloc _)
      have hsa : HeapIs wa wr.heap.size #[.int .i64 m.op, .int .i64 m.d, .int .i64 m.e, .int .i64 m.a, .int .i64 m.b, .int .i64 m.c, .int .i32 m.imm, .slice aa m.args.length ac, .int .i64 src] 58 := by rw [hwa]; exact HeapIs.new _ _ _
      have hwra : wr.heap.size < wa.heap.size := hsa.lt
      have hbwr := HM.out.base
      have hn1 := hma.notBz hba hbw (by decide)
      have hn2 := hma.notBz hsa hbwr (by decide)
      have HMA := Lib.hid hma
      have HBA := Lib.hid hba
      have HSA := Lib.hid hsa
      have HN1 := Lib.hid hn1
      have HN2 := Lib.hid hn2
      have HSTEP := Lib.hid (fun w1 (h1 : MRun c w1 s1 cv1 0 0 ((c.steps.toNat : Int) - (f1 : Int))) => step_any c s1 cv1 ((c.steps.toNat : Int) - (f1 : Int)) w1 h1 hst (by omega))
      clear hma hba hsa hn1 hn2
      go_wp2_with fail
      rw [← hwa]
      clear c0 c1 c2 c3 c4 c5 c6 c7 c8
      have HWA := Lib.hid hwa
      clear hwa
      cases f1 with
      | zero =>
        have hz : c.steps ≤ (c.steps.toNat : Int) - ((0 : Nat) : Int) := by omega
        unfold StepQ at HSTEP
        simp only [if_pos hz, decide_eq_true hz, Bool.not_true] at HSTEP
        have hr0 := HRUN.out
        unfold runAt at hr0
        have HR0 := Lib.hid hr0
        clear hr0
        generalize hs0 : (c.steps.toNat : Int) - ((0 : Nat) : Int) = st0 at *
        have HS0 := Lib.hid hs0
        clear hs0 hz
        refine wp_region_phases [1] [0, 0, 1, 1, 1, 1, 1, 1, 1, 1, 1, 1, 1] [0, 0, 1, 1, 1, 1, 1, 1, 1, 1, 1, 1, 1] [0, 1, 0, 0, 0, 0, 0, 0, 0, 0, 0, 0, 0] (BlkPz c cv1 s1 st0) rfl (by decide +kernel) (by decide +kernel) (by decide +kernel)
          [Is (.pointer (some ⟨c.mb, 0, none⟩)), Is (.bool false), Is (.bool true), Is (.bool true), Any, Any, Any, Any, Any, Any, Any, Any, Is (.bool true)]
          (by repeat (first | exact trivial | refine ⟨Is.fixed _, ?_⟩ | refine ⟨Any.fixed, ?_⟩)) (HMA.out.keep (Since.refl _).drew) ⟨?_, ?_, ?_, ?_, ?_, ?_, ?_, ?_, ?_, ?_, ?_, ?_, ?_, trivial⟩ ?_
        rotate_right
        · intro vs w1 _ hph hk
          simp only [putAll, Act.put, KnowsAll, nthF, Is, Any, List.setIfInBounds_toArray, List.set_cons_zero, List.set_cons_succ, Nat.reduceAdd, List.length_cons, List.length_nil] at hk ⊢
          try simp only [hk]
          have hph3 : MRun c w1 s1 cv1 3 0 st0 := hph
          have HPH := Lib.hid hph3
          clear hph3
          clear hph hk
          go_wp2
          go_ret
          exact .inl ⟨rfl, _, by rw [← HR0.out]; dsimp only; rw [HS0.out]; exact HPH.out⟩
        all_goals
          intro p vs w1 hlo hhi _ hph hk
          simp only [putAll, Act.put, Knows, nthF, Is, Any, List.setIfInBounds_toArray, List.set_cons_zero, List.set_cons_succ, Nat.reduceAdd] at hk ⊢
          try simp only [hk]
        · go_wp2
          exact ⟨_, rfl, rfl, trivial, hph⟩
        · obtain rfl : p = 0 := by omega
          have hm0 : MRun c w1 s1 cv1 0 0 st0 := hph
          have HC := Lib.hid (HSTEP.out w1 hm0)
          go_wp2_with fail
          refine HC.out.mono ?_
          rintro e w2 ⟨rfl, hw2, _⟩
          go_wp2
          exact ⟨_, rfl, rfl, trivial, hw2⟩
        · go_wp2
          exact ⟨_, rfl, rfl, trivial, hph⟩
        · go_wp2
          exact ⟨_, rfl, rfl, trivial, hph⟩
        · go_wp2
          exact ⟨_, rfl, trivial, trivial, hph⟩
        · go_wp2
          exact ⟨_, rfl, trivial, trivial, hph⟩
        · go_wp2
          exact ⟨_, rfl, trivial, trivial, hph⟩
        · go_wp2
          exact ⟨_, rfl, trivial, trivial, hph⟩
        · go_wp2
          exact ⟨_, rfl, trivial, trivial, hph⟩
        · go_wp2
          exact ⟨_, rfl, trivial, trivial, hph⟩
        · go_wp2
          exact ⟨_, rfl, trivial, trivial, hph⟩
        · go_wp2
          exact ⟨_, rfl, trivial, trivial, hph⟩
        · go_wp2
          exact ⟨_, rfl, rfl, trivial, hph⟩
      | succ f =>
        have hz : ¬ c.steps ≤ (c.steps.toNat : Int) - ((f + 1 : Nat) : Int) := by omega
        unfold StepQ at HSTEP
        simp only [if_neg hz, decide_eq_false hz, Bool.not_false] at HSTEP
        have hst1 : (c.steps.toNat : Int) - ((f + 1 : Nat) : Int) + 1 = (c.steps.toNat : Int) - (f : Int) := by omega
        simp only [hst1] at HSTEP
        have hr0 := HRUN.out
        unfold runAt at hr0
        dsimp only at hr0
        have hsls := stepM_slots m c.ans s1
        have HSLS := Lib.hid (hsls.trans HSL1.out)
        have HR0 := Lib.hid hr0
        clear hr0 hsls
        have hfew := HM.out.few
        generalize hs0 : (c.steps.toNat : Int) - ((f + 1 : Nat) : Int) = st0 at *
        generalize hs1 : (c.steps.toNat : Int) - (f : Int) = st1 at *
        have HS1 := Lib.hid hs1
        have HFEW := Lib.hid (show (s1.calls.length : Int) < st1 from by omega)
        clear hs0 hs1 hz hst1 hfew
        have hav2 : ∀ q, Value.ownBlock (.slice aa m.args.length ac) = some q → q < c.w0.heap.size := HAV.out
        have hkind : m.op = 2 ∨ m.op = 30 ∨ m.op = 31 ∨ m.op = 28 ∨ (m.op ≠ 2 ∧ m.op ≠ 30 ∧ m.op ≠ 31 ∧ m.op ≠ 28) := by omega
        rcases hkind with ho | ho | ho | ho | ho
        · have hdo := fun w1 (h1 : MRun c w1 s1 cv1 0 0 st1) => do_swap c s1 cv1 _ m (.slice aa m.args.length ac) w1 h1 ho HLE.out hk
          have HWHO := Lib.hid (fun w1 => who_2 m (.slice aa m.args.length ac) w1 ho)
          generalize stepM m c.ans s1 = D at *
          obtain ⟨tr, s2⟩ := D
          dsimp only at hdo HSLS HR0
          have HDO := Lib.hid hdo
          clear hdo ho
          unfold mv at HDO HWHO
          unfold MPtr at HDO
          refine wp_region_phases [1, 10] [0, 0, 1, 1, 1, 1, 1, 1, 1, 1, 1, 2, 2] [0, 0, 1, 1, 1, 1, 1, 1, 1, 1, 1, 2, 2] [0, 1, 0, 0, 0, 0, 0, 0, 0, 0, 1, 0, 0] (BlkPh c cv1 s1 s2 tr st0 st1 wa) rfl (by decide +kernel) (by decide +kernel) (by decide +kernel)
            [Is (.pointer (some ⟨c.mb, 0, none⟩)), Is (.bool true), Is (.bool false), Is (.bool false), Is (.pointer (some ⟨wr.heap.size, 0, none⟩)), Is (.agg #[.int .i64 m.op, .int .i64 m.d, .int .i64 m.e, .int .i64 m.a, .int .i64 m.b, .int .i64 m.c, .int .i32 m.imm, .slice aa m.args.length ac]), Is (.iface 156 (.agg #[])), Is (.pointer (some ⟨wr.heap.size, 0, none⟩)), Is (.agg #[.int .i64 m.op, .int .i64 m.d, .int .i64 m.e, .int .i64 m.a, .int .i64 m.b, .int .i64 m.c, .int .i32 m.imm, .slice aa m.args.length ac]), Is (.pointer (some ⟨c.mb, 0, none⟩)), Is (.bool tr.isNone), Is (.bool tr.isSome), Is (.bool tr.isSome)]
            (by repeat (first | exact trivial | refine ⟨Is.fixed _, ?_⟩ | refine ⟨Any.fixed, ?_⟩)) ⟨Turn.since (Since.refl _).drew, HMA.out.keep (Since.refl _).drew⟩ ⟨?_, ?_, ?_, ?_, ?_, ?_, ?_, ?_, ?_, ?_, ?_, ?_, ?_, trivial⟩ ?_
          rotate_right
          · intro vs w1 _ hph hk
            simp only [putAll, Act.put, KnowsAll, nthF, Is, List.setIfInBounds_toArray, List.set_cons_zero, List.set_cons_succ, Nat.reduceAdd, List.length_cons, List.length_nil] at hk ⊢
            try simp only [hk]
            obtain ⟨cv2, hm2⟩ : ∃ cv', MRun c w1 s2 cv' (if tr.isNone then 0 else 2) (tr.getD 0) st1 := hph.2
            have hbx2 := HBA.out.turn hph.1 HN1.out
            have HM2 := Lib.hid hm2
            have HBX2 := Lib.hid hbx2
            clear hph hk hm2 hbx2
            cases tr with
            | none =>
              dsimp only [Option.isNone, Option.getD] at HM2
              dsimp only [Option.isNone, Option.getD, Option.isSome, Bool.not_true]
              go_wp2
              go_roundw
              case rel => exact ⟨k + 1, s2, cv2, f, by omega, by go_num, by omega, HSLS.out, by rw [HS1.out]; exact HM2.out, HBX2.out, HR0.out⟩
              case measure => simp [intOf]; omega
            | some t =>
              dsimp only [Option.isNone, Option.getD] at HM2
              dsimp only [Option.isNone, Option.getD, Option.isSome, Bool.not_false]
              go_wp2
              go_ret
              exact .inl ⟨rfl, _, by rw [← HR0.out]; dsimp only; rw [HS1.out]; exact HM2.out⟩
          all_goals
            intro p vs w1 hlo hhi _ hph hk
            simp only [putAll, Act.put, Knows, nthF, Is, List.setIfInBounds_toArray, List.set_cons_zero, List.set_cons_succ, Nat.reduceAdd] at hk ⊢
            try simp only [hk]
          · go_wp2
            exact ⟨_, rfl, rfl, trivial, hph⟩
          · obtain rfl : p = 0 := by omega
            have HC := Lib.hid (HSTEP.out w1 hph.2)
            go_wp2_with fail
            refine HC.out.mono ?_
            rintro e w2 ⟨rfl, hw2, ht2⟩
            go_wp2
            exact ⟨_, rfl, rfl, trivial, And.intro (hph.1.trans (ht2.mono fun _ _ h => .inl (.inl h))) hw2⟩
          · go_wp2
            exact ⟨_, rfl, rfl, trivial, hph⟩
          · go_wp2
            exact ⟨_, rfl, rfl, trivial, hph⟩
          · go_wp2
            exact ⟨_, rfl, rfl, trivial, hph⟩
          · have hsb := HSA.out.turn hph.1 HN2.out
            have c0 : w1.cell? ⟨wr.heap.size, 0, none⟩ = some (.int .i64 m.op) := hsb.cell 0
            have c1 : w1.cell? ⟨wr.heap.size, 1, none⟩ = some (.int .i64 m.d) := hsb.cell 1
            have c2 : w1.cell? ⟨wr.heap.size, 2, none⟩ = some (.int .i64 m.e) := hsb.cell 2
            have c3 : w1.cell? ⟨wr.heap.size, 3, none⟩ = some (.int .i64 m.a) := hsb.cell 3
            have c4 : w1.cell? ⟨wr.heap.size, 4, none⟩ = some (.int .i64 m.b) := hsb.cell 4
            have c5 : w1.cell? ⟨wr.heap.size, 5, none⟩ = some (.int .i64 m.c) := hsb.cell 5
            have c6 : w1.cell? ⟨wr.heap.size, 6, none⟩ = some (.int .i32 m.imm) := hsb.cell 6
            have c7 : w1.cell? ⟨wr.heap.size, 7, none⟩ = some (.slice aa m.args.length ac) := hsb.cell 7
            have hls := hsb.lt
            go_wp2
            exact ⟨_, rfl, rfl, trivial, hph⟩
          · go_wp2_with fail
            refine (HWHO.out _).mono ?_
            rintro e w2 ⟨rfl, hs2⟩
            obtain rfl : p = 1 := by omega
            go_wp2
            exact ⟨_, rfl, rfl, trivial, And.intro (hph.1.trans (Turn.since hs2)) (MRun.keep (s := s1) (cv := cv1) (e := 0) (v := 0) (st := st1) hph.2 hs2)⟩
          · go_wp2
            exact ⟨_, rfl, rfl, trivial, hph⟩
          · have hsb := HSA.out.turn hph.1 HN2.out
            have c0 : w1.cell? ⟨wr.heap.size, 0, none⟩ = some (.int .i64 m.op) := hsb.cell 0
            have c1 : w1.cell? ⟨wr.heap.size, 1, none⟩ = some (.int .i64 m.d) := hsb.cell 1
            have c2 : w1.cell? ⟨wr.heap.size, 2, none⟩ = some (.int .i64 m.e) := hsb.cell 2
            have c3 : w1.cell? ⟨wr.heap.size, 3, none⟩ = some (.int .i64 m.a) := hsb.cell 3
            have c4 : w1.cell? ⟨wr.heap.size, 4, none⟩ = some (.int .i64 m.b) := hsb.cell 4
            have c5 : w1.cell? ⟨wr.heap.size, 5, none⟩ = some (.int .i64 m.c) := hsb.cell 5
            have c6 : w1.cell? ⟨wr.heap.size, 6, none⟩ = some (.int .i32 m.imm) := hsb.cell 6
            have c7 : w1.cell? ⟨wr.heap.size, 7, none⟩ = some (.slice aa m.args.length ac) := hsb.cell 7
            have hls := hsb.lt
            go_wp2
            exact ⟨_, rfl, rfl, trivial, hph⟩
          · go_wp2
            exact ⟨_, rfl, rfl, trivial, hph⟩
          · obtain rfl : p = 1 := by omega
            have HC := Lib.hid (HDO.out w1 hph.2)
            go_wp2_with fail
            refine HC.out.mono ?_
            rintro e w2 ⟨rfl, hw2, ht2⟩
            go_wp2
            exact ⟨_, rfl, rfl, trivial, And.intro (hph.1.trans ht2) hw2⟩
          · go_wp2
            exact ⟨_, rfl, rfl, trivial, hph⟩
          · go_wp2
            exact ⟨_, rfl, rfl, trivial, hph⟩
        · have hdo := fun w1 (h1 : MRun c w1 s1 cv1 0 0 st1) => do_ld c s1 cv1 _ m (.slice aa m.args.length ac) w1 h1 ho HLE.out hk HSL1.out
          have HWHO := Lib.hid (fun w1 => who_30 m (.slice aa m.args.length ac) w1 ho)
          generalize stepM m c.ans s1 = D at *
          obtain ⟨tr, s2⟩ := D
          dsimp only at hdo HSLS HR0
          have HDO := Lib.hid hdo
          clear hdo ho
          unfold mv at HDO HWHO
          unfold MPtr at HDO
          refine wp_region_phases [1, 10] [0, 0, 1, 1, 1, 1, 1, 1, 1, 1, 1, 2, 2] [0, 0, 1, 1, 1, 1, 1, 1, 1, 1, 1, 2, 2] [0, 1, 0, 0, 0, 0, 0, 0, 0, 0, 1, 0, 0] (BlkPh c cv1 s1 s2 tr st0 st1 wa) rfl (by decide +kernel) (by decide +kernel) (by decide +kernel)
            [Is (.pointer (some ⟨c.mb, 0, none⟩)), Is (.bool true), Is (.bool false), Is (.bool false), Is (.pointer (some ⟨wr.heap.size, 0, none⟩)), Is (.agg #[.int .i64 m.op, .int .i64 m.d, .int .i64 m.e, .int .i64 m.a, .int .i64 m.b, .int .i64 m.c, .int .i32 m.imm, .slice aa m.args.length ac]), Is (.iface 157 (.agg #[])), Is (.pointer (some ⟨wr.heap.size, 0, none⟩)), Is (.agg #[.int .i64 m.op, .int .i64 m.d, .int .i64 m.e, .int .i64 m.a, .int .i64 m.b, .int .i64 m.c, .int .i32 m.imm, .slice aa m.args.length ac]), Is (.pointer (some ⟨c.mb, 0, none⟩)), Is (.bool tr.isNone), Is (.bool tr.isSome), Is (.bool tr.isSome)]
            (by repeat (first | exact trivial | refine ⟨Is.fixed _, ?_⟩ | refine ⟨Any.fixed, ?_⟩)) ⟨Turn.since (Since.refl _).drew, HMA.out.keep (Since.refl _).drew⟩ ⟨?_, ?_, ?_, ?_, ?_, ?_, ?_, ?_, ?_, ?_, ?_, ?_, ?_, trivial⟩ ?_
          rotate_right
          · intro vs w1 _ hph hk
            simp only [putAll, Act.put, KnowsAll, nthF, Is, List.setIfInBounds_toArray, List.set_cons_zero, List.set_cons_succ, Nat.reduceAdd, List.length_cons, List.length_nil] at hk ⊢
            try simp only [hk]
            obtain ⟨cv2, hm2⟩ : ∃ cv', MRun c w1 s2 cv' (if tr.isNone then 0 else 2) (tr.getD 0) st1 := hph.2
            have hbx2 := HBA.out.turn hph.1 HN1.out
            have HM2 := Lib.hid hm2
            have HBX2 := Lib.hid hbx2
            clear hph hk hm2 hbx2
            cases tr with
            | none =>
              dsimp only [Option.isNone, Option.getD] at HM2
              dsimp only [Option.isNone, Option.getD, Option.isSome, Bool.not_true]
              go_wp2
              go_roundw
              case rel => exact ⟨k + 1, s2, cv2, f, by omega, by go_num, by omega, HSLS.out, by rw [HS1.out]; exact HM2.out, HBX2.out, HR0.out⟩
              case measure => simp [intOf]; omega
            | some t =>
              dsimp only [Option.isNone, Option.getD] at HM2
              dsimp only [Option.isNone, Option.getD, Option.isSome, Bool.not_false]
              go_wp2
              go_ret
              exact .inl ⟨rfl, _, by rw [← HR0.out]; dsimp only; rw [HS1.out]; exact HM2.out⟩
          all_goals
            intro p vs w1 hlo hhi _ hph hk
            simp only [putAll, Act.put, Knows, nthF, Is, List.setIfInBounds_toArray, List.set_cons_zero, List.set_cons_succ, Nat.reduceAdd] at hk ⊢
            try simp only [hk]
          · go_wp2
            exact ⟨_, rfl, rfl, trivial, hph⟩
          · obtain rfl : p = 0 := by omega
            have HC := Lib.hid (HSTEP.out w1 hph.2)
            go_wp2_with fail
            refine HC.out.mono ?_
            rintro e w2 ⟨rfl, hw2, ht2⟩
            go_wp2
            exact ⟨_, rfl, rfl, trivial, And.intro (hph.1.trans (ht2.mono fun _ _ h => .inl (.inl h))) hw2⟩
          · go_wp2
            exact ⟨_, rfl, rfl, trivial, hph⟩
          · go_wp2
            exact ⟨_, rfl, rfl, trivial, hph⟩
          · go_wp2
            exact ⟨_, rfl, rfl, trivial, hph⟩
          · have hsb := HSA.out.turn hph.1 HN2.out
            have c0 : w1.cell? ⟨wr.heap.size, 0, none⟩ = some (.int .i64 m.op) := hsb.cell 0
            have c1 : w1.cell? ⟨wr.heap.size, 1, none⟩ = some (.int .i64 m.d) := hsb.cell 1
            have c2 : w1.cell? ⟨wr.heap.size, 2, none⟩ = some (.int .i64 m.e) := hsb.cell 2
            have c3 : w1.cell? ⟨wr.heap.size, 3, none⟩ = some (.int .i64 m.a) := hsb.cell 3
            have c4 : w1.cell? ⟨wr.heap.size, 4, none⟩ = some (.int .i64 m.b) := hsb.cell 4
            have c5 : w1.cell? ⟨wr.heap.size, 5, none⟩ = some (.int .i64 m.c) := hsb.cell 5
            have c6 : w1.cell? ⟨wr.heap.size, 6, none⟩ = some (.int .i32 m.imm) := hsb.cell 6
            have c7 : w1.cell? ⟨wr.heap.size, 7, none⟩ = some (.slice aa m.args.length ac) := hsb.cell 7
            have hls := hsb.lt
            go_wp2
            exact ⟨_, rfl, rfl, trivial, hph⟩
          · go_wp2_with fail
            refine (HWHO.out _).mono ?_
            rintro e w2 ⟨rfl, hs2⟩
            obtain rfl : p = 1 := by omega
            go_wp2
            exact ⟨_, rfl, rfl, trivial, And.intro (hph.1.trans (Turn.since hs2)) (MRun.keep (s := s1) (cv := cv1) (e := 0) (v := 0) (st := st1) hph.2 hs2)⟩
          · go_wp2
            exact ⟨_, rfl, rfl, trivial, hph⟩
          · have hsb := HSA.out.turn hph.1 HN2.out
            have c0 : w1.cell? ⟨wr.heap.size, 0, none⟩ = some (.int .i64 m.op) := hsb.cell 0
            have c1 : w1.cell? ⟨wr.heap.size, 1, none⟩ = some (.int .i64 m.d) := hsb.cell 1
            have c2 : w1.cell? ⟨wr.heap.size, 2, none⟩ = some (.int .i64 m.e) := hsb.cell 2
            have c3 : w1.cell? ⟨wr.heap.size, 3, none⟩ = some (.int .i64 m.a) := hsb.cell 3
            have c4 : w1.cell? ⟨wr.heap.size, 4, none⟩ = some (.int .i64 m.b) := hsb.cell 4
            have c5 : w1.cell? ⟨wr.heap.size, 5, none⟩ = some (.int .i64 m.c) := hsb.cell 5
            have c6 : w1.cell? ⟨wr.heap.size, 6, none⟩ = some (.int .i32 m.imm) := hsb.cell 6
            have c7 : w1.cell? ⟨wr.heap.size, 7, none⟩ = some (.slice aa m.args.length ac) := hsb.cell 7
            have hls := hsb.lt
            go_wp2
            exact ⟨_, rfl, rfl, trivial, hph⟩
          · go_wp2
            exact ⟨_, rfl, rfl, trivial, hph⟩
          · obtain rfl : p = 1 := by omega
            have HC := Lib.hid (HDO.out w1 hph.2)
            go_wp2_with fail
            refine HC.out.mono ?_
            rintro e w2 ⟨rfl, hw2, ht2⟩
            go_wp2
            exact ⟨_, rfl, rfl, trivial, And.intro (hph.1.trans ht2) hw2⟩
          · go_wp2
            exact ⟨_, rfl, rfl, trivial, hph⟩
          · go_wp2
            exact ⟨_, rfl, rfl, trivial, hph⟩
        · have hdo := fun w1 (h1 : MRun c w1 s1 cv1 0 0 st1) => do_st c s1 cv1 _ m (.slice aa m.args.length ac) w1 h1 ho HLE.out hk HSL1.out
          have HWHO := Lib.hid (fun w1 => who_31 m (.slice aa m.args.length ac) w1 ho)
          generalize stepM m c.ans s1 = D at *
          obtain ⟨tr, s2⟩ := D
          dsimp only at hdo HSLS HR0
          have HDO := Lib.hid hdo
          clear hdo ho
          unfold mv at HDO HWHO
          unfold MPtr at HDO
          refine wp_region_phases [1, 10] [0, 0, 1, 1, 1, 1, 1, 1, 1, 1, 1, 2, 2] [0, 0, 1, 1, 1, 1, 1, 1, 1, 1, 1, 2, 2] [0, 1, 0, 0, 0, 0, 0, 0, 0, 0, 1, 0, 0] (BlkPh c cv1 s1 s2 tr st0 st1 wa) rfl (by decide +kernel) (by decide +kernel) (by decide +kernel)
            [Is (.pointer (some ⟨c.mb, 0, none⟩)), Is (.bool true), Is (.bool false), Is (.bool false), Is (.pointer (some ⟨wr.heap.size, 0, none⟩)), Is (.agg #[.int .i64 m.op, .int .i64 m.d, .int .i64 m.e, .int .i64 m.a, .int .i64 m.b, .int .i64 m.c, .int .i32 m.imm, .slice aa m.args.length ac]), Is (.iface 157 (.agg #[])), Is (.pointer (some ⟨wr.heap.size, 0, none⟩)), Is (.agg #[.int .i64 m.op, .int .i64 m.d, .int .i64 m.e, .int .i64 m.a, .int .i64 m.b, .int .i64 m.c, .int .i32 m.imm, .slice aa m.args.length ac]), Is (.pointer (some ⟨c.mb, 0, none⟩)), Is (.bool tr.isNone), Is (.bool tr.isSome), Is (.bool tr.isSome)]
            (by repeat (first | exact trivial | refine ⟨Is.fixed _, ?_⟩ | refine ⟨Any.fixed, ?_⟩)) ⟨Turn.since (Since.refl _).drew, HMA.out.keep (Since.refl _).drew⟩ ⟨?_, ?_, ?_, ?_, ?_, ?_, ?_, ?_, ?_, ?_, ?_, ?_, ?_, trivial⟩ ?_
          rotate_right
          · intro vs w1 _ hph hk
            simp only [putAll, Act.put, KnowsAll, nthF, Is, List.setIfInBounds_toArray, List.set_cons_zero, List.set_cons_succ, Nat.reduceAdd, List.length_cons, List.length_nil] at hk ⊢
            try simp only [hk]
            obtain ⟨cv2, hm2⟩ : ∃ cv', MRun c w1 s2 cv' (if tr.isNone then 0 else 2) (tr.getD 0) st1 := hph.2
            have hbx2 := HBA.out.turn hph.1 HN1.out
            have HM2 := Lib.hid hm2
            have HBX2 := Lib.hid hbx2
            clear hph hk hm2 hbx2
            cases tr with
            | none =>
              dsimp only [Option.isNone, Option.getD] at HM2
              dsimp only [Option.isNone, Option.getD, Option.isSome, Bool.not_true]
              go_wp2
              go_roundw
              case rel => exact ⟨k + 1, s2, cv2, f, by omega, by go_num, by omega, HSLS.out, by rw [HS1.out]; exact HM2.out, HBX2.out, HR0.out⟩
              case measure => simp [intOf]; omega
            | some t =>
              dsimp only [Option.isNone, Option.getD] at HM2
              dsimp only [Option.isNone, Option.getD, Option.isSome, Bool.not_false]
              go_wp2
              go_ret
              exact .inl ⟨rfl, _, by rw [← HR0.out]; dsimp only; rw [HS1.out]; exact HM2.out⟩
          all_goals
            intro p vs w1 hlo hhi _ hph hk
            simp only [putAll, Act.put, Knows, nthF, Is, List.setIfInBounds_toArray, List.set_cons_zero, List.set_cons_succ, Nat.reduceAdd] at hk ⊢
            try simp only [hk]
          · go_wp2
            exact ⟨_, rfl, rfl, trivial, hph⟩
          · obtain rfl : p = 0 := by omega
            have HC := Lib.hid (HSTEP.out w1 hph.2)
            go_wp2_with fail
            refine HC.out.mono ?_
            rintro e w2 ⟨rfl, hw2, ht2⟩
            go_wp2
            exact ⟨_, rfl, rfl, trivial, And.intro (hph.1.trans (ht2.mono fun _ _ h => .inl (.inl h))) hw2⟩
          · go_wp2
            exact ⟨_, rfl, rfl, trivial, hph⟩
          · go_wp2
            exact ⟨_, rfl, rfl, trivial, hph⟩
          · go_wp2
            exact ⟨_, rfl, rfl, trivial, hph⟩
          · have hsb := HSA.out.turn hph.1 HN2.out
            have c0 : w1.cell? ⟨wr.heap.size, 0, none⟩ = some (.int .i64 m.op) := hsb.cell 0
            have c1 : w1.cell? ⟨wr.heap.size, 1, none⟩ = some (.int .i64 m.d) := hsb.cell 1
            have c2 : w1.cell? ⟨wr.heap.size, 2, none⟩ = some (.int .i64 m.e) := hsb.cell 2
            have c3 : w1.cell? ⟨wr.heap.size, 3, none⟩ = some (.int .i64 m.a) := hsb.cell 3
            have c4 : w1.cell? ⟨wr.heap.size, 4, none⟩ = some (.int .i64 m.b) := hsb.cell 4
            have c5 : w1.cell? ⟨wr.heap.size, 5, none⟩ = some (.int .i64 m.c) := hsb.cell 5
            have c6 : w1.cell? ⟨wr.heap.size, 6, none⟩ = some (.int .i32 m.imm) := hsb.cell 6
            have c7 : w1.cell? ⟨wr.heap.size, 7, none⟩ = some (.slice aa m.args.length ac) := hsb.cell 7
            have hls := hsb.lt
            go_wp2
            exact ⟨_, rfl, rfl, trivial, hph⟩
          · go_wp2_with fail
            refine (HWHO.out _).mono ?_
            rintro e w2 ⟨rfl, hs2⟩
            obtain rfl : p = 1 := by omega
            go_wp2
            exact ⟨_, rfl, rfl, trivial, And.intro (hph.1.trans (Turn.since hs2)) (MRun.keep (s := s1) (cv := cv1) (e := 0) (v := 0) (st := st1) hph.2 hs2)⟩
          · go_wp2
            exact ⟨_, rfl, rfl, trivial, hph⟩
          · have hsb := HSA.out.turn hph.1 HN2.out
            have c0 : w1.cell? ⟨wr.heap.size, 0, none⟩ = some (.int .i64 m.op) := hsb.cell 0
            have c1 : w1.cell? ⟨wr.heap.size, 1, none⟩ = some (.int .i64 m.d) := hsb.cell 1
            have c2 : w1.cell? ⟨wr.heap.size, 2, none⟩ = some (.int .i64 m.e) := hsb.cell 2
            have c3 : w1.cell? ⟨wr.heap.size, 3, none⟩ = some (.int .i64 m.a) := hsb.cell 3
            have c4 : w1.cell? ⟨wr.heap.size, 4, none⟩ = some (.int .i64 m.b) := hsb.cell 4
            have c5 : w1.cell? ⟨wr.heap.size, 5, none⟩ = some (.int .i64 m.c) := hsb.cell 5
            have c6 : w1.cell? ⟨wr.heap.size, 6, none⟩ = some (.int .i32 m.imm) := hsb.cell 6
            have c7 : w1.cell? ⟨wr.heap.size, 7, none⟩ = some (.slice aa m.args.length ac) := hsb.cell 7
            have hls := hsb.lt
            go_wp2
            exact ⟨_, rfl, rfl, trivial, hph⟩
          · go_wp2
            exact ⟨_, rfl, rfl, trivial, hph⟩
          · obtain rfl : p = 1 := by omega
            have HC := Lib.hid (HDO.out w1 hph.2)
            go_wp2_with fail
            refine HC.out.mono ?_
            rintro e w2 ⟨rfl, hw2, ht2⟩
            go_wp2
            exact ⟨_, rfl, rfl, trivial, And.intro (hph.1.trans ht2) hw2⟩
          · go_wp2
            exact ⟨_, rfl, rfl, trivial, hph⟩
          · go_wp2
            exact ⟨_, rfl, rfl, trivial, hph⟩
        · have hdo := fun w1 (h1 : MRun c w1 s1 cv1 0 0 st1) => do_call c s1 cv1 _ m (.slice aa m.args.length ac) w1 h1 HFEW.out ho HLE.out HOK.out HFI.out
          have HWHO := Lib.hid (fun w1 => who_28 m (.slice aa m.args.length ac) w1 ho)
          generalize stepM m c.ans s1 = D at *
          obtain ⟨tr, s2⟩ := D
          dsimp only at hdo HSLS HR0
          have HDO := Lib.hid hdo
          clear hdo ho
          unfold mv at HDO HWHO
          unfold MPtr at HDO
          refine wp_region_phases [1, 10] [0, 0, 1, 1, 1, 1, 1, 1, 1, 1, 1, 2, 2] [0, 0, 1, 1, 1, 1, 1, 1, 1, 1, 1, 2, 2] [0, 1, 0, 0, 0, 0, 0, 0, 0, 0, 1, 0, 0] (BlkPh c cv1 s1 s2 tr st0 st1 wa) rfl (by decide +kernel) (by decide +kernel) (by decide +kernel)
            [Is (.pointer (some ⟨c.mb, 0, none⟩)), Is (.bool true), Is (.bool false), Is (.bool false), Is (.pointer (some ⟨wr.heap.size, 0, none⟩)), Is (.agg #[.int .i64 m.op, .int .i64 m.d, .int .i64 m.e, .int .i64 m.a, .int .i64 m.b, .int .i64 m.c, .int .i32 m.imm, .slice aa m.args.length ac]), Is (.iface 158 (.agg #[])), Is (.pointer (some ⟨wr.heap.size, 0, none⟩)), Is (.agg #[.int .i64 m.op, .int .i64 m.d, .int .i64 m.e, .int .i64 m.a, .int .i64 m.b, .int .i64 m.c, .int .i32 m.imm, .slice aa m.args.length ac]), Is (.pointer (some ⟨c.mb, 0, none⟩)), Is (.bool tr.isNone), Is (.bool tr.isSome), Is (.bool tr.isSome)]
            (by repeat (first | exact trivial | refine ⟨Is.fixed _, ?_⟩ | refine ⟨Any.fixed, ?_⟩)) ⟨Turn.since (Since.refl _).drew, HMA.out.keep (Since.refl _).drew⟩ ⟨?_, ?_, ?_, ?_, ?_, ?_, ?_, ?_, ?_, ?_, ?_, ?_, ?_, trivial⟩ ?_
          rotate_right
          · intro vs w1 _ hph hk
            simp only [putAll, Act.put, KnowsAll, nthF, Is, List.setIfInBounds_toArray, List.set_cons_zero, List.set_cons_succ, Nat.reduceAdd, List.length_cons, List.length_nil] at hk ⊢
            try simp only [hk]
            obtain ⟨cv2, hm2⟩ : ∃ cv', MRun c w1 s2 cv' (if tr.isNone then 0 else 2) (tr.getD 0) st1 := hph.2
            have hbx2 := HBA.out.turn hph.1 HN1.out
            have HM2 := Lib.hid hm2
            have HBX2 := Lib.hid hbx2
            clear hph hk hm2 hbx2
            cases tr with
            | none =>
              dsimp only [Option.isNone, Option.getD] at HM2
              dsimp only [Option.isNone, Option.getD, Option.isSome, Bool.not_true]
              go_wp2
              go_roundw
              case rel => exact ⟨k + 1, s2, cv2, f, by omega, by go_num, by omega, HSLS.out, by rw [HS1.out]; exact HM2.out, HBX2.out, HR0.out⟩
              case measure => simp [intOf]; omega
            | some t =>
              dsimp only [Option.isNone, Option.getD] at HM2
              dsimp only [Option.isNone, Option.getD, Option.isSome, Bool.not_false]
              go_wp2
              go_ret
              exact .inl ⟨rfl, _, by rw [← HR0.out]; dsimp only; rw [HS1.out]; exact HM2.out⟩
          all_goals
            intro p vs w1 hlo hhi _ hph hk
            simp only [putAll, Act.put, Knows, nthF, Is, List.setIfInBounds_toArray, List.set_cons_zero, List.set_cons_succ, Nat.reduceAdd] at hk ⊢
            try simp only [hk]
          · go_wp2
            exact ⟨_, rfl, rfl, trivial, hph⟩
          · obtain rfl : p = 0 := by omega
            have HC := Lib.hid (HSTEP.out w1 hph.2)
            go_wp2_with fail
            refine HC.out.mono ?_
            rintro e w2 ⟨rfl, hw2, ht2⟩
            go_wp2
            exact ⟨_, rfl, rfl, trivial, And.intro (hph.1.trans (ht2.mono fun _ _ h => .inl (.inl h))) hw2⟩
          · go_wp2
            exact ⟨_, rfl, rfl, trivial, hph⟩
          · go_wp2
            exact ⟨_, rfl, rfl, trivial, hph⟩
          · go_wp2
            exact ⟨_, rfl, rfl, trivial, hph⟩
          · have hsb := HSA.out.turn hph.1 HN2.out
            have c0 : w1.cell? ⟨wr.heap.size, 0, none⟩ = some (.int .i64 m.op) := hsb.cell 0
            have c1 : w1.cell? ⟨wr.heap.size, 1, none⟩ = some (.int .i64 m.d) := hsb.cell 1
            have c2 : w1.cell? ⟨wr.heap.size, 2, none⟩ = some (.int .i64 m.e) := hsb.cell 2
            have c3 : w1.cell? ⟨wr.heap.size, 3, none⟩ = some (.int .i64 m.a) := hsb.cell 3
            have c4 : w1.cell? ⟨wr.heap.size, 4, none⟩ = some (.int .i64 m.b) := hsb.cell 4
            have c5 : w1.cell? ⟨wr.heap.size, 5, none⟩ = some (.int .i64 m.c) := hsb.cell 5
            have c6 : w1.cell? ⟨wr.heap.size, 6, none⟩ = some (.int .i32 m.imm) := hsb.cell 6
            have c7 : w1.cell? ⟨wr.heap.size, 7, none⟩ = some (.slice aa m.args.length ac) := hsb.cell 7
            have hls := hsb.lt
            go_wp2
            exact ⟨_, rfl, rfl, trivial, hph⟩
          · go_wp2_with fail
            refine (HWHO.out _).mono ?_
            rintro e w2 ⟨rfl, hs2⟩
            obtain rfl : p = 1 := by omega
            go_wp2
            exact ⟨_, rfl, rfl, trivial, And.intro (hph.1.trans (Turn.since hs2)) (MRun.keep (s := s1) (cv := cv1) (e := 0) (v := 0) (st := st1) hph.2 hs2)⟩
          · go_wp2
            exact ⟨_, rfl, rfl, trivial, hph⟩
          · have hsb := HSA.out.turn hph.1 HN2.out
            have c0 : w1.cell? ⟨wr.heap.size, 0, none⟩ = some (.int .i64 m.op) := hsb.cell 0
            have c1 : w1.cell? ⟨wr.heap.size, 1, none⟩ = some (.int .i64 m.d) := hsb.cell 1
            have c2 : w1.cell? ⟨wr.heap.size, 2, none⟩ = some (.int .i64 m.e) := hsb.cell 2
            have c3 : w1.cell? ⟨wr.heap.size, 3, none⟩ = some (.int .i64 m.a) := hsb.cell 3
            have c4 : w1.cell? ⟨wr.heap.size, 4, none⟩ = some (.int .i64 m.b) := hsb.cell 4
            have c5 : w1.cell? ⟨wr.heap.size, 5, none⟩ = some (.int .i64 m.c) := hsb.cell 5
            have c6 : w1.cell? ⟨wr.heap.size, 6, none⟩ = some (.int .i32 m.imm) := hsb.cell 6
            have c7 : w1.cell? ⟨wr.heap.size, 7, none⟩ = some (.slice aa m.args.length ac) := hsb.cell 7
            have hls := hsb.lt
            go_wp2
            exact ⟨_, rfl, rfl, trivial, hph⟩
          · go_wp2
            exact ⟨_, rfl, rfl, trivial, hph⟩
          · obtain rfl : p = 1 := by omega
            have HC := Lib.hid (HDO.out w1 hph.2)
            go_wp2_with fail
            refine HC.out.mono ?_
            rintro e w2 ⟨rfl, hw2, ht2⟩
            go_wp2
            exact ⟨_, rfl, rfl, trivial, And.intro (hph.1.trans ht2) hw2⟩
          · go_wp2
            exact ⟨_, rfl, rfl, trivial, hph⟩
          · go_wp2
            exact ⟨_, rfl, rfl, trivial, hph⟩
        · have hdo := fun w1 (h1 : MRun c w1 s1 cv1 0 0 st1) => do_plain c s1 cv1 _ m (.slice aa m.args.length ac) w1 h1 ho HOK.out HFI.out hav2
          have HWHO := Lib.hid (fun w1 => who_else m (.slice aa m.args.length ac) w1 ho)
          generalize stepM m c.ans s1 = D at *
          obtain ⟨tr, s2⟩ := D
          dsimp only at hdo HSLS HR0
          have HDO := Lib.hid hdo
          clear hdo ho
          unfold mv at HDO HWHO
          unfold MPtr at HDO
          refine wp_region_phases [1, 10] [0, 0, 1, 1, 1, 1, 1, 1, 1, 1, 1, 2, 2] [0, 0, 1, 1, 1, 1, 1, 1, 1, 1, 1, 2, 2] [0, 1, 0, 0, 0, 0, 0, 0, 0, 0, 1, 0, 0] (BlkPh c cv1 s1 s2 tr st0 st1 wa) rfl (by decide +kernel) (by decide +kernel) (by decide +kernel)
            [Is (.pointer (some ⟨c.mb, 0, none⟩)), Is (.bool true), Is (.bool false), Is (.bool false), Is (.pointer (some ⟨wr.heap.size, 0, none⟩)), Is (.agg #[.int .i64 m.op, .int .i64 m.d, .int .i64 m.e, .int .i64 m.a, .int .i64 m.b, .int .i64 m.c, .int .i32 m.imm, .slice aa m.args.length ac]), Is (.iface 159 (.agg #[])), Is (.pointer (some ⟨wr.heap.size, 0, none⟩)), Is (.agg #[.int .i64 m.op, .int .i64 m.d, .int .i64 m.e, .int .i64 m.a, .int .i64 m.b, .int .i64 m.c, .int .i32 m.imm, .slice aa m.args.length ac]), Is (.pointer (some ⟨c.mb, 0, none⟩)), Is (.bool tr.isNone), Is (.bool tr.isSome), Is (.bool tr.isSome)]
            (by repeat (first | exact trivial | refine ⟨Is.fixed _, ?_⟩ | refine ⟨Any.fixed, ?_⟩)) ⟨Turn.since (Since.refl _).drew, HMA.out.keep (Since.refl _).drew⟩ ⟨?_, ?_, ?_, ?_, ?_, ?_, ?_, ?_, ?_, ?_, ?_, ?_, ?_, trivial⟩ ?_
          rotate_right
          · intro vs w1 _ hph hk
            simp only [putAll, Act.put, KnowsAll, nthF, Is, List.setIfInBounds_toArray, List.set_cons_zero, List.set_cons_succ, Nat.reduceAdd, List.length_cons, List.length_nil] at hk ⊢
            try simp only [hk]
            obtain ⟨cv2, hm2⟩ : ∃ cv', MRun c w1 s2 cv' (if tr.isNone then 0 else 2) (tr.getD 0) st1 := hph.2
            have hbx2 := HBA.out.turn hph.1 HN1.out
            have HM2 := Lib.hid hm2
            have HBX2 := Lib.hid hbx2
            clear hph hk hm2 hbx2
            cases tr with
            | none =>
              dsimp only [Option.isNone, Option.getD] at HM2
              dsimp only [Option.isNone, Option.getD, Option.isSome, Bool.not_true]
              go_wp2
              go_roundw
              case rel => exact ⟨k + 1, s2, cv2, f, by omega, by go_num, by omega, HSLS.out, by rw [HS1.out]; exact HM2.out, HBX2.out, HR0.out⟩
              case measure => simp [intOf]; omega
            | some t =>
              dsimp only [Option.isNone, Option.getD] at HM2
              dsimp only [Option.isNone, Option.getD, Option.isSome, Bool.not_false]
              go_wp2
              go_ret
              exact .inl ⟨rfl, _, by rw [← HR0.out]; dsimp only; rw [HS1.out]; exact HM2.out⟩
          all_goals
            intro p vs w1 hlo hhi _ hph hk
            simp only [putAll, Act.put, Knows, nthF, Is, List.setIfInBounds_toArray, List.set_cons_zero, List.set_cons_succ, Nat.reduceAdd] at hk ⊢
            try simp only [hk]
          · go_wp2
            exact ⟨_, rfl, rfl, trivial, hph⟩
          · obtain rfl : p = 0 := by omega
            have HC := Lib.hid (HSTEP.out w1 hph.2)
            go_wp2_with fail
            refine HC.out.mono ?_
            rintro e w2 ⟨rfl, hw2, ht2⟩
            go_wp2
            exact ⟨_, rfl, rfl, trivial, And.intro (hph.1.trans (ht2.mono fun _ _ h => .inl (.inl h))) hw2⟩
          · go_wp2
            exact ⟨_, rfl, rfl, trivial, hph⟩
          · go_wp2
            exact ⟨_, rfl, rfl, trivial, hph⟩
          · go_wp2
            exact ⟨_, rfl, rfl, trivial, hph⟩
          · have hsb := HSA.out.turn hph.1 HN2.out
            have c0 : w1.cell? ⟨wr.heap.size, 0, none⟩ = some (.int .i64 m.op) := hsb.cell 0
            have c1 : w1.cell? ⟨wr.heap.size, 1, none⟩ = some (.int .i64 m.d) := hsb.cell 1
            have c2 : w1.cell? ⟨wr.heap.size, 2, none⟩ = some (.int .i64 m.e) := hsb.cell 2
            have c3 : w1.cell? ⟨wr.heap.size, 3, none⟩ = some (.int .i64 m.a) := hsb.cell 3
            have c4 : w1.cell? ⟨wr.heap.size, 4, none⟩ = some (.int .i64 m.b) := hsb.cell 4
            have c5 : w1.cell? ⟨wr.heap.size, 5, none⟩ = some (.int .i64 m.c) := hsb.cell 5
            have c6 : w1.cell? ⟨wr.heap.size, 6, none⟩ = some (.int .i32 m.imm) := hsb.cell 6
            have c7 : w1.cell? ⟨wr.heap.size, 7, none⟩ = some (.slice aa m.args.length ac) := hsb.cell 7
            have hls := hsb.lt
            go_wp2
            exact ⟨_, rfl, rfl, trivial, hph⟩
          · go_wp2_with fail
            refine (HWHO.out _).mono ?_
            rintro e w2 ⟨rfl, hs2⟩
            obtain rfl : p = 1 := by omega
            go_wp2
            exact ⟨_, rfl, rfl, trivial, And.intro (hph.1.trans (Turn.since hs2)) (MRun.keep (s := s1) (cv := cv1) (e := 0) (v := 0) (st := st1) hph.2 hs2)⟩
          · go_wp2
            exact ⟨_, rfl, rfl, trivial, hph⟩
          · have hsb := HSA.out.turn hph.1 HN2.out
            have c0 : w1.cell? ⟨wr.heap.size, 0, none⟩ = some (.int .i64 m.op) := hsb.cell 0
            have c1 : w1.cell? ⟨wr.heap.size, 1, none⟩ = some (.int .i64 m.d) := hsb.cell 1
            have c2 : w1.cell? ⟨wr.heap.size, 2, none⟩ = some (.int .i64 m.e) := hsb.cell 2
            have c3 : w1.cell? ⟨wr.heap.size, 3, none⟩ = some (.int .i64 m.a) := hsb.cell 3
            have c4 : w1.cell? ⟨wr.heap.size, 4, none⟩ = some (.int .i64 m.b) := hsb.cell 4
            have c5 : w1.cell? ⟨wr.heap.size, 5, none⟩ = some (.int .i64 m.c) := hsb.cell 5
            have c6 : w1.cell? ⟨wr.heap.size, 6, none⟩ = some (.int .i32 m.imm) := hsb.cell 6
            have c7 : w1.cell? ⟨wr.heap.size, 7, none⟩ = some (.slice aa m.args.length ac) := hsb.cell 7
            have hls := hsb.lt
            go_wp2
            exact ⟨_, rfl, rfl, trivial, hph⟩
          · go_wp2
            exact ⟨_, rfl, rfl, trivial, hph⟩
          · obtain rfl : p = 1 := by omega
            have HC := Lib.hid (HDO.out w1 hph.2)
            go_wp2_with fail
            refine HC.out.mono ?_
            rintro e w2 ⟨rfl, hw2, ht2⟩
            go_wp2
            exact ⟨_, rfl, rfl, trivial, And.intro (hph.1.trans ht2) hw2⟩
          · go_wp2
            exact ⟨_, rfl, rfl, trivial, hph⟩
          · go_wp2
            exact ⟨_, rfl, rfl, trivial, hph⟩

    · obtain rfl : k = xins.length := by omega
      have hr0 := HRUN.out
      rw [List.drop_length] at hr0
      have HSTEP := Lib.hid (fun w1 (h1 : MRun c w1 s1 cv1 0 0 ((c.steps.toNat : Int) - (f1 : Int))) => step_any c s1 cv1 ((c.steps.toNat : Int) - (f1 : Int)) w1 h1 hst (by omega))
      cases f1 with
      | zero =>
        have hz : c.steps ≤ (c.steps.toNat : Int) - ((0 : Nat) : Int) := by omega
        unfold StepQ at HSTEP
        simp only [if_pos hz, decide_eq_true hz, Bool.not_true] at HSTEP
        unfold runAt at hr0
        have HR0 := Lib.hid hr0
        clear hr0 hz
        go_wp2_with fail
        refine (HSTEP.out _ HM.out).mono ?_
        rintro e w2 ⟨rfl, hw2, _⟩
        have HW2 := Lib.hid hw2
        clear hw2
        go_wp2
        go_ret
        exact .inl ⟨rfl, _, by rw [← HR0.out]; exact HW2.out⟩
      | succ f =>
        have hz : ¬ c.steps ≤ (c.steps.toNat : Int) - ((f + 1 : Nat) : Int) := by omega
        unfold StepQ at HSTEP
        simp only [if_neg hz, decide_eq_false hz, Bool.not_false] at HSTEP
        have hst1 : (c.steps.toNat : Int) - ((f + 1 : Nat) : Int) + 1 = (c.steps.toNat : Int) - (f : Int) := by omega
        simp only [hst1] at HSTEP
        have hfew := HM.out.few
        have hmost1 : (c.steps.toNat : Int) - (f : Int) ≤ 1000000 := by omega
        have hfew1 : (s1.calls.length : Int) ≤ (c.steps.toNat : Int) - (f : Int) := by omega
        unfold runAt at hr0
        dsimp only at hr0
        generalize hs0 : (c.steps.toNat : Int) - ((f + 1 : Nat) : Int) = st0 at *
        generalize hs1 : (c.steps.toNat : Int) - (f : Int) = st1 at *
        have HS1 := Lib.hid hs1
        have HR0 := Lib.hid hr0
        have HN := Lib.hid (HM.out.notBz HBX.out hbw (by decide))
        clear hr0 hz hs0 hs1 hst1 hfew
        go_wp2_with fail
        refine (HSTEP.out _ HM.out).mono ?_
        rintro e w2 ⟨rfl, hm2, ht2⟩
        have hbx2 := HBX.out.turn ht2 (fun hq => HN.out (.inl (.inl hq)))
        have HM2 := Lib.hid hm2
        have HB2 := Lib.hid hbx2
        have b1 := hbx2.cell 1
        have b2 := hbx2.cell 2
        have hbl := hbx2.lt
        have hfz := hm2.mat.frozen
        have g21 : w2.cell? ⟨c.mb, 21, none⟩ = some (.int .i64 0) := hm2.cellr 5
        have g22 : w2.cell? ⟨c.mb, 22, none⟩ = some (.int .i32 0) := hm2.cellr 6
        have hne : c.mb ≠ w.heap.size := by omega
        clear hm2 ht2 hbx2
        obtain ⟨hfit, hneed, hbto⟩ := endE_0 HEND.out
        have hop := fits_op hfit
        dsimp only at hop
        have HFIT := Lib.hid hfit
        have HBTO := Lib.hid hbto
        by_cases o7 : eop = 7
        · subst o7
          have hea := ret_a hneed rfl
          dsimp only at hea
          have hr1 := HR0.out
          rw [if_neg (by decide), if_pos rfl] at hr1
          have HR1 := Lib.hid hr1
          clear hr1 hfit hneed hbto HR0 hop
          by_cases h0 : 0 ≤ ea
          · obtain rfl : ea = 0 := by omega
            clear h0 hea
            go_wp2_with fail
            have hm3 : MRun c (w2.setCell ⟨c.mb, 21, none⟩ (.int .i64 1)) s1 cv1 1 0 st1 := HM2.out.set1 5 _ rfl hfew1 hmost1
            have hb3 := HB2.out.turn ((Turn.refl (fun q => q = c.mb) w2).setCell (p := ⟨c.mb, 21, none⟩) rfl (.int .i64 1)) (fun hq => hne hq.symm)
            generalize w2.setCell ⟨c.mb, 21, none⟩ (.int .i64 1) = w3 at *
            have HM3 := Lib.hid hm3
            have HB3 := Lib.hid hb3
            clear hm3 hb3 b1 b2 hfz g21 g22
            refine wp_region_since_tail 12 rfl (by decide +kernel) (by decide +kernel) (by decide +kernel) (by decide)
              [Is (.pointer (some ⟨c.mb, 0, none⟩)), Is (.pointer (some ⟨c.mb, 0, none⟩)), Is (.pointer (some ⟨w.heap.size, 1, none⟩)), Is (.pointer (some ⟨w.heap.size, 2, none⟩)), Is (.int .i64 0), Is (.pointer (some ⟨c.mb, 0, none⟩)), Is (.pointer (some ⟨c.mb, 0, none⟩)), Is (.pointer (some ⟨c.mb, 0, none⟩)), Is (.int .i32 (s1.regs.getD 0 0)), Is (.pointer (some ⟨c.mb, 0, none⟩)), Is (.pointer (some ⟨c.mb, 21, none⟩)), Is (.pointer (some ⟨c.mb, 22, none⟩))]
              (by repeat (first | exact trivial | refine ⟨Is.stable _, ?_⟩ | refine ⟨Any.stable, ?_⟩ | refine ⟨IsNums.stable _ _, ?_⟩)) ⟨?_, ?_, ?_, ?_, ?_, ?_, ?_, ?_, ?_, ?_, ?_, ?_, trivial⟩ ?_
            rotate_right
            · intro vs w1 hs hk
              simp only [List.take, List.drop, putAll, Act.put, KnowsAll, nthF, Is, List.setIfInBounds_toArray, List.set_cons_zero, List.set_cons_succ, Nat.reduceAdd] at hk ⊢
              try simp only [hk]
              have hm4 := HM3.out.keep hs
              have g22 : w1.cell? ⟨c.mb, 22, none⟩ = some (.int .i32 0) := hm4.cellr 6
              have hfz := hm4.mat.frozen
              have HM4 := Lib.hid hm4
              clear hm4 hs hk
              go_wp2
              go_ret
              exact .inl ⟨rfl, cv1, by rw [← HR1.out]; dsimp only; rw [HS1.out, if_pos (by decide)]; exact HM4.out.set1 6 _ rfl hfew1 hmost1⟩
            all_goals
              intro vs w1 hs hk _
              simp only [List.take, putAll, Act.put, Knows, nthF, Is, List.setIfInBounds_toArray, List.set_cons_zero, List.set_cons_succ, Nat.reduceAdd] at hk ⊢
              try simp only [hk]
            · go_wp2
              exact ⟨_, rfl, rfl, Since.refl _⟩
            · go_wp2
              exact ⟨_, rfl, rfl, Since.refl _⟩
            · go_wp2
              exact ⟨_, rfl, rfl, Since.refl _⟩
            · go_wp2
              exact ⟨_, rfl, rfl, Since.refl _⟩
            · have hc := (HB3.out.keep hs).cell 2
              have hl := (HB3.out.keep hs).lt
              go_wp2
              exact ⟨_, rfl, rfl, Since.refl _⟩
            · go_wp2
              exact ⟨_, rfl, rfl, Since.refl _⟩
            · go_wp2
              exact ⟨_, rfl, rfl, Since.refl _⟩
            · go_wp2
              exact ⟨_, rfl, rfl, Since.refl _⟩
            · have hc := (HM3.out.keep hs).reg (i := 0) (by decide)
              go_wp2
              exact ⟨_, rfl, rfl, Since.refl _⟩
            · go_wp2
              exact ⟨_, rfl, rfl, Since.refl _⟩
            · go_wp2
              exact ⟨_, rfl, rfl, Since.refl _⟩
            · go_wp2
              exact ⟨_, rfl, rfl, Since.refl _⟩
          · have hd : decide (0 ≤ ea) = false := decide_eq_false h0
            have HH0 := Lib.hid h0
            clear hea h0
            go_wp2
            go_ret
            exact .inl ⟨rfl, cv1, by rw [← HR1.out]; dsimp only; rw [HS1.out, if_neg (by have := HH0.out; omega)]; exact HM2.out.set1 5 _ rfl hfew1 hmost1⟩
        by_cases o8 : eop = 8
        · subst o8
          have hr1 := HR0.out
          rw [if_pos rfl] at hr1
          have HR1 := Lib.hid hr1
          clear hr1 hfit hneed hbto HR0 hop o7 g21 g22 hfz
          go_wp2_with fail
          refine wp_region_phases [8, 12] [0, 0, 0, 0, 0, 0, 0, 0, 0, 1, 1, 1, 1] [0, 1, 1, 1, 1, 0, 0, 0, 0, 1, 1, 1, 1] [0, 0, 0, 0, 0, 0, 0, 0, 1, 0, 0, 0, 1] (TrapPh c cv1 s1 st1 eimm w.heap.size _) rfl (by decide +kernel) (by decide +kernel) (by decide +kernel)
            [Is (.pointer (some ⟨c.mb, 0, none⟩)), Is (.pointer (some ⟨c.mb, 0, none⟩)), Is (.pointer (some ⟨w.heap.size, 1, none⟩)), Is (.pointer (some ⟨w.heap.size, 5, none⟩)), Is (.int .i32 eimm), Is (.pointer (some ⟨c.mb, 0, none⟩)), Is (.pointer (some ⟨c.mb, 21, none⟩)), Is (.pointer (some ⟨c.mb, 21, none⟩)), Any, Is (.pointer (some ⟨c.mb, 0, none⟩)), Is (.pointer (some ⟨c.mb, 21, none⟩)), Is (.pointer (some ⟨c.mb, 22, none⟩)), Any]
            (by repeat (first | exact trivial | refine ⟨Is.fixed _, ?_⟩ | refine ⟨Any.fixed, ?_⟩)) (And.intro (HB2.out.keep (Since.refl _).drew) (HM2.out.keep (Since.refl _).drew)) ⟨?_, ?_, ?_, ?_, ?_, ?_, ?_, ?_, ?_, ?_, ?_, ?_, ?_, trivial⟩ ?_
          rotate_right
          · intro vs w1 _ hph hk
            simp only [putAll, Act.put, KnowsAll, nthF, Is, Any, List.setIfInBounds_toArray, List.set_cons_zero, List.set_cons_succ, Nat.reduceAdd, List.length_cons, List.length_nil] at hk ⊢
            try simp only [hk]
            have hm2 : MRun c w1 s1 cv1 2 eimm st1 := hph.2
            have HM4 := Lib.hid hm2
            clear hm2 hph hk
            go_wp2
            go_ret
            exact .inl ⟨rfl, cv1, by rw [← HR1.out]; dsimp only; rw [HS1.out]; exact HM4.out⟩
          all_goals
            intro p vs w1 hlo hhi _ hph hk
            simp only [putAll, Act.put, Knows, nthF, Is, Any, List.setIfInBounds_toArray, List.set_cons_zero, List.set_cons_succ, Nat.reduceAdd] at hk ⊢
            try simp only [hk]
          · go_wp2
            exact ⟨_, rfl, rfl, trivial, hph⟩
          · go_wp2
            exact ⟨_, rfl, rfl, trivial, hph⟩
          · go_wp2
            exact ⟨_, rfl, rfl, trivial, hph⟩
          · go_wp2
            exact ⟨_, rfl, rfl, trivial, hph⟩
          · have hc := hph.1.cell 5
            have hl := hph.1.lt
            go_wp2
            exact ⟨_, rfl, rfl, trivial, hph⟩
          · go_wp2
            exact ⟨_, rfl, rfl, trivial, hph⟩
          · go_wp2
            exact ⟨_, rfl, rfl, trivial, hph⟩
          · go_wp2
            exact ⟨_, rfl, rfl, trivial, hph⟩
          · obtain rfl : p = 0 := by omega
            have hm0 : MRun c w1 s1 cv1 0 0 st1 := hph.2
            have g21 : w1.cell? ⟨c.mb, 21, none⟩ = some (.int .i64 0) := hm0.cellr 5
            have hfz := hm0.mat.frozen
            go_wp2
            exact ⟨.bool true, rfl, trivial, trivial, And.intro (HeapIs.turn hph.1 ((Turn.refl (fun q => q = c.mb) w1).setCell (p := ⟨c.mb, 21, none⟩) rfl _) (fun hq => hne hq.symm)) (hm0.set1 (e' := 2) (v' := 0) 5 _ rfl hfew1 hmost1)⟩
          · go_wp2
            exact ⟨_, rfl, rfl, trivial, hph⟩
          · go_wp2
            exact ⟨_, rfl, rfl, trivial, hph⟩
          · go_wp2
            exact ⟨_, rfl, rfl, trivial, hph⟩
          · obtain rfl : p = 1 := by omega
            have hm0 : MRun c w1 s1 cv1 2 0 st1 := hph.2
            have g22 : w1.cell? ⟨c.mb, 22, none⟩ = some (.int .i32 0) := hm0.cellr 6
            have hfz := hm0.mat.frozen
            go_wp2
            exact ⟨.bool true, rfl, trivial, trivial, And.intro (HeapIs.turn hph.1 ((Turn.refl (fun q => q = c.mb) w1).setCell (p := ⟨c.mb, 22, none⟩) rfl _) (fun hq => hne hq.symm)) (hm0.set1 (e' := 2) (v' := eimm) 6 _ rfl hfew1 hmost1)⟩
        · have n7 : (eop == 7) = false := by simpa using o7
          have n8 : (eop == 8) = false := by simpa using o8
          have hr1 := HR0.out
          rw [if_neg o8, if_neg o7] at hr1
          have HR1 := Lib.hid hr1
          have hglt := goes_lt ⟨eop, ea, eb, eto, .slice ta eto.length tc, eimm⟩ s1.regs HFIT.out hop.1 (by dsimp only; omega)
          have hgoes := fun w1 (h1 : MRun c w1 s1 cv1 0 0 st1) => goes_any ⟨eop, ea, eb, eto, .slice ta eto.length tc, eimm⟩ s1.regs c.mb 16 _ _ w1 h1.mat (by rw [h1.len]; decide) h1.r32 (HTO.out.keep h1.old) HFIT.out hop.1 (by dsimp only; omega)
          rw [HM2.out.len] at hgoes
          generalize goes ⟨eop, ea, eb, eto, .slice ta eto.length tc, eimm⟩ s1.regs = g at *
          dsimp only at hglt
          obtain ⟨_, hc⟩ := nums_cell HTO.out
          obtain ⟨TB, toff, rfl, hTB, hcell⟩ := hc (by intro e; rw [e] at hglt; simp at hglt)
          obtain ⟨tg, htg⟩ : ∃ x, eto[g]? = some x := ⟨_, List.getElem?_eq_getElem hglt⟩
          have htb := badTo_mem hbto (List.mem_of_getElem? htg)
          obtain ⟨j, rfl⟩ := Int.eq_ofNat_of_zero_le (show 0 ≤ tg by omega)
          have hjl : j < p.blocks.length := by omega
          have hj2 : p.blocks[j]? = some p.blocks[j] := List.getElem?_eq_getElem hjl
          generalize p.blocks[j] = b' at hj2
          have hgd : eto.getD g 0 = (j : Int) := by rw [List.getD_eq_getElem?_getD, htg]; rfl
          have hr2 := HR1.out
          rw [hgd, Int.toNat_natCast, hj2] at hr2
          have hcT := fun w1 (h1 : Since c.w0 w1) => (h1.cell (p := ⟨TB, toff + g, none⟩) hTB).trans (hcell g _ htg)
          have HCT := Lib.hid hcT
          have HR2 := Lib.hid hr2
          have HJ := Lib.hid hj2
          have HGO := Lib.hid hgoes
          clear hr1 hr2 hj2 hcT hgoes hgd htb htg hcell hc hTB hfit hneed hbto HR0 HR1 g21 g22 hfz o7 o8 hop
          unfold ev at HGO
          go_wp2_with fail
          refine wp_region_since_tail 13 rfl (by decide +kernel) (by decide +kernel) (by decide +kernel) (by decide)
            [Is (.pointer (some ⟨w.heap.size, 1, none⟩)), Is (.pointer (some ⟨w.heap.size, 4, none⟩)), Is (.slice (some ⟨TB, toff, none⟩) eto.length tc), Is (.pointer (some ⟨w.heap.size, 1, none⟩)), Is (.agg #[.int .i64 eop, .int .i64 ea, .int .i64 eb, .slice (some ⟨TB, toff, none⟩) eto.length tc, .int .i32 eimm]), Is (.pointer (some ⟨c.mb, 0, none⟩)), Is (.pointer (some ⟨c.mb, 0, none⟩)), Is (.pointer (some ⟨c.mb, 0, none⟩)), Is (.slice (some ⟨c.mb, 0, none⟩) 16 16), Is (.int .i64 g), Is (.pointer (some ⟨TB, toff + g, none⟩)), Is (.int .i64 j), Is (.int .i64 j)]
            (by repeat (first | exact trivial | refine ⟨Is.stable _, ?_⟩ | refine ⟨Any.stable, ?_⟩ | refine ⟨IsNums.stable _ _, ?_⟩)) ⟨?_, ?_, ?_, ?_, ?_, ?_, ?_, ?_, ?_, ?_, ?_, ?_, ?_, trivial⟩ ?_
          rotate_right
          · intro vs w1 hs hk
            simp only [List.take, List.drop, putAll, Act.put, KnowsAll, nthF, Is, List.setIfInBounds_toArray, List.set_cons_zero, List.set_cons_succ, Nat.reduceAdd] at hk ⊢
            try simp only [hk]
            have hm5 := HM2.out.keep hs
            have HM5 := Lib.hid hm5
            clear hm5 hs hk
            go_wp2
            go_ret
            exact .inr ⟨j, b', s1, cv1, f, rfl, HJ.out, by omega, HSL1.out, by rw [HS1.out]; exact HM5.out, HR2.out⟩
          all_goals
            intro vs w1 hs hk _
            simp only [List.take, putAll, Act.put, Knows, nthF, Is, List.setIfInBounds_toArray, List.set_cons_zero, List.set_cons_succ, Nat.reduceAdd] at hk ⊢
            try simp only [hk]
          · go_wp2
            exact ⟨_, rfl, rfl, Since.refl _⟩
          · go_wp2
            exact ⟨_, rfl, rfl, Since.refl _⟩
          · have hc := (HB2.out.keep hs).cell 4
            have hl := (HB2.out.keep hs).lt
            go_wp2
            exact ⟨_, rfl, rfl, Since.refl _⟩
          · go_wp2
            exact ⟨_, rfl, rfl, Since.refl _⟩
          · have hl := (HB2.out.keep hs).lt
            have c1 := (HB2.out.keep hs).cell 1
            have c2 := (HB2.out.keep hs).cell 2
            have c3 := (HB2.out.keep hs).cell 3
            have c4 := (HB2.out.keep hs).cell 4
            have c5 := (HB2.out.keep hs).cell 5
            go_wp2
            exact ⟨_, rfl, rfl, Since.refl _⟩
          · go_wp2
            exact ⟨_, rfl, rfl, Since.refl _⟩
          · go_wp2
            exact ⟨_, rfl, rfl, Since.refl _⟩
          · go_wp2
            exact ⟨_, rfl, rfl, Since.refl _⟩
          · go_wp2
            exact ⟨_, rfl, rfl, Since.refl _⟩
          · have HC := Lib.hid (HGO.out w1 (HM2.out.keep hs))
            go_wp2_with fail
            refine HC.out.mono ?_
            rintro e w5 ⟨rfl, hs5⟩
            go_wp2
            exact ⟨_, rfl, rfl, hs5⟩
          · go_wp2
            exact ⟨_, rfl, rfl, Since.refl _⟩
          · have hc := HCT.out w1 (HM2.out.keep hs).old
            go_wp2
            exact ⟨_, rfl, rfl, Since.refl _⟩
          · go_wp2
            exact ⟨_, rfl, rfl, Since.refl _⟩
end Go.Proofs.Ytkpbmbhejpmboaa
