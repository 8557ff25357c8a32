/- phys.Run. -/
import Derived.Test.YtkpbmbhejpmboaaRunHead
namespace Go.Proofs.Ytkpbmbhejpmboaa
open Go.RowKit
set_option linter.unusedVariables false

set_option maxHeartbeats 4000000 in
set_option maxRecDepth 100000 in
theorem run_any (p : PrgV) (i : InV) (w : World) (hp : PrgOk w p) (hi : InOk w i) : Calls Try.prog 18 #[pv p, iv i] w (RunQ p i w) := by
  obtain ⟨ba, bc, hbv, hbmax⟩ := hp.1.shape
  obtain ⟨params, k, slots, blocks, bv⟩ := p
  dsimp only at hbv hbmax
  subst hbv
  obtain ⟨args, argsv, mem, memv, ans, ansv, steps⟩ := i
  obtain ⟨⟨hi1, hi2, hi3⟩, ⟨ha32, hm32, hn32⟩, hsteps⟩ := hi
  dsimp only at hi1 hi2 hi3 ha32 hm32 hn32 hsteps
  obtain ⟨aa, ac, rfl⟩ := nums_lenI hi1
  obtain ⟨ma, mc, rfl⟩ := nums_lenI hi2
  obtain ⟨na, nc, rfl⟩ := nums_lenI hi3
  have hri := fun w' (hs : Since w w') => right_any ⟨params, k, slots, blocks, .slice ba blocks.length bc⟩ w' (hp.keep hs)
  have hmy := fun w' (hs : Since w w') => memory_any (.slice aa args.length ac) (.slice ma mem.length mc) (.slice na ans.length nc) steps mem w' (hi2.keep hs)
  have HP := Lib.hid hp; clear hp
  have HI1 := Lib.hid hi1; clear hi1
  have HI3 := Lib.hid hi3; clear hi3
  unfold pv at hri ⊢
  unfold iv
  dsimp only at hri ⊢
  generalize hM0 : mem.take 4096 = M0 at hmy
  have HM0 := Lib.hid hM0; clear hM0
  have HMY := Lib.hid hmy; clear hmy hi2
  generalize hrb : rightB ⟨params, k, slots, blocks, .slice ba blocks.length bc⟩ = rb at *
  have HRB := Lib.hid hrb; clear hrb
  have HRI := Lib.hid hri; clear hri
  obtain ⟨w3, hw3⟩ : ∃ x, x = ((w.alloc (.cells #[.int .i64 params, .int .i64 k, .int .i64 slots, .slice ba blocks.length bc] 24)).alloc (.cells #[.slice aa args.length ac, .slice ma mem.length mc, .slice na ans.length nc, .int .i64 steps] 36)).alloc (.cells #[.int .i64 0, .int .i32 0, .slice none 0 0, .slice none 0 0, .int .i64 0] 42) := ⟨_, rfl⟩
  have hs3 : Since w w3 := by rw [hw3]; exact (((Since.refl w).alloc _).alloc _).alloc _
  have hb1 : HeapIs w3 w.heap.size #[.int .i64 params, .int .i64 k, .int .i64 slots, .slice ba blocks.length bc] 24 := by rw [hw3]; exact ((HeapIs.new _ _ _).keep ((Since.refl _).alloc _)).keep ((Since.refl _).alloc _)
  have hb2 : HeapIs w3 (w.heap.size + 1) #[.slice aa args.length ac, .slice ma mem.length mc, .slice na ans.length nc, .int .i64 steps] 36 := by
    rw [hw3]
    have := HeapIs.new (w.alloc (.cells #[.int .i64 params, .int .i64 k, .int .i64 slots, .slice ba blocks.length bc] 24)) #[.slice aa args.length ac, .slice ma mem.length mc, .slice na ans.length nc, .int .i64 steps] 36
    rw [show (w.alloc (.cells #[.int .i64 params, .int .i64 k, .int .i64 slots, .slice ba blocks.length bc] 24)).heap.size = w.heap.size + 1 from by simp] at this
    exact this.keep ((Since.refl _).alloc _)
  have hb3 : HeapIs w3 (w.heap.size + 2) #[.int .i64 0, .int .i32 0, .slice none 0 0, .slice none 0 0, .int .i64 0] 42 := by
    rw [hw3]
    have := HeapIs.new ((w.alloc (.cells #[.int .i64 params, .int .i64 k, .int .i64 slots, .slice ba blocks.length bc] 24)).alloc (.cells #[.slice aa args.length ac, .slice ma mem.length mc, .slice na ans.length nc, .int .i64 steps] 36)) #[.int .i64 0, .int .i32 0, .slice none 0 0, .slice none 0 0, .int .i64 0] 42
    rw [show ((w.alloc (.cells #[.int .i64 params, .int .i64 k, .int .i64 slots, .slice ba blocks.length bc] 24)).alloc (.cells #[.slice aa args.length ac, .slice ma mem.length mc, .slice na ans.length nc, .int .i64 steps] 36)).heap.size = w.heap.size + 2 from by simp] at this
    exact this
  have HS3 := Lib.hid hs3
  have HB1 := Lib.hid hb1
  have HB2 := Lib.hid hb2
  have HB3 := Lib.hid hb3
  clear hs3 hb1 hb2 hb3
  go_enter Try.func18, Try.ntmps18
  go_wp2_with fail
  rw [← hw3]
  clear hw3
  refine (HRI.out _ HS3.out).mono ?_
  rintro e w4 ⟨rfl, hs4⟩
  have HS4 := Lib.hid (HS3.out.trans hs4)
  have hb1 := HB1.out.keep hs4
  have hb2 := HB2.out.keep hs4
  have hb3 := HB3.out.keep hs4
  have HB1 := Lib.hid hb1
  have HB2 := Lib.hid hb2
  have HB3 := Lib.hid hb3
  clear hs4 hb1 hb2 hb3
  cases rb with
  | false =>
    go_wp2_with (refine wpList_store_row rfl 42 _ _ rfl (w.heap.size + 2) #[.int .i64 4, .int .i32 0, .slice none 0 0, .slice none 0 0, .int .i64 0] rfl rfl 42 _ HB3.out (by kernel_rfl) rfl (by rw [← Array.all_toList]; rfl) ?_)
    have hb5 : HeapIs (w4.setRow (w.heap.size + 2) #[.int .i64 4, .int .i32 0, .slice none 0 0, .slice none 0 0, .int .i64 0]) (w.heap.size + 2) #[.int .i64 4, .int .i32 0, .slice none 0 0, .slice none 0 0, .int .i64 0] 42 := setRow_block HB3.out _
    have hs5 : Since w (w4.setRow (w.heap.size + 2) #[.int .i64 4, .int .i32 0, .slice none 0 0, .slice none 0 0, .int .i64 0]) := (setRow_turn (S := fun q => q = w.heap.size + 2) rfl _).toSince HS4.out (fun q hq e => by omega)
    generalize w4.setRow (w.heap.size + 2) #[.int .i64 4, .int .i32 0, .slice none 0 0, .slice none 0 0, .int .i64 0] = w5 at *
    have c0 := hb5.cell 0
    have c1 := hb5.cell 1
    have c2 := hb5.cell 2
    have c3 := hb5.cell 3
    have c4 := hb5.cell 4
    have hl5 := hb5.lt
    have HS5 := Lib.hid hs5
    clear hb5 hs5
    go_wp2
    exact bodyPost_ret (v := .agg #[.int .i64 4, .int .i32 0, .slice none 0 0, .slice none 0 0, .int .i64 0]) (by simp [results, Try.results18, go_sem, c0, c1, c2, c3, c4]) rfl (by
      have hpr : runP ⟨params, k, slots, blocks, .slice ba blocks.length bc⟩ ⟨args, .slice aa args.length ac, mem, .slice ma mem.length mc, ans, .slice na ans.length nc, steps⟩ = ⟨4, 0, [], [], 0⟩ := by unfold runP; rw [HRB.out]; rfl
      refine ⟨_, rfl, ?_, HS5.out⟩
      rw [hpr]
      exact ⟨.slice none 0 0, .slice none 0 0, rfl, .inl ⟨rfl, rfl⟩, EvRow.nil _ _, fun q (hq : none = some q) => (nomatch hq)⟩)
  | true =>
    obtain ⟨hpa, hk, hsl, hne, hbl⟩ := right_head HRB.out
    dsimp only at hpa hk hsl hne hbl
    obtain ⟨hpa1, hpa2⟩ := hpa
    obtain ⟨P, rfl⟩ := Int.eq_ofNat_of_zero_le hpa1
    obtain ⟨sl, rfl⟩ := Int.eq_ofNat_of_zero_le hsl.1
    have hsl2 : sl ≤ 16384 := by omega
    have HK := Lib.hid hk.2
    have HNE := Lib.hid hne
    have HBL := Lib.hid (fun b hb => blkE_none (blkList_all hbl b hb))
    clear hsl hk hne hbl
    obtain ⟨ti, hti, hz0, hz1, hz2⟩ := info_parts (P := Try.prog) (e := 21) (z := .int .i32 0) (size := 1) (bytes := 4) (by kernel_rfl)
    go_wp2_with fail
    refine wp_region_list_facts rfl (by decide +kernel) (by decide +kernel)
      [Is (.pointer (some ⟨w.heap.size, 2, none⟩)), Is (.int .i64 sl), ZeroRow w4 sl, Is (.agg #[.slice aa args.length ac, .slice ma mem.length mc, .slice na ans.length nc, .int .i64 steps]), MachV w4 sl (.slice aa args.length ac) (.slice ma mem.length mc) (.slice na ans.length nc) steps, MachP w4 sl (.slice aa args.length ac) (.slice ma mem.length mc) (.slice na ans.length nc) steps, MachP w4 sl (.slice aa args.length ac) (.slice ma mem.length mc) (.slice na ans.length nc) steps]
      (by repeat (first | exact trivial | refine ⟨Is.stable _, ?_⟩ | refine ⟨IsNums.stable _ _, ?_⟩ | refine ⟨IsRows.stable _ _, ?_⟩ | refine ⟨ZeroRow.stable _ _, ?_⟩ | refine ⟨MachV.stable _ _ _ _ _ _, ?_⟩ | refine ⟨MachP.stable _ _ _ _ _ _, ?_⟩)) ⟨?_, ?_, ?_, ?_, ?_, ?_, ?_, trivial⟩ ?_
    all_goals
      intro vs w1 hs hk
      simp only [putAll, Act.put, Knows, KnowsAll, nthF, Is, List.setIfInBounds_toArray, List.set_cons_zero, List.set_cons_succ, Nat.reduceAdd, List.length_cons, List.length_nil] at hk ⊢
      try simp only [hk]
    · go_wp2
      exact ⟨_, rfl, rfl, Since.refl _⟩
    · have hc := (HB1.out.keep hs).cell 2
      have hl := (HB1.out.keep hs).lt
      go_wp2
      exact ⟨_, rfl, rfl, Since.refl _⟩
    · refine wpList_make_full _ rfl (.tmp 12) (.tmp 12) 34 rfl w1.heap.size 21 ti (.int .i32 0) 1 Try.underlying34 hti hz0 hz1 .i64 .i64 _ _ sl rfl rfl rfl rfl (by rw [hz2]; omega) (by unfold maxLen; omega) (Nat.le_refl _) ?_
      intro w2 hown hgrow
      obtain ⟨hs2, hz⟩ := made_zeros hown hgrow
      go_wp2
      exact ⟨_, rfl, ⟨_, rfl, hz, hs.size⟩, hs2⟩
    · have hc0 := (HB2.out.keep hs).cell 0
      have hc1 := (HB2.out.keep hs).cell 1
      have hc2 := (HB2.out.keep hs).cell 2
      have hc3 := (HB2.out.keep hs).cell 3
      have hl := (HB2.out.keep hs).lt
      go_wp2
      exact ⟨_, rfl, rfl, Since.refl _⟩
    · obtain ⟨b5, hv5, hz5, hb5⟩ := hk.1
      simp only [hv5]
      go_wp2
      exact ⟨_, rfl, ⟨b5, rfl, hz5, hb5⟩, Since.refl _⟩
    · obtain ⟨b5, hv5, hz5, hb5⟩ := hk.1
      simp only [hv5]
      have HZ5 := Lib.hid hz5
      clear hk hv5 hz5
      unfold mach0
      go_wp2
      exact ⟨_, rfl, ⟨b5, _, rfl, HZ5.out.keep ((Since.refl _).alloc _), hb5, hs.size, HeapIs.new _ _ _⟩, (Since.refl _).alloc _⟩
    · have h5 := hk.1
      clear hk
      generalize vs 5 = v5 at *
      go_wp2
      exact ⟨_, rfl, h5, Since.refl _⟩
    · obtain ⟨b5, mb, hv5, hz5, hb5, hmb5, hm5⟩ := hk.2.2.2.2.2.2.1
      simp only [hv5]
      have HS1 := Lib.hid hs
      have HM5 := Lib.hid hm5
      have HZ5 := Lib.hid hz5
      have hbm := fun i => (HB2.out.keep hs).cell i
      have i0 := hbm 0
      have i1 := hbm 1
      have i2 := hbm 2
      have i3 := hbm 3
      have hbl2 := (HB2.out.keep hs).lt
      have hne : b5 ≠ mb := by
        intro e
        subst e
        have h1 : w1.heap[b5]? = _ := hz5
        have h2 : w1.heap[b5]? = _ := hm5
        rw [h1] at h2
        simp only [Option.some.injEq, Obj.cells.injEq] at h2
        exact absurd h2.2.1 (by decide)
      clear hs hk hv5 hz5 hm5 hbm
      go_wp2_with fail
      refine (HMY.out _ (HS4.out.trans HS1.out)).mono ?_
      rintro e6 w6 ⟨v6, rfl, hv6, hq6, hs6⟩
      obtain ⟨a6, c6, hv6s, _⟩ := hv6.shape
      subst hv6s
      have hm6 := HM5.out.keep hs6
      have g23 : w6.cell? ⟨mb, 23, none⟩ = some (.slice none 0 0) := hm6.cell 23
      have hfz : ∀ i, w6.frozen? ⟨mb, i, none⟩ = false := fun i => by simp [World.frozen?, show w6.heap[mb]? = _ from hm6]
      have HM6 := Lib.hid hm6
      have HZ6 := Lib.hid (HZ5.out.keep hs6)
      have HB16 := Lib.hid ((HB1.out.keep HS1.out).keep hs6)
      have HB26 := Lib.hid ((HB2.out.keep HS1.out).keep hs6)
      have HB36 := Lib.hid ((HB3.out.keep HS1.out).keep hs6)
      have HS6 := Lib.hid (HS1.out.trans hs6)
      have HV6 := Lib.hid hv6
      have HQ6 := Lib.hid (show ∀ q, Value.ownBlock (.slice a6 M0.length c6) = some q → w1.heap.size ≤ q ∧ q < w6.heap.size from hq6)
      have HMB := Lib.hid (show mb < w1.heap.size ∧ b5 < w1.heap.size from ⟨HM5.out.lt, HZ5.out.lt⟩)
      clear hs6 hm6 hv6 hq6 i0 i1 i2 i3 hbl2
      go_wp2_with fail
      have hset : HeapIs (w6.setCell ⟨mb, 23, none⟩ (.slice a6 M0.length c6)) mb (mach0 (.slice (some ⟨b5, 0, none⟩) sl sl) (.slice aa args.length ac) (.slice ma mem.length mc) (.slice na ans.length nc) steps (.slice a6 M0.length c6)) 91 := by
        have h1 : w6.heap[mb]? = _ := HM6.out
        unfold HeapIs
        simp only [World.setCell, Array.getElem?_modify, h1]
        simp [mach0]
      have t7 : Turn (fun q => q = mb) w6 (w6.setCell ⟨mb, 23, none⟩ (.slice a6 M0.length c6)) := (Turn.refl (fun q => q = mb) w6).setCell (p := ⟨mb, 23, none⟩) rfl _
      generalize w6.setCell ⟨mb, 23, none⟩ (.slice a6 M0.length c6) = w7 at *
      have hlt4 : ∀ q, q < w4.heap.size → ¬ q = mb := fun q hq e => by omega
      have HS7 := Lib.hid (t7.toSince HS6.out hlt4)
      have HM7 := Lib.hid hset
      have HZ7 := Lib.hid (HZ6.out.turn t7 hne)
      have hqmb : ∀ q, Value.ownBlock (.slice a6 M0.length c6) = some q → ¬ q = mb := fun q hq e => by have := (HQ6.out q hq).1; have := HMB.out.1; omega
      have HV7 := Lib.hid (HV6.out.turn t7 hqmb)
      have HB17 := Lib.hid (HB16.out.turn t7 (by have := HB1.out.lt; omega))
      have HB27 := Lib.hid (HB26.out.turn t7 (by have := HB2.out.lt; omega))
      have HB37 := Lib.hid (HB36.out.turn t7 (by have := HB3.out.lt; omega))
      have HSZ7 := Lib.hid t7.size
      clear hset t7 g23 hfz hqmb
      refine wp_region_since_tail 8 rfl (by decide +kernel) (by decide +kernel) (by decide +kernel) (by decide)
        [Is (.pointer (some ⟨mb, 0, none⟩)), Is (.pointer (some ⟨mb, 0, none⟩)), Is (.pointer (some ⟨mb, 0, none⟩)), Is (.pointer (some ⟨w.heap.size, 0, none⟩)), Is (.int .i64 P), Is (.slice (some ⟨mb, 0, none⟩) P 16), Is (.pointer (some ⟨w.heap.size + 1, 0, none⟩)), Is (.slice aa args.length ac)]
        (by repeat (first | exact trivial | refine ⟨Is.stable _, ?_⟩ | refine ⟨Any.stable, ?_⟩ | refine ⟨IsNums.stable _ _, ?_⟩)) ⟨?_, ?_, ?_, ?_, ?_, ?_, ?_, ?_, trivial⟩ ?_
      rotate_right
      · intro vs w8 hs hk
        simp only [List.take, List.drop, putAll, Act.put, KnowsAll, nthF, Is, List.setIfInBounds_toArray, List.set_cons_zero, List.set_cons_succ, Nat.reduceAdd] at hk ⊢
        try simp only [hk]
        have hI8 : Nums .i32 w8 (.slice aa args.length ac) args := HI1.out.keep (HS4.out.trans (HS7.out.trans hs))
        have HS8 := Lib.hid hs
        have HM8 := Lib.hid (HM7.out.keep hs)
        have HZ8 := Lib.hid (HZ7.out.keep hs)
        have HV8 := Lib.hid (HV7.out.keep hs)
        have HB18 := Lib.hid (HB17.out.keep hs)
        have HB28 := Lib.hid (HB27.out.keep hs)
        have HB38 := Lib.hid (HB37.out.keep hs)
        have HI8 := Lib.hid hI8
        clear hs hk hI8
        refine wpList_copy_nums rfl _ _ 34 34 rfl 21 Try.underlying34 (by kernel_rfl) mb P 16 aa args.length ac rfl rfl args HI8.out _ 91 HM8.out (by simp; omega) ?_
        intro v9 w9 hm9 t9
        rw [regs_copy P args _ (by omega)] at hm9
        have hw9 : WAt w9 mb (regsP P args) [.slice (some ⟨b5, 0, none⟩) sl sl, .slice aa args.length ac, .slice ma mem.length mc, .slice na ans.length nc, .int .i64 steps, .int .i64 0, .int .i32 0, .slice a6 M0.length c6, .slice none 0 0, .int .i64 0, .int .i64 0] 91 := hm9
        have hqmb : ∀ q, Value.ownBlock (.slice a6 M0.length c6) = some q → ¬ q = mb := fun q hq e => by have := (HQ6.out q hq).1; have := HMB.out.1; omega
        have hs49 : Since w4 w9 := t9.toSince (HS7.out.trans HS8.out) hlt4
        have hz9 := HZ8.out.turn t9 hne
        have hv9 := HV8.out.turn t9 hqmb
        have hsz9 : w6.heap.size ≤ w9.heap.size := Nat.le_trans HSZ7.out (Nat.le_trans HS8.out.size t9.size)
        obtain ⟨c, hc⟩ : ∃ c : Cfg, c = ⟨w4, mb, w9.heap.size, .slice (some ⟨b5, 0, none⟩) sl sl, .slice aa args.length ac, .slice ma mem.length mc, .slice na ans.length nc, steps, .slice a6 M0.length c6, ans⟩ := ⟨_, rfl⟩
        have hm0 : MRun c w9 ⟨regsP P args, List.replicate sl 0, M0, []⟩ (.slice none 0 0) 0 0 0 := by
          rw [hc]
          refine ⟨hs49, hmb5, hw9.lt, Nat.le_refl _, hw9, regsP_len _ _, regsP_32 ha32, fun x hx => ?_, fun x hx => ?_, .inr ⟨b5, sl, [], 21, by simp, ?_, by simp; omega⟩, fun q hq => ?_, hv9, fun q hq => ?_, ?_, by decide, HI3.out.keep HS4.out, hn32, EvRow.nil _ _⟩
          · obtain ⟨_, rfl⟩ := List.mem_replicate.1 hx; exact ⟨by omega, by omega⟩
          · rw [← HM0.out] at hx; exact hm32 x (List.mem_of_mem_take hx)
          · have h1 : w9.heap[b5]? = _ := hz9
            unfold WAt
            rw [h1]
            simp [zeros]
          · obtain rfl : b5 = q := Option.some.inj hq
            exact ⟨hb5, hz9.lt, hne⟩
          · have h1 := HQ6.out q hq
            have h2 := HMB.out
            exact ⟨Nat.le_trans HS1.out.size h1.1, by dsimp only; omega, hqmb q hq, fun e => by have := Option.some.inj e; dsimp only at this; omega⟩
          · exact Int.le_refl _
        have hcmb : c.mb = mb := by rw [hc]
        have hcst : c.steps = steps := by rw [hc]
        have hcan : c.ans = ans := by rw [hc]
        have hcw : c.w0 = w4 := by rw [hc]
        obtain ⟨b0, hb0⟩ : ∃ b, blocks[0]? = some b := by
          cases blocks with
          | nil => exact absurd rfl HNE.out
          | cons b r => exact ⟨b, rfl⟩
        generalize hF : runAt ⟨P, k, sl, blocks, .slice ba blocks.length bc⟩ ans steps.toNat ⟨regsP P args, List.replicate sl 0, M0, []⟩ b0 b0.ins = F
        have hpr : runP ⟨P, k, sl, blocks, .slice ba blocks.length bc⟩ ⟨args, .slice aa args.length ac, mem, .slice ma mem.length mc, ans, .slice na ans.length nc, steps⟩ = outOf steps.toNat F := by
          unfold runP
          rw [HRB.out, if_pos rfl]
          dsimp only
          cases blocks with
          | nil => exact absurd rfl HNE.out
          | cons b r =>
            obtain rfl : b = b0 := by simpa using hb0
            dsimp only
            unfold st0
            rw [regsP_eq _ _ P rfl, ← hF]
            dsimp only
            rw [Int.toNat_natCast, HM0.out]
        have HF := Lib.hid hF
        have HPR := Lib.hid hpr
        have HC := Lib.hid hc
        have HM := Lib.hid hm0
        have HB0 := Lib.hid hb0
        have HCW := Lib.hid hcw
        have HCA := Lib.hid hcan
        have HCS := Lib.hid hcst
        have HS49 := Lib.hid hs49
        have hmbne : mb ≠ w.heap.size + 2 := by have := HB3.out.lt; omega
        clear hF hpr hm0 hb0 hcw hcan hcst hs49 hz9 hv9 hw9 hm9 t9 hqmb hsz9 hc
        go_wp2_with fail
        go_loopw [6] (fun i wr => (∃ (j : Nat) (b' : BlkV) (s' : St) (cv' : Value) (f' : Nat), i = .int .i64 j ∧ blocks[j]? = some b' ∧ f' ≤ steps.toNat ∧ s'.slots.length = sl ∧ MRun c wr s' cv' 0 0 ((steps.toNat : Int) - (f' : Int)) ∧ runAt ⟨P, k, sl, blocks, .slice ba blocks.length bc⟩ ans f' s' b' b'.ins = F) ∨ (i = .int .i64 (-1) ∧ ∃ cv', MRun c wr F.s cv' F.e F.v ((steps.toNat : Int) - (F.left : Int)))) (fun i wr => if intOf i < 0 then 0 else 1 + ((steps.toNat : Int) - stOf wr mb).toNat)
        case atStart => exact .inl ⟨0, b0, _, _, steps.toNat, rfl, HB0.out, Nat.le_refl _, by simp, by rw [Int.sub_self]; exact HM.out, HF.out⟩
        case round =>
          rcases hrel with ⟨j, b', s', cv', f', rfl, hbj, hf', hsl', hm', hr'⟩ | ⟨rfl, cv', hm'⟩
          · obtain ⟨hleg, hend⟩ := HBL.out b' (List.mem_of_getElem? hbj)
            have hjl : j < blocks.length := (List.getElem?_eq_some_iff.1 hbj).1
            have hold := hm'.old
            rw [HCW.out] at hold
            have hstw := hm'.stOf
            rw [hcmb] at hstw
            have HSW := Lib.hid hstw
            have hwr : Since w wr := HS4.out.trans hold
            have hbx1 := HB1.out.keep hold
            obtain ⟨B, off, x, rfl, hB, hx, hcB, hok⟩ := RowIn.at HP.out.1 hjl
            rw [hbj] at hx
            cases hx
            obtain ⟨xins, xinsv, ⟨eop, ea, eb, eto, etov, eimm⟩⟩ := b'
            obtain ⟨hok1, hok2, hok3⟩ := hok
            dsimp only at hok1 hok2 hok3 hleg hend hr'
            obtain ⟨ia, ic, rfl, hil⟩ := hok1.shape
            obtain ⟨ta, tc, rfl⟩ := nums_lenI hok2
            have hblk := block_any c ⟨P, k, sl, blocks, .slice (some ⟨B, off, none⟩) blocks.length bc⟩ xins ia ic eop ea eb eto ta tc eimm f' s' cv' wr (by rw [HCS.out]; exact hm') (by rw [HCS.out]; exact hf') (by rw [HCS.out]; exact hsteps) (by rw [hsl']; rfl) HK.out (by rw [HCW.out]; exact RowIn.keep PlOk.keep hok1 HS4.out) (by rw [HCW.out]; exact hok2.keep HS4.out) hleg hend
            unfold MPtr at hblk
            rw [hcmb, HCA.out, hr'] at hblk
            unfold BlockQ at hblk
            rw [HCS.out] at hblk
            have HBLK := Lib.hid hblk
            have hcw := fun t ht => (hwr.cell (p := ⟨B, off + j * 6 + t, none⟩) hB).trans (hcB t ht)
            have c0 : wr.cell? ⟨B, off + j * 6, none⟩ = some (.slice ia xins.length ic) := hcw 0 (by decide)
            have c1 : wr.cell? ⟨B, off + j * 6 + 1, none⟩ = some (.int .i64 eop) := hcw 1 (by decide)
            have c2 : wr.cell? ⟨B, off + j * 6 + 2, none⟩ = some (.int .i64 ea) := hcw 2 (by decide)
            have c3 : wr.cell? ⟨B, off + j * 6 + 3, none⟩ = some (.int .i64 eb) := hcw 3 (by decide)
            have c4 : wr.cell? ⟨B, off + j * 6 + 4, none⟩ = some (.slice ta eto.length tc) := hcw 4 (by decide)
            have c5 : wr.cell? ⟨B, off + j * 6 + 5, none⟩ = some (.int .i32 eimm) := hcw 5 (by decide)
            have p3 : wr.cell? ⟨w.heap.size, 3, none⟩ = some (.slice (some ⟨B, off, none⟩) blocks.length bc) := hbx1.cell 3
            have hbl1 := hbx1.lt
            clear hcw hcB hB hok1 hok2 hok3 hleg hend hr' hm' hold hwr hbx1 hblk hbj hil hstw
            go_wp2_with fail
            refine HBLK.out.mono ?_
            rintro e2 w2 (⟨rfl, cv2, hm2⟩ | ⟨j2, b2, s2, cv2, f2, rfl, hb2, hf2, hsl2, hm2, hr2⟩)
            · have HM2 := Lib.hid hm2
              clear hm2 c0 c1 c2 c3 c4 c5 p3 hbl1
              go_wp2
              go_roundw
              case rel => exact .inr ⟨rfl, cv2, HM2.out⟩
              case measure =>
                rw [if_pos (by decide), if_neg (by simp [intOf])]
                omega
            · have HM2 := Lib.hid hm2
              have HX2 := Lib.hid (show blocks[j2]? = some b2 from hb2)
              have HR2 := Lib.hid hr2
              have hst2 := hm2.stOf
              rw [hcmb] at hst2
              have HST2 := Lib.hid hst2
              clear hm2 hb2 hr2 hst2 c0 c1 c2 c3 c4 c5 p3 hbl1
              go_wp2
              go_roundw
              case rel => exact .inl ⟨j2, b2, s2, cv2, f2, rfl, HX2.out, by omega, hsl2, HM2.out, by rw [← HCA.out]; exact HR2.out⟩
              case measure =>
                rw [if_neg (by simp [intOf]), if_neg (by simp [intOf]), HST2.out, HSW.out]
                omega
          · generalize hX : (steps.toNat : Int) - (F.left : Int) = X at *
            have HX := Lib.hid hX
            clear hX
            have hold := hm'.old
            rw [HCW.out] at hold
            have d0 : wr.cell? ⟨mb, 21, none⟩ = some (.int .i64 F.e) := by rw [← hcmb]; exact hm'.cellr 5
            have d1 : wr.cell? ⟨mb, 22, none⟩ = some (.int .i32 F.v) := by rw [← hcmb]; exact hm'.cellr 6
            have d2 : wr.cell? ⟨mb, 23, none⟩ = some (.slice a6 M0.length c6) := by rw [← hcmb]; exact (hm'.cellr 7).trans (by rw [HC.out]; rfl)
            have d3 : wr.cell? ⟨mb, 24, none⟩ = some cv' := by rw [← hcmb]; exact hm'.cellr 8
            have d4 : wr.cell? ⟨mb, 25, none⟩ = some (.int .i64 X) := by rw [← hcmb]; exact hm'.cellr 9
            have hmbl : mb < wr.heap.size := by rw [← hcmb]; exact hm'.size
            have hb4 := HB3.out.keep hold
            have HBX := Lib.hid hb4
            have HMF := Lib.hid hm'
            have HOLD := Lib.hid hold
            clear hold hb4 hm'
            obtain ⟨evs, hev, _⟩ := HMF.out.calls
            obtain ⟨ca, cc, hcv⟩ := OwnRow.shape hev
            subst hcv
            clear hev
            go_wp2_with (refine wpList_store_row rfl 42 _ _ rfl (w.heap.size + 2) #[.int .i64 F.e, .int .i32 F.v, .slice a6 M0.length c6, .slice ca evs.length cc, .int .i64 X] rfl rfl 42 _ HBX.out (by kernel_rfl) rfl (by rw [← Array.all_toList]; rfl) ?_)
            have hb5' : HeapIs (wr.setRow (w.heap.size + 2) #[.int .i64 F.e, .int .i32 F.v, .slice a6 M0.length c6, .slice ca evs.length cc, .int .i64 X]) (w.heap.size + 2) #[.int .i64 F.e, .int .i32 F.v, .slice a6 M0.length c6, .slice ca evs.length cc, .int .i64 X] 42 := setRow_block HBX.out _
            have t5 : Turn (fun q => q = w.heap.size + 2) wr (wr.setRow (w.heap.size + 2) #[.int .i64 F.e, .int .i32 F.v, .slice a6 M0.length c6, .slice ca evs.length cc, .int .i64 X]) := setRow_turn (S := fun q => q = w.heap.size + 2) rfl _
            generalize wr.setRow (w.heap.size + 2) #[.int .i64 F.e, .int .i32 F.v, .slice a6 M0.length c6, .slice ca evs.length cc, .int .i64 X] = w5 at *
            have e0 := hb5'.cell 0
            have e1 := hb5'.cell 1
            have e2 := hb5'.cell 2
            have e3 := hb5'.cell 3
            have e4 := hb5'.cell 4
            have hl5 := hb5'.lt
            have hs5 : Since w w5 := t5.toSince (HS4.out.trans HOLD.out) (fun q hq e => by omega)
            have hlb3 := HB3.out.lt
            have hbase : w4.heap.size ≤ c.base := by have h1 := HMF.out.lt; have h2 := HMF.out.new; rw [HCW.out] at h2; omega
            have hmm : MemIs w5 (.slice a6 M0.length c6) F.s.mem := by
              have h1 := HMF.out.mem
              rw [show c.outm = .slice a6 M0.length c6 from by rw [HC.out]] at h1
              exact h1.turn t5 fun q hq e => by have := (HQ6.out q hq).1; have := HS1.out.size; omega
            have hcc := (HMF.out.calls.turn t5 fun q hq e => by omega)
            have hq6 : ∀ q, Value.ownBlock (.slice a6 M0.length c6) = some q → w.heap.size ≤ q := fun q hq => by have := (HQ6.out q hq).1; have := HS1.out.size; have := HS4.out.size; omega
            have hww : w.heap.size ≤ c.base := by have := HS4.out.size; omega
            have HS5 := Lib.hid hs5
            have HMM := Lib.hid hmm
            have HCC := Lib.hid hcc
            have HQQ := Lib.hid hq6
            have HWW := Lib.hid hww
            clear hb5' t5 hs5 hmm hcc hq6 hww hbase d0 d1 d2 d3 d4 hlb3
            go_wp2
            exact bodyPost_ret (v := .agg #[.int .i64 F.e, .int .i32 F.v, .slice a6 M0.length c6, .slice ca evs.length cc, .int .i64 X]) (by simp [results, Try.results18, go_sem, e0, e1, e2, e3, e4]) rfl (by
              refine ⟨_, rfl, ?_, HS5.out⟩
              rw [HPR.out]
              exact ⟨_, _, by rw [← HX.out]; rfl, HMM.out, HCC.out.base_le HWW.out, HQQ.out⟩)
      all_goals
        intro vs w8 hs hk _
        simp only [List.take, putAll, Act.put, Knows, nthF, Is, List.setIfInBounds_toArray, List.set_cons_zero, List.set_cons_succ, Nat.reduceAdd] at hk ⊢
        try simp only [hk]
      · go_wp2
        exact ⟨_, rfl, rfl, Since.refl _⟩
      · go_wp2
        exact ⟨_, rfl, rfl, Since.refl _⟩
      · go_wp2
        exact ⟨_, rfl, rfl, Since.refl _⟩
      · go_wp2
        exact ⟨_, rfl, rfl, Since.refl _⟩
      · have hc := (HB17.out.keep hs).cell 0
        have hl := (HB17.out.keep hs).lt
        go_wp2
        exact ⟨_, rfl, rfl, Since.refl _⟩
      · have hP2 : P ≤ 16 := by omega
        have hP1 : (P : Int) ≤ 16 := by omega
        go_wp2
        exact ⟨_, rfl, rfl, Since.refl _⟩
      · go_wp2
        exact ⟨_, rfl, rfl, Since.refl _⟩
      · have hc := (HB27.out.keep hs).cell 0
        have hl := (HB27.out.keep hs).lt
        go_wp2
        exact ⟨_, rfl, rfl, Since.refl _⟩
end Go.Proofs.Ytkpbmbhejpmboaa
