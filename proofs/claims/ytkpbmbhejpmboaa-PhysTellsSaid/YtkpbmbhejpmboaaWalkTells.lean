/- jacquardlaw12.PhysTells walked. -/
import Derived.Test.YtkpbmbhejpmboaaFew
import Derived.Test.YtkpbmbhejpmboaaInput
import Derived.Test.YtkpbmbhejpmboaaSame
import Derived.Test.YtkpbmbhejpmboaaRefRun
import Derived.Test.YtkpbmbhejpmboaaRun
import Derived.Test.YtkpbmbhejpmboaaShown12
namespace Go.Proofs.Ytkpbmbhejpmboaa
open Go.RowKit
set_option linter.unusedVariables false

/-- An outcome that reads as o. -/
def OutTV (o : OutP) (v : Value) (w : World) : Prop := ∃ base, OutIs w base v o
theorem OutTV.stable (o : OutP) : Stable (OutTV o) := fun v w w' ⟨b, h⟩ s => ⟨b, h.since s⟩

set_option maxHeartbeats 4000000 in
set_option maxRecDepth 100000 in
theorem walk_tells (p : PrgV) (sv : Value) (l : List Int) (w : World) (hp : PrgIn w p) (hs : Ints w sv l) : Calls Try.prog 3 #[pv p, sv] w (TellsS true w) := by
  have hfd0 : ∀ (z y x : Int) (wX : World), (Instr.field 32 (.agg #[.int .i64 z, .int .i64 y, .int .i64 x]) 0).run Try.prog wX = .ok (.int .i64 z) wX := fun _ _ _ _ => by kernel_rfl
  obtain ⟨sa, sc, rfl⟩ := nums_lenI hs
  generalize hsn : l.length = sn at *
  obtain ⟨oa, oc, hov, _⟩ := RowIn.shape hp
  have hfew := fun w1 (h : Since w w1) => few_any p w1 (hp.keep h)
  have hin := fun w1 (h : Since w w1) => lawinput_any (.slice sa sn sc) l w1 (hs.keep h)
  obtain ⟨oparams, ok, oslots, oblocks, obv⟩ := p
  unfold pv at hfew ⊢
  dsimp only at hov hfew ⊢
  subst hov
  generalize oblocks.length = on at *
  have HFEW := Lib.hid hfew
  have HIN := Lib.hid hin
  clear hp hs hsn hfew hin
  go_enter Try.func3, Try.ntmps3
  go_wp2_with fail
  refine (shown_any _).mono ?_
  rintro e0 w1 ⟨rfl, hs1⟩
  have hz1 := (HeapIs.new w #[.int .i64 oparams, .int .i64 ok, .int .i64 oslots, .slice oa on oc] 24).keep hs1
  have hq1 := ((Since.refl w).alloc _).trans hs1
  have k0 := hz1.cell 0
  have k1 := hz1.cell 1
  have k2 := hz1.cell 2
  have k3 := hz1.cell 3
  have kl := hz1.lt
  have HZ1 := Lib.hid hz1
  have HQ1 := Lib.hid hq1
  clear hz1 hq1 hs1
  go_wp2_with fail
  refine (HFEW.out _ HQ1.out).mono ?_
  rintro e2 w2 ⟨p2, rfl, hok, hs2⟩
  have hpo := hok w2 (fun _ => False) (Turn.refl _ _) (fun _ h => h.elim)
  obtain ⟨ba, bc, hbv, _⟩ := hpo.1.shape
  have hz2 := HZ1.out.keep hs2
  have HZ2 := Lib.hid hz2
  have HQ2 := Lib.hid (HQ1.out.trans hs2)
  have HOK := Lib.hid hok
  clear hpo hok hz2 hs2 k0 k1 k2 k3 kl
  obtain ⟨params, k, slots, blocks, bv⟩ := p2
  unfold pv
  dsimp only at hbv ⊢
  subst hbv
  generalize hn : blocks.length = n at *
  go_upto_region 3 with (refine wpList_store_row rfl 24 _ _ rfl w.heap.size #[.int .i64 params, .int .i64 k, .int .i64 slots, .slice ba n bc] rfl rfl 24 _ HZ2.out (by kernel_rfl) rfl (by rw [← Array.all_toList]; rfl) ?_)
  have hb3 := setRow_block HZ2.out #[.int .i64 params, .int .i64 k, .int .i64 slots, .slice ba n bc]
  have t3 : Turn (fun q => q = w.heap.size) w2 (w2.setRow w.heap.size #[.int .i64 params, .int .i64 k, .int .i64 slots, .slice ba n bc]) := setRow_turn (S := fun q => q = w.heap.size) rfl _
  have hpo := HOK.out _ _ t3 (fun q e => by have h1 : q = w.heap.size := e; have := HZ1.out.lt; omega)
  have hs3 := t3.toSince HQ2.out fun q hq e => by omega
  generalize w2.setRow w.heap.size #[.int .i64 params, .int .i64 k, .int .i64 slots, .slice ba n bc] = w3 at *
  have hb3 : HeapIs w3 w.heap.size #[.int .i64 params, .int .i64 k, .int .i64 slots, .slice ba n bc] 24 := hb3
  have hfunc := fun w1 (h : Since w3 w1) => func_any ⟨params, k, slots, blocks, .slice ba n bc⟩ w1 (hpo.keep h)
  have hrf := fun w1 (h : Since w3 w1) => rfunc_any ⟨params, k, slots, blocks, .slice ba n bc⟩ w1 (hpo.keep h)
  have hright := fun w1 (h : Since w3 w1) => right_any ⟨params, k, slots, blocks, .slice ba n bc⟩ w1 (hpo.keep h)
  have hrun := fun w1 (h : Since w3 w1) (i : InV) (hi : InOk w1 i) => run_any ⟨params, k, slots, blocks, .slice ba n bc⟩ i w1 (hpo.keep h) hi
  have hrrun := fun w1 (h : Since w3 w1) (i : InV) (hi : InOk w1 i) => rrun_any ⟨params, k, slots, blocks, .slice ba n bc⟩ i w1 (hpo.keep h) hi
  unfold rightB at hright
  unfold FuncP at hfunc
  unfold GotP at hrf
  unfold pv at hfunc hrf hright hrun hrrun
  dsimp only at hfunc hrf hright hrun hrrun
  generalize (funcE ⟨params, k, slots, blocks, .slice ba n bc⟩).1 = fe at *
  generalize ((funcE ⟨params, k, slots, blocks, .slice ba n bc⟩).2.1 : Nat) = fb at *
  generalize ((funcE ⟨params, k, slots, blocks, .slice ba n bc⟩).2.2 : Nat) = fp at *
  generalize hPRG : (⟨params, k, slots, blocks, .slice ba n bc⟩ : PrgV) = PRG at *
  have HFUNC := Lib.hid hfunc
  have HRF := Lib.hid hrf
  have HRIGHT := Lib.hid hright
  have HRUN := Lib.hid hrun
  have HRRUN := Lib.hid hrrun
  have HB3 := Lib.hid hb3
  have HS3 := Lib.hid hs3
  have k0 := hb3.cell 0
  have k1 := hb3.cell 1
  have k2 := hb3.cell 2
  have k3 := hb3.cell 3
  have kl := hb3.lt
  clear hfunc hrf hright hrun hrrun hb3 hs3 t3 hpo hPRG hn HOK HZ2 HZ1 HQ1 HQ2 HFEW
  go_wp2_with fail
  refine (HFUNC.out _ (Since.refl _)).mono ?_
  rintro e4 w4 ⟨rfl, hs4⟩
  have hz4 := HB3.out.keep hs4
  have HS4 := Lib.hid hs4
  clear k0 k1 k2 k3 kl
  have k0 := hz4.cell 0
  have k1 := hz4.cell 1
  have k2 := hz4.cell 2
  have k3 := hz4.cell 3
  have kl := hz4.lt
  clear hs4 hz4
  go_wp2_with fail
  refine (HRF.out _ HS4.out).mono ?_
  rintro e5 w5 ⟨rfl, hs5⟩
  have HS5 := Lib.hid (HS4.out.trans hs5)
  clear hs5 k0 k1 k2 k3 kl
  go_wp2_with fail
  refine (HIN.out _ (HS3.out.trans (HS5.out.alloc _))).mono ?_
  rintro e6 w6 ⟨⟨i1, v1, i2, v2, i3, v3, st⟩, rfl, hiok, hq1, hq2, hq3, hq4, hs6, hq5⟩
  clear hq1 hq2 hq3 hq4 hq5
  obtain ⟨a1, c1, hv1⟩ := nums_lenI hiok.1.1
  obtain ⟨a2, c2, hv2⟩ := nums_lenI hiok.1.2.1
  obtain ⟨a3, c3, hv3⟩ := nums_lenI hiok.1.2.2
  dsimp only at hv1 hv2 hv3
  subst hv1 hv2 hv3
  unfold iv
  dsimp only
  generalize i1.length = n1 at *
  generalize i2.length = n2 at *
  generalize i3.length = n3 at *
  have hg := (HeapIs.new w5 #[.int .i64 fe, .int .i64 fb, .int .i64 fp] 32).keep hs6
  have HG := Lib.hid hg
  have HS6 := Lib.hid ((HS5.out.alloc _).trans hs6)
  have HIOK := Lib.hid hiok
  clear hg hs6 hiok
  go_wp2_with fail
  obtain ⟨w7, hw7⟩ : ∃ x, x = w6.alloc (.cells #[.slice a1 n1 c1, .slice a2 n2 c2, .slice a3 n3 c3, .int .i64 st] 36) := ⟨_, rfl⟩
  have hi7 : HeapIs w7 w6.heap.size #[.slice a1 n1 c1, .slice a2 n2 c2, .slice a3 n3 c3, .int .i64 st] 36 := by rw [hw7]; exact HeapIs.new _ _ _
  have hs7 : Since w6 w7 := by rw [hw7]; exact (Since.refl _).alloc _
  rw [← hw7]
  have HI7 := Lib.hid hi7
  have HB7 := Lib.hid (HB3.out.keep (HS6.out.trans hs7))
  have HG7 := Lib.hid (HG.out.keep hs7)
  have HOK7 := Lib.hid (HIOK.out.keep hs7)
  have HS7 := Lib.hid (HS6.out.trans hs7)
  have hee : (fe == fe) = true := by simp
  have hbb : ((fb : Int) == (fb : Int)) = true := by simp
  have hpp : ((fp : Int) == (fp : Int)) = true := by simp
  have hrr : ((fe == 0) == (fe == 0)) = true := by simp
  clear hi7 hs7 hw7 HG HIOK HB3
  refine wp_region_list_facts rfl (by decide +kernel) (by decide +kernel)
    (Is (.bool true) :: Is (.bool true) :: Is (.int .i64 fe) :: Is (.pointer (some ⟨w5.heap.size, 0, none⟩)) :: Is (.int .i64 fe) :: Is (.bool true) :: Is (.bool true) :: Is (.bool true) :: Is (.int .i64 fb) :: Is (.pointer (some ⟨w5.heap.size, 1, none⟩)) :: Is (.int .i64 fb) :: Is (.bool true) :: Is (.bool true) :: Is (.bool true) :: Is (.int .i64 fp) :: Is (.pointer (some ⟨w5.heap.size, 2, none⟩)) :: Is (.int .i64 fp) :: Is (.bool true) :: Is (.bool true) :: Is (.bool true) :: Is (.agg #[.int .i64 params, .int .i64 k, .int .i64 slots, .slice ba n bc]) :: Is (.bool (fe == 0)) :: Is (.int .i64 fe) :: Is (.bool (fe == 0)) :: Is (.bool true) :: Is (.bool true) :: Is (.bool true) :: Is (.agg #[.int .i64 params, .int .i64 k, .int .i64 slots, .slice ba n bc]) :: Is (.agg #[.slice a1 n1 c1, .slice a2 n2 c2, .slice a3 n3 c3, .int .i64 st]) :: OutTV (runP PRG ⟨i1, .slice a1 n1 c1, i2, .slice a2 n2 c2, i3, .slice a3 n3 c3, st⟩) :: Is (.agg #[.int .i64 params, .int .i64 k, .int .i64 slots, .slice ba n bc]) :: Is (.agg #[.slice a1 n1 c1, .slice a2 n2 c2, .slice a3 n3 c3, .int .i64 st]) :: OutTV (runP PRG ⟨i1, .slice a1 n1 c1, i2, .slice a2 n2 c2, i3, .slice a3 n3 c3, st⟩) :: Is (.bool true) :: Is (.bool true) :: Is (.bool true) :: [])
    (by repeat (first | exact trivial | refine ⟨Is.stable _, ?_⟩ | refine ⟨IsNums.stable _ _, ?_⟩ | refine ⟨IsRows.stable _ _, ?_⟩ | refine ⟨OutTV.stable _, ?_⟩)) ⟨?_, ?_, ?_, ?_, ?_, ?_, ?_, ?_, ?_, ?_, ?_, ?_, ?_, ?_, ?_, ?_, ?_, ?_, ?_, ?_, ?_, ?_, ?_, ?_, ?_, ?_, ?_, ?_, ?_, ?_, ?_, ?_, ?_, ?_, ?_, ?_, trivial⟩ ?_
  all_goals
    intro vs w8 hs hk
    simp only [putAll, Act.put, Knows, KnowsAll, nthF, Is, List.setIfInBounds_toArray, List.set_cons_zero, List.set_cons_succ, Nat.reduceAdd, List.length_cons, List.length_nil] at hk ⊢
    try simp only [hk]
  · go_wp2
    exact ⟨_, rfl, rfl, Since.refl _⟩
  · go_wp2
    exact ⟨_, rfl, rfl, Since.refl _⟩
  · go_wp2
    exact ⟨_, rfl, rfl, Since.refl _⟩
  · go_wp2
    exact ⟨_, rfl, rfl, Since.refl _⟩
  · have hc := (HG7.out.keep hs).cell 0
    have hl := (HG7.out.keep hs).lt
    go_wp2
    exact ⟨_, rfl, rfl, Since.refl _⟩
  · go_wp2
    exact ⟨_, rfl, rfl, Since.refl _⟩
  · go_wp2
    exact ⟨_, rfl, rfl, Since.refl _⟩
  · go_wp2
    exact ⟨_, rfl, rfl, Since.refl _⟩
  · go_wp2
    exact ⟨_, rfl, rfl, Since.refl _⟩
  · go_wp2
    exact ⟨_, rfl, rfl, Since.refl _⟩
  · have hc := (HG7.out.keep hs).cell 1
    have hl := (HG7.out.keep hs).lt
    go_wp2
    exact ⟨_, rfl, rfl, Since.refl _⟩
  · go_wp2
    exact ⟨_, rfl, rfl, Since.refl _⟩
  · go_wp2
    exact ⟨_, rfl, rfl, Since.refl _⟩
  · go_wp2
    exact ⟨_, rfl, rfl, Since.refl _⟩
  · go_wp2
    exact ⟨_, rfl, rfl, Since.refl _⟩
  · go_wp2
    exact ⟨_, rfl, rfl, Since.refl _⟩
  · have hc := (HG7.out.keep hs).cell 2
    have hl := (HG7.out.keep hs).lt
    go_wp2
    exact ⟨_, rfl, rfl, Since.refl _⟩
  · go_wp2
    exact ⟨_, rfl, rfl, Since.refl _⟩
  · go_wp2
    exact ⟨_, rfl, rfl, Since.refl _⟩
  · go_wp2
    exact ⟨_, rfl, rfl, Since.refl _⟩
  · have hz := HB7.out.keep hs
    have c0 := hz.cell 0
    have c1 := hz.cell 1
    have c2 := hz.cell 2
    have c3 := hz.cell 3
    have hl := hz.lt
    clear hz
    go_wp2
    exact ⟨_, rfl, rfl, Since.refl _⟩
  · go_wp2_with fail
    refine (HRIGHT.out _ (HS7.out.trans hs)).mono ?_
    rintro e wN ⟨rfl, hsN⟩
    go_wp2
    exact ⟨_, rfl, rfl, hsN⟩
  · go_wp2
    exact ⟨_, rfl, rfl, Since.refl _⟩
  · go_wp2
    exact ⟨_, rfl, rfl, Since.refl _⟩
  · go_wp2
    exact ⟨_, rfl, rfl, Since.refl _⟩
  · go_wp2
    exact ⟨_, rfl, rfl, Since.refl _⟩
  · go_wp2
    exact ⟨_, rfl, rfl, Since.refl _⟩
  · have hz := HB7.out.keep hs
    have c0 := hz.cell 0
    have c1 := hz.cell 1
    have c2 := hz.cell 2
    have c3 := hz.cell 3
    have hl := hz.lt
    clear hz
    go_wp2
    exact ⟨_, rfl, rfl, Since.refl _⟩
  · have hz := HI7.out.keep hs
    have c0 := hz.cell 0
    have c1 := hz.cell 1
    have c2 := hz.cell 2
    have c3 := hz.cell 3
    have hl := hz.lt
    clear hz
    go_wp2
    exact ⟨_, rfl, rfl, Since.refl _⟩
  · have HC := Lib.hid (HRUN.out w8 (HS7.out.trans hs) ⟨i1, .slice a1 n1 c1, i2, .slice a2 n2 c2, i3, .slice a3 n3 c3, st⟩ (HOK7.out.keep hs))
    unfold iv at HC
    dsimp only at HC
    go_wp2_with fail
    refine HC.out.mono ?_
    rintro eN wN ⟨vN, rfl, hoN, hsN⟩
    have HSN := Lib.hid hsN
    have HON := Lib.hid hoN
    clear hsN hoN
    obtain ⟨p1, p2, p3, p4, p5, hvN⟩ := HON.out.shapeV
    subst hvN
    go_wp2
    exact ⟨_, rfl, ⟨_, HON.out⟩, HSN.out⟩
  · have hz := HB7.out.keep hs
    have c0 := hz.cell 0
    have c1 := hz.cell 1
    have c2 := hz.cell 2
    have c3 := hz.cell 3
    have hl := hz.lt
    clear hz
    go_wp2
    exact ⟨_, rfl, rfl, Since.refl _⟩
  · have hz := HI7.out.keep hs
    have c0 := hz.cell 0
    have c1 := hz.cell 1
    have c2 := hz.cell 2
    have c3 := hz.cell 3
    have hl := hz.lt
    clear hz
    go_wp2
    exact ⟨_, rfl, rfl, Since.refl _⟩
  · have HC := Lib.hid (HRRUN.out w8 (HS7.out.trans hs) ⟨i1, .slice a1 n1 c1, i2, .slice a2 n2 c2, i3, .slice a3 n3 c3, st⟩ (HOK7.out.keep hs))
    unfold iv at HC
    dsimp only at HC
    go_wp2_with fail
    refine HC.out.mono ?_
    rintro eN wN ⟨vN, rfl, hoN, hsN⟩
    have HSN := Lib.hid hsN
    have HON := Lib.hid hoN
    clear hsN hoN
    obtain ⟨p1, p2, p3, p4, p5, hvN⟩ := HON.out.shapeV
    subst hvN
    go_wp2
    exact ⟨_, rfl, ⟨_, HON.out⟩, HSN.out⟩
  · obtain ⟨b1, h1⟩ := hk.1
    obtain ⟨b2, h2⟩ := hk.2.1
    have HC := Lib.hid (alike_any _ _ _ b1 b2 w8 h1 h2)
    clear h1 h2
    go_wp2_with fail
    refine HC.out.mono ?_
    rintro eN wN ⟨rfl, hsN⟩
    go_wp2
    exact ⟨_, rfl, rfl, hsN⟩
  · go_wp2
    exact ⟨_, rfl, rfl, Since.refl _⟩
  · go_wp2
    exact ⟨_, rfl, rfl, Since.refl _⟩
  · have HSN := Lib.hid hs
    clear hs hk
    go_wp2
    go_ret
    exact ⟨rfl, HS3.out.trans (HS7.out.trans HSN.out)⟩
end Go.Proofs.Ytkpbmbhejpmboaa
