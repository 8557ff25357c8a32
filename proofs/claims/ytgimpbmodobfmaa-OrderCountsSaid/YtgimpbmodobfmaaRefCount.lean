/- jacquardref17.count, jacquardref17.Orders. -/
import Derived.Test.YtgimpbmodobfmaaPlainCount
import Derived.Test.YtgimpbmodobfmaaPlainDep
namespace Go.Proofs.Ytgimpbmodobfmaa
open Go.RowKit
set_option linter.unusedVariables false

def gonesL (n g : Nat) : List Bool := (List.range n).map fun i => g.testBit i
/-- Block gb tells which are in g. -/
def GoneAt (w : World) (gb n g : Nat) : Prop := w.heap[gb]? = some (.cells ((gonesL n g).map Value.bool).toArray 4 (0, 0))
theorem GoneAt.cell {w : World} {gb n g i : Nat} (h : GoneAt w gb n g) (hi : i < n) : w.cell? ⟨gb, i, none⟩ = some (.bool (g.testBit i)) := by
  simp [World.cell?, show w.heap[gb]? = _ from h, gonesL, hi]
theorem GoneAt.open {w : World} {gb n g : Nat} (h : GoneAt w gb n g) (i : Nat) : w.frozen? ⟨gb, i, none⟩ = false := by
  simp [World.frozen?, show w.heap[gb]? = _ from h]
theorem GoneAt.lt {w : World} {gb n g : Nat} (h : GoneAt w gb n g) : gb < w.heap.size := (Array.getElem?_eq_some_iff.1 h).1
theorem GoneAt.keep {w w' : World} {gb n g : Nat} (h : GoneAt w gb n g) (s : Since w w') : GoneAt w' gb n g := (Below.block s gb h.lt).trans h
theorem GoneAt.set {w : World} {gb n g : Nat} (h : GoneAt w gb n g) (i : Nat) (hi : i < n) : GoneAt (w.setCell ⟨gb, i, none⟩ (.bool true)) gb n (g ||| 2 ^ i) := by
  unfold GoneAt at h ⊢
  have e : gonesL n (g ||| 2 ^ i) = (gonesL n g).set i true := by
    apply List.ext_getElem?; intro t
    simp only [gonesL, List.getElem?_map, List.getElem?_set, List.length_map, List.length_range, Nat.testBit_or, Nat.testBit_two_pow]
    by_cases ht : t < n
    · by_cases hti : i = t
      · subst hti; simp [ht]
      · simp [ht, hti]
    · by_cases hti : i = t
      · subst hti; simp [ht]
      · simp [ht, hti]
  rw [e]
  simp [World.setCell, Array.getElem?_modify, h, List.map_set]
/-- What is set and unset again is as it was. -/
theorem gone_back {w w2 : World} {gb n g i : Nat} (h : GoneAt w gb n g) (hi : i < n) (hb : g.testBit i = false) (s : Since (w.setCell ⟨gb, i, none⟩ (.bool true)) w2) : Since w (w2.setCell ⟨gb, i, none⟩ (.bool false)) := by
  have h1 := (h.set i hi).keep s
  have hsz : (w.setCell ⟨gb, i, none⟩ (.bool true)).heap.size = w.heap.size := by simp [World.setCell]
  refine ⟨s.os, s.tape, s.output, ?_, ?_⟩
  · have := s.size
    simp only [World.setCell, Array.size_modify] at this ⊢
    exact this
  · intro k hk
    by_cases hkb : k = gb
    · subst hkb
      have e : gonesL n g = (gonesL n (g ||| 2 ^ i)).set i false := by
        apply List.ext_getElem?; intro t
        simp only [gonesL, List.getElem?_map, List.getElem?_set, List.length_map, List.length_range, Nat.testBit_or, Nat.testBit_two_pow]
        by_cases ht : t < n
        · by_cases hti : i = t
          · subst hti; simp [ht, hb]
          · simp [ht, hti]
        · by_cases hti : i = t
          · subst hti; simp [ht]
          · simp [ht, hti]
      rw [show w.heap[k]? = _ from h, e]
      have h1' : w2.heap[k]? = _ := h1
      simp [World.setCell, Array.getElem?_modify, h1', List.map_set]
    · rw [Below.heap_setCell _ _ _ _ hkb]
      have := Below.block s k (by rw [hsz]; exact hk)
      rw [this, Below.heap_setCell _ _ _ _ hkb]

set_option maxHeartbeats 4000000 in
theorem rcount_any (ms : List (Mach × Value)) (v : Value) (w0 : World) (h0 : Machs w0 v ms) (hn : ms.length ≤ 12) (gb : Nat) (hgb : w0.heap.size ≤ gb) : ∀ (f g : Nat) (w : World), unset ms.length g < f → g < 2 ^ ms.length → Since w0 w → GoneAt w gb ms.length g →
    Calls Try.prog 24 #[v, .slice (some ⟨gb, 0, none⟩) ms.length ms.length] w (NumS (cnt (bhs (depAt ms) ms.length) ms.length g) w) := by
  have hshape : ∃ a cap, v = .slice a ms.length cap := by
    rcases h0 with ⟨_, h1, h2⟩ | ⟨b, off, cap, h1, _⟩
    · subst h2; exact ⟨_, _, h1⟩
    · exact ⟨_, _, h1⟩
  obtain ⟨a, cap, rfl⟩ := hshape
  have H := Lib.hid h0; clear h0
  generalize hN : ms.length = n at *
  have HN := Lib.hid hN; clear hN
  intro f
  induction f with
  | zero => intro g w hf; omega
  | succ f ih =>
    intro g w hf hg hs0 hga
    have IH := Lib.hid ih
    have HS0 := Lib.hid hs0
    have HGA := Lib.hid hga
    have HG := Lib.hid hg
    have HF := Lib.hid hf
    clear ih hs0 hga hg hf
    go_enter Try.func24, Try.ntmps24
    go_wp2
    go_loopw [5, 6, 7] (fun s o i wr => ∃ k : Nat, k ≤ n ∧ i = .int .i64 k ∧ s = .int .i64 (psum (term (bhs (depAt ms) n) n g) k) ∧ o = .bool (someB g k) ∧ Since w wr) (fun _ _ i _ => n - (intOf i).toNat)
    case atStart => exact ⟨0, Nat.zero_le _, rfl, rfl, rfl, Since.refl _⟩
    case round =>
      obtain ⟨k, hkb, rfl, rfl, rfl, hsr⟩ := hrel
      have HSR := Lib.hid hsr
      clear hsr
      by_cases hlt : k < n
      · have hck := (HGA.out.keep HSR.out).cell hlt
        have hps : psum (term (bhs (depAt ms) n) n g) (k + 1) = psum (term (bhs (depAt ms) n) n g) k + term (bhs (depAt ms) n) n g k := rfl
        have hbd := psum_bound (t := term (bhs (depAt ms) n) n g) (B := 23298085122481) k (fun i _ => term_bound _ n g i hn)
        have hte := term_eq (depAt ms) n g k hn hlt HG.out
        have hsm : someB g (k + 1) = (someB g k || !g.testBit k) := rfl
        have HPS := Lib.hid hps
        have HTE := Lib.hid hte
        have HSM := Lib.hid hsm
        have hb1 : 0 ≤ psum (term (bhs (depAt ms) n) n g) k := hbd.1
        have hb2 : psum (term (bhs (depAt ms) n) n g) k ≤ 300000000000000 := by
          have := hbd.2
          have : (k : Int) * 23298085122481 ≤ 12 * 23298085122481 := Int.mul_le_mul_of_nonneg_right (by omega) (by omega)
          omega
        clear hps hbd hte hsm
        generalize hs0 : psum (term (bhs (depAt ms) n) n g) k = s0 at *
        clear hs0
        generalize hso : someB g k = so at *
        clear hso
        cases hbit : g.testBit k with
        | true =>
          rw [hbit] at hck
          have HB := Lib.hid hbit; clear hbit
          go_wp2
          go_roundw
          case rel => exact ⟨k + 1, by omega, by go_num, by rw [HPS.out, HTE.out, HB.out]; simp, by rw [HSM.out, HB.out]; simp, HSR.out⟩
          case measure => simp [intOf]; omega
        | false =>
          rw [hbit] at hck
          have HB := Lib.hid hbit; clear hbit
          go_wp2
          go_loopw [8, 9] (fun r j wr2 => ∃ j' : Nat, j' ≤ k ∧ j = .int .i64 j' ∧ r = .bool (readyB (depAt ms) g k j') ∧ Since w wr2) (fun _ j _ => k - (intOf j).toNat)
          case atStart => exact ⟨0, Nat.zero_le _, rfl, rfl, HSR.out⟩
          case round =>
            obtain ⟨j, hjb, rfl, rfl, hs2⟩ := hrel
            have HS2 := Lib.hid hs2
            clear hs2 hck
            by_cases hjk : j < k
            · obtain ⟨B, off, rfl, hB, hcells⟩ : ∃ B off, a = some ⟨B, off, none⟩ ∧ B < w0.heap.size ∧ ∀ (j : Nat) (x : Mach × Value), ms[j]? = some x → MachAt w0 B (off + j * 8) x.1 x.2 := by
                rcases H.out with ⟨_, h1, h2⟩ | ⟨B, off, cap2, h1, h2, h3⟩
                · have := HN.out; rw [h2] at this; simp at this; omega
                · injection h1 with h1 _ _; exact ⟨B, off, h1, h2, h3⟩
              obtain ⟨⟨mi, ai⟩, hmi⟩ : ∃ x, ms[k]? = some x := ⟨_, List.getElem?_eq_getElem (by have := HN.out; omega)⟩
              obtain ⟨⟨mj, aj⟩, hmj⟩ : ∃ x, ms[j]? = some x := ⟨_, List.getElem?_eq_getElem (by have := HN.out; omega)⟩
              have hd : depAt ms j k = dependsB mj mi := by simp [depAt, hmi, hmj]
              have hS := HS0.out.trans HS2.out
              have HMI := Lib.hid ((hcells k _ hmi).keep hB hS)
              have HMJ := Lib.hid ((hcells j _ hmj).keep hB hS)
              have HBS := Lib.hid (show B < wr.heap.size from Nat.lt_of_lt_of_le hB hS.size)
              have HD := Lib.hid hd
              clear hcells hmi hmj hd hB hS
              have hrs : readyB (depAt ms) g k (j + 1) = (readyB (depAt ms) g k j && (g.testBit j || !depAt ms j k)) := rfl
              have HRS := Lib.hid hrs
              clear hrs
              have hcj := (HGA.out.keep HS2.out).cell (show j < n by omega)
              have HCJ := Lib.hid (HGA.out.keep HS2.out)
              generalize hp : readyB (depAt ms) g k j = p at *
              clear hp
              generalize hq : g.testBit j = q at *
              have HQ := Lib.hid hq
              clear hq hcj
              go_wp2
              refine wp_region_list_facts rfl (by decide +kernel) (by decide +kernel)
                [Is (.slice (some ⟨B, off, none⟩) n cap), Is (.int .i64 j), Is (.pointer (some ⟨B, off + j * 8, none⟩)), Is (mv mj aj), Is (.slice (some ⟨B, off, none⟩) n cap), Is (.int .i64 k), Is (.pointer (some ⟨B, off + k * 8, none⟩)), Is (mv mi ai), Is (.bool (dependsB mj mi)), Is (.bool (dependsB mj mi))]
                (by repeat (first | exact trivial | refine ⟨Is.stable _, ?_⟩)) ⟨?_, ?_, ?_, ?_, ?_, ?_, ?_, ?_, ?_, ?_, trivial⟩ ?_
              all_goals
                intro vs w2 hs hk
                have HMI2 := Lib.hid (HMI.out.keep HBS.out hs)
                have HMJ2 := Lib.hid (HMJ.out.keep HBS.out hs)
                have HSS := Lib.hid hs
                clear hs
                simp only [putAll, Act.put, Knows, KnowsAll, nthF, Is, List.setIfInBounds_toArray, List.set_cons_zero, List.set_cons_succ, Nat.reduceAdd, List.length_cons, List.length_nil] at hk ⊢
                try simp only [hk]
                clear hk
              · go_wp2
                exact ⟨_, rfl, rfl, Since.refl _⟩
              · go_wp2
                exact ⟨_, rfl, rfl, Since.refl _⟩
              · go_wp2
                exact ⟨_, rfl, rfl, Since.refl _⟩
              · obtain ⟨c0, c1, c2, c3, c4, c5, c6, c7, _, _⟩ := HMJ2.out
                go_wp2
                exact ⟨_, rfl, rfl, Since.refl _⟩
              · go_wp2
                exact ⟨_, rfl, rfl, Since.refl _⟩
              · go_wp2
                exact ⟨_, rfl, rfl, Since.refl _⟩
              · go_wp2
                exact ⟨_, rfl, rfl, Since.refl _⟩
              · obtain ⟨c0, c1, c2, c3, c4, c5, c6, c7, _, _⟩ := HMI2.out
                go_wp2
                exact ⟨_, rfl, rfl, Since.refl _⟩
              · have hcall := rdepends_any mj mi aj ai w2 HMJ2.out.args HMI2.out.args HMJ2.out.fine HMI2.out.fine
                rw [← depends_eq] at hcall
                have HC := Lib.hid hcall; clear hcall
                go_wp2_with fail
                refine HC.out.mono ?_
                rintro e w3 ⟨rfl, hs3⟩
                go_wp2
                exact ⟨_, rfl, rfl, hs3⟩
              · go_wp2
                exact ⟨_, rfl, rfl, Since.refl _⟩
              · have hcj := (HCJ.out.keep HSS.out).cell (show j < n by omega)
                rw [HQ.out] at hcj
                have HS3 := Lib.hid (HS2.out.trans HSS.out)
                generalize hbad : dependsB mj mi = bad at *
                have HBAD := Lib.hid hbad; clear hbad
                cases p <;> cases q <;> cases bad
                all_goals
                  go_wp2
                  go_roundw
                  case rel => exact ⟨j + 1, by omega, by go_num, by rw [HRS.out, HD.out]; rfl, HS3.out⟩
                  case measure => simp [intOf]; omega
            · obtain rfl : j = k := by omega
              generalize hp : readyB (depAt ms) g j j = p at *
              have HP := Lib.hid hp; clear hp
              cases p with
              | false =>
                go_wp2
                go_roundw
                case rel => exact ⟨j + 1, by omega, by go_num, by rw [HPS.out, HTE.out, HB.out]; simp, by rw [HSM.out, HB.out]; simp, HS2.out⟩
                case measure => simp [intOf]; omega
              | true =>
                have hga := HGA.out.keep HS2.out
                have hfz := hga.open j
                have hcj := hga.cell hlt
                rw [HB.out] at hcj
                have hset := hga.set j hlt
                have hback := fun w2 s => gone_back (w2 := w2) hga hlt HB.out s
                have hu := unset_or n g j hlt HB.out
                have hcb := cnt_bound (bhs (depAt ms) n) n (g ||| 2 ^ j) hn
                have hcall := IH.out (g ||| 2 ^ j) _ (by have := HF.out; omega) (Nat.or_lt_two_pow HG.out (Nat.pow_lt_pow_right (by decide) hlt)) (set_since (HS0.out.trans HS2.out) hgb (.bool true) (a := ⟨gb, j, none⟩)) hset
                generalize hc : cnt (bhs (depAt ms) n) n (g ||| 2 ^ j) = c at *
                have HC := Lib.hid hc
                have HCALL := Lib.hid hcall
                have HSET := Lib.hid hset
                have HBACK := Lib.hid hback
                clear hc hcall hset hback hga hu
                go_wp2_with fail
                refine HCALL.out.mono ?_
                rintro e w2 ⟨rfl, hs2⟩
                have hfz2 := (HSET.out.keep hs2).open j
                have hcj2 := (HSET.out.keep hs2).cell hlt
                have HSB := Lib.hid (HBACK.out w2 hs2)
                clear hs2 hfz hcj
                go_wp2
                go_roundw
                case rel => exact ⟨j + 1, by omega, by go_num, by rw [HPS.out, HTE.out, HB.out]; rfl, by rw [HSM.out, HB.out]; simp, HS2.out.trans HSB.out⟩
                case measure => simp [intOf]; omega
      · obtain rfl : k = n := by omega
        have hr1 := fun h => rcount (depAt ms) k g hn HG.out h
        have hr0 := fun h => rcount_none (depAt ms) k g HG.out h
        have HR1 := Lib.hid hr1
        have HR0 := Lib.hid hr0
        clear hr1 hr0
        generalize hs0 : psum (term (bhs (depAt ms) k) k g) k = s0 at *
        have HS' := Lib.hid hs0; clear hs0
        generalize hso : someB g k = so at *
        have HSO := Lib.hid hso; clear hso
        cases so with
        | false =>
          go_wp2
          go_ret
          exact ⟨by rw [HR0.out trivial] <;> rfl, HSR.out⟩
        | true =>
          go_wp2
          go_ret
          exact ⟨by rw [HR1.out trivial] <;> rfl, HSR.out⟩
end Go.Proofs.Ytgimpbmodobfmaa
