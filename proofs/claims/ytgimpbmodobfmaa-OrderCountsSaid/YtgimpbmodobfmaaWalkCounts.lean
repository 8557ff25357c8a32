/- jacquardlaw17.OrderCounts walked. -/
import Derived.Test.YtgimpbmodobfmaaOpen2
import Derived.Test.YtgimpbmodobfmaaWalkDepends
namespace Go.Proofs.Ytgimpbmodobfmaa
open Go.RowKit Go.ChangeShapes Go.WideShapes
set_option linter.unusedVariables false

def FewOk (w : World) (ms : List (Mach × Value)) : Prop := ∀ x ∈ ms, Ints w x.2 x.1.args ∧ Fine x.1
theorem FewOk.keep {w w' : World} {ms : List (Mach × Value)} (h : FewOk w ms) (s : Since w w') : FewOk w' ms := fun x hx => ⟨(h x hx).1.keep s, (h x hx).2⟩
theorem FewOk.snoc {w : World} {ms : List (Mach × Value)} {x : Mach × Value} (h : FewOk w ms) (hx : Ints w x.2 x.1.args ∧ Fine x.1) : FewOk w (ms ++ [x]) := by
  intro y hy
  rw [List.mem_append, List.mem_singleton] at hy
  rcases hy with hy | rfl
  · exact h y hy
  · exact hx
theorem few_some (l : List Int) (k : Nat) (hk : k ≤ 6) (w : World) : FewOk w (nl (someL l k)) := by
  intro x hx
  obtain ⟨m, hm, rfl⟩ := List.mem_map.1 hx
  obtain ⟨t, ht, rfl⟩ := List.mem_map.1 hm
  have := List.mem_range.1 ht
  refine ⟨.nil _ _, ?_, ?_, ?_⟩
  · show -2147483648 ≤ (t : Int); omega
  · show (t : Int) ≤ 2147483647; omega
  · show (0 : Nat) ≤ 1000; omega
/-- What is made by the loop over the instructions. -/
def FewP (w wr : World) (v : Value) (k : Nat) : Prop := ∃ ms, MRow w.heap.size wr v ms ∧ ms.length = k ∧ FewOk w ms

set_option maxHeartbeats 4000000 in
theorem walk_counts (v s : Value) (ms : List (Mach × Value)) (l : List Int) (w : World) (h : MachsIn w v ms) (hl : Ints w s l) :
    Calls Try.prog 4 #[v, s] w (TellsS true w) := by
  obtain ⟨a, cap, rfl, hlen⟩ := h.shape
  unfold maxLen at hlen
  have H := Lib.hid h
  have HL := Lib.hid hl
  clear h hl
  generalize hn : ms.length = n at *
  have HNL := Lib.hid hn; clear hn
  go_enter Try.func4, Try.ntmps4
  go_wp2_with fail
  refine (awake_any _).mono ?_
  rintro e w0 ⟨rfl, hs0⟩
  have HS0 := Lib.hid hs0; clear hs0
  go_wp2_with fail
  go_loopw [6, 7] (fun v i wr => ∃ k : Nat, k ≤ n ∧ k ≤ 7 ∧ i = .int .i64 k ∧ FewP w wr v k ∧ Since w wr) (fun _ i _ => 7 - (intOf i).toNat)
  case atStart => exact ⟨0, Nat.zero_le _, Nat.zero_le _, rfl, ⟨[], OwnRow.nil _ _ _ _ _, rfl, fun _ h => by cases h⟩, HS0.out⟩
  case round =>
    obtain ⟨k, hkn, hk7, rfl, ⟨fs, hown, hfl, hok⟩, hsr⟩ := hrel
    obtain ⟨va, vc, hv⟩ := hown.shape
    subst hv
    have HO := Lib.hid hown
    have HS := Lib.hid hsr
    have HK := Lib.hid hok
    have HFL := Lib.hid hfl
    clear hown hsr hok hfl
    by_cases hlt : k < n ∧ k < 7
    · obtain ⟨hl1, hl2⟩ := hlt
      obtain ⟨B, off, x, rfl, hB, _, hc, hx⟩ := RowIn.at H.out (show k < ms.length by rw [HNL.out]; exact hl1)
      obtain ⟨m, av⟩ := x
      have hcw := fun t ht => (HS.out.cell (p := ⟨B, off + k * 8 + t, none⟩) hB).trans (hc t ht)
      have c0 : wr.cell? ⟨B, off + k * 8, none⟩ = some (.int .i64 m.op) := hcw 0 (by decide)
      have c1 : wr.cell? ⟨B, off + k * 8 + 1, none⟩ = some (.int .i64 m.d) := hcw 1 (by decide)
      have c2 : wr.cell? ⟨B, off + k * 8 + 2, none⟩ = some (.int .i64 m.e) := hcw 2 (by decide)
      have c3 : wr.cell? ⟨B, off + k * 8 + 3, none⟩ = some (.int .i64 m.a) := hcw 3 (by decide)
      have c4 : wr.cell? ⟨B, off + k * 8 + 4, none⟩ = some (.int .i64 m.b) := hcw 4 (by decide)
      have c5 : wr.cell? ⟨B, off + k * 8 + 5, none⟩ = some (.int .i64 m.c) := hcw 5 (by decide)
      have c6 : wr.cell? ⟨B, off + k * 8 + 6, none⟩ = some (.int .i32 m.imm) := hcw 6 (by decide)
      have c7 : wr.cell? ⟨B, off + k * 8 + 7, none⟩ = some av := hcw 7 (by decide)
      obtain ⟨hx1, hx2⟩ : Ints w av m.args ∧ Wf m := hx
      obtain ⟨xa, xc, rfl⟩ := nums_lenI hx1
      have hcap := ints_cap hx1
      have hcut := cut_at m xa xc wr hcap.2.1 hcap.2.2
      have hint := cut_ints hx1
      have hfine := cutM_fine m (imm_bounds hx2)
      unfold CutP at hcut
      unfold cutV at hcut hint
      generalize cutM m = y at *
      generalize min m.args.length 5 = yn at *
      have HC := Lib.hid hcut
      have HFI := Lib.hid hfine
      have HI := Lib.hid hint
      clear hcut hfine hx1 hx2 hc hcw hB hcap hint
      unfold mv at HC
      go_wp2_with fail
      refine HC.out.mono ?_
      rintro e w2 ⟨rfl, hs2⟩
      have HS2 := Lib.hid hs2
      clear hs2 c0 c1 c2 c3 c4 c5 c6 c7
      go_wp2_with (at_builtin; refine wpList_append_one (w0 := w) mcells 8 mcells_len (by decide) rfl _ _ 28 rfl 24 (.agg zeroM) 80 Try.underlying28 (by kernel_rfl) rfl (.slice va fs.length vc) fs (y, .slice xa yn xc) w2.heap.size 1 24 rfl rfl (HO.out.keep (HS2.out.alloc _)) (heap_last _ _) (by simp [mcells, Value.oneCell']) (by rw [HFL.out]; unfold maxLen; omega) (by rw [HFL.out]; omega) ((HS.out.trans HS2.out).alloc _) ?_; intro v' w' hown' hs'; have HO' := Lib.hid hown'; have HS' := Lib.hid hs'; clear hown' hs')
      go_roundw
      case rel => exact ⟨k + 1, by omega, by omega, by go_num, ⟨_, HO'.out, by rw [List.length_append, HFL.out]; rfl, FewOk.snoc HK.out ⟨HI.out, HFI.out⟩⟩, HS'.out⟩
      case measure => simp [intOf]; omega
    · have hend : k = n ∨ (k = 7 ∧ 7 < n) := by omega
      have hok2 := HK.out.keep HS.out
      have hmf := machs_of_own HO.out hok2
      have hF1 := fun w1 hs => orders_any _ fs w1 (hmf.keep hs) (by have := HFL.out; omega)
      have hF2 := fun w1 hs => rorders_any _ fs w1 (hmf.keep hs) (by have := HFL.out; omega)
      generalize ordersI (depAt fs) fs.length = x at *
      have HF1' := Lib.hid hF1
      have HF2' := Lib.hid hF2
      clear hF1 hF2 hok2 hmf
      obtain ⟨sa, sc, rfl⟩ := nums_lenI HL.out
      obtain ⟨ti, hi, hz0, hz1, hz2⟩ := info_parts (P := Try.prog) (e := 24) (z := .agg zeroM) (size := 8) (bytes := 80) (by kernel_rfl)
      rcases hend with rfl | ⟨rfl, h7⟩
      all_goals
        go_wp2_with fail
        refine (some_any _ l wr (HL.out.keep HS.out)).mono ?_
        rintro e w3 ⟨v3, k3, rfl, hk3, hown3, hs3⟩
        have hok3 := few_some l k3 hk3 w3
        have hmm := machs_of_own hown3 hok3
        obtain ⟨ma, mc, hv3⟩ := hown3.shape
        have hln : (nl (someL l k3)).length ≤ 12 := by simp [nl, someL_len]; omega
        have hM1 := fun w1 hs => orders_any _ (nl (someL l k3)) w1 (hmm.keep hs) hln
        have hM2 := fun w1 hs => rorders_any _ (nl (someL l k3)) w1 (hmm.keep hs) hln
        generalize ordersI (depAt (nl (someL l k3))) (nl (someL l k3)).length = y at *
        subst hv3
        have HM1' := Lib.hid hM1
        have HM2' := Lib.hid hM2
        have HS3 := Lib.hid hs3
        clear hM1 hM2 hmm hok3 hown3 hs3 hln
        go_wp2_with (at_make; refine wpList_make_full _ rfl (.const (.int .i64 13)) (.const (.int .i64 13)) 28 rfl w3.heap.size 24 ti (.agg zeroM) 8 Try.underlying28 hi hz0 hz1 .i64 .i64 _ _ 13 rfl rfl rfl rfl (by rw [hz2]; decide) (by decide) (by simp) ?_; intro w4 hown4 hgrow4; have HS4 := Lib.hid (show Since w3 w4 from Below.grown (Since.refl w3) hgrow4 (Nat.le_refl _) (fun _ h => by cases h)); clear hown4 hgrow4)
        have HF1 := Lib.hid (fun w1 (hs : Since w4 w1) => HF1'.out w1 ((HS3.out.trans HS4.out).trans hs))
        have HF2 := Lib.hid (fun w1 (hs : Since w4 w1) => HF2'.out w1 ((HS3.out.trans HS4.out).trans hs))
        have HM1 := Lib.hid (fun w1 (hs : Since w4 w1) => HM1'.out w1 (HS4.out.trans hs))
        have HM2 := Lib.hid (fun w1 (hs : Since w4 w1) => HM2'.out w1 (HS4.out.trans hs))
        have HN := Lib.hid (fun w1 => orders_any (.slice none 0 0) [] w1 (.inl ⟨_, rfl, rfl⟩) (by decide))
        have S0 := Lib.hid ((HS.out.trans HS3.out).trans HS4.out)
        clear HF1' HF2' HM1' HM2'
        have hxx : (x == x) = true := beq_self_eq_true x
        have hyy : (y == y) = true := beq_self_eq_true y
        go_wp2_with fail
        refine (HF1.out _ (Since.refl _)).mono ?_
        rintro e w5 ⟨rfl, hs5⟩
        have HS5 := Lib.hid hs5; clear hs5
        go_wp2_with fail
        refine (HF2.out _ HS5.out).mono ?_
        rintro e w6 ⟨rfl, hs6⟩
        have HS6 := Lib.hid (HS5.out.trans hs6); clear hs6
        go_wp2_with fail
        refine (HM1.out _ HS6.out).mono ?_
        rintro e w7 ⟨rfl, hs7⟩
        have HS7 := Lib.hid (HS6.out.trans hs7); clear hs7
        go_wp2_with fail
        refine (HM2.out _ HS7.out).mono ?_
        rintro e w8 ⟨rfl, hs8⟩
        have HS8 := Lib.hid (HS7.out.trans hs8); clear hs8
        go_wp2_with fail
        refine (orders_long _ 13 13 _ (by decide) (by decide)).mono ?_
        rintro e w9 ⟨rfl, hs9⟩
        have HS9 := Lib.hid (HS8.out.trans hs9); clear hs9
        go_wp2_with fail
        refine (HN.out _).mono ?_
        rintro e w10 ⟨rfl, hs10⟩
        have HS10 := Lib.hid (HS9.out.trans hs10); clear hs10
        go_wp2
        go_ret
        exact ⟨rfl, S0.out.trans HS10.out⟩

/-- The law, of whatever two values came in. -/
theorem law_counts {H : Type} {enc : TypeId × Value → H} {W : World} {base : Nat} {held : Bool} {r r2 : Reach} {b0 b2 : Nat} {d d2 : DataW H} {p p2 : List MemPlace} (v0 v1 : Value)
    (k0 : Value.okWide Try.prog W r b0 28 v0) (h0 : DataW.Trod enc Try.prog W base (fun _ => true) held 28 v0 d p)
    (k1 : Value.okWide Try.prog W r2 b2 22 v1) (h1 : DataW.Trod enc Try.prog W base (fun _ => true) held 22 v1 d2 p2) :
    Calls Try.prog 4 #[v0, v1] W (TellsS true W) := by
  obtain ⟨ms, hm⟩ := machs_open k0 h0
  obtain ⟨l, hl, _⟩ := ints_open k1 h1
  exact walk_counts v0 v1 ms l W hm hl
end Go.Proofs.Ytgimpbmodobfmaa
