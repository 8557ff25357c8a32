/- jacquardref06.Table: a table by numbers. -/
import Derived.Test.YtmhojfpidedjeaaDoorTxTabM
namespace Go.Proofs.YtmhojfpidedjeaaDoor
open Go.RowKit
set_option linter.unusedVariables false
def TabQ (w : World) (e : Ending) (w' : World) : Prop := ∃ v tl, e = .returned v ∧ OwnRow dtcells 2 37 w.heap.size w' v tl ∧ tl.length ≤ 74 ∧ (∀ t ∈ tl, TabOk t) ∧ Since w w'
theorem bandT (a : Int) (m : Nat) (hm : m < 4611686018427387904) : 0 ≤ bits .and .i64 a m ∧ bits .and .i64 a m ≤ m := by
  have h : bits .and .i64 a m = IntKind.i64.wrap ((BitVec.ofInt 64 a &&& BitVec.ofInt 64 m).toNat : Int) := rfl
  have h1 : (BitVec.ofInt 64 (m : Int)).toNat = m := by rw [BitVec.toNat_ofInt]; omega
  have h2 : (BitVec.ofInt 64 a &&& BitVec.ofInt 64 m).toNat ≤ m := by
    rw [BitVec.toNat_and, h1]; exact Nat.and_le_right
  rw [h, IntWalk.i64_in _ (by omega)]
  omega
set_option maxHeartbeats 16000000 in
set_option maxRecDepth 100000 in
theorem table_any (sv : Value) (l : List Int) (w : World) (hs : Ints w sv l) : Calls Tryd.prog 7 #[sv] w (TabQ w) := by
  obtain ⟨sa, sc, hv, hcap, hcap2⟩ : ∃ a c, sv = .slice a l.length c ∧ l.length ≤ c ∧ c ≤ maxLen := by
    rcases hs with ⟨a, h1, h2⟩ | ⟨b, off, cap, h1, h2, h3, _⟩
    · subst h2; exact ⟨a, 0, h1, Nat.le_refl _, Nat.zero_le _⟩
    · exact ⟨_, cap, h1, h2, h3⟩
  subst hv
  unfold maxLen at hcap2
  obtain ⟨n, hn⟩ : ∃ n, l.length = n := ⟨_, rfl⟩
  rw [hn] at hs hcap ⊢
  have HS := Lib.hid hs
  have HN := Lib.hid hn
  clear hs hn
  go_enter Tryd.func7, Tryd.ntmps7
  go_upto_region 2 with fail
  obtain ⟨q, hq⟩ : ∃ q, w.heap.size = q := ⟨_, rfl⟩
  obtain ⟨w1, hw1⟩ : ∃ w1, w.alloc (.cells #[] 37) = w1 := ⟨_, rfl⟩
  have HS1 := Lib.hid (show Since w w1 from by rw [← hw1]; exact (Since.refl w).alloc _)
  have HO1 := Lib.hid (show OwnRow dtcells 2 37 w.heap.size w1 (.slice (some ⟨q, 0, none⟩) 0 0) [] from by rw [← hw1, ← hq]; exact own_new dtcells 2 37 w [] 0 (fun _ => rfl) rfl (by decide) #[] rfl)
  rw [hw1]
  try rw [hq]
  clear hw1 hq
  go_wp2_with fail
  refine (costs_any w1).mono ?_
  rintro e w2 ⟨rfl, hs2⟩
  have HS2 := Lib.hid hs2
  clear hs2
  go_upto_region 3 with (refine wpList_store_row rfl 61 _ _ rfl w2.heap.size costA rfl rfl 61 _ (heap_last w2 _) (by kernel_rfl) (by kernel_rfl) (by kernel_rfl) ?_; generalize hW : (World.alloc w2 _).setRow w2.heap.size costA = w3; have HS3 := Lib.hid (show Since w2 w3 from by rw [← hW]; exact since_setRowC ((Since.refl w2).alloc _) (Nat.le_refl _) _); have HB3 := Lib.hid (show HeapIs w3 w2.heap.size costA 61 from by rw [← hW]; exact put_block (HeapIs.new w2 _ _) _); clear hW)
  obtain ⟨cq, hcq⟩ : ∃ q, w2.heap.size = q := ⟨_, rfl⟩
  rw [hcq] at HB3
  try rw [hcq]
  have HT3 := Lib.hid (show TabSt w cq (.slice (some ⟨q, 0, none⟩) 0 0) [] 0 w3 from ⟨OwnRow.keep HO1.out (HS2.out.trans HS3.out), Nat.le_refl _, fun t ht => (by cases ht), HS1.out.trans (HS2.out.trans HS3.out), HB3.out⟩)
  clear hcq HB3
  rcases Nat.eq_zero_or_pos n with h0 | h0
  case' inl =>
    have h1 : decide ((n : Int) > 0) = false := decide_eq_false (by omega)
    have h2 : decide (0 < (n : Int)) = false := decide_eq_false (by omega)
    go_upto_region 4 with fail
  case' inr =>
    obtain ⟨b, off, y, rfl, hb, hy, hc⟩ := nums_at (HS.out.keep HT3.out.since) (j := 0) (by rw [HN.out]; exact h0)
    obtain ⟨ls, hls⟩ : ∃ b, (y.tmod 4 == 1) = b := ⟨_, rfl⟩
    rw [Nat.add_zero] at hc
    go_upto_region 4 with fail
    clear hb hy hc hls
    cases ls
  all_goals
    try clear h1 h2
    go_wp2_with fail
    go_loopw [3, 6] (fun vo io wr => ∃ (i : Nat) (tl : List DTile), io = .int .i64 i ∧ i ≤ 37 ∧ TabSt w cq vo tl i wr) (fun _ io _ => 37 - (intOf io).toNat)
    case atStart => exact ⟨0, [], rfl, by decide, HT3.out⟩
    case round =>
      obtain ⟨i, tl, rfl, hi, hst⟩ := hrel
      obtain ⟨oa, oc, eo⟩ := OwnRow.shape hst.own
      obtain ⟨ol, hol⟩ : ∃ k, tl.length = k := ⟨_, rfl⟩
      rw [hol] at eo
      subst eo
      have HST := Lib.hid hst
      have HLL := Lib.hid (show tl.length = ol ∧ ol ≤ 2 * i from ⟨hol, by have := hst.len; omega⟩)
      clear hst hol
      by_cases hlt : i < 37
      · have hcc := cost_cell HST.out.box hlt
        have hcl := HST.out.box.lt
        obtain ⟨c0, hc0⟩ : ∃ c, costL.getD i 0 = c := ⟨_, rfl⟩
        have HC0 := Lib.hid (show 1 ≤ c0 ∧ c0 ≤ 12 from by rw [← hc0]; exact cost_all i hlt)
        rw [hc0] at hcc
        clear hc0
        rcases Nat.lt_or_ge (i + 1) n with hx | hx
        case' inl =>
          obtain ⟨b2, off2, y2, e2, hb2, hy2, hc2⟩ := nums_at (HS.out.keep HST.out.since) (j := i + 1) (by rw [HN.out]; exact hx)
          cases e2
          obtain ⟨z, hz⟩ : ∃ z, bits .and .i64 y2 65535 = z := ⟨_, rfl⟩
          have hzb : 0 ≤ z ∧ z ≤ 65535 := by rw [← hz]; exact bandT y2 65535 (by decide)
          obtain ⟨c3, hc3⟩ : ∃ c, (z.tdiv 3).tmod 12 = c := ⟨_, rfl⟩
          obtain ⟨c7, hc7⟩ : ∃ c, z.tmod 7 = c := ⟨_, rfl⟩
          have hc3' : z / 3 % 12 = c3 := by rw [← hc3, Int.tdiv_eq_ediv_of_nonneg hzb.1, Int.tmod_eq_emod_of_nonneg (Int.ediv_nonneg hzb.1 (by decide))]
          have hc7' : z % 7 = c7 := by rw [← hc7, Int.tmod_eq_emod_of_nonneg hzb.1]
          have HC3 := Lib.hid (show 0 ≤ c3 ∧ c3 ≤ 12 from by rw [← hc3]; exact rng12 (Int.tdiv_nonneg hzb.1 (by decide)))
          have HC7 := Lib.hid (show 0 ≤ c7 ∧ c7 ≤ 12 from by rw [← hc7]; exact rng7 hzb.1)
          go_upto_region 10 with fail
          all_goals try clear hb2 hy2 hc2 hz
        case' inr => go_upto_region 10 with fail
        all_goals go_upto_region 11 with fail
        all_goals first
          | (exact ⟨⟨i + 1, tl, by go_num, by omega, HST.out.more⟩, by simp [intOf]; omega⟩)
          | go_upto_region 14 with fail
        all_goals first
          | (obtain ⟨wB, hwB⟩ : ∃ z, wr.alloc (.cells #[.int .i64 ((i : Int) + 1), .int .i64 c3] 37) = z := ⟨_, rfl⟩;
             rw [hwB];
             have hsB : Since wr wB := by rw [← hwB]; exact (Since.refl wr).alloc _;
             have hbx : HeapIs wB wr.heap.size #[.int .i64 ((i : Int) + 1), .int .i64 c3] 37 := by rw [← hwB]; exact HeapIs.new wr _ _;
             clear hwB;
             obtain ⟨qx, hqx⟩ : ∃ q, wr.heap.size = q := ⟨_, rfl⟩;
             rw [hqx] at hbx;
             try rw [hqx];
             have x0 := hbx.cell 0;
             have x1 := hbx.cell 1;
             have xl := hbx.lt;
             have HB := Lib.hid (HST.out.keep hsB);
             have HOK := Lib.hid (show TabOk ⟨(i : Int) + 1, c3⟩ from ⟨⟨by show 1 ≤ (i : Int) + 1; omega, by show (i : Int) + 1 ≤ 37; omega⟩, by show 0 ≤ c3; have := HC3.out; omega, by show c3 ≤ 12; have := HC3.out; omega⟩);
             clear hsB hbx hqx hcc hcl;
             go_upto_region 17 with (first | (at_builtin; refine wpList_append_rowN (w0 := wB) dtcells 2 (fun _ => rfl) (by decide) (fun x u hu => by simp only [dtcells, List.mem_cons, List.not_mem_nil, or_false] at hu; rcases hu with rfl | rfl <;> rfl) rfl _ _ 32 rfl 37 (.agg #[.int .i64 0, .int .i64 0]) 16 Tryd.underlying32 (by kernel_rfl) rfl (by decide) _ (.slice oa ol oc) [(⟨(i : Int) + 1, c3⟩ : DTile)] tl rfl rfl (own_new dtcells 2 37 wB [(⟨(i : Int) + 1, c3⟩ : DTile)] 1 (fun _ => rfl) rfl (by decide) _ rfl) (row_of_own (f := dtcells) (p := fun _ _ => True) (fun _ => rfl) (OwnRow.keep HB.out.own ((Since.refl wB).alloc _)) fun _ _ => trivial) (by have h1 := HLL.out.1; have h2 := HLL.out.2; simp only [List.length_singleton]; omega) ((Since.refl wB).alloc _) ?_; intro v9 w9 ho hs9; obtain ⟨va, vc, hv⟩ := OwnRow.shape ho; rw [List.length_append, HLL.out.1, List.length_singleton, Nat.add_comm] at hv; subst hv; obtain ⟨tl2, he, hel⟩ : ∃ tl2, TabSt w cq (.slice va (ol + 1) vc) tl2 (i + 1) w9 ∧ tl2.length = ol + 1 := ⟨_, HB.out.pre ho hs9 HOK.out (k := i + 1) (by rw [HLL.out.1]; have := HLL.out.2; omega), (by rw [List.length_append, HLL.out.1, List.length_singleton, Nat.add_comm])⟩; have HE := Lib.hid he; have HEL := Lib.hid hel; clear he hel ho hs9) | (at_builtin; refine wpList_append_one2 dtcells 2 (fun _ => rfl) (by decide) rfl _ _ 32 rfl 37 (.agg #[.int .i64 0, .int .i64 0]) 16 Tryd.underlying32 (by kernel_rfl) rfl (.slice oa ol oc) tl ⟨(i : Int) + 1, c3⟩ _ 1 _ rfl rfl (OwnRow.keep HB.out.own ((Since.refl wB).alloc _)) (HeapIs.new wB _ _) (fun u hu => by simp only [dtcells, List.mem_cons, List.not_mem_nil, or_false] at hu; rcases hu with rfl | rfl <;> rfl) (by rw [HLL.out.1]; have := HLL.out.2; unfold maxLen; omega) (by rw [HLL.out.1]; have := HLL.out.2; omega) (by have := HB.out.since.size; simp only [World.alloc, Array.size_push]; omega) ?_; intro v9 w9 ho ht hn; obtain ⟨va, vc, hv⟩ := OwnRow.shape ho; rw [List.length_append, HLL.out.1, List.length_singleton] at hv; subst hv; have hsb : Since wB (wB.alloc (.cells #[.int .i64 ((i : Int) + 1), .int .i64 c3] 37)) := (Since.refl wB).alloc _; obtain ⟨tl2, he, hel⟩ : ∃ tl2, TabSt w cq (.slice va (ol + 1) vc) tl2 (i + 1) w9 ∧ tl2.length = ol + 1 := ⟨_, (HB.out.keep hsb).app ho ht HOK.out (k := i + 1) (by rw [HLL.out.1]; have := HLL.out.2; omega), (by rw [List.length_append, HLL.out.1]; rfl)⟩; have HE := Lib.hid he; have HEL := Lib.hid hel; clear he hel ho ht hn hsb));
             all_goals clear x0 x1 xl)
          | (obtain ⟨wB, hwB⟩ : ∃ z, wr.alloc (.cells #[.int .i64 ((i : Int) + 1), .int .i64 c0] 37) = z := ⟨_, rfl⟩;
             rw [hwB];
             have hsB : Since wr wB := by rw [← hwB]; exact (Since.refl wr).alloc _;
             have hbx : HeapIs wB wr.heap.size #[.int .i64 ((i : Int) + 1), .int .i64 c0] 37 := by rw [← hwB]; exact HeapIs.new wr _ _;
             clear hwB;
             obtain ⟨qx, hqx⟩ : ∃ q, wr.heap.size = q := ⟨_, rfl⟩;
             rw [hqx] at hbx;
             try rw [hqx];
             have x0 := hbx.cell 0;
             have x1 := hbx.cell 1;
             have xl := hbx.lt;
             have HB := Lib.hid (HST.out.keep hsB);
             have HOK := Lib.hid (show TabOk ⟨(i : Int) + 1, c0⟩ from ⟨⟨by show 1 ≤ (i : Int) + 1; omega, by show (i : Int) + 1 ≤ 37; omega⟩, by show 0 ≤ c0; have := HC0.out; omega, by show c0 ≤ 12; have := HC0.out; omega⟩);
             clear hsB hbx hqx hcc hcl;
             go_upto_region 17 with (first | (at_builtin; refine wpList_append_rowN (w0 := wB) dtcells 2 (fun _ => rfl) (by decide) (fun x u hu => by simp only [dtcells, List.mem_cons, List.not_mem_nil, or_false] at hu; rcases hu with rfl | rfl <;> rfl) rfl _ _ 32 rfl 37 (.agg #[.int .i64 0, .int .i64 0]) 16 Tryd.underlying32 (by kernel_rfl) rfl (by decide) _ (.slice oa ol oc) [(⟨(i : Int) + 1, c0⟩ : DTile)] tl rfl rfl (own_new dtcells 2 37 wB [(⟨(i : Int) + 1, c0⟩ : DTile)] 1 (fun _ => rfl) rfl (by decide) _ rfl) (row_of_own (f := dtcells) (p := fun _ _ => True) (fun _ => rfl) (OwnRow.keep HB.out.own ((Since.refl wB).alloc _)) fun _ _ => trivial) (by have h1 := HLL.out.1; have h2 := HLL.out.2; simp only [List.length_singleton]; omega) ((Since.refl wB).alloc _) ?_; intro v9 w9 ho hs9; obtain ⟨va, vc, hv⟩ := OwnRow.shape ho; rw [List.length_append, HLL.out.1, List.length_singleton, Nat.add_comm] at hv; subst hv; obtain ⟨tl2, he, hel⟩ : ∃ tl2, TabSt w cq (.slice va (ol + 1) vc) tl2 (i + 1) w9 ∧ tl2.length = ol + 1 := ⟨_, HB.out.pre ho hs9 HOK.out (k := i + 1) (by rw [HLL.out.1]; have := HLL.out.2; omega), (by rw [List.length_append, HLL.out.1, List.length_singleton, Nat.add_comm])⟩; have HE := Lib.hid he; have HEL := Lib.hid hel; clear he hel ho hs9) | (at_builtin; refine wpList_append_one2 dtcells 2 (fun _ => rfl) (by decide) rfl _ _ 32 rfl 37 (.agg #[.int .i64 0, .int .i64 0]) 16 Tryd.underlying32 (by kernel_rfl) rfl (.slice oa ol oc) tl ⟨(i : Int) + 1, c0⟩ _ 1 _ rfl rfl (OwnRow.keep HB.out.own ((Since.refl wB).alloc _)) (HeapIs.new wB _ _) (fun u hu => by simp only [dtcells, List.mem_cons, List.not_mem_nil, or_false] at hu; rcases hu with rfl | rfl <;> rfl) (by rw [HLL.out.1]; have := HLL.out.2; unfold maxLen; omega) (by rw [HLL.out.1]; have := HLL.out.2; omega) (by have := HB.out.since.size; simp only [World.alloc, Array.size_push]; omega) ?_; intro v9 w9 ho ht hn; obtain ⟨va, vc, hv⟩ := OwnRow.shape ho; rw [List.length_append, HLL.out.1, List.length_singleton] at hv; subst hv; have hsb : Since wB (wB.alloc (.cells #[.int .i64 ((i : Int) + 1), .int .i64 c0] 37)) := (Since.refl wB).alloc _; obtain ⟨tl2, he, hel⟩ : ∃ tl2, TabSt w cq (.slice va (ol + 1) vc) tl2 (i + 1) w9 ∧ tl2.length = ol + 1 := ⟨_, (HB.out.keep hsb).app ho ht HOK.out (k := i + 1) (by rw [HLL.out.1]; have := HLL.out.2; omega), (by rw [List.length_append, HLL.out.1]; rfl)⟩; have HE := Lib.hid he; have HEL := Lib.hid hel; clear he hel ho ht hn hsb));
             all_goals clear x0 x1 xl)
        all_goals go_wp2_with (first | (at_builtin; refine wpList_append_one2 dtcells 2 (fun _ => rfl) (by decide) rfl _ _ 32 rfl 37 (.agg #[.int .i64 0, .int .i64 0]) 16 Tryd.underlying32 (by kernel_rfl) rfl (.slice va (ol + 1) vc) tl2 ⟨(i : Int) + 1, c7⟩ _ 1 _ rfl rfl (OwnRow.keep HE.out.own ((Since.refl w9).alloc _)) (HeapIs.new w9 _ _) (fun u hu => by simp only [dtcells, List.mem_cons, List.not_mem_nil, or_false] at hu; rcases hu with rfl | rfl <;> rfl) (by rw [HEL.out]; have := HLL.out.2; unfold maxLen; omega) (by rw [HEL.out]; have := HLL.out.2; omega) (by have := HE.out.since.size; simp only [World.alloc, Array.size_push]; omega) ?_; intro v10 w10 ho ht hn; obtain ⟨vb, vd, hv⟩ := OwnRow.shape ho; rw [List.length_append, HEL.out, List.length_singleton] at hv; subst hv; have hsb : Since w9 (w9.alloc (.cells #[.int .i64 ((i : Int) + 1), .int .i64 c7] 37)) := (Since.refl w9).alloc _; have HG := Lib.hid ((HE.out.keep hsb).app ho ht ⟨⟨(by show 1 ≤ (i : Int) + 1; omega), (by show (i : Int) + 1 ≤ 37; omega)⟩, (by show 0 ≤ c7; have := HC7.out; omega), (by show c7 ≤ 12; have := HC7.out; omega)⟩ (k := i + 1) (by rw [HEL.out]; have := HLL.out.2; omega)); clear ho ht hn hsb) | fail)
        all_goals go_roundw
        any_goals (first | (case measure => simp [intOf]; omega) | skip)
        all_goals first
          | exact ⟨i + 1, _, by go_num, by omega, HG.out⟩
          | exact ⟨i + 1, _, by go_num, by omega, HE.out⟩
          | exact ⟨⟨i + 1, _, by go_num, by omega, HG.out⟩, by simp [intOf]; omega⟩
          | exact ⟨⟨i + 1, _, by go_num, by omega, HE.out⟩, by simp [intOf]; omega⟩
          | (simp [intOf]; omega)
      · obtain rfl : i = 37 := by omega
        clear hlt hi
        go_wp2
        go_ret
        exact ⟨_, tl, rfl, HST.out.own, HST.out.len, HST.out.ok, HST.out.since⟩
end Go.Proofs.YtmhojfpidedjeaaDoor
