/- jacquardref07.Do: all operations. -/
import Derived.Test.YtkpbmbhejpmboaaRefDo7a
namespace Go.Proofs.Ytkpbmbhejpmboaa
open Go.RowKit
set_option linter.unusedVariables false

set_option maxHeartbeats 4000000 in
set_option maxRecDepth 100000 in
theorem rdo7_24_ok (xd xe xa xb xc ximm : Int) (xargs : List Int) (av mv0 : Value) (R M : List Int) (rb rc : Nat) (rest : List Value) (T : TypeId) (w : World) (h : Ints w av xargs) (hf : Fine ⟨24, xd, xe, xa, xb, xc, ximm, xargs⟩) (hw : WAt w rb R rest T) (hR : ∀ x ∈ R, In32 x) (hl : R.length ≤ 1000) (hm : MemIs w mv0 M) (hsep : mv0.ownBlock ≠ some rb) (hin : 0 ≤ wrap32 (getR R xa + ximm) ∧ wrap32 (getR R xa + ximm) < (M.length : Int)) :
    Calls Try.prog 82 #[mv ⟨24, xd, xe, xa, xb, xc, ximm, xargs⟩ av, .slice (some ⟨rb, 0, none⟩) R.length rc, mv0] w (DoneP none (setR R xd (M.getD (wrap32 (getR R xa + ximm)).toNat 0)) (M) rb rest T mv0 w) := by
  obtain ⟨ma, mc, rfl, hml⟩ := hm.shape
  obtain ⟨aa, ac, rfl⟩ := nums_lenI h
  have HGET := Lib.hid (fun r w h => rget_any R rb rc rest T r w h (by omega))
  have hA := getR_32 hR xa
  have hB := getR_32 hR xb
  have hC := getR_32 hR xc
  obtain ⟨A, hAe⟩ : ∃ A, getR R xa = A := ⟨_, rfl⟩
  obtain ⟨B, hBe⟩ : ∃ B, getR R xb = B := ⟨_, rfl⟩
  obtain ⟨C, hCe⟩ : ∃ C, getR R xc = C := ⟨_, rfl⟩
  rw [hAe] at hA
  rw [hBe] at hB
  rw [hCe] at hC
  have HAE := Lib.hid hAe
  have HBE := Lib.hid hBe
  have HCE := Lib.hid hCe
  have hwa : WAt (w.alloc (.cells #[.int .i64 24, .int .i64 xd, .int .i64 xe, .int .i64 xa, .int .i64 xb, .int .i64 xc, .int .i32 ximm, .slice aa xargs.length ac] 46)) rb R rest T := hw.keep ((Since.refl _).alloc _)
  have HWA := Lib.hid hwa
  have HB0 := Lib.hid (HeapIs.new w #[.int .i64 24, .int .i64 xd, .int .i64 xe, .int .i64 xa, .int .i64 xb, .int .i64 xc, .int .i32 ximm, .slice aa xargs.length ac] 46)
  have hrb := hw.lt
  have hrne : ¬ w.heap.size = rb := by omega
  have HM0 := Lib.hid (hm.keep ((Since.refl w).alloc (.cells #[.int .i64 24, .int .i64 xd, .int .i64 xe, .int .i64 xa, .int .i64 xb, .int .i64 xc, .int .i32 ximm, .slice aa xargs.length ac] 46)))
  have HML := Lib.hid hml
  have HSEP := Lib.hid hsep
  have hil : -2147483648 ≤ ximm := hf.1
  have hiu : ximm ≤ 2147483647 := hf.2.1
  have HLL := Lib.hid hl
  have hrl : R.length ≤ 1000 := hl
  clear h hf hw hR hm hsep hAe hBe hCe hwa hl
  unfold mv
  rw [HAE.out] at hin
  obtain ⟨hA1, hA2⟩ := hA
  obtain ⟨hB1, hB2⟩ := hB
  rw [HAE.out]
  have HLD := Lib.hid (fun w h => rload_any M (.slice ma M.length mc) (wrap32 (A + ximm)) w h (in32_wrap _).1 (in32_wrap _).2)
  unfold LoadQ at HLD
  rw [if_pos hin, decide_eq_true hin.1, decide_eq_true hin.2] at HLD
  generalize M.getD (wrap32 (A + ximm)).toNat 0 = x at *
  clear hin
  go_enter Try.func82, Try.ntmps82
  go_wp2_with fail
  refine (HGET.out _ _ HWA.out).mono ?_
  rw [HAE.out]
  rintro e0 w1 ⟨rfl, rfl⟩
  go_wp2_with fail
  refine (HGET.out _ _ HWA.out).mono ?_
  rw [HBE.out]
  rintro e0 w1 ⟨rfl, rfl⟩
  go_wp2_with fail
  refine (HGET.out _ _ HWA.out).mono ?_
  rw [HCE.out]
  rintro e0 w1 ⟨rfl, rfl⟩
  go_wp2_with fail
  refine (HLD.out _ HM0.out).mono ?_
  rintro e0 w1 ⟨rfl, rfl⟩
  go_wp2_with fail
  refine (rset_any (R) rb rc R.length rest T xd (x) _ HWA.out (by rw [show R.length = R.length from rfl]; have := HLL.out; omega) (rfl)).mono ?_
  rintro e0 w2 ⟨rfl, hw1⟩
  have ha1 : WAt w2 rb (setR (R) xd (x)) rest T := by rw [hw1]; exact setW_at HWA.out _ _
  have ht1 : Turn (fun k => k = rb) (w.alloc (.cells #[.int .i64 24, .int .i64 xd, .int .i64 xe, .int .i64 xa, .int .i64 xb, .int .i64 xc, .int .i32 ximm, .slice aa xargs.length ac] 46)) w2 := by rw [hw1]; exact setW_turn (S := fun k => k = rb) rfl _ _ _
  have hb1 := HB0.out.turn ht1 hrne
  have hlen1 : (setR (R) xd (x)).length = R.length := by rw [rsetR_len]
  have HWA1 := Lib.hid ha1
  have HT1 := Lib.hid (ht1)
  have HB1 := Lib.hid hb1
  have HLEN1 := Lib.hid hlen1
  have kd1 : w2.cell? ⟨w.heap.size, 1, none⟩ = some (.int .i64 xd) := hb1.cell 1
  have ke1 : w2.cell? ⟨w.heap.size, 2, none⟩ = some (.int .i64 xe) := hb1.cell 2
  have ka1 : w2.cell? ⟨w.heap.size, 3, none⟩ = some (.int .i64 xa) := hb1.cell 3
  have kb1 : w2.cell? ⟨w.heap.size, 4, none⟩ = some (.int .i64 xb) := hb1.cell 4
  have kl1 := hb1.lt
  clear hw1 ha1 ht1 hb1 hlen1
  go_wp2
  go_ret2
  exact ⟨rfl, HWA1.out, HM0.out.turn HT1.out (fun q hq e => HSEP.out (by rw [hq, e])), ((Turn.refl _ _).alloc _).trans (HT1.out.mono fun k _ h => .inl h)⟩

set_option maxHeartbeats 4000000 in
set_option maxRecDepth 100000 in
theorem rdo7_24_no (xd xe xa xb xc ximm : Int) (xargs : List Int) (av mv0 : Value) (R M : List Int) (rb rc : Nat) (rest : List Value) (T : TypeId) (w : World) (h : Ints w av xargs) (hf : Fine ⟨24, xd, xe, xa, xb, xc, ximm, xargs⟩) (hw : WAt w rb R rest T) (hR : ∀ x ∈ R, In32 x) (hl : R.length ≤ 1000) (hm : MemIs w mv0 M) (hsep : mv0.ownBlock ≠ some rb) (hin : ¬ (0 ≤ wrap32 (getR R xa + ximm) ∧ wrap32 (getR R xa + ximm) < (M.length : Int))) :
    Calls Try.prog 82 #[mv ⟨24, xd, xe, xa, xb, xc, ximm, xargs⟩ av, .slice (some ⟨rb, 0, none⟩) R.length rc, mv0] w (DoneP (some (-2)) (R) (M) rb rest T mv0 w) := by
  obtain ⟨ma, mc, rfl, hml⟩ := hm.shape
  obtain ⟨aa, ac, rfl⟩ := nums_lenI h
  have HGET := Lib.hid (fun r w h => rget_any R rb rc rest T r w h (by omega))
  have hA := getR_32 hR xa
  have hB := getR_32 hR xb
  have hC := getR_32 hR xc
  obtain ⟨A, hAe⟩ : ∃ A, getR R xa = A := ⟨_, rfl⟩
  obtain ⟨B, hBe⟩ : ∃ B, getR R xb = B := ⟨_, rfl⟩
  obtain ⟨C, hCe⟩ : ∃ C, getR R xc = C := ⟨_, rfl⟩
  rw [hAe] at hA
  rw [hBe] at hB
  rw [hCe] at hC
  have HAE := Lib.hid hAe
  have HBE := Lib.hid hBe
  have HCE := Lib.hid hCe
  have hwa : WAt (w.alloc (.cells #[.int .i64 24, .int .i64 xd, .int .i64 xe, .int .i64 xa, .int .i64 xb, .int .i64 xc, .int .i32 ximm, .slice aa xargs.length ac] 46)) rb R rest T := hw.keep ((Since.refl _).alloc _)
  have HWA := Lib.hid hwa
  have HB0 := Lib.hid (HeapIs.new w #[.int .i64 24, .int .i64 xd, .int .i64 xe, .int .i64 xa, .int .i64 xb, .int .i64 xc, .int .i32 ximm, .slice aa xargs.length ac] 46)
  have hrb := hw.lt
  have hrne : ¬ w.heap.size = rb := by omega
  have HM0 := Lib.hid (hm.keep ((Since.refl w).alloc (.cells #[.int .i64 24, .int .i64 xd, .int .i64 xe, .int .i64 xa, .int .i64 xb, .int .i64 xc, .int .i32 ximm, .slice aa xargs.length ac] 46)))
  have HML := Lib.hid hml
  have HSEP := Lib.hid hsep
  have hil : -2147483648 ≤ ximm := hf.1
  have hiu : ximm ≤ 2147483647 := hf.2.1
  have HLL := Lib.hid hl
  have hrl : R.length ≤ 1000 := hl
  clear h hf hw hR hm hsep hAe hBe hCe hwa hl
  unfold mv
  rw [HAE.out] at hin
  obtain ⟨hA1, hA2⟩ := hA
  obtain ⟨hB1, hB2⟩ := hB
  have HLD := Lib.hid (fun w h => rload_any M (.slice ma M.length mc) (wrap32 (A + ximm)) w h (in32_wrap _).1 (in32_wrap _).2)
  unfold LoadQ at HLD
  have hbb : (decide (0 ≤ wrap32 (A + ximm)) && decide (wrap32 (A + ximm) < (M.length : Int))) = false := by
    rw [Bool.and_eq_false_iff]
    by_cases h0 : 0 ≤ wrap32 (A + ximm)
    · right; exact decide_eq_false (by omega)
    · left; exact decide_eq_false h0
  rw [if_neg hin, hbb] at HLD
  clear hbb
  clear hin
  go_enter Try.func82, Try.ntmps82
  go_wp2_with fail
  refine (HGET.out _ _ HWA.out).mono ?_
  rw [HAE.out]
  rintro e0 w1 ⟨rfl, rfl⟩
  go_wp2_with fail
  refine (HGET.out _ _ HWA.out).mono ?_
  rw [HBE.out]
  rintro e0 w1 ⟨rfl, rfl⟩
  go_wp2_with fail
  refine (HGET.out _ _ HWA.out).mono ?_
  rw [HCE.out]
  rintro e0 w1 ⟨rfl, rfl⟩
  go_wp2_with fail
  refine (HLD.out _ HM0.out).mono ?_
  rintro e0 w1 ⟨rfl, rfl⟩
  go_wp2
  go_ret2
  exact ⟨rfl, HWA.out, HM0.out, (Turn.refl _ _).alloc _⟩

set_option maxHeartbeats 4000000 in
set_option maxRecDepth 100000 in
theorem rdo7_25_ok (xd xe xa xb xc ximm : Int) (xargs : List Int) (av mv0 : Value) (R M : List Int) (rb rc : Nat) (rest : List Value) (T : TypeId) (w : World) (h : Ints w av xargs) (hf : Fine ⟨25, xd, xe, xa, xb, xc, ximm, xargs⟩) (hw : WAt w rb R rest T) (hR : ∀ x ∈ R, In32 x) (hl : R.length ≤ 1000) (hm : MemIs w mv0 M) (hsep : mv0.ownBlock ≠ some rb) (hin : 0 ≤ wrap32 (getR R xa + getR R xb) ∧ wrap32 (getR R xa + getR R xb) < (M.length : Int)) :
    Calls Try.prog 82 #[mv ⟨25, xd, xe, xa, xb, xc, ximm, xargs⟩ av, .slice (some ⟨rb, 0, none⟩) R.length rc, mv0] w (DoneP none (setR R xd (M.getD (wrap32 (getR R xa + getR R xb)).toNat 0)) (M) rb rest T mv0 w) := by
  obtain ⟨ma, mc, rfl, hml⟩ := hm.shape
  obtain ⟨aa, ac, rfl⟩ := nums_lenI h
  have HGET := Lib.hid (fun r w h => rget_any R rb rc rest T r w h (by omega))
  have hA := getR_32 hR xa
  have hB := getR_32 hR xb
  have hC := getR_32 hR xc
  obtain ⟨A, hAe⟩ : ∃ A, getR R xa = A := ⟨_, rfl⟩
  obtain ⟨B, hBe⟩ : ∃ B, getR R xb = B := ⟨_, rfl⟩
  obtain ⟨C, hCe⟩ : ∃ C, getR R xc = C := ⟨_, rfl⟩
  rw [hAe] at hA
  rw [hBe] at hB
  rw [hCe] at hC
  have HAE := Lib.hid hAe
  have HBE := Lib.hid hBe
  have HCE := Lib.hid hCe
  have hwa : WAt (w.alloc (.cells #[.int .i64 25, .int .i64 xd, .int .i64 xe, .int .i64 xa, .int .i64 xb, .int .i64 xc, .int .i32 ximm, .slice aa xargs.length ac] 46)) rb R rest T := hw.keep ((Since.refl _).alloc _)
  have HWA := Lib.hid hwa
  have HB0 := Lib.hid (HeapIs.new w #[.int .i64 25, .int .i64 xd, .int .i64 xe, .int .i64 xa, .int .i64 xb, .int .i64 xc, .int .i32 ximm, .slice aa xargs.length ac] 46)
  have hrb := hw.lt
  have hrne : ¬ w.heap.size = rb := by omega
  have HM0 := Lib.hid (hm.keep ((Since.refl w).alloc (.cells #[.int .i64 25, .int .i64 xd, .int .i64 xe, .int .i64 xa, .int .i64 xb, .int .i64 xc, .int .i32 ximm, .slice aa xargs.length ac] 46)))
  have HML := Lib.hid hml
  have HSEP := Lib.hid hsep
  have hil : -2147483648 ≤ ximm := hf.1
  have hiu : ximm ≤ 2147483647 := hf.2.1
  have HLL := Lib.hid hl
  have hrl : R.length ≤ 1000 := hl
  clear h hf hw hR hm hsep hAe hBe hCe hwa hl
  unfold mv
  rw [HAE.out, HBE.out] at hin
  obtain ⟨hA1, hA2⟩ := hA
  obtain ⟨hB1, hB2⟩ := hB
  rw [HAE.out, HBE.out]
  have HLD := Lib.hid (fun w h => rload_any M (.slice ma M.length mc) (wrap32 (A + B)) w h (in32_wrap _).1 (in32_wrap _).2)
  unfold LoadQ at HLD
  rw [if_pos hin, decide_eq_true hin.1, decide_eq_true hin.2] at HLD
  generalize M.getD (wrap32 (A + B)).toNat 0 = x at *
  clear hin
  go_enter Try.func82, Try.ntmps82
  go_wp2_with fail
  refine (HGET.out _ _ HWA.out).mono ?_
  rw [HAE.out]
  rintro e0 w1 ⟨rfl, rfl⟩
  go_wp2_with fail
  refine (HGET.out _ _ HWA.out).mono ?_
  rw [HBE.out]
  rintro e0 w1 ⟨rfl, rfl⟩
  go_wp2_with fail
  refine (HGET.out _ _ HWA.out).mono ?_
  rw [HCE.out]
  rintro e0 w1 ⟨rfl, rfl⟩
  go_wp2_with fail
  refine (HLD.out _ HM0.out).mono ?_
  rintro e0 w1 ⟨rfl, rfl⟩
  go_wp2_with fail
  refine (rset_any (R) rb rc R.length rest T xd (x) _ HWA.out (by rw [show R.length = R.length from rfl]; have := HLL.out; omega) (rfl)).mono ?_
  rintro e0 w2 ⟨rfl, hw1⟩
  have ha1 : WAt w2 rb (setR (R) xd (x)) rest T := by rw [hw1]; exact setW_at HWA.out _ _
  have ht1 : Turn (fun k => k = rb) (w.alloc (.cells #[.int .i64 25, .int .i64 xd, .int .i64 xe, .int .i64 xa, .int .i64 xb, .int .i64 xc, .int .i32 ximm, .slice aa xargs.length ac] 46)) w2 := by rw [hw1]; exact setW_turn (S := fun k => k = rb) rfl _ _ _
  have hb1 := HB0.out.turn ht1 hrne
  have hlen1 : (setR (R) xd (x)).length = R.length := by rw [rsetR_len]
  have HWA1 := Lib.hid ha1
  have HT1 := Lib.hid (ht1)
  have HB1 := Lib.hid hb1
  have HLEN1 := Lib.hid hlen1
  have kd1 : w2.cell? ⟨w.heap.size, 1, none⟩ = some (.int .i64 xd) := hb1.cell 1
  have ke1 : w2.cell? ⟨w.heap.size, 2, none⟩ = some (.int .i64 xe) := hb1.cell 2
  have ka1 : w2.cell? ⟨w.heap.size, 3, none⟩ = some (.int .i64 xa) := hb1.cell 3
  have kb1 : w2.cell? ⟨w.heap.size, 4, none⟩ = some (.int .i64 xb) := hb1.cell 4
  have kl1 := hb1.lt
  clear hw1 ha1 ht1 hb1 hlen1
  go_wp2
  go_ret2
  exact ⟨rfl, HWA1.out, HM0.out.turn HT1.out (fun q hq e => HSEP.out (by rw [hq, e])), ((Turn.refl _ _).alloc _).trans (HT1.out.mono fun k _ h => .inl h)⟩

set_option maxHeartbeats 4000000 in
set_option maxRecDepth 100000 in
theorem rdo7_25_no (xd xe xa xb xc ximm : Int) (xargs : List Int) (av mv0 : Value) (R M : List Int) (rb rc : Nat) (rest : List Value) (T : TypeId) (w : World) (h : Ints w av xargs) (hf : Fine ⟨25, xd, xe, xa, xb, xc, ximm, xargs⟩) (hw : WAt w rb R rest T) (hR : ∀ x ∈ R, In32 x) (hl : R.length ≤ 1000) (hm : MemIs w mv0 M) (hsep : mv0.ownBlock ≠ some rb) (hin : ¬ (0 ≤ wrap32 (getR R xa + getR R xb) ∧ wrap32 (getR R xa + getR R xb) < (M.length : Int))) :
    Calls Try.prog 82 #[mv ⟨25, xd, xe, xa, xb, xc, ximm, xargs⟩ av, .slice (some ⟨rb, 0, none⟩) R.length rc, mv0] w (DoneP (some (-2)) (R) (M) rb rest T mv0 w) := by
  obtain ⟨ma, mc, rfl, hml⟩ := hm.shape
  obtain ⟨aa, ac, rfl⟩ := nums_lenI h
  have HGET := Lib.hid (fun r w h => rget_any R rb rc rest T r w h (by omega))
  have hA := getR_32 hR xa
  have hB := getR_32 hR xb
  have hC := getR_32 hR xc
  obtain ⟨A, hAe⟩ : ∃ A, getR R xa = A := ⟨_, rfl⟩
  obtain ⟨B, hBe⟩ : ∃ B, getR R xb = B := ⟨_, rfl⟩
  obtain ⟨C, hCe⟩ : ∃ C, getR R xc = C := ⟨_, rfl⟩
  rw [hAe] at hA
  rw [hBe] at hB
  rw [hCe] at hC
  have HAE := Lib.hid hAe
  have HBE := Lib.hid hBe
  have HCE := Lib.hid hCe
  have hwa : WAt (w.alloc (.cells #[.int .i64 25, .int .i64 xd, .int .i64 xe, .int .i64 xa, .int .i64 xb, .int .i64 xc, .int .i32 ximm, .slice aa xargs.length ac] 46)) rb R rest T := hw.keep ((Since.refl _).alloc _)
  have HWA := Lib.hid hwa
  have HB0 := Lib.hid (HeapIs.new w #[.int .i64 25, .int .i64 xd, .int .i64 xe, .int .i64 xa, .int .i64 xb, .int .i64 xc, .int .i32 ximm, .slice aa xargs.length ac] 46)
  have hrb := hw.lt
  have hrne : ¬ w.heap.size = rb := by omega
  have HM0 := Lib.hid (hm.keep ((Since.refl w).alloc (.cells #[.int .i64 25, .int .i64 xd, .int .i64 xe, .int .i64 xa, .int .i64 xb, .int .i64 xc, .int .i32 ximm, .slice aa xargs.length ac] 46)))
  have HML := Lib.hid hml
  have HSEP := Lib.hid hsep
  have hil : -2147483648 ≤ ximm := hf.1
  have hiu : ximm ≤ 2147483647 := hf.2.1
  have HLL := Lib.hid hl
  have hrl : R.length ≤ 1000 := hl
  clear h hf hw hR hm hsep hAe hBe hCe hwa hl
  unfold mv
  rw [HAE.out, HBE.out] at hin
  obtain ⟨hA1, hA2⟩ := hA
  obtain ⟨hB1, hB2⟩ := hB
  have HLD := Lib.hid (fun w h => rload_any M (.slice ma M.length mc) (wrap32 (A + B)) w h (in32_wrap _).1 (in32_wrap _).2)
  unfold LoadQ at HLD
  have hbb : (decide (0 ≤ wrap32 (A + B)) && decide (wrap32 (A + B) < (M.length : Int))) = false := by
    rw [Bool.and_eq_false_iff]
    by_cases h0 : 0 ≤ wrap32 (A + B)
    · right; exact decide_eq_false (by omega)
    · left; exact decide_eq_false h0
  rw [if_neg hin, hbb] at HLD
  clear hbb
  clear hin
  go_enter Try.func82, Try.ntmps82
  go_wp2_with fail
  refine (HGET.out _ _ HWA.out).mono ?_
  rw [HAE.out]
  rintro e0 w1 ⟨rfl, rfl⟩
  go_wp2_with fail
  refine (HGET.out _ _ HWA.out).mono ?_
  rw [HBE.out]
  rintro e0 w1 ⟨rfl, rfl⟩
  go_wp2_with fail
  refine (HGET.out _ _ HWA.out).mono ?_
  rw [HCE.out]
  rintro e0 w1 ⟨rfl, rfl⟩
  go_wp2_with fail
  refine (HLD.out _ HM0.out).mono ?_
  rintro e0 w1 ⟨rfl, rfl⟩
  go_wp2
  go_ret2
  exact ⟨rfl, HWA.out, HM0.out, (Turn.refl _ _).alloc _⟩

set_option maxHeartbeats 4000000 in
set_option maxRecDepth 100000 in
theorem rdo7_26_ok (xd xe xa xb xc ximm : Int) (xargs : List Int) (av mv0 : Value) (R M : List Int) (rb rc : Nat) (rest : List Value) (T : TypeId) (w : World) (h : Ints w av xargs) (hf : Fine ⟨26, xd, xe, xa, xb, xc, ximm, xargs⟩) (hw : WAt w rb R rest T) (hR : ∀ x ∈ R, In32 x) (hl : R.length ≤ 1000) (hm : MemIs w mv0 M) (hsep : mv0.ownBlock ≠ some rb) (hin : 0 ≤ wrap32 (getR R xa + ximm) ∧ wrap32 (getR R xa + ximm) < (M.length : Int)) :
    Calls Try.prog 82 #[mv ⟨26, xd, xe, xa, xb, xc, ximm, xargs⟩ av, .slice (some ⟨rb, 0, none⟩) R.length rc, mv0] w (DoneP none (R) (M.set (wrap32 (getR R xa + ximm)).toNat (getR R xb)) rb rest T mv0 w) := by
  obtain ⟨ma, mc, rfl, hml⟩ := hm.shape
  obtain ⟨aa, ac, rfl⟩ := nums_lenI h
  have HGET := Lib.hid (fun r w h => rget_any R rb rc rest T r w h (by omega))
  have hA := getR_32 hR xa
  have hB := getR_32 hR xb
  have hC := getR_32 hR xc
  obtain ⟨A, hAe⟩ : ∃ A, getR R xa = A := ⟨_, rfl⟩
  obtain ⟨B, hBe⟩ : ∃ B, getR R xb = B := ⟨_, rfl⟩
  obtain ⟨C, hCe⟩ : ∃ C, getR R xc = C := ⟨_, rfl⟩
  rw [hAe] at hA
  rw [hBe] at hB
  rw [hCe] at hC
  have HAE := Lib.hid hAe
  have HBE := Lib.hid hBe
  have HCE := Lib.hid hCe
  have hwa : WAt (w.alloc (.cells #[.int .i64 26, .int .i64 xd, .int .i64 xe, .int .i64 xa, .int .i64 xb, .int .i64 xc, .int .i32 ximm, .slice aa xargs.length ac] 46)) rb R rest T := hw.keep ((Since.refl _).alloc _)
  have HWA := Lib.hid hwa
  have HB0 := Lib.hid (HeapIs.new w #[.int .i64 26, .int .i64 xd, .int .i64 xe, .int .i64 xa, .int .i64 xb, .int .i64 xc, .int .i32 ximm, .slice aa xargs.length ac] 46)
  have hrb := hw.lt
  have hrne : ¬ w.heap.size = rb := by omega
  have HM0 := Lib.hid (hm.keep ((Since.refl w).alloc (.cells #[.int .i64 26, .int .i64 xd, .int .i64 xe, .int .i64 xa, .int .i64 xb, .int .i64 xc, .int .i32 ximm, .slice aa xargs.length ac] 46)))
  have HML := Lib.hid hml
  have HSEP := Lib.hid hsep
  have hil : -2147483648 ≤ ximm := hf.1
  have hiu : ximm ≤ 2147483647 := hf.2.1
  have HLL := Lib.hid hl
  have hrl : R.length ≤ 1000 := hl
  clear h hf hw hR hm hsep hAe hBe hCe hwa hl
  unfold mv
  rw [HAE.out] at hin
  obtain ⟨hA1, hA2⟩ := hA
  obtain ⟨hB1, hB2⟩ := hB
  obtain ⟨hC1, hC2⟩ := hC
  rw [HAE.out, HBE.out]
  have HST := Lib.hid (fun w h => rstore_any M (.slice ma M.length mc) (wrap32 (A + ximm)) B w h (in32_wrap _).1 (in32_wrap _).2)
  unfold StoreP at HST
  rw [if_pos hin, decide_eq_true hin.1, decide_eq_true hin.2] at HST
  generalize M.set (wrap32 (A + ximm)).toNat B = M' at *
  clear hin
  go_enter Try.func82, Try.ntmps82
  go_wp2_with fail
  refine (HGET.out _ _ HWA.out).mono ?_
  rw [HAE.out]
  rintro e0 w1 ⟨rfl, rfl⟩
  go_wp2_with fail
  refine (HGET.out _ _ HWA.out).mono ?_
  rw [HBE.out]
  rintro e0 w1 ⟨rfl, rfl⟩
  go_wp2_with fail
  refine (HGET.out _ _ HWA.out).mono ?_
  rw [HCE.out]
  rintro e0 w1 ⟨rfl, rfl⟩
  go_wp2_with fail
  refine (HST.out _ HM0.out).mono ?_
  rintro e0 w2 ⟨rfl, hm2, ht2⟩
  have HM2 := Lib.hid hm2
  have HT2 := Lib.hid ht2
  clear hm2 ht2
  go_wp2
  go_ret2
  exact ⟨rfl, HWA.out.turn HT2.out HSEP.out, HM2.out, ((Turn.refl _ _).alloc _).trans (HT2.out.mono fun k _ h => .inr h)⟩

set_option maxHeartbeats 4000000 in
set_option maxRecDepth 100000 in
theorem rdo7_26_no (xd xe xa xb xc ximm : Int) (xargs : List Int) (av mv0 : Value) (R M : List Int) (rb rc : Nat) (rest : List Value) (T : TypeId) (w : World) (h : Ints w av xargs) (hf : Fine ⟨26, xd, xe, xa, xb, xc, ximm, xargs⟩) (hw : WAt w rb R rest T) (hR : ∀ x ∈ R, In32 x) (hl : R.length ≤ 1000) (hm : MemIs w mv0 M) (hsep : mv0.ownBlock ≠ some rb) (hin : ¬ (0 ≤ wrap32 (getR R xa + ximm) ∧ wrap32 (getR R xa + ximm) < (M.length : Int))) :
    Calls Try.prog 82 #[mv ⟨26, xd, xe, xa, xb, xc, ximm, xargs⟩ av, .slice (some ⟨rb, 0, none⟩) R.length rc, mv0] w (DoneP (some (-2)) (R) (M) rb rest T mv0 w) := by
  obtain ⟨ma, mc, rfl, hml⟩ := hm.shape
  obtain ⟨aa, ac, rfl⟩ := nums_lenI h
  have HGET := Lib.hid (fun r w h => rget_any R rb rc rest T r w h (by omega))
  have hA := getR_32 hR xa
  have hB := getR_32 hR xb
  have hC := getR_32 hR xc
  obtain ⟨A, hAe⟩ : ∃ A, getR R xa = A := ⟨_, rfl⟩
  obtain ⟨B, hBe⟩ : ∃ B, getR R xb = B := ⟨_, rfl⟩
  obtain ⟨C, hCe⟩ : ∃ C, getR R xc = C := ⟨_, rfl⟩
  rw [hAe] at hA
  rw [hBe] at hB
  rw [hCe] at hC
  have HAE := Lib.hid hAe
  have HBE := Lib.hid hBe
  have HCE := Lib.hid hCe
  have hwa : WAt (w.alloc (.cells #[.int .i64 26, .int .i64 xd, .int .i64 xe, .int .i64 xa, .int .i64 xb, .int .i64 xc, .int .i32 ximm, .slice aa xargs.length ac] 46)) rb R rest T := hw.keep ((Since.refl _).alloc _)
  have HWA := Lib.hid hwa
  have HB0 := Lib.hid (HeapIs.new w #[.int .i64 26, .int .i64 xd, .int .i64 xe, .int .i64 xa, .int .i64 xb, .int .i64 xc, .int .i32 ximm, .slice aa xargs.length ac] 46)
  have hrb := hw.lt
  have hrne : ¬ w.heap.size = rb := by omega
  have HM0 := Lib.hid (hm.keep ((Since.refl w).alloc (.cells #[.int .i64 26, .int .i64 xd, .int .i64 xe, .int .i64 xa, .int .i64 xb, .int .i64 xc, .int .i32 ximm, .slice aa xargs.length ac] 46)))
  have HML := Lib.hid hml
  have HSEP := Lib.hid hsep
  have hil : -2147483648 ≤ ximm := hf.1
  have hiu : ximm ≤ 2147483647 := hf.2.1
  have HLL := Lib.hid hl
  have hrl : R.length ≤ 1000 := hl
  clear h hf hw hR hm hsep hAe hBe hCe hwa hl
  unfold mv
  rw [HAE.out] at hin
  obtain ⟨hA1, hA2⟩ := hA
  obtain ⟨hB1, hB2⟩ := hB
  obtain ⟨hC1, hC2⟩ := hC
  have HST := Lib.hid (fun w h => rstore_any M (.slice ma M.length mc) (wrap32 (A + ximm)) B w h (in32_wrap _).1 (in32_wrap _).2)
  unfold StoreP at HST
  have hbb : (decide (0 ≤ wrap32 (A + ximm)) && decide (wrap32 (A + ximm) < (M.length : Int))) = false := by
    rw [Bool.and_eq_false_iff]
    by_cases h0 : 0 ≤ wrap32 (A + ximm)
    · right; exact decide_eq_false (by omega)
    · left; exact decide_eq_false h0
  rw [if_neg hin, hbb] at HST
  clear hbb
  clear hin
  go_enter Try.func82, Try.ntmps82
  go_wp2_with fail
  refine (HGET.out _ _ HWA.out).mono ?_
  rw [HAE.out]
  rintro e0 w1 ⟨rfl, rfl⟩
  go_wp2_with fail
  refine (HGET.out _ _ HWA.out).mono ?_
  rw [HBE.out]
  rintro e0 w1 ⟨rfl, rfl⟩
  go_wp2_with fail
  refine (HGET.out _ _ HWA.out).mono ?_
  rw [HCE.out]
  rintro e0 w1 ⟨rfl, rfl⟩
  go_wp2_with fail
  refine (HST.out _ HM0.out).mono ?_
  rintro e0 w2 ⟨rfl, hm2, ht2⟩
  have HM2 := Lib.hid hm2
  have HT2 := Lib.hid ht2
  clear hm2 ht2
  go_wp2
  go_ret2
  exact ⟨rfl, HWA.out.turn HT2.out HSEP.out, HM2.out, ((Turn.refl _ _).alloc _).trans (HT2.out.mono fun k _ h => .inr h)⟩

set_option maxHeartbeats 4000000 in
set_option maxRecDepth 100000 in
theorem rdo7_27_ok (xd xe xa xb xc ximm : Int) (xargs : List Int) (av mv0 : Value) (R M : List Int) (rb rc : Nat) (rest : List Value) (T : TypeId) (w : World) (h : Ints w av xargs) (hf : Fine ⟨27, xd, xe, xa, xb, xc, ximm, xargs⟩) (hw : WAt w rb R rest T) (hR : ∀ x ∈ R, In32 x) (hl : R.length ≤ 1000) (hm : MemIs w mv0 M) (hsep : mv0.ownBlock ≠ some rb) (hin : 0 ≤ wrap32 (getR R xa + getR R xb) ∧ wrap32 (getR R xa + getR R xb) < (M.length : Int)) :
    Calls Try.prog 82 #[mv ⟨27, xd, xe, xa, xb, xc, ximm, xargs⟩ av, .slice (some ⟨rb, 0, none⟩) R.length rc, mv0] w (DoneP none (R) (M.set (wrap32 (getR R xa + getR R xb)).toNat (getR R xc)) rb rest T mv0 w) := by
  obtain ⟨ma, mc, rfl, hml⟩ := hm.shape
  obtain ⟨aa, ac, rfl⟩ := nums_lenI h
  have HGET := Lib.hid (fun r w h => rget_any R rb rc rest T r w h (by omega))
  have hA := getR_32 hR xa
  have hB := getR_32 hR xb
  have hC := getR_32 hR xc
  obtain ⟨A, hAe⟩ : ∃ A, getR R xa = A := ⟨_, rfl⟩
  obtain ⟨B, hBe⟩ : ∃ B, getR R xb = B := ⟨_, rfl⟩
  obtain ⟨C, hCe⟩ : ∃ C, getR R xc = C := ⟨_, rfl⟩
  rw [hAe] at hA
  rw [hBe] at hB
  rw [hCe] at hC
  have HAE := Lib.hid hAe
  have HBE := Lib.hid hBe
  have HCE := Lib.hid hCe
  have hwa : WAt (w.alloc (.cells #[.int .i64 27, .int .i64 xd, .int .i64 xe, .int .i64 xa, .int .i64 xb, .int .i64 xc, .int .i32 ximm, .slice aa xargs.length ac] 46)) rb R rest T := hw.keep ((Since.refl _).alloc _)
  have HWA := Lib.hid hwa
  have HB0 := Lib.hid (HeapIs.new w #[.int .i64 27, .int .i64 xd, .int .i64 xe, .int .i64 xa, .int .i64 xb, .int .i64 xc, .int .i32 ximm, .slice aa xargs.length ac] 46)
  have hrb := hw.lt
  have hrne : ¬ w.heap.size = rb := by omega
  have HM0 := Lib.hid (hm.keep ((Since.refl w).alloc (.cells #[.int .i64 27, .int .i64 xd, .int .i64 xe, .int .i64 xa, .int .i64 xb, .int .i64 xc, .int .i32 ximm, .slice aa xargs.length ac] 46)))
  have HML := Lib.hid hml
  have HSEP := Lib.hid hsep
  have hil : -2147483648 ≤ ximm := hf.1
  have hiu : ximm ≤ 2147483647 := hf.2.1
  have HLL := Lib.hid hl
  have hrl : R.length ≤ 1000 := hl
  clear h hf hw hR hm hsep hAe hBe hCe hwa hl
  unfold mv
  rw [HAE.out, HBE.out] at hin
  obtain ⟨hA1, hA2⟩ := hA
  obtain ⟨hB1, hB2⟩ := hB
  obtain ⟨hC1, hC2⟩ := hC
  rw [HAE.out, HBE.out, HCE.out]
  have HST := Lib.hid (fun w h => rstore_any M (.slice ma M.length mc) (wrap32 (A + B)) C w h (in32_wrap _).1 (in32_wrap _).2)
  unfold StoreP at HST
  rw [if_pos hin, decide_eq_true hin.1, decide_eq_true hin.2] at HST
  generalize M.set (wrap32 (A + B)).toNat C = M' at *
  clear hin
  go_enter Try.func82, Try.ntmps82
  go_wp2_with fail
  refine (HGET.out _ _ HWA.out).mono ?_
  rw [HAE.out]
  rintro e0 w1 ⟨rfl, rfl⟩
  go_wp2_with fail
  refine (HGET.out _ _ HWA.out).mono ?_
  rw [HBE.out]
  rintro e0 w1 ⟨rfl, rfl⟩
  go_wp2_with fail
  refine (HGET.out _ _ HWA.out).mono ?_
  rw [HCE.out]
  rintro e0 w1 ⟨rfl, rfl⟩
  go_wp2_with fail
  refine (HST.out _ HM0.out).mono ?_
  rintro e0 w2 ⟨rfl, hm2, ht2⟩
  have HM2 := Lib.hid hm2
  have HT2 := Lib.hid ht2
  clear hm2 ht2
  go_wp2
  go_ret2
  exact ⟨rfl, HWA.out.turn HT2.out HSEP.out, HM2.out, ((Turn.refl _ _).alloc _).trans (HT2.out.mono fun k _ h => .inr h)⟩

set_option maxHeartbeats 4000000 in
set_option maxRecDepth 100000 in
theorem rdo7_27_no (xd xe xa xb xc ximm : Int) (xargs : List Int) (av mv0 : Value) (R M : List Int) (rb rc : Nat) (rest : List Value) (T : TypeId) (w : World) (h : Ints w av xargs) (hf : Fine ⟨27, xd, xe, xa, xb, xc, ximm, xargs⟩) (hw : WAt w rb R rest T) (hR : ∀ x ∈ R, In32 x) (hl : R.length ≤ 1000) (hm : MemIs w mv0 M) (hsep : mv0.ownBlock ≠ some rb) (hin : ¬ (0 ≤ wrap32 (getR R xa + getR R xb) ∧ wrap32 (getR R xa + getR R xb) < (M.length : Int))) :
    Calls Try.prog 82 #[mv ⟨27, xd, xe, xa, xb, xc, ximm, xargs⟩ av, .slice (some ⟨rb, 0, none⟩) R.length rc, mv0] w (DoneP (some (-2)) (R) (M) rb rest T mv0 w) := by
  obtain ⟨ma, mc, rfl, hml⟩ := hm.shape
  obtain ⟨aa, ac, rfl⟩ := nums_lenI h
  have HGET := Lib.hid (fun r w h => rget_any R rb rc rest T r w h (by omega))
  have hA := getR_32 hR xa
  have hB := getR_32 hR xb
  have hC := getR_32 hR xc
  obtain ⟨A, hAe⟩ : ∃ A, getR R xa = A := ⟨_, rfl⟩
  obtain ⟨B, hBe⟩ : ∃ B, getR R xb = B := ⟨_, rfl⟩
  obtain ⟨C, hCe⟩ : ∃ C, getR R xc = C := ⟨_, rfl⟩
  rw [hAe] at hA
  rw [hBe] at hB
  rw [hCe] at hC
  have HAE := Lib.hid hAe
  have HBE := Lib.hid hBe
  have HCE := Lib.hid hCe
  have hwa : WAt (w.alloc (.cells #[.int .i64 27, .int .i64 xd, .int .i64 xe, .int .i64 xa, .int .i64 xb, .int .i64 xc, .int .i32 ximm, .slice aa xargs.length ac] 46)) rb R rest T := hw.keep ((Since.refl _).alloc _)
  have HWA := Lib.hid hwa
  have HB0 := Lib.hid (HeapIs.new w #[.int .i64 27, .int .i64 xd, .int .i64 xe, .int .i64 xa, .int .i64 xb, .int .i64 xc, .int .i32 ximm, .slice aa xargs.length ac] 46)
  have hrb := hw.lt
  have hrne : ¬ w.heap.size = rb := by omega
  have HM0 := Lib.hid (hm.keep ((Since.refl w).alloc (.cells #[.int .i64 27, .int .i64 xd, .int .i64 xe, .int .i64 xa, .int .i64 xb, .int .i64 xc, .int .i32 ximm, .slice aa xargs.length ac] 46)))
  have HML := Lib.hid hml
  have HSEP := Lib.hid hsep
  have hil : -2147483648 ≤ ximm := hf.1
  have hiu : ximm ≤ 2147483647 := hf.2.1
  have HLL := Lib.hid hl
  have hrl : R.length ≤ 1000 := hl
  clear h hf hw hR hm hsep hAe hBe hCe hwa hl
  unfold mv
  rw [HAE.out, HBE.out] at hin
  obtain ⟨hA1, hA2⟩ := hA
  obtain ⟨hB1, hB2⟩ := hB
  obtain ⟨hC1, hC2⟩ := hC
  have HST := Lib.hid (fun w h => rstore_any M (.slice ma M.length mc) (wrap32 (A + B)) C w h (in32_wrap _).1 (in32_wrap _).2)
  unfold StoreP at HST
  have hbb : (decide (0 ≤ wrap32 (A + B)) && decide (wrap32 (A + B) < (M.length : Int))) = false := by
    rw [Bool.and_eq_false_iff]
    by_cases h0 : 0 ≤ wrap32 (A + B)
    · right; exact decide_eq_false (by omega)
    · left; exact decide_eq_false h0
  rw [if_neg hin, hbb] at HST
  clear hbb
  clear hin
  go_enter Try.func82, Try.ntmps82
  go_wp2_with fail
  refine (HGET.out _ _ HWA.out).mono ?_
  rw [HAE.out]
  rintro e0 w1 ⟨rfl, rfl⟩
  go_wp2_with fail
  refine (HGET.out _ _ HWA.out).mono ?_
  rw [HBE.out]
  rintro e0 w1 ⟨rfl, rfl⟩
  go_wp2_with fail
  refine (HGET.out _ _ HWA.out).mono ?_
  rw [HCE.out]
  rintro e0 w1 ⟨rfl, rfl⟩
  go_wp2_with fail
  refine (HST.out _ HM0.out).mono ?_
  rintro e0 w2 ⟨rfl, hm2, ht2⟩
  have HM2 := Lib.hid hm2
  have HT2 := Lib.hid ht2
  clear hm2 ht2
  go_wp2
  go_ret2
  exact ⟨rfl, HWA.out.turn HT2.out HSEP.out, HM2.out, ((Turn.refl _ _).alloc _).trans (HT2.out.mono fun k _ h => .inr h)⟩

theorem rdo7_any (m : Mach) (av mv0 : Value) (R M : List Int) (rb rc : Nat) (rest : List Value) (T : TypeId) (w : World) (h : Ints w av m.args) (hf : Fine m) (hw : WAt w rb R rest T) (hR : ∀ x ∈ R, In32 x) (hl : R.length ≤ 1000) (hm : MemIs w mv0 M) (hsep : mv0.ownBlock ≠ some rb) :
    Calls Try.prog 82 #[mv m av, .slice (some ⟨rb, 0, none⟩) R.length rc, mv0] w (DoneP (doM m R M).1 (doM m R M).2.1 (doM m R M).2.2 rb rest T mv0 w) := by
  obtain ⟨op, xd, xe, xa, xb, xc, ximm, xargs⟩ := m
  dsimp only at h
  by_cases g1 : op = 1
  · subst g1; exact rdo7_1 xd xe xa xb xc ximm xargs av mv0 R M rb rc rest T w h hf hw hR hl hm hsep
  by_cases g2 : op = 2
  · subst g2; exact rdo7_2 xd xe xa xb xc ximm xargs av mv0 R M rb rc rest T w h hf hw hR hl hm hsep
  by_cases g3 : op = 3
  · subst g3; exact rdo7_3 xd xe xa xb xc ximm xargs av mv0 R M rb rc rest T w h hf hw hR hl hm hsep
  by_cases g4 : op = 4
  · subst g4; exact rdo7_4 xd xe xa xb xc ximm xargs av mv0 R M rb rc rest T w h hf hw hR hl hm hsep
  by_cases galu : 5 ≤ op ∧ op ≤ 17
  · have e : doM ⟨op, xd, xe, xa, xb, xc, ximm, xargs⟩ R M = (match doI (op - 5 + 2) (getR R xa) (getR R xb) with | none => (some (-1), R, M) | some v => (none, setR R xd v, M)) := by unfold doM; dsimp only; rw [if_neg (by omega), if_neg (by omega), if_neg (by omega), if_pos (by omega), show op - 3 = op - 5 + 2 from by omega]; cases doI (op - 5 + 2) (getR R xa) (getR R xb) <;> rfl
    rw [e]
    cases hv : doI (op - 5 + 2) (getR R xa) (getR R xb) with
    | none => exact rdo7_trap op xd xe xa xb xc ximm xargs av mv0 R M rb rc rest T w h hf hw hR hl hm hsep galu hv
    | some v => exact rdo7_alu op xd xe xa xb xc ximm xargs av mv0 R M rb rc rest T w h hf hw hR hl hm hsep galu v hv
  by_cases g18 : op = 18
  · subst g18; exact rdo7_18 xd xe xa xb xc ximm xargs av mv0 R M rb rc rest T w h hf hw hR hl hm hsep
  by_cases g19 : op = 19
  · subst g19; exact rdo7_19 xd xe xa xb xc ximm xargs av mv0 R M rb rc rest T w h hf hw hR hl hm hsep
  by_cases g20 : op = 20
  · subst g20; exact rdo7_20 xd xe xa xb xc ximm xargs av mv0 R M rb rc rest T w h hf hw hR hl hm hsep
  by_cases g21 : op = 21
  · subst g21; exact rdo7_21 xd xe xa xb xc ximm xargs av mv0 R M rb rc rest T w h hf hw hR hl hm hsep
  by_cases g22 : op = 22
  · subst g22; exact rdo7_22 xd xe xa xb xc ximm xargs av mv0 R M rb rc rest T w h hf hw hR hl hm hsep
  by_cases g23 : op = 23
  · subst g23; exact rdo7_23 xd xe xa xb xc ximm xargs av mv0 R M rb rc rest T w h hf hw hR hl hm hsep
  by_cases g24 : op = 24
  · subst g24
    have e : doM ⟨24, xd, xe, xa, xb, xc, ximm, xargs⟩ R M = if 0 ≤ wrap32 (getR R xa + ximm) ∧ wrap32 (getR R xa + ximm) < (M.length : Int) then (none, setR R xd (M.getD (wrap32 (getR R xa + ximm)).toNat 0), M) else (some (-2), R, M) := rfl
    rw [e]
    by_cases hin : 0 ≤ wrap32 (getR R xa + ximm) ∧ wrap32 (getR R xa + ximm) < (M.length : Int)
    · rw [if_pos hin]; exact rdo7_24_ok xd xe xa xb xc ximm xargs av mv0 R M rb rc rest T w h hf hw hR hl hm hsep hin
    · rw [if_neg hin]; exact rdo7_24_no xd xe xa xb xc ximm xargs av mv0 R M rb rc rest T w h hf hw hR hl hm hsep hin
  by_cases g25 : op = 25
  · subst g25
    have e : doM ⟨25, xd, xe, xa, xb, xc, ximm, xargs⟩ R M = if 0 ≤ wrap32 (getR R xa + getR R xb) ∧ wrap32 (getR R xa + getR R xb) < (M.length : Int) then (none, setR R xd (M.getD (wrap32 (getR R xa + getR R xb)).toNat 0), M) else (some (-2), R, M) := rfl
    rw [e]
    by_cases hin : 0 ≤ wrap32 (getR R xa + getR R xb) ∧ wrap32 (getR R xa + getR R xb) < (M.length : Int)
    · rw [if_pos hin]; exact rdo7_25_ok xd xe xa xb xc ximm xargs av mv0 R M rb rc rest T w h hf hw hR hl hm hsep hin
    · rw [if_neg hin]; exact rdo7_25_no xd xe xa xb xc ximm xargs av mv0 R M rb rc rest T w h hf hw hR hl hm hsep hin
  by_cases g26 : op = 26
  · subst g26
    have e : doM ⟨26, xd, xe, xa, xb, xc, ximm, xargs⟩ R M = if 0 ≤ wrap32 (getR R xa + ximm) ∧ wrap32 (getR R xa + ximm) < (M.length : Int) then (none, R, M.set (wrap32 (getR R xa + ximm)).toNat (getR R xb)) else (some (-2), R, M) := rfl
    rw [e]
    by_cases hin : 0 ≤ wrap32 (getR R xa + ximm) ∧ wrap32 (getR R xa + ximm) < (M.length : Int)
    · rw [if_pos hin]; exact rdo7_26_ok xd xe xa xb xc ximm xargs av mv0 R M rb rc rest T w h hf hw hR hl hm hsep hin
    · rw [if_neg hin]; exact rdo7_26_no xd xe xa xb xc ximm xargs av mv0 R M rb rc rest T w h hf hw hR hl hm hsep hin
  by_cases g27 : op = 27
  · subst g27
    have e : doM ⟨27, xd, xe, xa, xb, xc, ximm, xargs⟩ R M = if 0 ≤ wrap32 (getR R xa + getR R xb) ∧ wrap32 (getR R xa + getR R xb) < (M.length : Int) then (none, R, M.set (wrap32 (getR R xa + getR R xb)).toNat (getR R xc)) else (some (-2), R, M) := rfl
    rw [e]
    by_cases hin : 0 ≤ wrap32 (getR R xa + getR R xb) ∧ wrap32 (getR R xa + getR R xb) < (M.length : Int)
    · rw [if_pos hin]; exact rdo7_27_ok xd xe xa xb xc ximm xargs av mv0 R M rb rc rest T w h hf hw hR hl hm hsep hin
    · rw [if_neg hin]; exact rdo7_27_no xd xe xa xb xc ximm xargs av mv0 R M rb rc rest T w h hf hw hR hl hm hsep hin
  by_cases g29 : op = 29
  · subst g29; exact rdo7_29 xd xe xa xb xc ximm xargs av mv0 R M rb rc rest T w h hf hw hR hl hm hsep
  have e : doM ⟨op, xd, xe, xa, xb, xc, ximm, xargs⟩ R M = (none, R, M) := by unfold doM; dsimp only; rw [if_neg (by omega), if_neg (by omega), if_neg (by omega), if_neg (by omega), if_neg (by omega), if_neg (by omega), if_neg (by omega), if_neg (by omega), if_neg (by omega)]
  rw [e]
  by_cases glo : op < 1
  · exact rdo7_none_lo op xd xe xa xb xc ximm xargs av mv0 R M rb rc rest T w h hf hw hR hl hm hsep glo
  · exact rdo7_none_hi op xd xe xa xb xc ximm xargs av mv0 R M rb rc rest T w h hf hw hR hl hm hsep (by omega)

end Go.Proofs.Ytkpbmbhejpmboaa
