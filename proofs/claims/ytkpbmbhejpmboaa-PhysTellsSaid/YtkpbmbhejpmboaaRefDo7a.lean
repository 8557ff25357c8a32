/- jacquardref07.Do: operations that leave memory. -/
import Derived.Test.YtkpbmbhejpmboaaRefWords
import Derived.Test.YtkpbmbhejpmboaaWho
namespace Go.Proofs.Ytkpbmbhejpmboaa
open Go.RowKit
set_option linter.unusedVariables false

set_option maxHeartbeats 4000000 in
set_option maxRecDepth 100000 in
theorem rdo7_1 (xd xe xa xb xc ximm : Int) (xargs : List Int) (av mv0 : Value) (R M : List Int) (rb rc : Nat) (rest : List Value) (T : TypeId) (w : World) (h : Ints w av xargs) (hf : Fine ⟨1, xd, xe, xa, xb, xc, ximm, xargs⟩) (hw : WAt w rb R rest T) (hR : ∀ x ∈ R, In32 x) (hl : R.length ≤ 1000) (hm : MemIs w mv0 M) (hsep : mv0.ownBlock ≠ some rb) :
    Calls Try.prog 82 #[mv ⟨1, xd, xe, xa, xb, xc, ximm, xargs⟩ av, .slice (some ⟨rb, 0, none⟩) R.length rc, mv0] w (DoneP none (setR R xd (getR R xa)) (M) rb rest T mv0 w) := by
  obtain ⟨ma, mc, rfl, hml⟩ := hm.shape
  obtain ⟨aa, ac, rfl⟩ := nums_lenI h
  have HGET := Lib.hid (fun r w h => rget_any R rb rc rest T r w h (by omega))
  have hA := getR_32 hR xa
  have hB := getR_32 hR xb
  have hC := getR_32 hR xc
  obtain ⟨A, hAe⟩ : ∃ A, getR R xa = A := ⟨_, rfl⟩
  obtain ⟨B, hBe⟩ : ∃ B, getR R xb = B := ⟨_, rfl⟩
  obtain ⟨C, hCe⟩ : ∃ C, getR R xc = C := ⟨_, rfl⟩
  rw [hAe] at hA
  rw [hBe] at hB
  rw [hCe] at hC
  have HAE := Lib.hid hAe
  have HBE := Lib.hid hBe
  have HCE := Lib.hid hCe
  have hwa : WAt (w.alloc (.cells #[.int .i64 1, .int .i64 xd, .int .i64 xe, .int .i64 xa, .int .i64 xb, .int .i64 xc, .int .i32 ximm, .slice aa xargs.length ac] 46)) rb R rest T := hw.keep ((Since.refl _).alloc _)
  have HWA := Lib.hid hwa
  have HB0 := Lib.hid (HeapIs.new w #[.int .i64 1, .int .i64 xd, .int .i64 xe, .int .i64 xa, .int .i64 xb, .int .i64 xc, .int .i32 ximm, .slice aa xargs.length ac] 46)
  have hrb := hw.lt
  have hrne : ¬ w.heap.size = rb := by omega
  have HM0 := Lib.hid (hm.keep ((Since.refl w).alloc (.cells #[.int .i64 1, .int .i64 xd, .int .i64 xe, .int .i64 xa, .int .i64 xb, .int .i64 xc, .int .i32 ximm, .slice aa xargs.length ac] 46)))
  have HML := Lib.hid hml
  have HSEP := Lib.hid hsep
  have hil : -2147483648 ≤ ximm := hf.1
  have hiu : ximm ≤ 2147483647 := hf.2.1
  have HLL := Lib.hid hl
  have hrl : R.length ≤ 1000 := hl
  clear h hf hw hR hm hsep hAe hBe hCe hwa hl
  unfold mv
  rw [HAE.out]
  go_enter Try.func82, Try.ntmps82
  go_wp2_with fail
  refine (HGET.out _ _ HWA.out).mono ?_
  rw [HAE.out]
  rintro e0 w1 ⟨rfl, rfl⟩
  go_wp2_with fail
  refine (HGET.out _ _ HWA.out).mono ?_
  rw [HBE.out]
  rintro e0 w1 ⟨rfl, rfl⟩
  go_wp2_with fail
  refine (HGET.out _ _ HWA.out).mono ?_
  rw [HCE.out]
  rintro e0 w1 ⟨rfl, rfl⟩
  go_wp2_with fail
  refine (rset_any (R) rb rc R.length rest T xd (A) _ HWA.out (by rw [show R.length = R.length from rfl]; have := HLL.out; omega) (rfl)).mono ?_
  rintro e0 w2 ⟨rfl, hw1⟩
  have ha1 : WAt w2 rb (setR (R) xd (A)) rest T := by rw [hw1]; exact setW_at HWA.out _ _
  have ht1 : Turn (fun k => k = rb) (w.alloc (.cells #[.int .i64 1, .int .i64 xd, .int .i64 xe, .int .i64 xa, .int .i64 xb, .int .i64 xc, .int .i32 ximm, .slice aa xargs.length ac] 46)) w2 := by rw [hw1]; exact setW_turn (S := fun k => k = rb) rfl _ _ _
  have hb1 := HB0.out.turn ht1 hrne
  have hlen1 : (setR (R) xd (A)).length = R.length := by rw [rsetR_len]
  have HWA1 := Lib.hid ha1
  have HT1 := Lib.hid (ht1)
  have HB1 := Lib.hid hb1
  have HLEN1 := Lib.hid hlen1
  have kd1 : w2.cell? ⟨w.heap.size, 1, none⟩ = some (.int .i64 xd) := hb1.cell 1
  have ke1 : w2.cell? ⟨w.heap.size, 2, none⟩ = some (.int .i64 xe) := hb1.cell 2
  have ka1 : w2.cell? ⟨w.heap.size, 3, none⟩ = some (.int .i64 xa) := hb1.cell 3
  have kb1 : w2.cell? ⟨w.heap.size, 4, none⟩ = some (.int .i64 xb) := hb1.cell 4
  have kl1 := hb1.lt
  clear hw1 ha1 ht1 hb1 hlen1
  go_wp2
  go_ret2
  exact ⟨rfl, HWA1.out, HM0.out.turn HT1.out (fun q hq e => HSEP.out (by rw [hq, e])), ((Turn.refl _ _).alloc _).trans (HT1.out.mono fun k _ h => .inl h)⟩

set_option maxHeartbeats 4000000 in
set_option maxRecDepth 100000 in
theorem rdo7_2 (xd xe xa xb xc ximm : Int) (xargs : List Int) (av mv0 : Value) (R M : List Int) (rb rc : Nat) (rest : List Value) (T : TypeId) (w : World) (h : Ints w av xargs) (hf : Fine ⟨2, xd, xe, xa, xb, xc, ximm, xargs⟩) (hw : WAt w rb R rest T) (hR : ∀ x ∈ R, In32 x) (hl : R.length ≤ 1000) (hm : MemIs w mv0 M) (hsep : mv0.ownBlock ≠ some rb) :
    Calls Try.prog 82 #[mv ⟨2, xd, xe, xa, xb, xc, ximm, xargs⟩ av, .slice (some ⟨rb, 0, none⟩) R.length rc, mv0] w (DoneP none (setR (setR R xa (getR R xb)) xb (getR R xa)) (M) rb rest T mv0 w) := by
  obtain ⟨ma, mc, rfl, hml⟩ := hm.shape
  obtain ⟨aa, ac, rfl⟩ := nums_lenI h
  have HGET := Lib.hid (fun r w h => rget_any R rb rc rest T r w h (by omega))
  have hA := getR_32 hR xa
  have hB := getR_32 hR xb
  have hC := getR_32 hR xc
  obtain ⟨A, hAe⟩ : ∃ A, getR R xa = A := ⟨_, rfl⟩
  obtain ⟨B, hBe⟩ : ∃ B, getR R xb = B := ⟨_, rfl⟩
  obtain ⟨C, hCe⟩ : ∃ C, getR R xc = C := ⟨_, rfl⟩
  rw [hAe] at hA
  rw [hBe] at hB
  rw [hCe] at hC
  have HAE := Lib.hid hAe
  have HBE := Lib.hid hBe
  have HCE := Lib.hid hCe
  have hwa : WAt (w.alloc (.cells #[.int .i64 2, .int .i64 xd, .int .i64 xe, .int .i64 xa, .int .i64 xb, .int .i64 xc, .int .i32 ximm, .slice aa xargs.length ac] 46)) rb R rest T := hw.keep ((Since.refl _).alloc _)
  have HWA := Lib.hid hwa
  have HB0 := Lib.hid (HeapIs.new w #[.int .i64 2, .int .i64 xd, .int .i64 xe, .int .i64 xa, .int .i64 xb, .int .i64 xc, .int .i32 ximm, .slice aa xargs.length ac] 46)
  have hrb := hw.lt
  have hrne : ¬ w.heap.size = rb := by omega
  have HM0 := Lib.hid (hm.keep ((Since.refl w).alloc (.cells #[.int .i64 2, .int .i64 xd, .int .i64 xe, .int .i64 xa, .int .i64 xb, .int .i64 xc, .int .i32 ximm, .slice aa xargs.length ac] 46)))
  have HML := Lib.hid hml
  have HSEP := Lib.hid hsep
  have hil : -2147483648 ≤ ximm := hf.1
  have hiu : ximm ≤ 2147483647 := hf.2.1
  have HLL := Lib.hid hl
  have hrl : R.length ≤ 1000 := hl
  clear h hf hw hR hm hsep hAe hBe hCe hwa hl
  unfold mv
  rw [HAE.out, HBE.out]
  go_enter Try.func82, Try.ntmps82
  go_wp2_with fail
  refine (HGET.out _ _ HWA.out).mono ?_
  rw [HAE.out]
  rintro e0 w1 ⟨rfl, rfl⟩
  go_wp2_with fail
  refine (HGET.out _ _ HWA.out).mono ?_
  rw [HBE.out]
  rintro e0 w1 ⟨rfl, rfl⟩
  go_wp2_with fail
  refine (HGET.out _ _ HWA.out).mono ?_
  rw [HCE.out]
  rintro e0 w1 ⟨rfl, rfl⟩
  go_wp2_with fail
  refine (rset_any (R) rb rc R.length rest T xa (B) _ HWA.out (by rw [show R.length = R.length from rfl]; have := HLL.out; omega) (rfl)).mono ?_
  rintro e0 w2 ⟨rfl, hw1⟩
  have ha1 : WAt w2 rb (setR (R) xa (B)) rest T := by rw [hw1]; exact setW_at HWA.out _ _
  have ht1 : Turn (fun k => k = rb) (w.alloc (.cells #[.int .i64 2, .int .i64 xd, .int .i64 xe, .int .i64 xa, .int .i64 xb, .int .i64 xc, .int .i32 ximm, .slice aa xargs.length ac] 46)) w2 := by rw [hw1]; exact setW_turn (S := fun k => k = rb) rfl _ _ _
  have hb1 := HB0.out.turn ht1 hrne
  have hlen1 : (setR (R) xa (B)).length = R.length := by rw [rsetR_len]
  have HWA1 := Lib.hid ha1
  have HT1 := Lib.hid (ht1)
  have HB1 := Lib.hid hb1
  have HLEN1 := Lib.hid hlen1
  have kd1 : w2.cell? ⟨w.heap.size, 1, none⟩ = some (.int .i64 xd) := hb1.cell 1
  have ke1 : w2.cell? ⟨w.heap.size, 2, none⟩ = some (.int .i64 xe) := hb1.cell 2
  have ka1 : w2.cell? ⟨w.heap.size, 3, none⟩ = some (.int .i64 xa) := hb1.cell 3
  have kb1 : w2.cell? ⟨w.heap.size, 4, none⟩ = some (.int .i64 xb) := hb1.cell 4
  have kl1 := hb1.lt
  clear hw1 ha1 ht1 hb1 hlen1
  go_wp2_with fail
  refine (rset_any (setR R xa B) rb rc R.length rest T xb (A) _ HWA1.out (by rw [HLEN1.out]; have := HLL.out; omega) (HLEN1.out.symm)).mono ?_
  rintro e0 w3 ⟨rfl, hw2⟩
  have ha2 : WAt w3 rb (setR (setR R xa B) xb (A)) rest T := by rw [hw2]; exact setW_at HWA1.out _ _
  have ht2 : Turn (fun k => k = rb) w2 w3 := by rw [hw2]; exact setW_turn (S := fun k => k = rb) rfl _ _ _
  have hb2 := HB1.out.turn ht2 hrne
  have hlen2 : (setR (setR R xa B) xb (A)).length = R.length := by rw [rsetR_len]; exact HLEN1.out
  have HWA2 := Lib.hid ha2
  have HT2 := Lib.hid ((HT1.out).trans ht2)
  have HB2 := Lib.hid hb2
  have HLEN2 := Lib.hid hlen2
  have kd2 : w3.cell? ⟨w.heap.size, 1, none⟩ = some (.int .i64 xd) := hb2.cell 1
  have ke2 : w3.cell? ⟨w.heap.size, 2, none⟩ = some (.int .i64 xe) := hb2.cell 2
  have ka2 : w3.cell? ⟨w.heap.size, 3, none⟩ = some (.int .i64 xa) := hb2.cell 3
  have kb2 : w3.cell? ⟨w.heap.size, 4, none⟩ = some (.int .i64 xb) := hb2.cell 4
  have kl2 := hb2.lt
  clear hw2 ha2 ht2 hb2 hlen2
  go_wp2
  go_ret2
  exact ⟨rfl, HWA2.out, HM0.out.turn HT2.out (fun q hq e => HSEP.out (by rw [hq, e])), ((Turn.refl _ _).alloc _).trans (HT2.out.mono fun k _ h => .inl h)⟩

set_option maxHeartbeats 4000000 in
set_option maxRecDepth 100000 in
theorem rdo7_3 (xd xe xa xb xc ximm : Int) (xargs : List Int) (av mv0 : Value) (R M : List Int) (rb rc : Nat) (rest : List Value) (T : TypeId) (w : World) (h : Ints w av xargs) (hf : Fine ⟨3, xd, xe, xa, xb, xc, ximm, xargs⟩) (hw : WAt w rb R rest T) (hR : ∀ x ∈ R, In32 x) (hl : R.length ≤ 1000) (hm : MemIs w mv0 M) (hsep : mv0.ownBlock ≠ some rb) :
    Calls Try.prog 82 #[mv ⟨3, xd, xe, xa, xb, xc, ximm, xargs⟩ av, .slice (some ⟨rb, 0, none⟩) R.length rc, mv0] w (DoneP none (setR R xd ximm) (M) rb rest T mv0 w) := by
  obtain ⟨ma, mc, rfl, hml⟩ := hm.shape
  obtain ⟨aa, ac, rfl⟩ := nums_lenI h
  have HGET := Lib.hid (fun r w h => rget_any R rb rc rest T r w h (by omega))
  have hA := getR_32 hR xa
  have hB := getR_32 hR xb
  have hC := getR_32 hR xc
  obtain ⟨A, hAe⟩ : ∃ A, getR R xa = A := ⟨_, rfl⟩
  obtain ⟨B, hBe⟩ : ∃ B, getR R xb = B := ⟨_, rfl⟩
  obtain ⟨C, hCe⟩ : ∃ C, getR R xc = C := ⟨_, rfl⟩
  rw [hAe] at hA
  rw [hBe] at hB
  rw [hCe] at hC
  have HAE := Lib.hid hAe
  have HBE := Lib.hid hBe
  have HCE := Lib.hid hCe
  have hwa : WAt (w.alloc (.cells #[.int .i64 3, .int .i64 xd, .int .i64 xe, .int .i64 xa, .int .i64 xb, .int .i64 xc, .int .i32 ximm, .slice aa xargs.length ac] 46)) rb R rest T := hw.keep ((Since.refl _).alloc _)
  have HWA := Lib.hid hwa
  have HB0 := Lib.hid (HeapIs.new w #[.int .i64 3, .int .i64 xd, .int .i64 xe, .int .i64 xa, .int .i64 xb, .int .i64 xc, .int .i32 ximm, .slice aa xargs.length ac] 46)
  have hrb := hw.lt
  have hrne : ¬ w.heap.size = rb := by omega
  have HM0 := Lib.hid (hm.keep ((Since.refl w).alloc (.cells #[.int .i64 3, .int .i64 xd, .int .i64 xe, .int .i64 xa, .int .i64 xb, .int .i64 xc, .int .i32 ximm, .slice aa xargs.length ac] 46)))
  have HML := Lib.hid hml
  have HSEP := Lib.hid hsep
  have hil : -2147483648 ≤ ximm := hf.1
  have hiu : ximm ≤ 2147483647 := hf.2.1
  have HLL := Lib.hid hl
  have hrl : R.length ≤ 1000 := hl
  clear h hf hw hR hm hsep hAe hBe hCe hwa hl
  unfold mv
  go_enter Try.func82, Try.ntmps82
  go_wp2_with fail
  refine (HGET.out _ _ HWA.out).mono ?_
  rw [HAE.out]
  rintro e0 w1 ⟨rfl, rfl⟩
  go_wp2_with fail
  refine (HGET.out _ _ HWA.out).mono ?_
  rw [HBE.out]
  rintro e0 w1 ⟨rfl, rfl⟩
  go_wp2_with fail
  refine (HGET.out _ _ HWA.out).mono ?_
  rw [HCE.out]
  rintro e0 w1 ⟨rfl, rfl⟩
  go_wp2_with fail
  refine (rset_any (R) rb rc R.length rest T xd (ximm) _ HWA.out (by rw [show R.length = R.length from rfl]; have := HLL.out; omega) (rfl)).mono ?_
  rintro e0 w2 ⟨rfl, hw1⟩
  have ha1 : WAt w2 rb (setR (R) xd (ximm)) rest T := by rw [hw1]; exact setW_at HWA.out _ _
  have ht1 : Turn (fun k => k = rb) (w.alloc (.cells #[.int .i64 3, .int .i64 xd, .int .i64 xe, .int .i64 xa, .int .i64 xb, .int .i64 xc, .int .i32 ximm, .slice aa xargs.length ac] 46)) w2 := by rw [hw1]; exact setW_turn (S := fun k => k = rb) rfl _ _ _
  have hb1 := HB0.out.turn ht1 hrne
  have hlen1 : (setR (R) xd (ximm)).length = R.length := by rw [rsetR_len]
  have HWA1 := Lib.hid ha1
  have HT1 := Lib.hid (ht1)
  have HB1 := Lib.hid hb1
  have HLEN1 := Lib.hid hlen1
  have kd1 : w2.cell? ⟨w.heap.size, 1, none⟩ = some (.int .i64 xd) := hb1.cell 1
  have ke1 : w2.cell? ⟨w.heap.size, 2, none⟩ = some (.int .i64 xe) := hb1.cell 2
  have ka1 : w2.cell? ⟨w.heap.size, 3, none⟩ = some (.int .i64 xa) := hb1.cell 3
  have kb1 : w2.cell? ⟨w.heap.size, 4, none⟩ = some (.int .i64 xb) := hb1.cell 4
  have kl1 := hb1.lt
  clear hw1 ha1 ht1 hb1 hlen1
  go_wp2
  go_ret2
  exact ⟨rfl, HWA1.out, HM0.out.turn HT1.out (fun q hq e => HSEP.out (by rw [hq, e])), ((Turn.refl _ _).alloc _).trans (HT1.out.mono fun k _ h => .inl h)⟩

set_option maxHeartbeats 4000000 in
set_option maxRecDepth 100000 in
theorem rdo7_4 (xd xe xa xb xc ximm : Int) (xargs : List Int) (av mv0 : Value) (R M : List Int) (rb rc : Nat) (rest : List Value) (T : TypeId) (w : World) (h : Ints w av xargs) (hf : Fine ⟨4, xd, xe, xa, xb, xc, ximm, xargs⟩) (hw : WAt w rb R rest T) (hR : ∀ x ∈ R, In32 x) (hl : R.length ≤ 1000) (hm : MemIs w mv0 M) (hsep : mv0.ownBlock ≠ some rb) :
    Calls Try.prog 82 #[mv ⟨4, xd, xe, xa, xb, xc, ximm, xargs⟩ av, .slice (some ⟨rb, 0, none⟩) R.length rc, mv0] w (DoneP none (setR R xd ximm) (M) rb rest T mv0 w) := by
  obtain ⟨ma, mc, rfl, hml⟩ := hm.shape
  obtain ⟨aa, ac, rfl⟩ := nums_lenI h
  have HGET := Lib.hid (fun r w h => rget_any R rb rc rest T r w h (by omega))
  have hA := getR_32 hR xa
  have hB := getR_32 hR xb
  have hC := getR_32 hR xc
  obtain ⟨A, hAe⟩ : ∃ A, getR R xa = A := ⟨_, rfl⟩
  obtain ⟨B, hBe⟩ : ∃ B, getR R xb = B := ⟨_, rfl⟩
  obtain ⟨C, hCe⟩ : ∃ C, getR R xc = C := ⟨_, rfl⟩
  rw [hAe] at hA
  rw [hBe] at hB
  rw [hCe] at hC
  have HAE := Lib.hid hAe
  have HBE := Lib.hid hBe
  have HCE := Lib.hid hCe
  have hwa : WAt (w.alloc (.cells #[.int .i64 4, .int .i64 xd, .int .i64 xe, .int .i64 xa, .int .i64 xb, .int .i64 xc, .int .i32 ximm, .slice aa xargs.length ac] 46)) rb R rest T := hw.keep ((Since.refl _).alloc _)
  have HWA := Lib.hid hwa
  have HB0 := Lib.hid (HeapIs.new w #[.int .i64 4, .int .i64 xd, .int .i64 xe, .int .i64 xa, .int .i64 xb, .int .i64 xc, .int .i32 ximm, .slice aa xargs.length ac] 46)
  have hrb := hw.lt
  have hrne : ¬ w.heap.size = rb := by omega
  have HM0 := Lib.hid (hm.keep ((Since.refl w).alloc (.cells #[.int .i64 4, .int .i64 xd, .int .i64 xe, .int .i64 xa, .int .i64 xb, .int .i64 xc, .int .i32 ximm, .slice aa xargs.length ac] 46)))
  have HML := Lib.hid hml
  have HSEP := Lib.hid hsep
  have hil : -2147483648 ≤ ximm := hf.1
  have hiu : ximm ≤ 2147483647 := hf.2.1
  have HLL := Lib.hid hl
  have hrl : R.length ≤ 1000 := hl
  clear h hf hw hR hm hsep hAe hBe hCe hwa hl
  unfold mv
  go_enter Try.func82, Try.ntmps82
  go_wp2_with fail
  refine (HGET.out _ _ HWA.out).mono ?_
  rw [HAE.out]
  rintro e0 w1 ⟨rfl, rfl⟩
  go_wp2_with fail
  refine (HGET.out _ _ HWA.out).mono ?_
  rw [HBE.out]
  rintro e0 w1 ⟨rfl, rfl⟩
  go_wp2_with fail
  refine (HGET.out _ _ HWA.out).mono ?_
  rw [HCE.out]
  rintro e0 w1 ⟨rfl, rfl⟩
  go_wp2_with fail
  refine (rset_any (R) rb rc R.length rest T xd (ximm) _ HWA.out (by rw [show R.length = R.length from rfl]; have := HLL.out; omega) (rfl)).mono ?_
  rintro e0 w2 ⟨rfl, hw1⟩
  have ha1 : WAt w2 rb (setR (R) xd (ximm)) rest T := by rw [hw1]; exact setW_at HWA.out _ _
  have ht1 : Turn (fun k => k = rb) (w.alloc (.cells #[.int .i64 4, .int .i64 xd, .int .i64 xe, .int .i64 xa, .int .i64 xb, .int .i64 xc, .int .i32 ximm, .slice aa xargs.length ac] 46)) w2 := by rw [hw1]; exact setW_turn (S := fun k => k = rb) rfl _ _ _
  have hb1 := HB0.out.turn ht1 hrne
  have hlen1 : (setR (R) xd (ximm)).length = R.length := by rw [rsetR_len]
  have HWA1 := Lib.hid ha1
  have HT1 := Lib.hid (ht1)
  have HB1 := Lib.hid hb1
  have HLEN1 := Lib.hid hlen1
  have kd1 : w2.cell? ⟨w.heap.size, 1, none⟩ = some (.int .i64 xd) := hb1.cell 1
  have ke1 : w2.cell? ⟨w.heap.size, 2, none⟩ = some (.int .i64 xe) := hb1.cell 2
  have ka1 : w2.cell? ⟨w.heap.size, 3, none⟩ = some (.int .i64 xa) := hb1.cell 3
  have kb1 : w2.cell? ⟨w.heap.size, 4, none⟩ = some (.int .i64 xb) := hb1.cell 4
  have kl1 := hb1.lt
  clear hw1 ha1 ht1 hb1 hlen1
  go_wp2
  go_ret2
  exact ⟨rfl, HWA1.out, HM0.out.turn HT1.out (fun q hq e => HSEP.out (by rw [hq, e])), ((Turn.refl _ _).alloc _).trans (HT1.out.mono fun k _ h => .inl h)⟩

set_option maxHeartbeats 4000000 in
set_option maxRecDepth 100000 in
theorem rdo7_alu (op xd xe xa xb xc ximm : Int) (xargs : List Int) (av mv0 : Value) (R M : List Int) (rb rc : Nat) (rest : List Value) (T : TypeId) (w : World) (h : Ints w av xargs) (hf : Fine ⟨op, xd, xe, xa, xb, xc, ximm, xargs⟩) (hw : WAt w rb R rest T) (hR : ∀ x ∈ R, In32 x) (hl : R.length ≤ 1000) (hm : MemIs w mv0 M) (hsep : mv0.ownBlock ≠ some rb) (hg : 5 ≤ op ∧ op ≤ 17) (v : Int) (hv : doI (op - 5 + 2) (getR R xa) (getR R xb) = some v) :
    Calls Try.prog 82 #[mv ⟨op, xd, xe, xa, xb, xc, ximm, xargs⟩ av, .slice (some ⟨rb, 0, none⟩) R.length rc, mv0] w (DoneP none (setR R xd v) (M) rb rest T mv0 w) := by
  obtain ⟨ma, mc, rfl, hml⟩ := hm.shape
  obtain ⟨aa, ac, rfl⟩ := nums_lenI h
  have HGET := Lib.hid (fun r w h => rget_any R rb rc rest T r w h (by omega))
  have hA := getR_32 hR xa
  have hB := getR_32 hR xb
  have hC := getR_32 hR xc
  obtain ⟨A, hAe⟩ : ∃ A, getR R xa = A := ⟨_, rfl⟩
  obtain ⟨B, hBe⟩ : ∃ B, getR R xb = B := ⟨_, rfl⟩
  obtain ⟨C, hCe⟩ : ∃ C, getR R xc = C := ⟨_, rfl⟩
  rw [hAe] at hA
  rw [hBe] at hB
  rw [hCe] at hC
  have HAE := Lib.hid hAe
  have HBE := Lib.hid hBe
  have HCE := Lib.hid hCe
  have hwa : WAt (w.alloc (.cells #[.int .i64 op, .int .i64 xd, .int .i64 xe, .int .i64 xa, .int .i64 xb, .int .i64 xc, .int .i32 ximm, .slice aa xargs.length ac] 46)) rb R rest T := hw.keep ((Since.refl _).alloc _)
  have HWA := Lib.hid hwa
  have HB0 := Lib.hid (HeapIs.new w #[.int .i64 op, .int .i64 xd, .int .i64 xe, .int .i64 xa, .int .i64 xb, .int .i64 xc, .int .i32 ximm, .slice aa xargs.length ac] 46)
  have hrb := hw.lt
  have hrne : ¬ w.heap.size = rb := by omega
  have HM0 := Lib.hid (hm.keep ((Since.refl w).alloc (.cells #[.int .i64 op, .int .i64 xd, .int .i64 xe, .int .i64 xa, .int .i64 xb, .int .i64 xc, .int .i32 ximm, .slice aa xargs.length ac] 46)))
  have HML := Lib.hid hml
  have HSEP := Lib.hid hsep
  have hil : -2147483648 ≤ ximm := hf.1
  have hiu : ximm ≤ 2147483647 := hf.2.1
  have HLL := Lib.hid hl
  have hrl : R.length ≤ 1000 := hl
  clear h hf hw hR hm hsep hAe hBe hCe hwa hl
  unfold mv
  rw [HAE.out, HBE.out] at hv
  have n1 : (op == 1) = false := beq_eq_false_iff_ne.2 (by omega)
  have n2 : (op == 2) = false := beq_eq_false_iff_ne.2 (by omega)
  have n3 : (op == 3) = false := beq_eq_false_iff_ne.2 (by omega)
  have n4 : (op == 4) = false := beq_eq_false_iff_ne.2 (by omega)
  obtain ⟨hA1, hA2⟩ := hA
  obtain ⟨hB1, hB2⟩ := hB
  have HDO := Lib.hid (fun w => rdo_any (op - 5 + 2) A B w hA1 hA2 hB1 hB2)
  have HDV := Lib.hid hv
  have hg1 := hg.1
  have hg2 := hg.2
  clear hv hg
  go_enter Try.func82, Try.ntmps82
  go_wp2_with fail
  refine (HGET.out _ _ HWA.out).mono ?_
  rw [HAE.out]
  rintro e0 w1 ⟨rfl, rfl⟩
  go_wp2_with fail
  refine (HGET.out _ _ HWA.out).mono ?_
  rw [HBE.out]
  rintro e0 w1 ⟨rfl, rfl⟩
  go_wp2_with fail
  refine (HGET.out _ _ HWA.out).mono ?_
  rw [HCE.out]
  rintro e0 w1 ⟨rfl, rfl⟩
  go_wp2_with fail
  refine (HDO.out _).mono ?_
  rw [HDV.out]
  rintro e0 w2 ⟨rfl, hs2⟩
  have hb2' := HB0.out.keep (show Since _ w2 from hs2)
  have kd0 : w2.cell? ⟨w.heap.size, 1, none⟩ = some (.int .i64 xd) := hb2'.cell 1
  have kl0 := hb2'.lt
  have HB00 := Lib.hid hb2'
  have HWA0 := Lib.hid (HWA.out.keep (show Since _ w2 from hs2))
  have HSS := Lib.hid (show Since _ w2 from hs2)
  clear hs2 hb2'
  go_wp2_with fail
  refine (rset_any (R) rb rc R.length rest T xd (v) _ HWA0.out (by rw [show R.length = R.length from rfl]; have := HLL.out; omega) (rfl)).mono ?_
  rintro e0 w3 ⟨rfl, hw1⟩
  have ha1 : WAt w3 rb (setR (R) xd (v)) rest T := by rw [hw1]; exact setW_at HWA0.out _ _
  have ht1 : Turn (fun k => k = rb) w2 w3 := by rw [hw1]; exact setW_turn (S := fun k => k = rb) rfl _ _ _
  have hb1 := HB00.out.turn ht1 hrne
  have hlen1 : (setR (R) xd (v)).length = R.length := by rw [rsetR_len]
  have HWA1 := Lib.hid ha1
  have HT1 := Lib.hid (ht1)
  have HB1 := Lib.hid hb1
  have HLEN1 := Lib.hid hlen1
  have kd1 : w3.cell? ⟨w.heap.size, 1, none⟩ = some (.int .i64 xd) := hb1.cell 1
  have ke1 : w3.cell? ⟨w.heap.size, 2, none⟩ = some (.int .i64 xe) := hb1.cell 2
  have ka1 : w3.cell? ⟨w.heap.size, 3, none⟩ = some (.int .i64 xa) := hb1.cell 3
  have kb1 : w3.cell? ⟨w.heap.size, 4, none⟩ = some (.int .i64 xb) := hb1.cell 4
  have kl1 := hb1.lt
  clear hw1 ha1 ht1 hb1 hlen1
  go_wp2
  go_ret2
  exact ⟨rfl, HWA1.out, (HM0.out.keep HSS.out).turn HT1.out (fun q hq e => HSEP.out (by rw [hq, e])), (((Turn.refl _ _).alloc _).trans (Turn.since HSS.out)).trans (HT1.out.mono fun k _ h => .inl h)⟩

set_option maxHeartbeats 4000000 in
set_option maxRecDepth 100000 in
theorem rdo7_trap (op xd xe xa xb xc ximm : Int) (xargs : List Int) (av mv0 : Value) (R M : List Int) (rb rc : Nat) (rest : List Value) (T : TypeId) (w : World) (h : Ints w av xargs) (hf : Fine ⟨op, xd, xe, xa, xb, xc, ximm, xargs⟩) (hw : WAt w rb R rest T) (hR : ∀ x ∈ R, In32 x) (hl : R.length ≤ 1000) (hm : MemIs w mv0 M) (hsep : mv0.ownBlock ≠ some rb) (hg : 5 ≤ op ∧ op ≤ 17) (hv : doI (op - 5 + 2) (getR R xa) (getR R xb) = none) :
    Calls Try.prog 82 #[mv ⟨op, xd, xe, xa, xb, xc, ximm, xargs⟩ av, .slice (some ⟨rb, 0, none⟩) R.length rc, mv0] w (DoneP (some (-1)) (R) (M) rb rest T mv0 w) := by
  obtain ⟨ma, mc, rfl, hml⟩ := hm.shape
  obtain ⟨aa, ac, rfl⟩ := nums_lenI h
  have HGET := Lib.hid (fun r w h => rget_any R rb rc rest T r w h (by omega))
  have hA := getR_32 hR xa
  have hB := getR_32 hR xb
  have hC := getR_32 hR xc
  obtain ⟨A, hAe⟩ : ∃ A, getR R xa = A := ⟨_, rfl⟩
  obtain ⟨B, hBe⟩ : ∃ B, getR R xb = B := ⟨_, rfl⟩
  obtain ⟨C, hCe⟩ : ∃ C, getR R xc = C := ⟨_, rfl⟩
  rw [hAe] at hA
  rw [hBe] at hB
  rw [hCe] at hC
  have HAE := Lib.hid hAe
  have HBE := Lib.hid hBe
  have HCE := Lib.hid hCe
  have hwa : WAt (w.alloc (.cells #[.int .i64 op, .int .i64 xd, .int .i64 xe, .int .i64 xa, .int .i64 xb, .int .i64 xc, .int .i32 ximm, .slice aa xargs.length ac] 46)) rb R rest T := hw.keep ((Since.refl _).alloc _)
  have HWA := Lib.hid hwa
  have HB0 := Lib.hid (HeapIs.new w #[.int .i64 op, .int .i64 xd, .int .i64 xe, .int .i64 xa, .int .i64 xb, .int .i64 xc, .int .i32 ximm, .slice aa xargs.length ac] 46)
  have hrb := hw.lt
  have hrne : ¬ w.heap.size = rb := by omega
  have HM0 := Lib.hid (hm.keep ((Since.refl w).alloc (.cells #[.int .i64 op, .int .i64 xd, .int .i64 xe, .int .i64 xa, .int .i64 xb, .int .i64 xc, .int .i32 ximm, .slice aa xargs.length ac] 46)))
  have HML := Lib.hid hml
  have HSEP := Lib.hid hsep
  have hil : -2147483648 ≤ ximm := hf.1
  have hiu : ximm ≤ 2147483647 := hf.2.1
  have HLL := Lib.hid hl
  have hrl : R.length ≤ 1000 := hl
  clear h hf hw hR hm hsep hAe hBe hCe hwa hl
  unfold mv
  rw [HAE.out, HBE.out] at hv
  have n1 : (op == 1) = false := beq_eq_false_iff_ne.2 (by omega)
  have n2 : (op == 2) = false := beq_eq_false_iff_ne.2 (by omega)
  have n3 : (op == 3) = false := beq_eq_false_iff_ne.2 (by omega)
  have n4 : (op == 4) = false := beq_eq_false_iff_ne.2 (by omega)
  obtain ⟨hA1, hA2⟩ := hA
  obtain ⟨hB1, hB2⟩ := hB
  have HDO := Lib.hid (fun w => rdo_any (op - 5 + 2) A B w hA1 hA2 hB1 hB2)
  have HDV := Lib.hid hv
  have hg1 := hg.1
  have hg2 := hg.2
  clear hv hg
  go_enter Try.func82, Try.ntmps82
  go_wp2_with fail
  refine (HGET.out _ _ HWA.out).mono ?_
  rw [HAE.out]
  rintro e0 w1 ⟨rfl, rfl⟩
  go_wp2_with fail
  refine (HGET.out _ _ HWA.out).mono ?_
  rw [HBE.out]
  rintro e0 w1 ⟨rfl, rfl⟩
  go_wp2_with fail
  refine (HGET.out _ _ HWA.out).mono ?_
  rw [HCE.out]
  rintro e0 w1 ⟨rfl, rfl⟩
  go_wp2_with fail
  refine (HDO.out _).mono ?_
  rw [HDV.out]
  rintro e0 w2 ⟨rfl, hs2⟩
  go_wp2
  go_ret2
  exact ⟨rfl, HWA.out.keep (show Since _ w2 from hs2), HM0.out.keep (show Since _ w2 from hs2), ((Turn.refl _ _).alloc _).trans (Turn.since (show Since _ w2 from hs2))⟩

set_option maxHeartbeats 4000000 in
set_option maxRecDepth 100000 in
theorem rdo7_18 (xd xe xa xb xc ximm : Int) (xargs : List Int) (av mv0 : Value) (R M : List Int) (rb rc : Nat) (rest : List Value) (T : TypeId) (w : World) (h : Ints w av xargs) (hf : Fine ⟨18, xd, xe, xa, xb, xc, ximm, xargs⟩) (hw : WAt w rb R rest T) (hR : ∀ x ∈ R, In32 x) (hl : R.length ≤ 1000) (hm : MemIs w mv0 M) (hsep : mv0.ownBlock ≠ some rb) :
    Calls Try.prog 82 #[mv ⟨18, xd, xe, xa, xb, xc, ximm, xargs⟩ av, .slice (some ⟨rb, 0, none⟩) R.length rc, mv0] w (DoneP none (setR R xd ((doI 2 (getR R xa) ximm).getD 0)) (M) rb rest T mv0 w) := by
  obtain ⟨ma, mc, rfl, hml⟩ := hm.shape
  obtain ⟨aa, ac, rfl⟩ := nums_lenI h
  have HGET := Lib.hid (fun r w h => rget_any R rb rc rest T r w h (by omega))
  have hA := getR_32 hR xa
  have hB := getR_32 hR xb
  have hC := getR_32 hR xc
  obtain ⟨A, hAe⟩ : ∃ A, getR R xa = A := ⟨_, rfl⟩
  obtain ⟨B, hBe⟩ : ∃ B, getR R xb = B := ⟨_, rfl⟩
  obtain ⟨C, hCe⟩ : ∃ C, getR R xc = C := ⟨_, rfl⟩
  rw [hAe] at hA
  rw [hBe] at hB
  rw [hCe] at hC
  have HAE := Lib.hid hAe
  have HBE := Lib.hid hBe
  have HCE := Lib.hid hCe
  have hwa : WAt (w.alloc (.cells #[.int .i64 18, .int .i64 xd, .int .i64 xe, .int .i64 xa, .int .i64 xb, .int .i64 xc, .int .i32 ximm, .slice aa xargs.length ac] 46)) rb R rest T := hw.keep ((Since.refl _).alloc _)
  have HWA := Lib.hid hwa
  have HB0 := Lib.hid (HeapIs.new w #[.int .i64 18, .int .i64 xd, .int .i64 xe, .int .i64 xa, .int .i64 xb, .int .i64 xc, .int .i32 ximm, .slice aa xargs.length ac] 46)
  have hrb := hw.lt
  have hrne : ¬ w.heap.size = rb := by omega
  have HM0 := Lib.hid (hm.keep ((Since.refl w).alloc (.cells #[.int .i64 18, .int .i64 xd, .int .i64 xe, .int .i64 xa, .int .i64 xb, .int .i64 xc, .int .i32 ximm, .slice aa xargs.length ac] 46)))
  have HML := Lib.hid hml
  have HSEP := Lib.hid hsep
  have hil : -2147483648 ≤ ximm := hf.1
  have hiu : ximm ≤ 2147483647 := hf.2.1
  have HLL := Lib.hid hl
  have hrl : R.length ≤ 1000 := hl
  clear h hf hw hR hm hsep hAe hBe hCe hwa hl
  unfold mv
  rw [HAE.out]
  obtain ⟨hA1, hA2⟩ := hA
  have HDO := Lib.hid (fun w => rdo_any 2 A ximm w hA1 hA2 hil hiu)
  generalize doI 2 A ximm = D at *
  have hix : ∀ wX : World, (Instr.index 162 (.agg #[.int .i64 2, .int .i64 5, .int .i64 8, .int .i64 9, .int .i64 10]) (.int .i64 0)).run Try.prog wX = .ok (.int .i64 2) wX := fun _ => by kernel_rfl
  go_enter Try.func82, Try.ntmps82
  go_wp2_with fail
  refine (HGET.out _ _ HWA.out).mono ?_
  rw [HAE.out]
  rintro e0 w1 ⟨rfl, rfl⟩
  go_wp2_with fail
  refine (HGET.out _ _ HWA.out).mono ?_
  rw [HBE.out]
  rintro e0 w1 ⟨rfl, rfl⟩
  go_wp2_with fail
  refine (HGET.out _ _ HWA.out).mono ?_
  rw [HCE.out]
  rintro e0 w1 ⟨rfl, rfl⟩
  go_wp2_with fail
  refine (HDO.out _).mono ?_
  rintro e0 w2 ⟨rfl, hs2⟩
  have hb2' := HB0.out.keep (show Since _ w2 from hs2)
  have kd0 : w2.cell? ⟨w.heap.size, 1, none⟩ = some (.int .i64 xd) := hb2'.cell 1
  have kl0 := hb2'.lt
  have HB00 := Lib.hid hb2'
  have HWA0 := Lib.hid (HWA.out.keep (show Since _ w2 from hs2))
  have HSS := Lib.hid (show Since _ w2 from hs2)
  clear hs2 hb2'
  go_wp2_with fail
  refine (rset_any (R) rb rc R.length rest T xd (D.getD 0) _ HWA0.out (by rw [show R.length = R.length from rfl]; have := HLL.out; omega) (rfl)).mono ?_
  rintro e0 w3 ⟨rfl, hw1⟩
  have ha1 : WAt w3 rb (setR (R) xd (D.getD 0)) rest T := by rw [hw1]; exact setW_at HWA0.out _ _
  have ht1 : Turn (fun k => k = rb) w2 w3 := by rw [hw1]; exact setW_turn (S := fun k => k = rb) rfl _ _ _
  have hb1 := HB00.out.turn ht1 hrne
  have hlen1 : (setR (R) xd (D.getD 0)).length = R.length := by rw [rsetR_len]
  have HWA1 := Lib.hid ha1
  have HT1 := Lib.hid (ht1)
  have HB1 := Lib.hid hb1
  have HLEN1 := Lib.hid hlen1
  have kd1 : w3.cell? ⟨w.heap.size, 1, none⟩ = some (.int .i64 xd) := hb1.cell 1
  have ke1 : w3.cell? ⟨w.heap.size, 2, none⟩ = some (.int .i64 xe) := hb1.cell 2
  have ka1 : w3.cell? ⟨w.heap.size, 3, none⟩ = some (.int .i64 xa) := hb1.cell 3
  have kb1 : w3.cell? ⟨w.heap.size, 4, none⟩ = some (.int .i64 xb) := hb1.cell 4
  have kl1 := hb1.lt
  clear hw1 ha1 ht1 hb1 hlen1
  go_wp2
  go_ret2
  exact ⟨rfl, HWA1.out, (HM0.out.keep HSS.out).turn HT1.out (fun q hq e => HSEP.out (by rw [hq, e])), (((Turn.refl _ _).alloc _).trans (Turn.since HSS.out)).trans (HT1.out.mono fun k _ h => .inl h)⟩

set_option maxHeartbeats 4000000 in
set_option maxRecDepth 100000 in
theorem rdo7_19 (xd xe xa xb xc ximm : Int) (xargs : List Int) (av mv0 : Value) (R M : List Int) (rb rc : Nat) (rest : List Value) (T : TypeId) (w : World) (h : Ints w av xargs) (hf : Fine ⟨19, xd, xe, xa, xb, xc, ximm, xargs⟩) (hw : WAt w rb R rest T) (hR : ∀ x ∈ R, In32 x) (hl : R.length ≤ 1000) (hm : MemIs w mv0 M) (hsep : mv0.ownBlock ≠ some rb) :
    Calls Try.prog 82 #[mv ⟨19, xd, xe, xa, xb, xc, ximm, xargs⟩ av, .slice (some ⟨rb, 0, none⟩) R.length rc, mv0] w (DoneP none (setR R xd ((doI 5 (getR R xa) ximm).getD 0)) (M) rb rest T mv0 w) := by
  obtain ⟨ma, mc, rfl, hml⟩ := hm.shape
  obtain ⟨aa, ac, rfl⟩ := nums_lenI h
  have HGET := Lib.hid (fun r w h => rget_any R rb rc rest T r w h (by omega))
  have hA := getR_32 hR xa
  have hB := getR_32 hR xb
  have hC := getR_32 hR xc
  obtain ⟨A, hAe⟩ : ∃ A, getR R xa = A := ⟨_, rfl⟩
  obtain ⟨B, hBe⟩ : ∃ B, getR R xb = B := ⟨_, rfl⟩
  obtain ⟨C, hCe⟩ : ∃ C, getR R xc = C := ⟨_, rfl⟩
  rw [hAe] at hA
  rw [hBe] at hB
  rw [hCe] at hC
  have HAE := Lib.hid hAe
  have HBE := Lib.hid hBe
  have HCE := Lib.hid hCe
  have hwa : WAt (w.alloc (.cells #[.int .i64 19, .int .i64 xd, .int .i64 xe, .int .i64 xa, .int .i64 xb, .int .i64 xc, .int .i32 ximm, .slice aa xargs.length ac] 46)) rb R rest T := hw.keep ((Since.refl _).alloc _)
  have HWA := Lib.hid hwa
  have HB0 := Lib.hid (HeapIs.new w #[.int .i64 19, .int .i64 xd, .int .i64 xe, .int .i64 xa, .int .i64 xb, .int .i64 xc, .int .i32 ximm, .slice aa xargs.length ac] 46)
  have hrb := hw.lt
  have hrne : ¬ w.heap.size = rb := by omega
  have HM0 := Lib.hid (hm.keep ((Since.refl w).alloc (.cells #[.int .i64 19, .int .i64 xd, .int .i64 xe, .int .i64 xa, .int .i64 xb, .int .i64 xc, .int .i32 ximm, .slice aa xargs.length ac] 46)))
  have HML := Lib.hid hml
  have HSEP := Lib.hid hsep
  have hil : -2147483648 ≤ ximm := hf.1
  have hiu : ximm ≤ 2147483647 := hf.2.1
  have HLL := Lib.hid hl
  have hrl : R.length ≤ 1000 := hl
  clear h hf hw hR hm hsep hAe hBe hCe hwa hl
  unfold mv
  rw [HAE.out]
  obtain ⟨hA1, hA2⟩ := hA
  have HDO := Lib.hid (fun w => rdo_any 5 A ximm w hA1 hA2 hil hiu)
  generalize doI 5 A ximm = D at *
  have hix : ∀ wX : World, (Instr.index 162 (.agg #[.int .i64 2, .int .i64 5, .int .i64 8, .int .i64 9, .int .i64 10]) (.int .i64 1)).run Try.prog wX = .ok (.int .i64 5) wX := fun _ => by kernel_rfl
  go_enter Try.func82, Try.ntmps82
  go_wp2_with fail
  refine (HGET.out _ _ HWA.out).mono ?_
  rw [HAE.out]
  rintro e0 w1 ⟨rfl, rfl⟩
  go_wp2_with fail
  refine (HGET.out _ _ HWA.out).mono ?_
  rw [HBE.out]
  rintro e0 w1 ⟨rfl, rfl⟩
  go_wp2_with fail
  refine (HGET.out _ _ HWA.out).mono ?_
  rw [HCE.out]
  rintro e0 w1 ⟨rfl, rfl⟩
  go_wp2_with fail
  refine (HDO.out _).mono ?_
  rintro e0 w2 ⟨rfl, hs2⟩
  have hb2' := HB0.out.keep (show Since _ w2 from hs2)
  have kd0 : w2.cell? ⟨w.heap.size, 1, none⟩ = some (.int .i64 xd) := hb2'.cell 1
  have kl0 := hb2'.lt
  have HB00 := Lib.hid hb2'
  have HWA0 := Lib.hid (HWA.out.keep (show Since _ w2 from hs2))
  have HSS := Lib.hid (show Since _ w2 from hs2)
  clear hs2 hb2'
  go_wp2_with fail
  refine (rset_any (R) rb rc R.length rest T xd (D.getD 0) _ HWA0.out (by rw [show R.length = R.length from rfl]; have := HLL.out; omega) (rfl)).mono ?_
  rintro e0 w3 ⟨rfl, hw1⟩
  have ha1 : WAt w3 rb (setR (R) xd (D.getD 0)) rest T := by rw [hw1]; exact setW_at HWA0.out _ _
  have ht1 : Turn (fun k => k = rb) w2 w3 := by rw [hw1]; exact setW_turn (S := fun k => k = rb) rfl _ _ _
  have hb1 := HB00.out.turn ht1 hrne
  have hlen1 : (setR (R) xd (D.getD 0)).length = R.length := by rw [rsetR_len]
  have HWA1 := Lib.hid ha1
  have HT1 := Lib.hid (ht1)
  have HB1 := Lib.hid hb1
  have HLEN1 := Lib.hid hlen1
  have kd1 : w3.cell? ⟨w.heap.size, 1, none⟩ = some (.int .i64 xd) := hb1.cell 1
  have ke1 : w3.cell? ⟨w.heap.size, 2, none⟩ = some (.int .i64 xe) := hb1.cell 2
  have ka1 : w3.cell? ⟨w.heap.size, 3, none⟩ = some (.int .i64 xa) := hb1.cell 3
  have kb1 : w3.cell? ⟨w.heap.size, 4, none⟩ = some (.int .i64 xb) := hb1.cell 4
  have kl1 := hb1.lt
  clear hw1 ha1 ht1 hb1 hlen1
  go_wp2
  go_ret2
  exact ⟨rfl, HWA1.out, (HM0.out.keep HSS.out).turn HT1.out (fun q hq e => HSEP.out (by rw [hq, e])), (((Turn.refl _ _).alloc _).trans (Turn.since HSS.out)).trans (HT1.out.mono fun k _ h => .inl h)⟩

set_option maxHeartbeats 4000000 in
set_option maxRecDepth 100000 in
theorem rdo7_20 (xd xe xa xb xc ximm : Int) (xargs : List Int) (av mv0 : Value) (R M : List Int) (rb rc : Nat) (rest : List Value) (T : TypeId) (w : World) (h : Ints w av xargs) (hf : Fine ⟨20, xd, xe, xa, xb, xc, ximm, xargs⟩) (hw : WAt w rb R rest T) (hR : ∀ x ∈ R, In32 x) (hl : R.length ≤ 1000) (hm : MemIs w mv0 M) (hsep : mv0.ownBlock ≠ some rb) :
    Calls Try.prog 82 #[mv ⟨20, xd, xe, xa, xb, xc, ximm, xargs⟩ av, .slice (some ⟨rb, 0, none⟩) R.length rc, mv0] w (DoneP none (setR R xd ((doI 8 (getR R xa) ximm).getD 0)) (M) rb rest T mv0 w) := by
  obtain ⟨ma, mc, rfl, hml⟩ := hm.shape
  obtain ⟨aa, ac, rfl⟩ := nums_lenI h
  have HGET := Lib.hid (fun r w h => rget_any R rb rc rest T r w h (by omega))
  have hA := getR_32 hR xa
  have hB := getR_32 hR xb
  have hC := getR_32 hR xc
  obtain ⟨A, hAe⟩ : ∃ A, getR R xa = A := ⟨_, rfl⟩
  obtain ⟨B, hBe⟩ : ∃ B, getR R xb = B := ⟨_, rfl⟩
  obtain ⟨C, hCe⟩ : ∃ C, getR R xc = C := ⟨_, rfl⟩
  rw [hAe] at hA
  rw [hBe] at hB
  rw [hCe] at hC
  have HAE := Lib.hid hAe
  have HBE := Lib.hid hBe
  have HCE := Lib.hid hCe
  have hwa : WAt (w.alloc (.cells #[.int .i64 20, .int .i64 xd, .int .i64 xe, .int .i64 xa, .int .i64 xb, .int .i64 xc, .int .i32 ximm, .slice aa xargs.length ac] 46)) rb R rest T := hw.keep ((Since.refl _).alloc _)
  have HWA := Lib.hid hwa
  have HB0 := Lib.hid (HeapIs.new w #[.int .i64 20, .int .i64 xd, .int .i64 xe, .int .i64 xa, .int .i64 xb, .int .i64 xc, .int .i32 ximm, .slice aa xargs.length ac] 46)
  have hrb := hw.lt
  have hrne : ¬ w.heap.size = rb := by omega
  have HM0 := Lib.hid (hm.keep ((Since.refl w).alloc (.cells #[.int .i64 20, .int .i64 xd, .int .i64 xe, .int .i64 xa, .int .i64 xb, .int .i64 xc, .int .i32 ximm, .slice aa xargs.length ac] 46)))
  have HML := Lib.hid hml
  have HSEP := Lib.hid hsep
  have hil : -2147483648 ≤ ximm := hf.1
  have hiu : ximm ≤ 2147483647 := hf.2.1
  have HLL := Lib.hid hl
  have hrl : R.length ≤ 1000 := hl
  clear h hf hw hR hm hsep hAe hBe hCe hwa hl
  unfold mv
  rw [HAE.out]
  obtain ⟨hA1, hA2⟩ := hA
  have HDO := Lib.hid (fun w => rdo_any 8 A ximm w hA1 hA2 hil hiu)
  generalize doI 8 A ximm = D at *
  have hix : ∀ wX : World, (Instr.index 162 (.agg #[.int .i64 2, .int .i64 5, .int .i64 8, .int .i64 9, .int .i64 10]) (.int .i64 2)).run Try.prog wX = .ok (.int .i64 8) wX := fun _ => by kernel_rfl
  go_enter Try.func82, Try.ntmps82
  go_wp2_with fail
  refine (HGET.out _ _ HWA.out).mono ?_
  rw [HAE.out]
  rintro e0 w1 ⟨rfl, rfl⟩
  go_wp2_with fail
  refine (HGET.out _ _ HWA.out).mono ?_
  rw [HBE.out]
  rintro e0 w1 ⟨rfl, rfl⟩
  go_wp2_with fail
  refine (HGET.out _ _ HWA.out).mono ?_
  rw [HCE.out]
  rintro e0 w1 ⟨rfl, rfl⟩
  go_wp2_with fail
  refine (HDO.out _).mono ?_
  rintro e0 w2 ⟨rfl, hs2⟩
  have hb2' := HB0.out.keep (show Since _ w2 from hs2)
  have kd0 : w2.cell? ⟨w.heap.size, 1, none⟩ = some (.int .i64 xd) := hb2'.cell 1
  have kl0 := hb2'.lt
  have HB00 := Lib.hid hb2'
  have HWA0 := Lib.hid (HWA.out.keep (show Since _ w2 from hs2))
  have HSS := Lib.hid (show Since _ w2 from hs2)
  clear hs2 hb2'
  go_wp2_with fail
  refine (rset_any (R) rb rc R.length rest T xd (D.getD 0) _ HWA0.out (by rw [show R.length = R.length from rfl]; have := HLL.out; omega) (rfl)).mono ?_
  rintro e0 w3 ⟨rfl, hw1⟩
  have ha1 : WAt w3 rb (setR (R) xd (D.getD 0)) rest T := by rw [hw1]; exact setW_at HWA0.out _ _
  have ht1 : Turn (fun k => k = rb) w2 w3 := by rw [hw1]; exact setW_turn (S := fun k => k = rb) rfl _ _ _
  have hb1 := HB00.out.turn ht1 hrne
  have hlen1 : (setR (R) xd (D.getD 0)).length = R.length := by rw [rsetR_len]
  have HWA1 := Lib.hid ha1
  have HT1 := Lib.hid (ht1)
  have HB1 := Lib.hid hb1
  have HLEN1 := Lib.hid hlen1
  have kd1 : w3.cell? ⟨w.heap.size, 1, none⟩ = some (.int .i64 xd) := hb1.cell 1
  have ke1 : w3.cell? ⟨w.heap.size, 2, none⟩ = some (.int .i64 xe) := hb1.cell 2
  have ka1 : w3.cell? ⟨w.heap.size, 3, none⟩ = some (.int .i64 xa) := hb1.cell 3
  have kb1 : w3.cell? ⟨w.heap.size, 4, none⟩ = some (.int .i64 xb) := hb1.cell 4
  have kl1 := hb1.lt
  clear hw1 ha1 ht1 hb1 hlen1
  go_wp2
  go_ret2
  exact ⟨rfl, HWA1.out, (HM0.out.keep HSS.out).turn HT1.out (fun q hq e => HSEP.out (by rw [hq, e])), (((Turn.refl _ _).alloc _).trans (Turn.since HSS.out)).trans (HT1.out.mono fun k _ h => .inl h)⟩

set_option maxHeartbeats 4000000 in
set_option maxRecDepth 100000 in
theorem rdo7_21 (xd xe xa xb xc ximm : Int) (xargs : List Int) (av mv0 : Value) (R M : List Int) (rb rc : Nat) (rest : List Value) (T : TypeId) (w : World) (h : Ints w av xargs) (hf : Fine ⟨21, xd, xe, xa, xb, xc, ximm, xargs⟩) (hw : WAt w rb R rest T) (hR : ∀ x ∈ R, In32 x) (hl : R.length ≤ 1000) (hm : MemIs w mv0 M) (hsep : mv0.ownBlock ≠ some rb) :
    Calls Try.prog 82 #[mv ⟨21, xd, xe, xa, xb, xc, ximm, xargs⟩ av, .slice (some ⟨rb, 0, none⟩) R.length rc, mv0] w (DoneP none (setR R xd ((doI 9 (getR R xa) ximm).getD 0)) (M) rb rest T mv0 w) := by
  obtain ⟨ma, mc, rfl, hml⟩ := hm.shape
  obtain ⟨aa, ac, rfl⟩ := nums_lenI h
  have HGET := Lib.hid (fun r w h => rget_any R rb rc rest T r w h (by omega))
  have hA := getR_32 hR xa
  have hB := getR_32 hR xb
  have hC := getR_32 hR xc
  obtain ⟨A, hAe⟩ : ∃ A, getR R xa = A := ⟨_, rfl⟩
  obtain ⟨B, hBe⟩ : ∃ B, getR R xb = B := ⟨_, rfl⟩
  obtain ⟨C, hCe⟩ : ∃ C, getR R xc = C := ⟨_, rfl⟩
  rw [hAe] at hA
  rw [hBe] at hB
  rw [hCe] at hC
  have HAE := Lib.hid hAe
  have HBE := Lib.hid hBe
  have HCE := Lib.hid hCe
  have hwa : WAt (w.alloc (.cells #[.int .i64 21, .int .i64 xd, .int .i64 xe, .int .i64 xa, .int .i64 xb, .int .i64 xc, .int .i32 ximm, .slice aa xargs.length ac] 46)) rb R rest T := hw.keep ((Since.refl _).alloc _)
  have HWA := Lib.hid hwa
  have HB0 := Lib.hid (HeapIs.new w #[.int .i64 21, .int .i64 xd, .int .i64 xe, .int .i64 xa, .int .i64 xb, .int .i64 xc, .int .i32 ximm, .slice aa xargs.length ac] 46)
  have hrb := hw.lt
  have hrne : ¬ w.heap.size = rb := by omega
  have HM0 := Lib.hid (hm.keep ((Since.refl w).alloc (.cells #[.int .i64 21, .int .i64 xd, .int .i64 xe, .int .i64 xa, .int .i64 xb, .int .i64 xc, .int .i32 ximm, .slice aa xargs.length ac] 46)))
  have HML := Lib.hid hml
  have HSEP := Lib.hid hsep
  have hil : -2147483648 ≤ ximm := hf.1
  have hiu : ximm ≤ 2147483647 := hf.2.1
  have HLL := Lib.hid hl
  have hrl : R.length ≤ 1000 := hl
  clear h hf hw hR hm hsep hAe hBe hCe hwa hl
  unfold mv
  rw [HAE.out]
  obtain ⟨hA1, hA2⟩ := hA
  have HDO := Lib.hid (fun w => rdo_any 9 A ximm w hA1 hA2 hil hiu)
  generalize doI 9 A ximm = D at *
  have hix : ∀ wX : World, (Instr.index 162 (.agg #[.int .i64 2, .int .i64 5, .int .i64 8, .int .i64 9, .int .i64 10]) (.int .i64 3)).run Try.prog wX = .ok (.int .i64 9) wX := fun _ => by kernel_rfl
  go_enter Try.func82, Try.ntmps82
  go_wp2_with fail
  refine (HGET.out _ _ HWA.out).mono ?_
  rw [HAE.out]
  rintro e0 w1 ⟨rfl, rfl⟩
  go_wp2_with fail
  refine (HGET.out _ _ HWA.out).mono ?_
  rw [HBE.out]
  rintro e0 w1 ⟨rfl, rfl⟩
  go_wp2_with fail
  refine (HGET.out _ _ HWA.out).mono ?_
  rw [HCE.out]
  rintro e0 w1 ⟨rfl, rfl⟩
  go_wp2_with fail
  refine (HDO.out _).mono ?_
  rintro e0 w2 ⟨rfl, hs2⟩
  have hb2' := HB0.out.keep (show Since _ w2 from hs2)
  have kd0 : w2.cell? ⟨w.heap.size, 1, none⟩ = some (.int .i64 xd) := hb2'.cell 1
  have kl0 := hb2'.lt
  have HB00 := Lib.hid hb2'
  have HWA0 := Lib.hid (HWA.out.keep (show Since _ w2 from hs2))
  have HSS := Lib.hid (show Since _ w2 from hs2)
  clear hs2 hb2'
  go_wp2_with fail
  refine (rset_any (R) rb rc R.length rest T xd (D.getD 0) _ HWA0.out (by rw [show R.length = R.length from rfl]; have := HLL.out; omega) (rfl)).mono ?_
  rintro e0 w3 ⟨rfl, hw1⟩
  have ha1 : WAt w3 rb (setR (R) xd (D.getD 0)) rest T := by rw [hw1]; exact setW_at HWA0.out _ _
  have ht1 : Turn (fun k => k = rb) w2 w3 := by rw [hw1]; exact setW_turn (S := fun k => k = rb) rfl _ _ _
  have hb1 := HB00.out.turn ht1 hrne
  have hlen1 : (setR (R) xd (D.getD 0)).length = R.length := by rw [rsetR_len]
  have HWA1 := Lib.hid ha1
  have HT1 := Lib.hid (ht1)
  have HB1 := Lib.hid hb1
  have HLEN1 := Lib.hid hlen1
  have kd1 : w3.cell? ⟨w.heap.size, 1, none⟩ = some (.int .i64 xd) := hb1.cell 1
  have ke1 : w3.cell? ⟨w.heap.size, 2, none⟩ = some (.int .i64 xe) := hb1.cell 2
  have ka1 : w3.cell? ⟨w.heap.size, 3, none⟩ = some (.int .i64 xa) := hb1.cell 3
  have kb1 : w3.cell? ⟨w.heap.size, 4, none⟩ = some (.int .i64 xb) := hb1.cell 4
  have kl1 := hb1.lt
  clear hw1 ha1 ht1 hb1 hlen1
  go_wp2
  go_ret2
  exact ⟨rfl, HWA1.out, (HM0.out.keep HSS.out).turn HT1.out (fun q hq e => HSEP.out (by rw [hq, e])), (((Turn.refl _ _).alloc _).trans (Turn.since HSS.out)).trans (HT1.out.mono fun k _ h => .inl h)⟩

set_option maxHeartbeats 4000000 in
set_option maxRecDepth 100000 in
theorem rdo7_22 (xd xe xa xb xc ximm : Int) (xargs : List Int) (av mv0 : Value) (R M : List Int) (rb rc : Nat) (rest : List Value) (T : TypeId) (w : World) (h : Ints w av xargs) (hf : Fine ⟨22, xd, xe, xa, xb, xc, ximm, xargs⟩) (hw : WAt w rb R rest T) (hR : ∀ x ∈ R, In32 x) (hl : R.length ≤ 1000) (hm : MemIs w mv0 M) (hsep : mv0.ownBlock ≠ some rb) :
    Calls Try.prog 82 #[mv ⟨22, xd, xe, xa, xb, xc, ximm, xargs⟩ av, .slice (some ⟨rb, 0, none⟩) R.length rc, mv0] w (DoneP none (setR R xd ((doI 10 (getR R xa) ximm).getD 0)) (M) rb rest T mv0 w) := by
  obtain ⟨ma, mc, rfl, hml⟩ := hm.shape
  obtain ⟨aa, ac, rfl⟩ := nums_lenI h
  have HGET := Lib.hid (fun r w h => rget_any R rb rc rest T r w h (by omega))
  have hA := getR_32 hR xa
  have hB := getR_32 hR xb
  have hC := getR_32 hR xc
  obtain ⟨A, hAe⟩ : ∃ A, getR R xa = A := ⟨_, rfl⟩
  obtain ⟨B, hBe⟩ : ∃ B, getR R xb = B := ⟨_, rfl⟩
  obtain ⟨C, hCe⟩ : ∃ C, getR R xc = C := ⟨_, rfl⟩
  rw [hAe] at hA
  rw [hBe] at hB
  rw [hCe] at hC
  have HAE := Lib.hid hAe
  have HBE := Lib.hid hBe
  have HCE := Lib.hid hCe
  have hwa : WAt (w.alloc (.cells #[.int .i64 22, .int .i64 xd, .int .i64 xe, .int .i64 xa, .int .i64 xb, .int .i64 xc, .int .i32 ximm, .slice aa xargs.length ac] 46)) rb R rest T := hw.keep ((Since.refl _).alloc _)
  have HWA := Lib.hid hwa
  have HB0 := Lib.hid (HeapIs.new w #[.int .i64 22, .int .i64 xd, .int .i64 xe, .int .i64 xa, .int .i64 xb, .int .i64 xc, .int .i32 ximm, .slice aa xargs.length ac] 46)
  have hrb := hw.lt
  have hrne : ¬ w.heap.size = rb := by omega
  have HM0 := Lib.hid (hm.keep ((Since.refl w).alloc (.cells #[.int .i64 22, .int .i64 xd, .int .i64 xe, .int .i64 xa, .int .i64 xb, .int .i64 xc, .int .i32 ximm, .slice aa xargs.length ac] 46)))
  have HML := Lib.hid hml
  have HSEP := Lib.hid hsep
  have hil : -2147483648 ≤ ximm := hf.1
  have hiu : ximm ≤ 2147483647 := hf.2.1
  have HLL := Lib.hid hl
  have hrl : R.length ≤ 1000 := hl
  clear h hf hw hR hm hsep hAe hBe hCe hwa hl
  unfold mv
  rw [HAE.out]
  obtain ⟨hA1, hA2⟩ := hA
  have HDO := Lib.hid (fun w => rdo_any 10 A ximm w hA1 hA2 hil hiu)
  generalize doI 10 A ximm = D at *
  have hix : ∀ wX : World, (Instr.index 162 (.agg #[.int .i64 2, .int .i64 5, .int .i64 8, .int .i64 9, .int .i64 10]) (.int .i64 4)).run Try.prog wX = .ok (.int .i64 10) wX := fun _ => by kernel_rfl
  go_enter Try.func82, Try.ntmps82
  go_wp2_with fail
  refine (HGET.out _ _ HWA.out).mono ?_
  rw [HAE.out]
  rintro e0 w1 ⟨rfl, rfl⟩
  go_wp2_with fail
  refine (HGET.out _ _ HWA.out).mono ?_
  rw [HBE.out]
  rintro e0 w1 ⟨rfl, rfl⟩
  go_wp2_with fail
  refine (HGET.out _ _ HWA.out).mono ?_
  rw [HCE.out]
  rintro e0 w1 ⟨rfl, rfl⟩
  go_wp2_with fail
  refine (HDO.out _).mono ?_
  rintro e0 w2 ⟨rfl, hs2⟩
  have hb2' := HB0.out.keep (show Since _ w2 from hs2)
  have kd0 : w2.cell? ⟨w.heap.size, 1, none⟩ = some (.int .i64 xd) := hb2'.cell 1
  have kl0 := hb2'.lt
  have HB00 := Lib.hid hb2'
  have HWA0 := Lib.hid (HWA.out.keep (show Since _ w2 from hs2))
  have HSS := Lib.hid (show Since _ w2 from hs2)
  clear hs2 hb2'
  go_wp2_with fail
  refine (rset_any (R) rb rc R.length rest T xd (D.getD 0) _ HWA0.out (by rw [show R.length = R.length from rfl]; have := HLL.out; omega) (rfl)).mono ?_
  rintro e0 w3 ⟨rfl, hw1⟩
  have ha1 : WAt w3 rb (setR (R) xd (D.getD 0)) rest T := by rw [hw1]; exact setW_at HWA0.out _ _
  have ht1 : Turn (fun k => k = rb) w2 w3 := by rw [hw1]; exact setW_turn (S := fun k => k = rb) rfl _ _ _
  have hb1 := HB00.out.turn ht1 hrne
  have hlen1 : (setR (R) xd (D.getD 0)).length = R.length := by rw [rsetR_len]
  have HWA1 := Lib.hid ha1
  have HT1 := Lib.hid (ht1)
  have HB1 := Lib.hid hb1
  have HLEN1 := Lib.hid hlen1
  have kd1 : w3.cell? ⟨w.heap.size, 1, none⟩ = some (.int .i64 xd) := hb1.cell 1
  have ke1 : w3.cell? ⟨w.heap.size, 2, none⟩ = some (.int .i64 xe) := hb1.cell 2
  have ka1 : w3.cell? ⟨w.heap.size, 3, none⟩ = some (.int .i64 xa) := hb1.cell 3
  have kb1 : w3.cell? ⟨w.heap.size, 4, none⟩ = some (.int .i64 xb) := hb1.cell 4
  have kl1 := hb1.lt
  clear hw1 ha1 ht1 hb1 hlen1
  go_wp2
  go_ret2
  exact ⟨rfl, HWA1.out, (HM0.out.keep HSS.out).turn HT1.out (fun q hq e => HSEP.out (by rw [hq, e])), (((Turn.refl _ _).alloc _).trans (Turn.since HSS.out)).trans (HT1.out.mono fun k _ h => .inl h)⟩

set_option maxHeartbeats 4000000 in
set_option maxRecDepth 100000 in
theorem rdo7_23 (xd xe xa xb xc ximm : Int) (xargs : List Int) (av mv0 : Value) (R M : List Int) (rb rc : Nat) (rest : List Value) (T : TypeId) (w : World) (h : Ints w av xargs) (hf : Fine ⟨23, xd, xe, xa, xb, xc, ximm, xargs⟩) (hw : WAt w rb R rest T) (hR : ∀ x ∈ R, In32 x) (hl : R.length ≤ 1000) (hm : MemIs w mv0 M) (hsep : mv0.ownBlock ≠ some rb) :
    Calls Try.prog 82 #[mv ⟨23, xd, xe, xa, xb, xc, ximm, xargs⟩ av, .slice (some ⟨rb, 0, none⟩) R.length rc, mv0] w (DoneP none (setR R xd (wrap32 (wrap32 (getR R xa * getR R xb) + getR R xc))) (M) rb rest T mv0 w) := by
  obtain ⟨ma, mc, rfl, hml⟩ := hm.shape
  obtain ⟨aa, ac, rfl⟩ := nums_lenI h
  have HGET := Lib.hid (fun r w h => rget_any R rb rc rest T r w h (by omega))
  have hA := getR_32 hR xa
  have hB := getR_32 hR xb
  have hC := getR_32 hR xc
  obtain ⟨A, hAe⟩ : ∃ A, getR R xa = A := ⟨_, rfl⟩
  obtain ⟨B, hBe⟩ : ∃ B, getR R xb = B := ⟨_, rfl⟩
  obtain ⟨C, hCe⟩ : ∃ C, getR R xc = C := ⟨_, rfl⟩
  rw [hAe] at hA
  rw [hBe] at hB
  rw [hCe] at hC
  have HAE := Lib.hid hAe
  have HBE := Lib.hid hBe
  have HCE := Lib.hid hCe
  have hwa : WAt (w.alloc (.cells #[.int .i64 23, .int .i64 xd, .int .i64 xe, .int .i64 xa, .int .i64 xb, .int .i64 xc, .int .i32 ximm, .slice aa xargs.length ac] 46)) rb R rest T := hw.keep ((Since.refl _).alloc _)
  have HWA := Lib.hid hwa
  have HB0 := Lib.hid (HeapIs.new w #[.int .i64 23, .int .i64 xd, .int .i64 xe, .int .i64 xa, .int .i64 xb, .int .i64 xc, .int .i32 ximm, .slice aa xargs.length ac] 46)
  have hrb := hw.lt
  have hrne : ¬ w.heap.size = rb := by omega
  have HM0 := Lib.hid (hm.keep ((Since.refl w).alloc (.cells #[.int .i64 23, .int .i64 xd, .int .i64 xe, .int .i64 xa, .int .i64 xb, .int .i64 xc, .int .i32 ximm, .slice aa xargs.length ac] 46)))
  have HML := Lib.hid hml
  have HSEP := Lib.hid hsep
  have hil : -2147483648 ≤ ximm := hf.1
  have hiu : ximm ≤ 2147483647 := hf.2.1
  have HLL := Lib.hid hl
  have hrl : R.length ≤ 1000 := hl
  clear h hf hw hR hm hsep hAe hBe hCe hwa hl
  unfold mv
  rw [HAE.out, HBE.out, HCE.out]
  obtain ⟨hA1, hA2⟩ := hA
  obtain ⟨hB1, hB2⟩ := hB
  obtain ⟨hC1, hC2⟩ := hC
  go_enter Try.func82, Try.ntmps82
  go_wp2_with fail
  refine (HGET.out _ _ HWA.out).mono ?_
  rw [HAE.out]
  rintro e0 w1 ⟨rfl, rfl⟩
  go_wp2_with fail
  refine (HGET.out _ _ HWA.out).mono ?_
  rw [HBE.out]
  rintro e0 w1 ⟨rfl, rfl⟩
  go_wp2_with fail
  refine (HGET.out _ _ HWA.out).mono ?_
  rw [HCE.out]
  rintro e0 w1 ⟨rfl, rfl⟩
  go_wp2_with fail
  refine (rset_any (R) rb rc R.length rest T xd (wrap32 (wrap32 (A * B) + C)) _ HWA.out (by rw [show R.length = R.length from rfl]; have := HLL.out; omega) (rfl)).mono ?_
  rintro e0 w2 ⟨rfl, hw1⟩
  have ha1 : WAt w2 rb (setR (R) xd (wrap32 (wrap32 (A * B) + C))) rest T := by rw [hw1]; exact setW_at HWA.out _ _
  have ht1 : Turn (fun k => k = rb) (w.alloc (.cells #[.int .i64 23, .int .i64 xd, .int .i64 xe, .int .i64 xa, .int .i64 xb, .int .i64 xc, .int .i32 ximm, .slice aa xargs.length ac] 46)) w2 := by rw [hw1]; exact setW_turn (S := fun k => k = rb) rfl _ _ _
  have hb1 := HB0.out.turn ht1 hrne
  have hlen1 : (setR (R) xd (wrap32 (wrap32 (A * B) + C))).length = R.length := by rw [rsetR_len]
  have HWA1 := Lib.hid ha1
  have HT1 := Lib.hid (ht1)
  have HB1 := Lib.hid hb1
  have HLEN1 := Lib.hid hlen1
  have kd1 : w2.cell? ⟨w.heap.size, 1, none⟩ = some (.int .i64 xd) := hb1.cell 1
  have ke1 : w2.cell? ⟨w.heap.size, 2, none⟩ = some (.int .i64 xe) := hb1.cell 2
  have ka1 : w2.cell? ⟨w.heap.size, 3, none⟩ = some (.int .i64 xa) := hb1.cell 3
  have kb1 : w2.cell? ⟨w.heap.size, 4, none⟩ = some (.int .i64 xb) := hb1.cell 4
  have kl1 := hb1.lt
  clear hw1 ha1 ht1 hb1 hlen1
  go_wp2
  go_ret2
  exact ⟨rfl, HWA1.out, HM0.out.turn HT1.out (fun q hq e => HSEP.out (by rw [hq, e])), ((Turn.refl _ _).alloc _).trans (HT1.out.mono fun k _ h => .inl h)⟩

set_option maxHeartbeats 4000000 in
set_option maxRecDepth 100000 in
theorem rdo7_29 (xd xe xa xb xc ximm : Int) (xargs : List Int) (av mv0 : Value) (R M : List Int) (rb rc : Nat) (rest : List Value) (T : TypeId) (w : World) (h : Ints w av xargs) (hf : Fine ⟨29, xd, xe, xa, xb, xc, ximm, xargs⟩) (hw : WAt w rb R rest T) (hR : ∀ x ∈ R, In32 x) (hl : R.length ≤ 1000) (hm : MemIs w mv0 M) (hsep : mv0.ownBlock ≠ some rb) :
    Calls Try.prog 82 #[mv ⟨29, xd, xe, xa, xb, xc, ximm, xargs⟩ av, .slice (some ⟨rb, 0, none⟩) R.length rc, mv0] w (DoneP none (setR (setR R xd (lowI (getR R xa) (getR R xb))) xe (highI (getR R xa) (getR R xb))) (M) rb rest T mv0 w) := by
  obtain ⟨ma, mc, rfl, hml⟩ := hm.shape
  obtain ⟨aa, ac, rfl⟩ := nums_lenI h
  have HGET := Lib.hid (fun r w h => rget_any R rb rc rest T r w h (by omega))
  have hA := getR_32 hR xa
  have hB := getR_32 hR xb
  have hC := getR_32 hR xc
  obtain ⟨A, hAe⟩ : ∃ A, getR R xa = A := ⟨_, rfl⟩
  obtain ⟨B, hBe⟩ : ∃ B, getR R xb = B := ⟨_, rfl⟩
  obtain ⟨C, hCe⟩ : ∃ C, getR R xc = C := ⟨_, rfl⟩
  rw [hAe] at hA
  rw [hBe] at hB
  rw [hCe] at hC
  have HAE := Lib.hid hAe
  have HBE := Lib.hid hBe
  have HCE := Lib.hid hCe
  have hwa : WAt (w.alloc (.cells #[.int .i64 29, .int .i64 xd, .int .i64 xe, .int .i64 xa, .int .i64 xb, .int .i64 xc, .int .i32 ximm, .slice aa xargs.length ac] 46)) rb R rest T := hw.keep ((Since.refl _).alloc _)
  have HWA := Lib.hid hwa
  have HB0 := Lib.hid (HeapIs.new w #[.int .i64 29, .int .i64 xd, .int .i64 xe, .int .i64 xa, .int .i64 xb, .int .i64 xc, .int .i32 ximm, .slice aa xargs.length ac] 46)
  have hrb := hw.lt
  have hrne : ¬ w.heap.size = rb := by omega
  have HM0 := Lib.hid (hm.keep ((Since.refl w).alloc (.cells #[.int .i64 29, .int .i64 xd, .int .i64 xe, .int .i64 xa, .int .i64 xb, .int .i64 xc, .int .i32 ximm, .slice aa xargs.length ac] 46)))
  have HML := Lib.hid hml
  have HSEP := Lib.hid hsep
  have hil : -2147483648 ≤ ximm := hf.1
  have hiu : ximm ≤ 2147483647 := hf.2.1
  have HLL := Lib.hid hl
  have hrl : R.length ≤ 1000 := hl
  clear h hf hw hR hm hsep hAe hBe hCe hwa hl
  unfold mv
  rw [HAE.out, HBE.out]
  obtain ⟨hA1, hA2⟩ := hA
  obtain ⟨hB1, hB2⟩ := hB
  have HWI := Lib.hid (fun w => rwide_any A B w hA1 hA2 hB1 hB2)
  generalize lowI A B = LO at *
  generalize highI A B = HI at *
  go_enter Try.func82, Try.ntmps82
  go_wp2_with fail
  refine (HGET.out _ _ HWA.out).mono ?_
  rw [HAE.out]
  rintro e0 w1 ⟨rfl, rfl⟩
  go_wp2_with fail
  refine (HGET.out _ _ HWA.out).mono ?_
  rw [HBE.out]
  rintro e0 w1 ⟨rfl, rfl⟩
  go_wp2_with fail
  refine (HGET.out _ _ HWA.out).mono ?_
  rw [HCE.out]
  rintro e0 w1 ⟨rfl, rfl⟩
  go_wp2_with fail
  refine (HWI.out _).mono ?_
  rintro e0 w1 ⟨rfl, rfl⟩
  go_wp2_with fail
  refine (rset_any (R) rb rc R.length rest T xd (LO) _ HWA.out (by rw [show R.length = R.length from rfl]; have := HLL.out; omega) (rfl)).mono ?_
  rintro e0 w2 ⟨rfl, hw1⟩
  have ha1 : WAt w2 rb (setR (R) xd (LO)) rest T := by rw [hw1]; exact setW_at HWA.out _ _
  have ht1 : Turn (fun k => k = rb) (w.alloc (.cells #[.int .i64 29, .int .i64 xd, .int .i64 xe, .int .i64 xa, .int .i64 xb, .int .i64 xc, .int .i32 ximm, .slice aa xargs.length ac] 46)) w2 := by rw [hw1]; exact setW_turn (S := fun k => k = rb) rfl _ _ _
  have hb1 := HB0.out.turn ht1 hrne
  have hlen1 : (setR (R) xd (LO)).length = R.length := by rw [rsetR_len]
  have HWA1 := Lib.hid ha1
  have HT1 := Lib.hid (ht1)
  have HB1 := Lib.hid hb1
  have HLEN1 := Lib.hid hlen1
  have kd1 : w2.cell? ⟨w.heap.size, 1, none⟩ = some (.int .i64 xd) := hb1.cell 1
  have ke1 : w2.cell? ⟨w.heap.size, 2, none⟩ = some (.int .i64 xe) := hb1.cell 2
  have ka1 : w2.cell? ⟨w.heap.size, 3, none⟩ = some (.int .i64 xa) := hb1.cell 3
  have kb1 : w2.cell? ⟨w.heap.size, 4, none⟩ = some (.int .i64 xb) := hb1.cell 4
  have kl1 := hb1.lt
  clear hw1 ha1 ht1 hb1 hlen1
  go_wp2_with fail
  refine (rset_any (setR R xd LO) rb rc R.length rest T xe (HI) _ HWA1.out (by rw [HLEN1.out]; have := HLL.out; omega) (HLEN1.out.symm)).mono ?_
  rintro e0 w3 ⟨rfl, hw2⟩
  have ha2 : WAt w3 rb (setR (setR R xd LO) xe (HI)) rest T := by rw [hw2]; exact setW_at HWA1.out _ _
  have ht2 : Turn (fun k => k = rb) w2 w3 := by rw [hw2]; exact setW_turn (S := fun k => k = rb) rfl _ _ _
  have hb2 := HB1.out.turn ht2 hrne
  have hlen2 : (setR (setR R xd LO) xe (HI)).length = R.length := by rw [rsetR_len]; exact HLEN1.out
  have HWA2 := Lib.hid ha2
  have HT2 := Lib.hid ((HT1.out).trans ht2)
  have HB2 := Lib.hid hb2
  have HLEN2 := Lib.hid hlen2
  have kd2 : w3.cell? ⟨w.heap.size, 1, none⟩ = some (.int .i64 xd) := hb2.cell 1
  have ke2 : w3.cell? ⟨w.heap.size, 2, none⟩ = some (.int .i64 xe) := hb2.cell 2
  have ka2 : w3.cell? ⟨w.heap.size, 3, none⟩ = some (.int .i64 xa) := hb2.cell 3
  have kb2 : w3.cell? ⟨w.heap.size, 4, none⟩ = some (.int .i64 xb) := hb2.cell 4
  have kl2 := hb2.lt
  clear hw2 ha2 ht2 hb2 hlen2
  go_wp2
  go_ret2
  exact ⟨rfl, HWA2.out, HM0.out.turn HT2.out (fun q hq e => HSEP.out (by rw [hq, e])), ((Turn.refl _ _).alloc _).trans (HT2.out.mono fun k _ h => .inl h)⟩

set_option maxHeartbeats 4000000 in
set_option maxRecDepth 100000 in
theorem rdo7_none_lo (op xd xe xa xb xc ximm : Int) (xargs : List Int) (av mv0 : Value) (R M : List Int) (rb rc : Nat) (rest : List Value) (T : TypeId) (w : World) (h : Ints w av xargs) (hf : Fine ⟨op, xd, xe, xa, xb, xc, ximm, xargs⟩) (hw : WAt w rb R rest T) (hR : ∀ x ∈ R, In32 x) (hl : R.length ≤ 1000) (hm : MemIs w mv0 M) (hsep : mv0.ownBlock ≠ some rb) (ho : op < 1) :
    Calls Try.prog 82 #[mv ⟨op, xd, xe, xa, xb, xc, ximm, xargs⟩ av, .slice (some ⟨rb, 0, none⟩) R.length rc, mv0] w (DoneP none (R) (M) rb rest T mv0 w) := by
  obtain ⟨ma, mc, rfl, hml⟩ := hm.shape
  obtain ⟨aa, ac, rfl⟩ := nums_lenI h
  have HGET := Lib.hid (fun r w h => rget_any R rb rc rest T r w h (by omega))
  have hA := getR_32 hR xa
  have hB := getR_32 hR xb
  have hC := getR_32 hR xc
  obtain ⟨A, hAe⟩ : ∃ A, getR R xa = A := ⟨_, rfl⟩
  obtain ⟨B, hBe⟩ : ∃ B, getR R xb = B := ⟨_, rfl⟩
  obtain ⟨C, hCe⟩ : ∃ C, getR R xc = C := ⟨_, rfl⟩
  rw [hAe] at hA
  rw [hBe] at hB
  rw [hCe] at hC
  have HAE := Lib.hid hAe
  have HBE := Lib.hid hBe
  have HCE := Lib.hid hCe
  have hwa : WAt (w.alloc (.cells #[.int .i64 op, .int .i64 xd, .int .i64 xe, .int .i64 xa, .int .i64 xb, .int .i64 xc, .int .i32 ximm, .slice aa xargs.length ac] 46)) rb R rest T := hw.keep ((Since.refl _).alloc _)
  have HWA := Lib.hid hwa
  have HB0 := Lib.hid (HeapIs.new w #[.int .i64 op, .int .i64 xd, .int .i64 xe, .int .i64 xa, .int .i64 xb, .int .i64 xc, .int .i32 ximm, .slice aa xargs.length ac] 46)
  have hrb := hw.lt
  have hrne : ¬ w.heap.size = rb := by omega
  have HM0 := Lib.hid (hm.keep ((Since.refl w).alloc (.cells #[.int .i64 op, .int .i64 xd, .int .i64 xe, .int .i64 xa, .int .i64 xb, .int .i64 xc, .int .i32 ximm, .slice aa xargs.length ac] 46)))
  have HML := Lib.hid hml
  have HSEP := Lib.hid hsep
  have hil : -2147483648 ≤ ximm := hf.1
  have hiu : ximm ≤ 2147483647 := hf.2.1
  have HLL := Lib.hid hl
  have hrl : R.length ≤ 1000 := hl
  clear h hf hw hR hm hsep hAe hBe hCe hwa hl
  unfold mv
  have n1 : (op == 1) = false := beq_eq_false_iff_ne.2 (by omega)
  have n2 : (op == 2) = false := beq_eq_false_iff_ne.2 (by omega)
  have n3 : (op == 3) = false := beq_eq_false_iff_ne.2 (by omega)
  have n4 : (op == 4) = false := beq_eq_false_iff_ne.2 (by omega)
  have n23 : (op == 23) = false := beq_eq_false_iff_ne.2 (by omega)
  have n24 : (op == 24) = false := beq_eq_false_iff_ne.2 (by omega)
  have n25 : (op == 25) = false := beq_eq_false_iff_ne.2 (by omega)
  have n26 : (op == 26) = false := beq_eq_false_iff_ne.2 (by omega)
  have n27 : (op == 27) = false := beq_eq_false_iff_ne.2 (by omega)
  have n29 : (op == 29) = false := beq_eq_false_iff_ne.2 (by omega)
  have g1 : decide (5 ≤ op) = false := decide_eq_false (by omega)
  have g2 : decide (18 ≤ op) = false := decide_eq_false (by omega)
  clear ho
  go_enter Try.func82, Try.ntmps82
  go_wp2_with fail
  refine (HGET.out _ _ HWA.out).mono ?_
  rw [HAE.out]
  rintro e0 w1 ⟨rfl, rfl⟩
  go_wp2_with fail
  refine (HGET.out _ _ HWA.out).mono ?_
  rw [HBE.out]
  rintro e0 w1 ⟨rfl, rfl⟩
  go_wp2_with fail
  refine (HGET.out _ _ HWA.out).mono ?_
  rw [HCE.out]
  rintro e0 w1 ⟨rfl, rfl⟩
  go_wp2
  go_ret2
  exact ⟨rfl, HWA.out, HM0.out, (Turn.refl _ _).alloc _⟩

set_option maxHeartbeats 4000000 in
set_option maxRecDepth 100000 in
theorem rdo7_none_hi (op xd xe xa xb xc ximm : Int) (xargs : List Int) (av mv0 : Value) (R M : List Int) (rb rc : Nat) (rest : List Value) (T : TypeId) (w : World) (h : Ints w av xargs) (hf : Fine ⟨op, xd, xe, xa, xb, xc, ximm, xargs⟩) (hw : WAt w rb R rest T) (hR : ∀ x ∈ R, In32 x) (hl : R.length ≤ 1000) (hm : MemIs w mv0 M) (hsep : mv0.ownBlock ≠ some rb) (ho : op = 28 ∨ 30 ≤ op) :
    Calls Try.prog 82 #[mv ⟨op, xd, xe, xa, xb, xc, ximm, xargs⟩ av, .slice (some ⟨rb, 0, none⟩) R.length rc, mv0] w (DoneP none (R) (M) rb rest T mv0 w) := by
  obtain ⟨ma, mc, rfl, hml⟩ := hm.shape
  obtain ⟨aa, ac, rfl⟩ := nums_lenI h
  have HGET := Lib.hid (fun r w h => rget_any R rb rc rest T r w h (by omega))
  have hA := getR_32 hR xa
  have hB := getR_32 hR xb
  have hC := getR_32 hR xc
  obtain ⟨A, hAe⟩ : ∃ A, getR R xa = A := ⟨_, rfl⟩
  obtain ⟨B, hBe⟩ : ∃ B, getR R xb = B := ⟨_, rfl⟩
  obtain ⟨C, hCe⟩ : ∃ C, getR R xc = C := ⟨_, rfl⟩
  rw [hAe] at hA
  rw [hBe] at hB
  rw [hCe] at hC
  have HAE := Lib.hid hAe
  have HBE := Lib.hid hBe
  have HCE := Lib.hid hCe
  have hwa : WAt (w.alloc (.cells #[.int .i64 op, .int .i64 xd, .int .i64 xe, .int .i64 xa, .int .i64 xb, .int .i64 xc, .int .i32 ximm, .slice aa xargs.length ac] 46)) rb R rest T := hw.keep ((Since.refl _).alloc _)
  have HWA := Lib.hid hwa
  have HB0 := Lib.hid (HeapIs.new w #[.int .i64 op, .int .i64 xd, .int .i64 xe, .int .i64 xa, .int .i64 xb, .int .i64 xc, .int .i32 ximm, .slice aa xargs.length ac] 46)
  have hrb := hw.lt
  have hrne : ¬ w.heap.size = rb := by omega
  have HM0 := Lib.hid (hm.keep ((Since.refl w).alloc (.cells #[.int .i64 op, .int .i64 xd, .int .i64 xe, .int .i64 xa, .int .i64 xb, .int .i64 xc, .int .i32 ximm, .slice aa xargs.length ac] 46)))
  have HML := Lib.hid hml
  have HSEP := Lib.hid hsep
  have hil : -2147483648 ≤ ximm := hf.1
  have hiu : ximm ≤ 2147483647 := hf.2.1
  have HLL := Lib.hid hl
  have hrl : R.length ≤ 1000 := hl
  clear h hf hw hR hm hsep hAe hBe hCe hwa hl
  unfold mv
  have n1 : (op == 1) = false := beq_eq_false_iff_ne.2 (by omega)
  have n2 : (op == 2) = false := beq_eq_false_iff_ne.2 (by omega)
  have n3 : (op == 3) = false := beq_eq_false_iff_ne.2 (by omega)
  have n4 : (op == 4) = false := beq_eq_false_iff_ne.2 (by omega)
  have n23 : (op == 23) = false := beq_eq_false_iff_ne.2 (by omega)
  have n24 : (op == 24) = false := beq_eq_false_iff_ne.2 (by omega)
  have n25 : (op == 25) = false := beq_eq_false_iff_ne.2 (by omega)
  have n26 : (op == 26) = false := beq_eq_false_iff_ne.2 (by omega)
  have n27 : (op == 27) = false := beq_eq_false_iff_ne.2 (by omega)
  have n29 : (op == 29) = false := beq_eq_false_iff_ne.2 (by omega)
  have g0 : (5 : Int) ≤ op := by omega
  have g1 : decide (op ≤ 17) = false := decide_eq_false (by omega)
  have g3 : (18 : Int) ≤ op := by omega
  have g2 : decide (op ≤ 22) = false := decide_eq_false (by omega)
  clear ho
  go_enter Try.func82, Try.ntmps82
  go_wp2_with fail
  refine (HGET.out _ _ HWA.out).mono ?_
  rw [HAE.out]
  rintro e0 w1 ⟨rfl, rfl⟩
  go_wp2_with fail
  refine (HGET.out _ _ HWA.out).mono ?_
  rw [HBE.out]
  rintro e0 w1 ⟨rfl, rfl⟩
  go_wp2_with fail
  refine (HGET.out _ _ HWA.out).mono ?_
  rw [HCE.out]
  rintro e0 w1 ⟨rfl, rfl⟩
  go_wp2
  go_ret2
  exact ⟨rfl, HWA.out, HM0.out, (Turn.refl _ _).alloc _⟩

end Go.Proofs.Ytkpbmbhejpmboaa
