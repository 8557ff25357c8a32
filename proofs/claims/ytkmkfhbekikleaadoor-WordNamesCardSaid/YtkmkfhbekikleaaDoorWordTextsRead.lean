/- How the library's variables read in WordTexts' row; the walk of all inputs. -/
import Derived.Test.YtkmkfhbekikleaaDoorWalkTexts
import Derived.Test.YtkmkfhbekikleaaDoorRows
import Derived.Lib.LaidTab
import Derived.Stop.LaidErr
import Derived.Lib.ItoaLen
namespace Go.Proofs.YtkmkfhbekikleaaDoor
open Go.RowKit
set_option linter.unusedVariables false

theorem gPow : Tryd.prog.globalNamed "internal/strconv.uint64pow10" = some 4 := by kernel_rfl
theorem gPowT : (Tryd.prog.globals[(4 : Nat)]?).map (·.type) = some 92 := by kernel_rfl
theorem gSyn : Tryd.prog.globalNamed "strconv.ErrSyntax" = some 2 := by kernel_rfl
theorem gSynT : (Tryd.prog.globals[(2 : Nat)]?).map (·.type) = some 35 := by kernel_rfl
theorem gRan : Tryd.prog.globalNamed "strconv.ErrRange" = some 3 := by kernel_rfl
theorem gRanT : (Tryd.prog.globals[(3 : Nat)]?).map (·.type) = some 35 := by kernel_rfl
theorem starErr : "*" ++ "errors.errorString" = "*errors.errorString" := by decide
theorem rowErr (u : TypeId) (h : Tryd.prog.typeName? 3 u = some "*errors.errorString") : u = 87 :=
  typeName_ptr_named (nm := "errors.errorString") (by rw [starErr]; kernel_rfl) (by kernel_rfl) (by decide) u (by rw [starErr]; exact h)
theorem powData : (Rows.laid_internal_strconv_uint64pow10 : DataW Unit) = Lib.tabData .u64 Lib.pow10Tab := by kernel_rfl
theorem tab_pow {W : World} {r : List (String × DataW Unit)} (h : laidMet Tryd.prog (("internal/strconv.uint64pow10", Rows.laid_internal_strconv_uint64pow10) :: r) W) : Lib.TabIs Tryd.prog W "internal/strconv.uint64pow10" .u64 Lib.pow10Tab := by
  rw [powData] at h
  exact Lib.tabIs_of_head gPow gPowT Tryd.underlying92 Tryd.underlying52 (by kernel_rfl) (by kernel_rfl) h
theorem cellsErr : Tryd.prog.cellsOf 89 = 1 := by kernel_rfl
theorem cellsStr : Tryd.prog.cellsOf 9 = 1 := by kernel_rfl
theorem err_syn {W : World} {r : List (String × DataW Unit)} (h : laidMet Tryd.prog (("strconv.ErrSyntax", Rows.laid_strconv_ErrSyntax) :: r) W) : ∃ tp p, W.var? Tryd.prog "strconv.ErrSyntax" = some #[.iface tp p] := by
  obtain ⟨a0, s0, hv0, -, -, -⟩ := laid_sentinel h gSyn gSynT Tryd.underlying35 rowErr Tryd.underlying87 Tryd.underlying89 rfl rfl Tryd.underlying9 cellsErr cellsStr
  exact ⟨_, _, hv0⟩
theorem err_ran {W : World} {r : List (String × DataW Unit)} (h : laidMet Tryd.prog (("strconv.ErrRange", Rows.laid_strconv_ErrRange) :: r) W) : ∃ tp p, W.var? Tryd.prog "strconv.ErrRange" = some #[.iface tp p] := by
  obtain ⟨a0, s0, hv0, -, -, -⟩ := laid_sentinel h gRan gRanT Tryd.underlying35 rowErr Tryd.underlying87 Tryd.underlying89 rfl rfl Tryd.underlying9 cellsErr cellsStr
  exact ⟨_, _, hv0⟩
theorem laidS_of {W : World} (hL : laidMet Tryd.prog Rows.wordTextsRow.laid W) : LaidS W := by
  have h2 := laidMet.tail (laidMet.tail hL)
  have h3 := laidMet.tail h2
  exact ⟨tab_pow h2, err_syn (laidMet.tail h3), err_ran h3⟩

theorem bytes_append (a b : ByteArray) : (a ++ b).data.toList = a.data.toList ++ b.data.toList := by
  rw [ByteArray.data_append, Array.toList_append]
theorem int32_bounds {a : Int} (h : (Lit.int .i32 a).wf = true) : In32W a := by
  simp [Lit.wf, IntKind.min, IntKind.max, IntKind.signed, IntKind.bits] at h
  unfold In32W; omega
theorem u8_bounds {a : Int} (h : (Lit.int .u8 a).wf = true) : 0 ≤ a ∧ a < 256 := by
  simp [Lit.wf, IntKind.min, IntKind.max, IntKind.signed, IntKind.bits] at h
  omega
theorem walk_texts (n : Int) (s : ByteArray) (c : Int) (wn : (Lit.int .i32 n).wf = true) (ws : s.size ≤ maxLen) (wc : (Lit.int .u8 c).wf = true) (w : World) (hL : LaidS w) :
    Calls Tryd.prog 3 #[.int .i32 n, .string s, .int .u8 c] w (AllTrue w) := by
  have hn := int32_bounds wn
  have hc := u8_bounds wc
  unfold maxLen at ws
  have hlen := itoa_small n hn
  have hcb : (UInt8.ofNat c.toNat).toNat = c.toNat := by rw [UInt8.toNat_ofNat']; omega
  have e1 : (⟨(Lib.itoa n).toArray⟩ : ByteArray).data.toList = Lib.itoa n := rfl
  have e3 : ((⟨#[48]⟩ : ByteArray) ++ ⟨(Lib.itoa n).toArray⟩).data.toList = 48 :: Lib.itoa n := by rw [bytes_append]; rfl
  have e4 : ((⟨#[43]⟩ : ByteArray) ++ ⟨(Lib.itoa n).toArray⟩).data.toList = 43 :: Lib.itoa n := by rw [bytes_append]; rfl
  have e5 : ((⟨(Lib.itoa n).toArray⟩ : ByteArray) ++ ⟨#[UInt8.ofNat c.toNat]⟩).data.toList = Lib.itoa n ++ [UInt8.ofNat c.toNat] := by rw [bytes_append]
  have zz : ∀ (x : ByteArray), x.data.toList.length ≤ 281474976710656 → x.size ≤ 281474976710656 := fun x h => by
    have : x.data.toList.length = x.size := Array.length_toList
    omega
  have s1 := zz ⟨(Lib.itoa n).toArray⟩ (by rw [e1]; omega)
  have s3 := zz (⟨#[48]⟩ ++ ⟨(Lib.itoa n).toArray⟩) (by rw [e3]; simp; omega)
  have s4 := zz (⟨#[43]⟩ ++ ⟨(Lib.itoa n).toArray⟩) (by rw [e4]; simp; omega)
  have s5 := zz (⟨(Lib.itoa n).toArray⟩ ++ ⟨#[UInt8.ofNat c.toNat]⟩) (by rw [e5]; simp; omega)
  have s2 : (s.extract 0 (min (s.size : Int) 20).toNat).size ≤ 281474976710656 := by rw [ByteArray.size_extract]; omega
  have core := fun (b d : Int) (is more : Bool) hb hd h2 h5 => texts_core n s ⟨(Lib.itoa n).toArray⟩ ⟨(Lib.itoa b).toArray⟩ c b d is more w hn hb hd ws hc hL rfl rfl (fun w1 h => parse_yes _ w1 n s1 h (by rw [e1]; exact wparse_itoa hn)) h2 (fun w1 h => parse_no _ w1 s3 h (by rw [e3]; exact wparse_led n)) (fun w1 h => parse_no _ w1 s4 h (by rw [e4]; exact wparse_signed n)) h5
  have z32 : In32W 0 := ⟨by decide, by decide⟩
  cases h2 : wparse (s.extract 0 (min (s.size : Int) 20).toNat).data.toList with
  | none =>
    cases h5 : wparse (Lib.itoa n ++ [UInt8.ofNat c.toNat]) with
    | none => exact core 0 0 false false z32 z32 (fun w1 h => parse_no _ w1 s2 h h2) (fun w1 h => parse_no _ w1 s5 h (by rw [e5]; exact h5)) (.inr ⟨rfl, rfl⟩) (.inr rfl)
    | some d =>
      obtain ⟨m1, m2, m3⟩ := wparse_more hn h5
      rw [hcb] at m1
      exact core 0 d false true z32 (wparse_32 h5) (fun w1 h => parse_no _ w1 s2 h h2) (fun w1 h => parse_yes _ w1 d s5 h (by rw [e5]; exact h5)) (.inr ⟨rfl, rfl⟩) (.inl ⟨rfl, by omega, by rw [m2]; have := hn; unfold In32W at this; unfold wrap32; simp; omega, by simpa using m3⟩)
  | some b =>
    have hbt : ((⟨(Lib.itoa b).toArray⟩ : ByteArray).toList == (s.extract 0 (min (s.size : Int) 20).toNat).toList) = true := by
      rw [ByteArray.toList_eq, ByteArray.toList_eq, beq_iff_eq]
      exact wparse_text h2
    cases h5 : wparse (Lib.itoa n ++ [UInt8.ofNat c.toNat]) with
    | none => exact core b 0 true false (wparse_32 h2) z32 (fun w1 h => parse_yes _ w1 b s2 h h2) (fun w1 h => parse_no _ w1 s5 h (by rw [e5]; exact h5)) (.inl ⟨rfl, hbt⟩) (.inr rfl)
    | some d =>
      obtain ⟨m1, m2, m3⟩ := wparse_more hn h5
      rw [hcb] at m1
      exact core b d true true (wparse_32 h2) (wparse_32 h5) (fun w1 h => parse_yes _ w1 b s2 h h2) (fun w1 h => parse_yes _ w1 d s5 h (by rw [e5]; exact h5)) (.inl ⟨rfl, hbt⟩) (.inl ⟨rfl, by omega, by rw [m2]; have := hn; unfold In32W at this; unfold wrap32; simp; omega, by simpa using m3⟩)
end Go.Proofs.YtkmkfhbekikleaaDoor
