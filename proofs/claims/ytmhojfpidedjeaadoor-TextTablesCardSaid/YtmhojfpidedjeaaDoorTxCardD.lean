/- How the library's variables are read off a row: those that it lists, and one that it does not list, by its type. -/
import Derived.Test.YtmhojfpidedjeaaDoorDz14
import Derived.Test.YtmhojfpidedjeaaDoorRows
import Derived.Lib.LaidTab
import Derived.Stop.LaidErr
import Derived.Handed
import Derived.LaidLaws
namespace Go.Proofs.YtmhojfpidedjeaaDoor
open Go.RowKit
set_option linter.unusedVariables false

theorem gPow : Tryd.prog.globalNamed "internal/strconv.uint64pow10" = some 3 := by kernel_rfl
theorem gPowT : (Tryd.prog.globals[(3 : Nat)]?).map (·.type) = some 154 := by kernel_rfl
theorem gSyn : Tryd.prog.globalNamed "strconv.ErrSyntax" = some 6 := by kernel_rfl
theorem gSynT : (Tryd.prog.globals[(6 : Nat)]?).map (·.type) = some 97 := by kernel_rfl
theorem gRan : Tryd.prog.globalNamed "strconv.ErrRange" = some 7 := by kernel_rfl
theorem gRanT : (Tryd.prog.globals[(7 : Nat)]?).map (·.type) = some 97 := by kernel_rfl
theorem starErr : "*" ++ "errors.errorString" = "*errors.errorString" := by decide
theorem rowErr (u : TypeId) (h : Tryd.prog.typeName? 3 u = some "*errors.errorString") : u = 177 :=
  typeName_ptr_named (nm := "errors.errorString") (by rw [starErr]; kernel_rfl) (by kernel_rfl) (by decide) u (by rw [starErr]; exact h)
theorem powData : (Rows.laid_internal_strconv_uint64pow10 : DataW Unit) = Lib.tabData .u64 Lib.pow10Tab := by kernel_rfl
theorem tab_pow {W : World} {r : List (String × DataW Unit)} (h : laidMet Tryd.prog (("internal/strconv.uint64pow10", Rows.laid_internal_strconv_uint64pow10) :: r) W) : Lib.TabIs Tryd.prog W "internal/strconv.uint64pow10" .u64 Lib.pow10Tab := by
  rw [powData] at h
  exact Lib.tabIs_of_head gPow gPowT Tryd.underlying154 Tryd.underlying139 (by kernel_rfl) (by kernel_rfl) h
theorem cellsErr : Tryd.prog.cellsOf 179 = 1 := by kernel_rfl
theorem cellsStr : Tryd.prog.cellsOf 9 = 1 := by kernel_rfl
theorem err_syn {W : World} {r : List (String × DataW Unit)} (h : laidMet Tryd.prog (("strconv.ErrSyntax", Rows.laid_strconv_ErrSyntax) :: r) W) : ∃ tp p, W.var? Tryd.prog "strconv.ErrSyntax" = some #[.iface tp p] := by
  obtain ⟨a0, s0, hv0, -, -, -⟩ := laid_sentinel h gSyn gSynT Tryd.underlying97 rowErr Tryd.underlying177 Tryd.underlying179 rfl rfl Tryd.underlying9 cellsErr cellsStr
  exact ⟨_, _, hv0⟩
theorem err_ran {W : World} {r : List (String × DataW Unit)} (h : laidMet Tryd.prog (("strconv.ErrRange", Rows.laid_strconv_ErrRange) :: r) W) : ∃ tp p, W.var? Tryd.prog "strconv.ErrRange" = some #[.iface tp p] := by
  obtain ⟨a0, s0, hv0, -, -, -⟩ := laid_sentinel h gRan gRanT Tryd.underlying97 rowErr Tryd.underlying177 Tryd.underlying179 rfl rfl Tryd.underlying9 cellsErr cellsStr
  exact ⟨_, _, hv0⟩
theorem gSpace : Tryd.prog.globalNamed "strings.asciiSpace" = some 0 := by kernel_rfl
theorem gSpaceT : (Tryd.prog.globals[(0 : Nat)]?).map (·.type) = some 94 := by kernel_rfl
theorem spaceData : (Rows.laid_strings_asciiSpace : DataW Unit) = Lib.tabData .u8 Lib.asciiSpaceTab := by kernel_rfl
theorem tab_space {W : World} {r : List (String × DataW Unit)} (h : laidMet Tryd.prog (("strings.asciiSpace", Rows.laid_strings_asciiSpace) :: r) W) : Lib.TabIs Tryd.prog W "strings.asciiSpace" .u8 Lib.asciiSpaceTab := by
  rw [spaceData] at h
  exact Lib.tabIs_of_head gSpace gSpaceT Tryd.underlying94 Tryd.underlying5 (by kernel_rfl) (by kernel_rfl) h
set_option maxRecDepth 100000 in
/-- A variable that no one lists holds a number, by its type. -/
theorem maxlen_of {W : World} (h : W.ShapedOpen Tryd.prog) : ∃ m, W.cell? ⟨2, 0, none⟩ = some (.int .i64 m) := by
  obtain ⟨cs, hc, hsz, hr⟩ := h.1 2 #[.int .i64 0] 3 (by decide +kernel) (by kernel_rfl)
  obtain ⟨ts, hts, _, hv⟩ := hr (by kernel_rfl)
  obtain rfl : ts = [3] := Option.some.inj (hts.symm.trans (by kernel_rfl))
  have h1 : cs.size = 1 := hsz
  obtain ⟨v, hv0⟩ : ∃ v, cs[0]? = some v := ⟨cs[0], Array.getElem?_eq_getElem (by omega)⟩
  obtain ⟨u, hu, hok⟩ := hv 0 v hv0
  obtain rfl : 3 = u := by simpa using hu
  have hcell : W.cell? ⟨2, 0, none⟩ = some v := by
    simp only [World.cell?, hc]
    simpa using hv0
  rw [hcell]
  unfold Cell.ok at hok
  rw [Tryd.underlying3] at hok
  revert hok
  cases v <;> intro hok <;> simp_all
theorem laidT_of {W : World} (hL : laidMet Tryd.prog [("math/bits.deBruijn32tab", Rows.laid_math_bits_deBruijn32tab), ("math/bits.deBruijn64tab", Rows.laid_math_bits_deBruijn64tab), ("internal/strconv.uint64pow10", Rows.laid_internal_strconv_uint64pow10), ("unicode/utf8.acceptRanges", Rows.laid_unicode_utf8_acceptRanges), ("strconv.ErrRange", Rows.laid_strconv_ErrRange), ("strconv.ErrSyntax", Rows.laid_strconv_ErrSyntax), ("unicode.White_Space", Rows.laid_unicode_White_Space), ("strings.asciiSpace", Rows.laid_strings_asciiSpace), ("unicode/utf8.first", Rows.laid_unicode_utf8_first)] W) (hsh : W.ShapedOpen Tryd.prog) : LaidT W := by
  have h2 := laidMet.tail (laidMet.tail hL)
  have h4 := laidMet.tail (laidMet.tail h2)
  have h5 := laidMet.tail h4
  have h7 := laidMet.tail (laidMet.tail h5)
  exact ⟨⟨tab_pow h2, err_syn h5, err_ran h4⟩, tab_space h7, maxlen_of hsh⟩
/-- The kit's door, with the world's shape in hand. -/
theorem handed_shaped {H : Type} {enc : TypeId × Value → H} {a : Assume} {C : Checked} {os : Os} {f : FuncId} {fn : Func} {s : ChangeSpec} {conds : List PathCond} {apart fresh handsOn again : Bool} {X : World → Array Value → Prop}
    (hX : ∀ (w w' : World) (args : Array Value), w.heap = w'.heap → X w args → X w' args)
    (own : ownKnob C.prog.godebug = none) (started : os.Started) (noInit : C.prog.inits.idxOf? f = none) (hfn : C.prog.funcs[f]? = some fn)
    (witness : ∃ (w : World) (tape : Tape) (i : Input), w.os = os ∧ (w.forCall tape i).Shaped C.prog ∧ i.vars = [] ∧ Input.okWide C.prog (w.forCall tape i) .any w.heap.size f i ∧
      ((s.pre enc C.prog fn conds apart (w.forCall tape i).memory i.args ∧ X (w.forCall tape i).memory i.args) ∧ sizedMet enc C.prog fn (OpenSpec.ofChange s) apart (w.forCall tape i).memory i.args) ∧ a.holds C.prog (lone (Frame.enter C.prog f i.args .normal) [] (w.forCall tape i)))
    (contract : ∀ (W : World) (base : Nat) (args : Array Value) (ds gs : List (DataW H)) (before : List MemPlace), W.ShapedOpen C.prog →
      (∀ (j : Nat) t v, fn.params[j]? = some t → args[j]? = some v → Value.okWide C.prog W .any base t v) →
      DataW.Whole enc C.prog fn.params.toList s.vars apart W args.toList ds gs before → X W args →
      Calls C.prog f args W fun e W' => ∃ v, e = .returned v ∧ s.post enc C.prog fn apart fresh handsOn again W args v W') :
    ReturnsInHanded a C os f .any (fun w args => (s.pre enc C.prog fn conds apart w args ∧ X w args) ∧ sizedMet enc C.prog fn (OpenSpec.ofChange s) apart w args) (s.post enc C.prog fn apart fresh handsOn again) := by
  refine returnsInHanded_of_calls own started noInit witness ?_
  intro w tape i _ hsh _ hok hpre _
  obtain ⟨_, _, _, fn', hfn', _, _, _, _, hval⟩ := hok
  obtain rfl : fn' = fn := Option.some.inj (hfn'.symm.trans hfn)
  obtain ⟨⟨⟨ds, gs, before, hw, _⟩, hx⟩, _⟩ := hpre
  refine (contract (w.forCall tape i) w.heap.size i.args ds gs before hsh hval (DataW.Whole.of_heap (w' := w.forCall tape i) (by rfl) hw) (hX _ _ _ (by rfl) hx)).mono fun e W' ⟨v, he, hp⟩ => ?_
  subst he
  exact ChangeSpec.post_blind hp
end Go.Proofs.YtmhojfpidedjeaaDoor
