import Derived.Test.YtmhojfpidedjeaaGreatDoorTp47
import Derived.Lib.LaidTab
import Derived.Stop.LaidErr
import Derived.Handed
import Derived.LaidLaws
namespace Go.Proofs.YtmhojfpidedjeaaGreatDoor
open Go.RowKit
set_option linter.unusedVariables false
set_option maxRecDepth 100000
theorem gPow : Tryz.prog.globalNamed "internal/strconv.uint64pow10" = some 2 := by kernel_rfl
theorem Zhh:(Tryz.prog.globals[(2:Nat)]?).map (·.type)=some 192:=by kernel_rfl
theorem Zhv : Tryz.prog.globalNamed "strconv.ErrSyntax" = some 8 := by kernel_rfl
theorem Zhf:(Tryz.prog.globals[(8:Nat)]?).map (·.type)=some 104:=by kernel_rfl
theorem Zhw : Tryz.prog.globalNamed "strconv.ErrRange" = some 9 := by kernel_rfl
theorem Zhg:(Tryz.prog.globals[(9:Nat)]?).map (·.type)=some 104:=by kernel_rfl
theorem Zcy : "*" ++ "errors.errorString" = "*errors.errorString" := by decide
theorem Zd3 (u : TypeId) (h : Tryz.prog.typeName? 3 u = some "*errors.errorString") : u = 232 :=
 typeName_ptr_named (nm := "errors.errorString") (by rw [Zcy]; kernel_rfl) (by kernel_rfl) (by decide) u (by rw [Zcy]; exact h)
theorem ZfZ:(Rows.laid_internal_strconv_uint64pow10:DataW Unit)=Lib.tabData .u64 Lib.pow10Tab:=by kernel_rfl
theorem ZfT {W : World} {r : List (String × DataW Unit)} (h : laidMet Tryz.prog (("internal/strconv.uint64pow10", Rows.laid_internal_strconv_uint64pow10) :: r) W) : Lib.TabIs Tryz.prog W "internal/strconv.uint64pow10" .u64 Lib.pow10Tab := by
 rw[ZfZ]at h
 exact Lib.tabIs_of_head gPow Zhh Tryz.underlying192 Tryz.underlying111 (by kernel_rfl) (by kernel_rfl) h
theorem ZbW:Tryz.prog.cellsOf 234=1:=by kernel_rfl
theorem ZbV:Tryz.prog.cellsOf 9=1:=by kernel_rfl
theorem Zgo {W : World} {r : List (String × DataW Unit)} (h : laidMet Tryz.prog (("strconv.ErrSyntax", Rows.laid_strconv_ErrSyntax) :: r) W) : ∃ tp p, W.var? Tryz.prog "strconv.ErrSyntax" = some #[.iface tp p] := by
 obtain⟨a0,s0,ha,-,-,-⟩:=laid_sentinel h Zhv Zhf Tryz.underlying104 Zd3 Tryz.underlying232 Tryz.underlying234 rfl rfl Tryz.underlying9 ZbW ZbV
 exact⟨_,_,ha⟩
theorem Zgp {W : World} {r : List (String × DataW Unit)} (h : laidMet Tryz.prog (("strconv.ErrRange", Rows.laid_strconv_ErrRange) :: r) W) : ∃ tp p, W.var? Tryz.prog "strconv.ErrRange" = some #[.iface tp p] := by
 obtain⟨a0,s0,ha,-,-,-⟩:=laid_sentinel h Zhw Zhg Tryz.underlying104 Zd3 Tryz.underlying232 Tryz.underlying234 rfl rfl Tryz.underlying9 ZbW ZbV
 exact⟨_,_,ha⟩
theorem ZgW : Tryz.prog.globalNamed "strings.asciiSpace" = some 0 := by kernel_rfl
theorem Zgn:(Tryz.prog.globals[(0:Nat)]?).map (·.type)=some 149:=by kernel_rfl
theorem ZdX:(Rows.laid_strings_asciiSpace:DataW Unit)=Lib.tabData .u8 Lib.asciiSpaceTab:=by kernel_rfl
theorem ZdW {W : World} {r : List (String × DataW Unit)} (h : laidMet Tryz.prog (("strings.asciiSpace", Rows.laid_strings_asciiSpace) :: r) W) : Lib.TabIs Tryz.prog W "strings.asciiSpace" .u8 Lib.asciiSpaceTab := by
 rw[ZdX]at h
 exact Lib.tabIs_of_head ZgW Zgn Tryz.underlying149 Tryz.underlying5 (by kernel_rfl) (by kernel_rfl) h
theorem Zeg {W : World} (h:W.ShapedOpen Tryz.prog):∃ m,W.cell? ⟨3,0,none⟩=some (.int .i64 m):=by
 obtain⟨cs,hc,hf,hr⟩:=h.1 3 #[.int .i64 0] 3 (by decide +kernel) (by kernel_rfl);obtain⟨ts,he,_,hv⟩:=hr (by kernel_rfl);obtain rfl:ts=[3]:=Option.some.inj (he.symm.trans (by kernel_rfl));have h1:cs.size=1:=hf;obtain⟨v,hd⟩:∃ v,cs[0]? = some v:=⟨cs[0],Array.getElem?_eq_getElem (by omega)⟩
 obtain⟨u,hu,ha⟩:=hv 0 v hd;obtain rfl:3=u:=by simpa using hu
 have hb:W.cell? ⟨3,0,none⟩=some v:=by
  simp only[World.cell?,hc];simpa using hd
 rw[hb];unfold Cell.ok at ha;rw[Tryz.underlying3]at ha
 revert ha
 cases v<;>intro ha<;>simp_all
theorem Zfn {W : World} (hL : laidMet Tryz.prog [("math/bits.deBruijn32tab", Rows.laid_math_bits_deBruijn32tab), ("math/bits.deBruijn64tab", Rows.laid_math_bits_deBruijn64tab), ("internal/strconv.uint64pow10", Rows.laid_internal_strconv_uint64pow10), ("unicode/utf8.acceptRanges", Rows.laid_unicode_utf8_acceptRanges), ("strconv.ErrRange", Rows.laid_strconv_ErrRange), ("strconv.ErrSyntax", Rows.laid_strconv_ErrSyntax), ("unicode.White_Space", Rows.laid_unicode_White_Space), ("strings.asciiSpace", Rows.laid_strings_asciiSpace), ("unicode/utf8.first", Rows.laid_unicode_utf8_first)] W) (ha : W.ShapedOpen Tryz.prog) : Ys W := by
 have h2:=laidMet.tail (laidMet.tail hL)
 have h4:=laidMet.tail (laidMet.tail h2)
 have h5:=laidMet.tail h4
 have h7:=laidMet.tail (laidMet.tail h5)
 exact⟨⟨ZfT h2,Zgo h5,Zgp h4⟩,ZdW h7,Zeg ha⟩
theorem Zbb {H : Type} {enc:TypeId × Value→H} {a : Assume} {C : Checked} {os:Os} {f : FuncId} {fn:Func} {s : ChangeSpec} {conds:List PathCond} {apart fresh ha again:Bool} {X : World→Array Value→Prop}
  (hX:∀ (w w':World) (args:Array Value),w.heap=w'.heap→X w args→X w' args)
  (own:ownKnob C.prog.godebug=none) (started:os.Started) (noInit:C.prog.inits.idxOf? f=none) (hh:C.prog.funcs[f]? = some fn)
  (witness:∃ (w:World) (tape:Tape) (i:Input),w.os=os∧(w.forCall tape i).Shaped C.prog∧i.vars=[]∧Input.okWide C.prog (w.forCall tape i) .any w.heap.size f i ∧
   ((s.pre enc C.prog fn conds apart (w.forCall tape i).memory i.args∧X (w.forCall tape i).memory i.args)∧sizedMet enc C.prog fn (OpenSpec.ofChange s) apart (w.forCall tape i).memory i.args)∧a.holds C.prog (lone (Frame.enter C.prog f i.args .normal) [] (w.forCall tape i)))
  (contract:∀ (W:World) (base:Nat) (args:Array Value) (ds gs:List (DataW H)) (before:List MemPlace),W.ShapedOpen C.prog →
   (∀ (j:Nat) t v,fn.params[j]? = some t→args[j]? = some v→Value.okWide C.prog W .any base t v) →
   DataW.Whole enc C.prog fn.params.toList s.vars apart W args.toList ds gs before→X W args →
   Calls C.prog f args W fun e W'=>∃ v,e=.returned v∧s.post enc C.prog fn apart fresh ha again W args v W') :
  ReturnsInHanded a C os f .any (fun w args=>(s.pre enc C.prog fn conds apart w args∧X w args)∧sizedMet enc C.prog fn (OpenSpec.ofChange s) apart w args) (s.post enc C.prog fn apart fresh ha again):=by
 refine returnsInHanded_of_calls own started noInit witness ?_;intro w tape i _ hf _ hg hc _;obtain⟨_,_,_,fn',hd,_,_,_,_,hb⟩:=hg;obtain rfl:fn'=fn:=Option.some.inj (hd.symm.trans hh);obtain⟨⟨⟨ds,gs,before,hw,_⟩,hx⟩,_⟩:=hc;refine (contract (w.forCall tape i) w.heap.size i.args ds gs before hf hb (DataW.Whole.of_heap (w':=w.forCall tape i) (by rfl) hw) (hX _ _ _ (by rfl) hx)).mono fun e W' ⟨v,he,hp⟩=>?_
 subst he;exact ChangeSpec.post_blind hp
open Go.RowKit Go.ChangeShapes Go.WideShapes
theorem ZdQ {H : Type} {enc:TypeId × Value→H} {w : World} {base:Nat} {ha:Bool} {r : Reach} {b0:Nat} {v : Value} {d : DataW H} {p : List MemPlace} (hv:Value.okWide Tryz.prog w r b0 43 v) (h:DataW.Trod enc Tryz.prog w base (fun _=>true) ha 43 v d p):∃ l:List (Int × Int),Kd w v l:=by
 obtain⟨a,len,cap,rfl⟩:=okWide_slice Tryz.underlying43 hv;obtain⟨fuel,hf⟩:=h;exact Ze3 (p:=fun (_:World) (y:Int × Int)=>ZO y.1∧ZO y.2) Tryz.underlying43 Tryz.cells2 (by decide) YB (fun fuel cs y hy=>by obtain⟨x,h1,_,h2⟩:=ZeM hy;exact⟨x,h1,h2⟩) (by simpa [Value.cells]using hf)
theorem Zdq {H : Type} {enc:TypeId × Value→H} {W : World} {base:Nat} {ha:Bool} {r : Reach} {b0:Nat} {d0 d1:DataW H} {p0 p1:List MemPlace} (v0 v1:Value)
  (k0:Value.okWide Tryz.prog W r b0 32 v0) (h0:DataW.Trod enc Tryz.prog W base (fun _=>true) ha 32 v0 d0 p0)
  (k1:Value.okWide Tryz.prog W r b0 43 v1) (h1:DataW.Trod enc Tryz.prog W base (fun _=>true) ha 43 v1 d1 p1) (hL:Ys W) :
  Calls Tryz.prog 7 #[v0,v1] W fun e w'=>e=.returned (.bool true)∧Below W.heap.size W w':=by
 obtain⟨l,hl,_⟩:=Zeo k0 h0;obtain⟨ql,hq⟩:=ZdQ k1 h1;exact Zce v0 v1 l ql W hl (Zeb Tryz.underlying32 k0) hq hL
end Go.Proofs.YtmhojfpidedjeaaGreatDoor
