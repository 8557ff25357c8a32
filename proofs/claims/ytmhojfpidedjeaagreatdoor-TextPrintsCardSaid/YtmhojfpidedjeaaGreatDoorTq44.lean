/- How the library's variables are read off a row: those that it lists, and one that it does not list, by its type. jacquardlaw25.TextPrints, of all values that may come in. -/
import Derived.Test.YtmhojfpidedjeaaGreatDoorTq03
import Derived.Test.YtmhojfpidedjeaaGreatDoorTq21
import Derived.Test.YtmhojfpidedjeaaGreatDoorTq43
import Derived.Test.YtmhojfpidedjeaaGreatDoorRows
import Derived.Lib.LaidTab
import Derived.Stop.LaidErr
import Derived.Handed
import Derived.LaidLaws
namespace Go.Proofs.YtmhojfpidedjeaaGreatDoor
open Go.RowKit
set_option linter.unusedVariables false
theorem gPow : Tryz.prog.globalNamed "internal/strconv.uint64pow10" = some 2 := by kernel_rfl
theorem gPowT:(Tryz.prog.globals[(2:Nat)]?).map (·.type)=some 192:=by kernel_rfl
theorem gSyn : Tryz.prog.globalNamed "strconv.ErrSyntax" = some 8 := by kernel_rfl
theorem gSynT:(Tryz.prog.globals[(8:Nat)]?).map (·.type)=some 104:=by kernel_rfl
theorem gRan : Tryz.prog.globalNamed "strconv.ErrRange" = some 9 := by kernel_rfl
theorem gRanT:(Tryz.prog.globals[(9:Nat)]?).map (·.type)=some 104:=by kernel_rfl
theorem starErr : "*" ++ "errors.errorString" = "*errors.errorString" := by decide
theorem rowErr (u : TypeId) (h : Tryz.prog.typeName? 3 u = some "*errors.errorString") : u = 232 :=
 typeName_ptr_named (nm := "errors.errorString") (by rw [starErr]; kernel_rfl) (by kernel_rfl) (by decide) u (by rw [starErr]; exact h)
theorem powData:(Rows.laid_internal_strconv_uint64pow10:DataW Unit)=Lib.tabData .u64 Lib.pow10Tab:=by kernel_rfl
theorem tab_pow {W : World} {r : List (String × DataW Unit)} (h : laidMet Tryz.prog (("internal/strconv.uint64pow10", Rows.laid_internal_strconv_uint64pow10) :: r) W) : Lib.TabIs Tryz.prog W "internal/strconv.uint64pow10" .u64 Lib.pow10Tab := by
 rw[powData]at h
 exact Lib.tabIs_of_head gPow gPowT Tryz.underlying192 Tryz.underlying111 (by kernel_rfl) (by kernel_rfl) h
theorem cellsErr:Tryz.prog.cellsOf 234=1:=by kernel_rfl
theorem cellsStr:Tryz.prog.cellsOf 9=1:=by kernel_rfl
theorem err_syn {W : World} {r : List (String × DataW Unit)} (h : laidMet Tryz.prog (("strconv.ErrSyntax", Rows.laid_strconv_ErrSyntax) :: r) W) : ∃ tp p, W.var? Tryz.prog "strconv.ErrSyntax" = some #[.iface tp p] := by
 obtain⟨a0,s0,hv0,-,-,-⟩:=laid_sentinel h gSyn gSynT Tryz.underlying104 rowErr Tryz.underlying232 Tryz.underlying234 rfl rfl Tryz.underlying9 cellsErr cellsStr
 exact⟨_,_,hv0⟩
theorem err_ran {W : World} {r : List (String × DataW Unit)} (h : laidMet Tryz.prog (("strconv.ErrRange", Rows.laid_strconv_ErrRange) :: r) W) : ∃ tp p, W.var? Tryz.prog "strconv.ErrRange" = some #[.iface tp p] := by
 obtain⟨a0,s0,hv0,-,-,-⟩:=laid_sentinel h gRan gRanT Tryz.underlying104 rowErr Tryz.underlying232 Tryz.underlying234 rfl rfl Tryz.underlying9 cellsErr cellsStr
 exact⟨_,_,hv0⟩
theorem gSpace : Tryz.prog.globalNamed "strings.asciiSpace" = some 0 := by kernel_rfl
theorem gSpaceT:(Tryz.prog.globals[(0:Nat)]?).map (·.type)=some 149:=by kernel_rfl
theorem spaceData:(Rows.laid_strings_asciiSpace:DataW Unit)=Lib.tabData .u8 Lib.asciiSpaceTab:=by kernel_rfl
theorem tab_space {W : World} {r : List (String × DataW Unit)} (h : laidMet Tryz.prog (("strings.asciiSpace", Rows.laid_strings_asciiSpace) :: r) W) : Lib.TabIs Tryz.prog W "strings.asciiSpace" .u8 Lib.asciiSpaceTab := by
 rw[spaceData]at h
 exact Lib.tabIs_of_head gSpace gSpaceT Tryz.underlying149 Tryz.underlying5 (by kernel_rfl) (by kernel_rfl) h
set_option maxRecDepth 100000 in
theorem maxlen_of {W : World} (h:W.ShapedOpen Tryz.prog):∃ m,W.cell? ⟨3,0,none⟩=some (.int .i64 m):=by
 obtain⟨cs,hc,hsz,hr⟩:=h.1 3 #[.int .i64 0] 3 (by decide +kernel) (by kernel_rfl)
 obtain⟨ts,hts,_,hv⟩:=hr (by kernel_rfl)
 obtain rfl:ts=[3]:=Option.some.inj (hts.symm.trans (by kernel_rfl))
 have h1:cs.size=1:=hsz
 obtain⟨v,hv0⟩:∃ v,cs[0]? = some v:=⟨cs[0],Array.getElem?_eq_getElem (by omega)⟩
 obtain⟨u,hu,hok⟩:=hv 0 v hv0
 obtain rfl:3=u:=by simpa using hu
 have hcell:W.cell? ⟨3,0,none⟩=some v:=by
  simp only[World.cell?,hc]
  simpa using hv0
 rw[hcell]
 unfold Cell.ok at hok
 rw[Tryz.underlying3]at hok
 revert hok
 cases v<;>intro hok<;>simp_all
theorem laidT_of {W : World} (hL : laidMet Tryz.prog [("math/bits.deBruijn32tab", Rows.laid_math_bits_deBruijn32tab), ("math/bits.deBruijn64tab", Rows.laid_math_bits_deBruijn64tab), ("internal/strconv.uint64pow10", Rows.laid_internal_strconv_uint64pow10), ("unicode/utf8.acceptRanges", Rows.laid_unicode_utf8_acceptRanges), ("strconv.ErrRange", Rows.laid_strconv_ErrRange), ("strconv.ErrSyntax", Rows.laid_strconv_ErrSyntax), ("unicode.White_Space", Rows.laid_unicode_White_Space), ("strings.asciiSpace", Rows.laid_strings_asciiSpace), ("unicode/utf8.first", Rows.laid_unicode_utf8_first)] W) (hsh : W.ShapedOpen Tryz.prog) : LaidT W := by
 have h2:=laidMet.tail (laidMet.tail hL)
 have h4:=laidMet.tail (laidMet.tail h2)
 have h5:=laidMet.tail h4
 have h7:=laidMet.tail (laidMet.tail h5)
 exact⟨⟨tab_pow h2,err_syn h5,err_ran h4⟩,tab_space h7,maxlen_of hsh⟩
theorem handed_shaped {H : Type} {enc:TypeId × Value→H} {a : Assume} {C : Checked} {os:Os} {f : FuncId} {fn:Func} {s : ChangeSpec} {conds:List PathCond} {apart fresh handsOn again:Bool} {X : World→Array Value→Prop}
  (hX:∀ (w w':World) (args:Array Value),w.heap=w'.heap→X w args→X w' args)
  (own:ownKnob C.prog.godebug=none) (started:os.Started) (noInit:C.prog.inits.idxOf? f=none) (hfn:C.prog.funcs[f]? = some fn)
  (witness:∃ (w:World) (tape:Tape) (i:Input),w.os=os∧(w.forCall tape i).Shaped C.prog∧i.vars=[]∧Input.okWide C.prog (w.forCall tape i) .any w.heap.size f i ∧
   ((s.pre enc C.prog fn conds apart (w.forCall tape i).memory i.args∧X (w.forCall tape i).memory i.args)∧sizedMet enc C.prog fn (OpenSpec.ofChange s) apart (w.forCall tape i).memory i.args)∧a.holds C.prog (lone (Frame.enter C.prog f i.args .normal) [] (w.forCall tape i)))
  (contract:∀ (W:World) (base:Nat) (args:Array Value) (ds gs:List (DataW H)) (before:List MemPlace),W.ShapedOpen C.prog →
   (∀ (j:Nat) t v,fn.params[j]? = some t→args[j]? = some v→Value.okWide C.prog W .any base t v) →
   DataW.Whole enc C.prog fn.params.toList s.vars apart W args.toList ds gs before→X W args →
   Calls C.prog f args W fun e W'=>∃ v,e=.returned v∧s.post enc C.prog fn apart fresh handsOn again W args v W') :
  ReturnsInHanded a C os f .any (fun w args=>(s.pre enc C.prog fn conds apart w args∧X w args)∧sizedMet enc C.prog fn (OpenSpec.ofChange s) apart w args) (s.post enc C.prog fn apart fresh handsOn again):=by
 refine returnsInHanded_of_calls own started noInit witness ?_
 intro w tape i _ hsh _ hok hpre _
 obtain⟨_,_,_,fn',hfn',_,_,_,_,hval⟩:=hok
 obtain rfl:fn'=fn:=Option.some.inj (hfn'.symm.trans hfn)
 obtain⟨⟨⟨ds,gs,before,hw,_⟩,hx⟩,_⟩:=hpre
 refine (contract (w.forCall tape i) w.heap.size i.args ds gs before hsh hval (DataW.Whole.of_heap (w':=w.forCall tape i) (by rfl) hw) (hX _ _ _ (by rfl) hx)).mono fun e W' ⟨v,he,hp⟩=>?_
 subst he
 exact ChangeSpec.post_blind hp
open Go.RowKit Go.ChangeShapes Go.WideShapes
theorem Tryz.cells3:Tryz.prog.cellsOf 46=3:=by kernel_rfl
theorem Tryz.cells6:Tryz.prog.cellsOf 47=6:=by kernel_rfl
section
variable {H : Type} {enc:TypeId × Value→H} {w : World} {base:Nat} {held:Bool}
theorem ls3 {α:Type} {l : List α} (h:l.length=3):∃ a b c,l=[a,b,c]:=by
 match l,h with
 | [a,b,c],_=>exact⟨a,b,c,rfl⟩
set_option maxRecDepth 100000 in
theorem three_trod {fuel:Nat} {cs:List Value} {x : DataW H × List MemPlace} (h:DataW.trod enc Tryz.prog w base (fun _=>true) held fuel 46 cs=some x):∃ a b c:Int,cs=[.int .i64 a,.int .i64 b,.int .i64 c]:=by
 obtain⟨xs,m,_,_,hlen,hxs,hel⟩:=DataW.trod_array Tryz.underlying46 h
 rw[Tryz.cells3]at hlen
 obtain⟨c0,c1,c2,rfl⟩:=ls3 hlen
 have h0:=hel 0 (by decide)
 have h1:=hel 1 (by decide)
 have h2:=hel 2 (by decide)
 rw[Tryz.cellsInt]at h0 h1 h2
 simp only[Nat.mul_one,List.drop_succ_cons,List.drop_zero,List.take_succ_cons,List.take_zero]at h0 h1 h2
 obtain⟨n0,rfl,w0⟩:=int_field Tryz.underlying3 h0 (by simp[hxs])
 obtain⟨n1,rfl,w1⟩:=int_field Tryz.underlying3 h1 (by simp[hxs])
 obtain⟨n2,rfl,w2⟩:=int_field Tryz.underlying3 h2 (by simp[hxs])
 exact⟨n0,n1,n2,rfl⟩
set_option maxRecDepth 100000 in
theorem six_trod {fuel:Nat} {cs:List Value} {x : DataW H × List MemPlace} (h:DataW.trod enc Tryz.prog w base (fun _=>true) held fuel 47 cs=some x):∃ a b c d e f:Int,cs=[.int .i64 a,.int .i64 b,.int .i64 c,.int .i64 d,.int .i64 e,.int .i64 f]:=by
 obtain⟨xs,m,_,_,hlen,hxs,hel⟩:=DataW.trod_array Tryz.underlying47 h
 rw[Tryz.cells6]at hlen
 have h0:=hel 0 (by decide)
 have h1:=hel 1 (by decide)
 rw[Tryz.cells3]at h0 h1
 have g0:∃ y,xs[0]? = some y:=⟨_,List.getElem?_eq_getElem (by omega)⟩
 have g1:∃ y,xs[1]? = some y:=⟨_,List.getElem?_eq_getElem (by omega)⟩
 obtain⟨y0,e0⟩:=g0
 obtain⟨y1,e1⟩:=g1
 rw[e0]at h0
 rw[e1]at h1
 obtain⟨a,b,c,k0⟩:=three_trod h0
 obtain⟨d,e,f,k1⟩:=three_trod h1
 have e2:cs=(cs.drop (0*3)).take 3++(cs.drop (1*3)).take 3:=by
  have e3:(cs.drop (1*3)).take 3=cs.drop (1*3):=List.take_of_length_le (by rw[List.length_drop];omega)
  rw[e3,Nat.zero_mul,List.drop_zero,Nat.one_mul,List.take_append_drop]
 rw[k0,k1]at e2
 exact⟨a,b,c,d,e,f,e2⟩
set_option maxRecDepth 100000 in
theorem six_came {r : Reach} {b0:Nat} {v : Value} {d : DataW H} {p : List MemPlace} (hv:Value.okWide Tryz.prog w r b0 47 v)
  (h:DataW.Trod enc Tryz.prog w base (fun _=>true) held 47 v d p):∃ a b c d e f:Int,v=.agg #[.int .i64 a,.int .i64 b,.int .i64 c,.int .i64 d,.int .i64 e,.int .i64 f]:=by
 have hv':=hv
 simp only[Value.okWide,Tryz.underlying47]at hv'
 obtain⟨cs,rfl,hsz,_⟩:=hv'
 obtain⟨fuel,hf⟩:=h
 obtain⟨a,b,c,d,e,f,hc⟩:=six_trod hf
 refine⟨a,b,c,d,e,f,?_⟩
 have:cs=#[.int .i64 a,.int .i64 b,.int .i64 c,.int .i64 d,.int .i64 e,.int .i64 f]:=by
  apply Array.ext'
  simpa [Value.cells]using hc
 rw[this]
end
set_option maxRecDepth 100000 in
theorem law_prints {H : Type} {enc:TypeId × Value→H} {W : World} {base:Nat} {held:Bool} {r : Reach} {b0:Nat} {d0 d1:DataW H} {p0 p1:List MemPlace} (v0 v1:Value)
  (k0:Value.okWide Tryz.prog W r b0 32 v0) (h0:DataW.Trod enc Tryz.prog W base (fun _=>true) held 32 v0 d0 p0)
  (k1:Value.okWide Tryz.prog W r b0 47 v1) (h1:DataW.Trod enc Tryz.prog W base (fun _=>true) held 47 v1 d1 p1) (hL:LaidT W) :
  Calls Tryz.prog 8 #[v0,v1] W fun e w'=>e=.returned (.bool true)∧Below W.heap.size W w':=by
 obtain⟨l,hl,_⟩:=ints_came k0 h0
 obtain⟨a,b,c,d,e,f,rfl⟩:=six_came k1 h1
 exact walk_prints v0 l a b c d e f W hl (okWide_lt Tryz.underlying32 k0) hL
end Go.Proofs.YtmhojfpidedjeaaGreatDoor
