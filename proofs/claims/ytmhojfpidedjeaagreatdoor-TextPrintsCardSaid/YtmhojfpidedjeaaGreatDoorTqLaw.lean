/- TextPrints holds for every input: the call returns true, and each argument reads behind the call as it read before. The row lists variables of the library's as their initialisers lay them; the card ties them to the program's text. -/
import Derived.Test.YtmhojfpidedjeaaGreatDoorTq44
import Derived.Test.YtmhojfpidedjeaaGreatDoorTie
import Derived.Test.YtmhojfpidedjeaaGreatDoorCards
import Derived.SevenTiedAt
import Derived.ProofKit
import Derived.OpenShut
import Derived.ShutString
import Derived.Below
import Derived.Lib.LaidTab
import Derived.Stop.LaidErr
import Derived.LaidLaws
import Derived.Deep.DeepLaidRun
import Derived.JoinedAt
import Derived.ChangeVars
namespace Go.Proofs.YtmhojfpidedjeaaGreatDoor.textPrints
open Go.ChangeShapes Go.WideShapes Go.ChangeAt Go.RowKit
open Go.ChangeMaps (open_string shut_string)
theorem own:ownKnob Tryz.prog.godebug=none:=by kernel_rfl
theorem laidOut:laidOutB Tryz.prog=true:=by kernel_rfl
abbrev L:List (String × DataW Unit):=Rows.textPrintsRow.laid
def litCells:DataW Unit→Array Value
 | .agg l=>(l.map fun x=>match x with | .lit (.int k z)=>Value.int k z | _=>undef).toArray
 | _=>#[]
def litCells2:DataW Unit→Array Value
 | .agg l=>(l.flatMap fun x=>(litCells x).toList).toArray
 | _=>#[]
noncomputable def low:Nat:=(World.holding Tryz.prog default ⟨#[],#[],[]⟩).heap.size
def setV (g:Nat) (cs:Array Value) (h:Array Obj):Array Obj:=h.modify g fun o=>match o with | .cells _ t fz=>.cells cs t fz | o=>o
noncomputable def laidWorld (os:Os):World:=
 let w0:=World.holding Tryz.prog os ⟨#[.cells #[.string { data:=#[118,97,108,117,101,32,111,117,116,32,111,102,32,114,97,110,103,101] }] 234,.cells #[.string { data:=#[105,110,118,97,108,105,100,32,115,121,110,116,97,120] }] 234,.cells #[.int .u16 9,.int .u16 13,.int .u16 1,.int .u16 32,.int .u16 133,.int .u16 101,.int .u16 160,.int .u16 5760,.int .u16 5600,.int .u16 8192,.int .u16 8202,.int .u16 1,.int .u16 8232,.int .u16 8233,.int .u16 1,.int .u16 8239,.int .u16 8287,.int .u16 48,.int .u16 12288,.int .u16 12288,.int .u16 1] 203,.cells #[.slice (some ⟨low+2,0,none⟩) 7 7,.slice none 0 0,.int .i64 2] 200],#[],[]⟩
 { w0 with heap:=setV 4 (litCells Rows.laid_math_bits_deBruijn32tab) (setV 5 (litCells Rows.laid_math_bits_deBruijn64tab) (setV 2 (litCells Rows.laid_internal_strconv_uint64pow10) (setV 7 (litCells2 Rows.laid_unicode_utf8_acceptRanges) (setV 9 (#[.iface 232 (.pointer (some ⟨low+0,0,none⟩))]) (setV 8 (#[.iface 232 (.pointer (some ⟨low+1,0,none⟩))]) (setV 1 (#[.pointer (some ⟨low+3,0,none⟩)]) (setV 0 (litCells Rows.laid_strings_asciiSpace) (setV 6 (litCells Rows.laid_unicode_utf8_first) w0.heap)))))))) }
theorem laidWorld_met (os:Os) (args:Array Value):laidMet Tryz.prog L ((laidWorld os).forCall (fun _ _=>0) ⟨#[],args,[]⟩).memory:=
 laidMet_of_run3 12 (by kernel_rfl) (by kernel_rfl) (by kernel_rfl)
theorem laid_read {W : World} (hL:laidMet Tryz.prog L W) (hsh:W.ShapedOpen Tryz.prog):LaidT W:=laidT_of hL hsh
theorem witness_ref {H : Type} {enc:TypeId × Value→H} {C : Checked} {os:Os} {f : FuncId} {fn:Func} {s : ChangeSpec} {conds:List PathCond} {apart:Bool} {X : World→Array Value→Prop} (modest:Bool) (w0:World) (args:Array Value) (fuel:Nat) (hos:w0.os=os)
  (hv:(w0.forCall (fun _ _=>0) ⟨#[],args,[]⟩).variablesRefB C.prog=true)
  (hr:((w0.forCall (fun _ _=>0) ⟨#[],args,[]⟩).heap.toList.drop C.prog.globals.size).take ((begin C.prog (fun _ _=>0) default).world.heap.size-C.prog.globals.size) =
   (begin C.prog (fun _ _=>0) default).world.heap.toList.drop C.prog.globals.size)
  (hok:Input.okWideB C.prog (w0.forCall (fun _ _=>0) ⟨#[],args,[]⟩) f ⟨#[],args,[]⟩=true)
  (hpre:s.preB enc C.prog fn conds apart (w0.forCall (fun _ _=>0) ⟨#[],args,[]⟩).memory args fuel=true)
  (hsz:s.sizedB enc C.prog fn apart (w0.forCall (fun _ _=>0) ⟨#[],args,[]⟩).memory args fuel=true)
  (hx:X (w0.forCall (fun _ _=>0) ⟨#[],args,[]⟩).memory args) :
  ∃ (w:World) (tape:Tape) (i:Input),w.os=os∧(w.forCall tape i).Shaped C.prog∧i.vars=[]∧Input.okWide C.prog (w.forCall tape i) .any w.heap.size f i ∧
   ((s.pre enc C.prog fn conds apart (w.forCall tape i).memory i.args∧X (w.forCall tape i).memory i.args)∧sizedMet enc C.prog fn (OpenSpec.ofChange s) apart (w.forCall tape i).memory i.args)∧({ modest:=modest }:Assume).holds C.prog (lone (Frame.enter C.prog f i.args .normal) [] (w.forCall tape i)):=
 ⟨w0,fun _ _=>0,⟨#[],args,[]⟩,hos,World.shaped_of_RefB hv hr,(Input.okWide_of_okWideB (base:=0) hok).1,(Input.okWide_of_okWideB hok).2,⟨⟨ChangeSpec.pre_of_preB hpre,hx⟩,sizedMet_of_sizedB hsz⟩,by
  simp only[Assume.holds]
  exact⟨by simp,by simp,fun _=>Modest.zero,by simp,by simp⟩⟩
set_option maxRecDepth 100000 in
theorem lifted (os:Os) (started:os.Started) (H:Type) (enc:TypeId × Value→H) :
  ReturnsInHanded {} Tryz.checked os 8 .any (fun w args=>(Rows.textPrintsSpec.pre enc Tryz.prog Tryz.f8 [] false w args∧laidMet Tryz.prog L w)∧sizedMet enc Tryz.prog Tryz.f8 (OpenSpec.ofChange Rows.textPrintsSpec) false w args)
   (Rows.textPrintsSpec.post enc Tryz.prog Tryz.f8 false true false false):=by
 refine handed_shaped (C:=Tryz.checked) (X:=fun w _=>laidMet Tryz.prog L w) (fun _ _ _ hh h=>h.of_heap hh) own started (by kernel_rfl) Tryz.func8
  (witness_ref (enc:=enc) (C:=Tryz.checked) (os:=os) (X:=fun w _=>laidMet Tryz.prog L w) false (laidWorld os) #[.slice none 0 0,.agg #[.int .i64 0,.int .i64 0,.int .i64 0,.int .i64 0,.int .i64 0,.int .i64 0]] 8 rfl (by kernel_rfl) (by kernel_rfl) (by kernel_rfl) (by kernel_rfl) (by kernel_rfl) (laidWorld_met os _)) ?_
 intro W base args ds gs before hsh hval0 hW hL0
 have hL:=laid_read hL0 hsh
 have hval:∀ (j:Nat) t v,Tryz.f8.params[j]? = some t→args[j]? = some v→Value.okWide Tryz.prog W .any base t v:=hval0
 have hW':=hW
 obtain⟨p,q,hA0,hV,rfl,hfz,hnd⟩:=hW
 have hA:DataW.TrodAll enc Tryz.prog W 0 (fun _=>true) true Tryz.f8.params.toList args.toList ds p:=hA0
 rw[Tryz.params8]at hA hval
 obtain⟨v0,vs0,d0,ds0,p0,q0,hargs,rfl,rfl,h0,r0⟩:=trodAll_cons hA
 obtain⟨v1,vs1,d1,ds1,p1,q1,rfl,rfl,rfl,h1,r1⟩:=trodAll_cons r0
 obtain⟨rfl,rfl,rfl⟩:=trodAll_nil r1
 obtain rfl:args=#[v0,v1]:=by cases args;simp_all
 obtain⟨rfl,rfl⟩:=trodVars_none hV
 have k0:=h0
 have lt0:∀ x∈p0,x.block<W.heap.size:=by obtain⟨m,hm⟩:=k0;exact DataW.trod_lt m _ _ _ hm
 have k1:=h1
 have lt1:∀ x∈p1,x.block<W.heap.size:=by obtain⟨m,hm⟩:=k1;exact DataW.trod_lt m _ _ _ hm
 clear hA0 hval0
 refine (law_prints v0 v1 (hval 0 32 v0 rfl rfl) k0 (hval 1 47 v1 rfl rfl) k1  hL).mono fun e W' ⟨he,bel⟩=>?_
 subst he
 exact⟨_,rfl,_,_,_,[],_,[],hW',trodAll_mk1 (shut_bool Tryz.underlying4 _),(trodAll_cons_mk (Below.trod laidOut (by kernel_rfl) (of_decide_eq_true (by kernel_rfl)) k0 bel lt0) (trodAll_cons_mk (Below.trod laidOut (by kernel_rfl) (of_decide_eq_true (by kernel_rfl)) k1 bel lt1) trodAll_mk0)),rfl,bel.frame _,fun h=>by cases h⟩
theorem over:Rows.TextPrintsSaid:=
 OpenClaim.holds_of_wide 8 Tryz.f8 rfl rfl rfl rfl rfl rfl rfl ⟨rfl,rfl,rfl,rfl,rfl⟩ rfl rfl rfl rfl rfl (by kernel_rfl) Tryz.func8 (by kernel_rfl)
  (of_decide_eq_true (by kernel_rfl)) (by unfold Func.isWrapper;first | (rw[if_pos (by decide +kernel)];kernel_rfl) | (rw[if_neg (by decide +kernel)];exact⟨rfl,rfl⟩))
  (fun os started H enc _=>lifted os started H enc)
theorem proved:Rows.TextPrintsCardSaid:=
 Claim7.holds_tied_plain_at .later [] [.data, .data, .data, .data, .sentinel, .sentinel, .listed, .data, .pinned] true (true, "88a9a09a04e333ec70cf1c5c3b87c2605fd31f27dd7445fa7cab56a42ccbd3c2") true
  over (fun _ h=>by cases h) (by kernel_rfl) (fun _ h=>by cases h) textPrints_row_tie rfl ⟨rfl,rfl⟩ (by kernel_rfl) rfl
  (fun f fn hf hfn=>by
   obtain rfl : f = 8 := Option.some.inj ((show Tryz.prog.funcNamed "jacquard/jacquardlaw25.TextPrints" = some 8 by kernel_rfl).symm.trans hf) |>.symm
   obtain rfl:fn=Tryz.f8:=(Option.some.inj (Tryz.func8.symm.trans hfn)).symm
   exact⟨by kernel_rfl,fun j t ht=>by
    have hm:t∈(Tryz.f8.params).toList:=Array.mem_toList_iff.2 (Array.mem_of_getElem? ht)
    have hall:(Tryz.f8.params).toList.all (fun t=>Tryz.prog.wantsStandIn t==false)=true:=by kernel_rfl
    exact eq_of_beq (List.all_eq_true.1 hall t hm)⟩)
  (by kernel_rfl)
#print axioms proved
end Go.Proofs.YtmhojfpidedjeaaGreatDoor.textPrints
