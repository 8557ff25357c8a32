/- The program's Parse: the walk. The program's tile: the walk. jacquardlaw25.shown: the document's example. jacquardlaw25.raw: a function under way, as it lies in memory: the block under way (RawX), the function's box (RawG). jacquardlaw25.made: a right function by two hundred numbers; how long its te -/
import Derived.Test.YtmhojfpidedjeaaGreatDoorTq03
import Derived.Test.YtmhojfpidedjeaaGreatDoorTq04
import Derived.Test.YtmhojfpidedjeaaGreatDoorTq05
import Derived.Test.YtmhojfpidedjeaaGreatDoorTq06
import Derived.Test.YtmhojfpidedjeaaGreatDoorTq07
import Derived.Test.YtmhojfpidedjeaaGreatDoorTq21
import Derived.Test.YtmhojfpidedjeaaGreatDoorTq25
import Derived.Test.YtmhojfpidedjeaaGreatDoorTq26
import Derived.Test.YtmhojfpidedjeaaGreatDoorTq41
namespace Go.Proofs.YtmhojfpidedjeaaGreatDoor
open Go.RowKit
set_option linter.unusedVariables false
theorem PaM.noText {T : TypeId} {w0 w:World} {pb:Nat} {tl:List Value} {params pl e:Int} {bv:Value} {bl:List FBlk} (h:PaM T w0 pb tl params pl e bv bl w) (hT:T≠9) {q : Nat} (hq:PaOwn pb bv bl q):NoText w q:=fun cs hb=>by
 rcases hq with rfl|hq|⟨b,hbl,hq|hq⟩
 ·exact heap_ne h.box hb hT rfl
 ·exact own_not h.row hb (by decide) hq
 ·exact own_not (h.last b hbl).phis hb (by decide) hq
 ·exact own_not (h.last b hbl).ins hb (by decide) hq
def PInv (w0:World) (pb:Nat) (i:Nat) (t:PSt) (w:World):Prop:=∃ bv bl,TPa w0 pb (.slice none 0 0) t.params t.pl 0 bv bl w∧t.blocks=bl.map FBlk.d∧FewSt i t
def PBad (w0:World) (pb:Nat) (n:Int) (w:World):Prop:=∃ params pl bv bl,TPa w0 pb (.slice none 0 0) params pl n bv bl w∧n≠0
theorem line_enters (args:Array Value) (w:World):(callFunc 39 args).run Tryz.prog w=.ok (.enter 39 args) w:=by
 simp[callFunc,Tryz.func39]
 first | rfl | skip
theorem parse_ok (w0:World) (pb:Nat) (hL:LaidT w0):EachOk 39 pb stepSt (PInv w0 pb) (PBad w0 pb) where
 e0:=fun i t w ⟨bv,bl,h,_,_⟩=>⟨h.cell 3,h.box.lt⟩
 keep:=fun i t w w' ⟨bv,bl,h,h1,h2⟩ s=>⟨bv,bl,h.keep s,h1,h2⟩
 laid:=fun i t w ⟨bv,bl,h,_,_⟩=>hL.keep h.old
 more:=fun i t w ⟨bv,bl,h,h1,h2⟩=>⟨bv,bl,h,h1,h2.more⟩
 enters:=line_enters
 bad:=fun n w ⟨params,pl,bv,bl,h,hn⟩=>⟨h.cell 3,hn,h.box.lt⟩
 call:=fun i t w v f r ⟨bv,bl,h,hb,hf⟩ hi hv hq hn=>by
  obtain⟨params,blocks,pl⟩:=t
  simp only at hb h
  subst hb
  have hst:Stays (PaOwn pb bv bl) w v:=fun q hqq=>by
   obtain⟨cs,hcs⟩:=hq q hqq
   exact⟨fun hp=>h.noText (by decide) hp cs hcs,hcs.lt⟩
  refine (pline_any w h hL ⟨hf.pl.1,hf.pl.2.1,fun h2 e=>hf.pl.2.2 h2 (by rw[e];rfl)⟩ v f r hv hst hn (by have:=hf.bl;simp only[List.length_map]at this;omega) (fun b hb=>by
   have:=hf.each b.d (List.mem_map_of_mem (List.mem_of_getElem? hb))
   have e1:b.d.phis.length=b.phis.length:=by simp[FBlk.d]
   have e2:b.d.ins.length=b.ins.length:=by simp[FBlk.d]
   omega)).mono ?_
  rintro x w' ⟨rfl,params',pl',e',bv',bl',hp,ht,hans⟩
  refine⟨rfl,ht.mono fun q _ hpq=>h.noText (by decide) hpq,?_⟩
  cases hs:stepSt ⟨params,bl.map FBlk.d,pl⟩ (f::r) with
  | error n =>
   rw[hs]at hans
   obtain⟨h1,h2⟩:=hans
   subst h1
   exact⟨params',pl',bv',bl',hp,h2⟩
  | ok u =>
   rw[hs]at hans
   obtain⟨h1,h2⟩:=hans
   subst h1 h2
   exact⟨bv',bl',hp,rfl,hf.step hs⟩
def ParseQ (s:ByteArray) (w:World) (e:Ending) (w':World):Prop:=∃ f line er,e=.returned (.tuple #[fv f,.int .i64 line,.int .i64 er])∧FnIn w' f∧(⟨f.d,line,er⟩:PRes)=parseS s.data.toList∧Since w w'
structure FunPh (rb:Nat) (w6:World) (cs:Array Value) (w8:World):Prop where
 t:Turn (fun q=>q=rb) w6 w8
 b:HeapIs w8 rb cs 24
set_option maxHeartbeats 8000000 in
set_option maxRecDepth 100000 in
theorem parse_any (s:ByteArray) (w:World) (hs:s.size≤300000) (hL:LaidT w):Calls Tryz.prog 18 #[.string s] w (ParseQ s w):=by
 have hs1:Since w (w.alloc (.cells #[.int .i64 0,.slice none 0 0] 24)):=(Since.refl w).alloc _
 have HL1:=Lib.hid (hL.keep hs1)
 have HS1:=Lib.hid hs1
 have HB1:=Lib.hid (HeapIs.new w #[.int .i64 0,.slice none 0 0] 24)
 clear hs1 hL
 go_enter Tryz.func18,Tryz.ntmps18
 go_wp2_with fail
 obtain⟨rb,hrb⟩:∃ q,w.heap.size=q:=⟨_,rfl⟩
 rw[hrb]at HB1
 obtain⟨w1,hw1⟩:∃ w1,w.alloc (.cells #[.int .i64 0,.slice none 0 0] 24)=w1:=⟨_,rfl⟩
 rw[hw1]at HL1 HS1 HB1
 obtain⟨pb,hpb⟩:∃ q,w1.heap.size=q:=⟨_,rfl⟩
 have hp0:=PaM.start w1 93 [.slice none 0 0] (by decide)
 rw[hpb]at hp0
 have HP0:=Lib.hid hp0
 have HRB:=Lib.hid hrb
 have hpe:w.heap.size+1=pb:=by rw[←hpb,←hw1];simp
 rw[hrb]at hpe
 rw[hw1]
 try rw[hrb]
 try rw[hpe]
 clear hp0 hw1 hrb hpb
 clear hpe
 refine (each_any (parse_ok w1 pb HL1.out) ⟨0,[],0⟩ s _ ⟨_,[],HP0.out,rfl,FewSt.start⟩ hs).mono ?_
 rintro e2 w2 ⟨wrong,rfl,hans⟩
 obtain⟨N,hN⟩:∃ N,(linesOf s.data.toList).length=N:=⟨_,rfl⟩
 rw[hN]
 have HN:=Lib.hid hN
 have HPS:=Lib.hid (show parseS s.data.toList=match goSt stepSt 0 ⟨0,[],0⟩ (linesOf s.data.toList) with
  | .error x=>⟨⟨0,[]⟩,x.1,x.2⟩
  | .ok t=>if t.pl=1∧t.blocks≠[] then ⟨⟨t.params,t.blocks⟩,0,0⟩ else ⟨⟨0,[]⟩,((linesOf s.data.toList).length:Int),70⟩ from rfl)
 clear hN
 cases hg:goSt stepSt 0 ⟨0,[],0⟩ (linesOf s.data.toList) with
 | error x =>
  rw[hg]at hans
  obtain⟨ln,E⟩:=x
  obtain⟨h1,params,pl,bv,bl,hp,hn0⟩:=hans
  simp only at h1 hp hn0
  subst h1
  have HRS:=Lib.hid (show (⟨(⟨0,[],.slice none 0 0⟩:FnV).d,wrong,E⟩:PRes)=parseS s.data.toList from by rw[HPS.out,hg];rfl)
  have hE:(E==0)=false:=by rw[beq_eq_false_iff_ne];exact hn0
  have c3:w2.cell? ⟨pb,3,none⟩=some (.int .i64 E):=hp.cell 3
  have hpl:=hp.box.lt
  have HB2:=Lib.hid (HB1.out.keep hp.old)
  have HS2:=Lib.hid (HS1.out.trans hp.old)
  have hpr:pb≠rb:=heap_ne hp.box HB2.out (by decide)
  clear hg hp hn0
  go_wp2_with fail
  refine wp_region_phases [6] [0,0,0,0,0,0,0,1,1] [0,1,1,1,1,1,0,1,1] [0,0,0,0,0,0,1,0,0] (fun p w8=>FunPh rb w2 #[.int .i64 0,.slice none 0 0] w8) rfl (by decide +kernel) (by decide +kernel) (by decide +kernel)
   [Is (.agg #[.int .i64 0,.slice none 0 0]),Is (.int .i64 wrong),Is (.pointer (some ⟨pb,0,none⟩)),Is (.pointer (some ⟨pb,0,none⟩)),Is (.pointer (some ⟨pb,3,none⟩)),Is (.int .i64 E),Any,Is (.int .i64 wrong),Is (.int .i64 E)]
   (by repeat (first | exact trivial | refine⟨Is.fixed _,?_⟩ | refine⟨Any.fixed,?_⟩)) ⟨Turn.since ((Since.refl w2).drew),HB2.out.keep ((Since.refl w2).drew)⟩ ⟨?_,?_,?_,?_,?_,?_,?_,?_,?_,trivial⟩ ?_
  rotate_right
  ·intro vs w8 _ hph hk
   simp only[putAll,Act.put,KnowsAll,nthF,Is,Any,List.setIfInBounds_toArray,List.set_cons_zero,List.set_cons_succ,Nat.reduceAdd,List.length_cons,List.length_nil]at hk ⊢
   try simp only[hk]
   have HB8:=Lib.hid (show HeapIs w8 rb #[.int .i64 0,.slice none 0 0] 24 from hph.b)
   have d0:=HB8.out.cell 0
   have d1:=HB8.out.cell 1
   have dl:=HB8.out.lt
   have HS8:=Lib.hid (hph.t.toSince HS2.out fun q hq e=>by have:=HRB.out;omega)
   clear hph hk
   go_wp2
   exact bodyPost_ret (v:=.tuple #[.agg #[.int .i64 0,.slice none 0 0],.int .i64 wrong,.int .i64 E]) (by simp[results,Tryz.results18,go_sem,d0,d1]) rfl ⟨⟨0,[],.slice none 0 0⟩,wrong,E,rfl,fn_nil _,HRS.out,HS8.out⟩
  all_goals
   intro p vs w8 hlo hhi _ hph hk
   simp only[putAll,Act.put,Knows,nthF,Is,Any,List.setIfInBounds_toArray,List.set_cons_zero,List.set_cons_succ,Nat.reduceAdd]at hk ⊢
   try simp only[hk]
  ·go_wp2
   exact⟨_,rfl,rfl,trivial,hph⟩
  ·go_wp2
   exact⟨_,rfl,rfl,trivial,hph⟩
  ·go_wp2
   exact⟨_,rfl,rfl,trivial,hph⟩
  ·go_wp2
   exact⟨_,rfl,rfl,trivial,hph⟩
  ·go_wp2
   exact⟨_,rfl,rfl,trivial,hph⟩
  ·have z1:w8.cell? ⟨pb,3,none⟩=some (.int .i64 E):=(hph.t.cell (p:=⟨pb,3,none⟩) hpl hpr).trans c3
   have z2:pb<w8.heap.size:=Nat.lt_of_lt_of_le hpl hph.t.size
   go_wp2
   exact⟨_,rfl,rfl,trivial,hph⟩
  ·have HB8:=Lib.hid (show HeapIs w8 rb #[.int .i64 0,.slice none 0 0] 24 from hph.b)
   have HT8:=Lib.hid hph.t
   clear hph
   refine wpList_store_row rfl 24 _ _ rfl rb #[.int .i64 0,.slice none 0 0] rfl rfl 24 _ HB8.out (by kernel_rfl) rfl (by rw[←Array.all_toList];rfl) ?_
   go_wp2
   exact⟨undef,rfl,trivial,trivial,⟨HT8.out.trans (put_turn (S:=fun q=>q=rb) rfl _),put_block HB8.out _⟩⟩
  ·go_wp2
   exact⟨_,rfl,rfl,trivial,hph⟩
  ·go_wp2
   exact⟨_,rfl,rfl,trivial,hph⟩
 | ok t =>
  rw[hg]at hans
  obtain⟨h1,i,hi,bv,bl,hp,hbl,hfew⟩:=hans
  obtain⟨params,blocks,pl⟩:=t
  simp only at hp hbl
  subst h1 hbl
  have c0:w2.cell? ⟨pb,0,none⟩=some (.int .i64 params):=hp.cell 0
  have c1:w2.cell? ⟨pb,1,none⟩=some bv:=hp.cell 1
  have c2:w2.cell? ⟨pb,2,none⟩=some (.int .i64 pl):=hp.cell 2
  have c3:w2.cell? ⟨pb,3,none⟩=some (.int .i64 0):=hp.cell 3
  have hpl:=hp.box.lt
  obtain⟨va,vc,hv⟩:=own_shape hp.row
  obtain⟨bn,hbn⟩:∃ n,bl.length=n:=⟨_,rfl⟩
  rw[hbn]at hv
  subst hv
  have HBN:=Lib.hid hbn
  have hbb:bn≤300001:=by have:=hfew.bl;simp only[List.length_map]at this;omega
  have HP:=Lib.hid hp
  have HB2:=Lib.hid (HB1.out.keep hp.old)
  have HS2:=Lib.hid (HS1.out.trans hp.old)
  have HGO:=Lib.hid hg
  clear hbn hp hfew hg
  by_cases hp1:pl=1
  ·subst hp1
   by_cases hb0:bn=0
   ·subst hb0
    have HBL:=Lib.hid (List.length_eq_zero_iff.1 HBN.out)
    have HRS:=Lib.hid (show (⟨(⟨0,[],.slice none 0 0⟩:FnV).d,N,70⟩:PRes)=parseS s.data.toList from by rw[HPS.out,HGO.out,HBL.out];simp[FnV.d,HN.out])
    go_wp2_with (refine wpList_store_row rfl 24 _ _ rfl rb #[.int .i64 0,.slice none 0 0] rfl rfl 24 _ HB2.out (by kernel_rfl) rfl (by rw[←Array.all_toList];rfl) ?_)
    have hb5:HeapIs (w2.setRow rb #[.int .i64 0,.slice none 0 0]) rb #[.int .i64 0,.slice none 0 0] 24:=put_block HB2.out _
    have hs5:Since w (w2.setRow rb #[.int .i64 0,.slice none 0 0]):=since_setRow HS2.out (Nat.le_of_eq HRB.out) _
    have hfn:FnIn (w2.setRow rb #[.int .i64 0,.slice none 0 0]) ⟨0,[],.slice none 0 0⟩:=fn_nil _
    generalize w2.setRow rb #[.int .i64 0,.slice none 0 0]=w5 at *
    have d0:=hb5.cell 0
    have d1:=hb5.cell 1
    have hl5:=hb5.lt
    have HS5:=Lib.hid hs5
    have HFN:=Lib.hid hfn
    clear hb5 hs5 hfn
    go_wp2
    exact bodyPost_ret (v:=.tuple #[.agg #[.int .i64 0,.slice none 0 0],.int .i64 N,.int .i64 70]) (by simp[results,Tryz.results18,go_sem,d0,d1]) rfl ⟨⟨0,[],.slice none 0 0⟩,N,70,rfl,HFN.out,HRS.out,HS5.out⟩
   ·have hq0:((bn:Int)==0)=false:=by rw[beq_eq_false_iff_ne];omega
    have HRS:=Lib.hid (show (⟨(⟨params,bl,.slice va bn vc⟩:FnV).d,0,0⟩:PRes)=parseS s.data.toList from by
     have hne:bl.map FBlk.d≠[]:=fun e=>by rw[List.map_eq_nil_iff]at e;rw[e]at HBN;exact hb0 HBN.out.symm
     rw[HPS.out,HGO.out];show _=(if (1:Int)=1∧bl.map FBlk.d≠[] then _ else _);rw[if_pos ⟨rfl,hne⟩];rfl)
    clear hb0
    go_wp2_with (refine wpList_store_row rfl 24 _ _ rfl rb #[.int .i64 params,.slice va bn vc] rfl rfl 24 _ HB2.out (by kernel_rfl) rfl (by rw[←Array.all_toList];rfl) ?_)
    have hb5:HeapIs (w2.setRow rb #[.int .i64 params,.slice va bn vc]) rb #[.int .i64 params,.slice va bn vc] 24:=put_block HB2.out _
    have hs5:Since w (w2.setRow rb #[.int .i64 params,.slice va bn vc]):=since_setRow HS2.out (Nat.le_of_eq HRB.out) _
    have hfn:FnIn (w2.setRow rb #[.int .i64 params,.slice va bn vc]) ⟨params,bl,.slice va bn vc⟩:=HP.out.fnTurn (R:=fun q=>q=rb) (put_turn (S:=fun q=>q=rb) rfl _) (fun q hq=>by rw[hq];exact HB1.out.lt)
    generalize w2.setRow rb #[.int .i64 params,.slice va bn vc]=w5 at *
    have d0:=hb5.cell 0
    have d1:=hb5.cell 1
    have hl5:=hb5.lt
    have HS5:=Lib.hid hs5
    have HFN:=Lib.hid hfn
    clear hb5 hs5 hfn
    go_wp2
    exact bodyPost_ret (v:=.tuple #[.agg #[.int .i64 params,.slice va bn vc],.int .i64 0,.int .i64 0]) (by simp[results,Tryz.results18,go_sem,d0,d1]) rfl ⟨⟨params,bl,.slice va bn vc⟩,0,0,rfl,HFN.out,HRS.out,HS5.out⟩
  ·have hq1:(pl==1)=false:=by rw[beq_eq_false_iff_ne];exact hp1
   have HRS:=Lib.hid (show (⟨(⟨0,[],.slice none 0 0⟩:FnV).d,N,70⟩:PRes)=parseS s.data.toList from by rw[HPS.out,HGO.out];simp only[];rw[if_neg (fun h=>hp1 h.1)];simp[FnV.d,HN.out])
   clear hp1
   go_wp2_with (refine wpList_store_row rfl 24 _ _ rfl rb #[.int .i64 0,.slice none 0 0] rfl rfl 24 _ HB2.out (by kernel_rfl) rfl (by rw[←Array.all_toList];rfl) ?_)
   have hb5:HeapIs (w2.setRow rb #[.int .i64 0,.slice none 0 0]) rb #[.int .i64 0,.slice none 0 0] 24:=put_block HB2.out _
   have hs5:Since w (w2.setRow rb #[.int .i64 0,.slice none 0 0]):=since_setRow HS2.out (Nat.le_of_eq HRB.out) _
   have hfn:FnIn (w2.setRow rb #[.int .i64 0,.slice none 0 0]) ⟨0,[],.slice none 0 0⟩:=fn_nil _
   generalize w2.setRow rb #[.int .i64 0,.slice none 0 0]=w5 at *
   have d0:=hb5.cell 0
   have d1:=hb5.cell 1
   have hl5:=hb5.lt
   have HS5:=Lib.hid hs5
   have HFN:=Lib.hid hfn
   clear hb5 hs5 hfn
   go_wp2
   exact bodyPost_ret (v:=.tuple #[.agg #[.int .i64 0,.slice none 0 0],.int .i64 N,.int .i64 70]) (by simp[results,Tryz.results18,go_sem,d0,d1]) rfl ⟨⟨0,[],.slice none 0 0⟩,N,70,rfl,HFN.out,HRS.out,HS5.out⟩
theorem NumRow.stableT {S : Nat→Prop} {base:Nat} (x:Int) (hS:∀ q,S q→q<base):StableT S (NumRow base x):=fun v w w' ⟨g,cap,h1,h2,h3,h4⟩ t=>⟨g,cap,h1,h2,Nat.lt_of_lt_of_le h3 t.size,(t.cell (p:=⟨g,0,none⟩) h3 (fun hs=>by have:=hS g hs;omega)).trans h4⟩
section
variable {w0:World} {pb:Nat}
end
def shownD:DFn:=⟨2,[⟨[],[⟨2,2,0,[0,1],0⟩],⟨4,[2],[],0⟩⟩]⟩
def shownL:Bs:=[102,117,110,99,32,50,10,98,108,111,99,107,32,48,10,97,100,100,32,50,32,48,32,49,10,114,101,116,32,50,10]
def shownB:ByteArray:=⟨#[102,117,110,99,32,50,10,98,108,111,99,107,32,48,10,97,100,100,32,50,32,48,32,49,10,114,101,116,32,50,10]⟩
theorem shown_text:funcS shownD=shownL:=by decide +kernel
theorem shown_parse:parseS shownL=⟨shownD,0,0⟩:=by kernel_rfl
theorem shown_dfn:DFn3 shownD:=by
 have h:=parsed3 shownL (by decide)
 rw[shown_parse]at h
 exact h
theorem ints_heap {w : World} {b n:Nat} {cs:Array Value} {t : TypeId} (l:List Int) (h:HeapIs w b cs t) (hn:l.length=n) (hm:n≤maxLen) (hc:∀ (j:Nat) (x:Int),l[j]? = some x→cs[j]? = some (.int .i64 x)):Ints w (.slice (some ⟨b,0,none⟩) n n) l:=by
 subst hn
 exact .inr ⟨b,0,l.length,rfl,Nat.le_refl _,hm,h.lt,fun j x hj=>by rw[Nat.zero_add,h.cell];exact hc j x hj⟩
theorem row_heap {α:Type} (f:α→List Value) (sz:Nat) (p:World→α→Prop) {w : World} {b : Nat} {cs:Array Value} {t : TypeId} (x:α) (h:HeapIs w b cs t) (hc:∀ k,k<sz→cs[k]? = (f x)[k]?) (hp:p w x):RowIn f sz p w (.slice (some ⟨b,0,none⟩) 1 1) [x]:=
 .inr ⟨b,0,1,rfl,Nat.le_refl _,by decide,h.lt,fun j y hj=>by
  rcases j with _|j
  ·obtain rfl:x=y:=Option.some.inj hj
   refine⟨fun t ht=>?_,hp⟩
   rw[Nat.zero_mul,Nat.zero_add]
   try rw[Nat.zero_add]
   rw[h.cell]
   exact hc t ht
  ·cases hj⟩
def shownF (q:Nat):FnV:=⟨2,[⟨[],.slice none 0 0,[⟨2,2,0,[0,1],.slice (some ⟨q,0,none⟩) 2 2,0⟩],.slice (some ⟨q+1,0,none⟩) 1 1,⟨4,[2],.slice (some ⟨q+1+1,0,none⟩) 1 1,[],.slice none 0 0,0⟩⟩],.slice (some ⟨q+1+1+1,0,none⟩) 1 1⟩
theorem shownF_d (q:Nat):(shownF q).d=shownD:=rfl
theorem fnR_of (f:FnV) (h:DFn3 f.d):FnR f:=by
 have k:∀ {x : Int},In32W x→In64 x:=fun {x} h=>⟨by have:=h.1;omega,by have:=h.2;omega⟩
 refine⟨k h.params,fun b hb=>?_⟩
 have hb3:=h.blocks b.d (List.mem_map_of_mem hb)
 refine⟨fun p hp=>?_,fun i hi=>?_,?_⟩
 ·obtain⟨h1,h2,_⟩:=hb3.phis p.d (List.mem_map_of_mem hp)
  exact⟨k h1,fun x hx=>⟨k (h2 x hx).1,k (h2 x hx).2⟩⟩
 ·have h1:=hb3.ins i.d (List.mem_map_of_mem hi)
  exact⟨k h1.op,k h1.dst,k h1.two,fun y hy=>k (h1.args.1 y hy),h1.imm⟩
 ·have h1:=hb3.term
  exact⟨k h1.kd,fun y hy=>k (h1.ar.1 y hy),fun y hy=>k (h1.tg.1 y hy),h1.imm⟩
theorem shownF_r (q:Nat):FnR (shownF q):=fnR_of _ shown_dfn
theorem shownF_in {w : World} {q : Nat} {T1 T2 T3 T4:TypeId} (h1:HeapIs w q #[.int .i64 0,.int .i64 1] T1) (h2:HeapIs w (q+1) #[.int .i64 2,.int .i64 2,.int .i64 0,.slice (some ⟨q,0,none⟩) 2 2,.int .i32 0] T2)
  (h3:HeapIs w (q+1+1) #[.int .i64 2] T3) (h4:HeapIs w (q+1+1+1) #[.slice none 0 0,.slice (some ⟨q+1,0,none⟩) 1 1,.int .i64 4,.slice (some ⟨q+1+1,0,none⟩) 1 1,.slice none 0 0,.int .i32 0] T4):FnIn w (shownF q):=by
 refine row_heap fbcells 6 FBlkIn _ h4 (fun k hk=>by rw[←Array.getElem?_toList];rfl) ⟨.inl ⟨none,rfl,rfl⟩,row_heap ficells 5 FInsIn _ h2 (fun k hk=>by rw[←Array.getElem?_toList];rfl) ?_,?_,.inl ⟨none,rfl,rfl⟩⟩
 ·exact ints_heap [0,1] h1 rfl (by decide) fun j x hj=>by
   rcases j with _|_|j
   ·obtain rfl:=Option.some.inj hj;rfl
   ·obtain rfl:=Option.some.inj hj;rfl
   ·cases hj
 ·exact ints_heap [2] h3 rfl (by decide) fun j x hj=>by
   rcases j with _|j
   ·obtain rfl:=Option.some.inj hj;rfl
   ·cases hj
theorem shownB_list:shownB.data.toList=shownL:=rfl
def ShownAt (w w5:World):Prop:=FnIn w5 (shownF w.heap.size)∧HeapIs w5 (w.heap.size+1+1+1+1) #[.int .i64 2,.slice (some ⟨w.heap.size+1+1+1,0,none⟩) 1 1] 24∧Since w w5
theorem shown_at (w:World):ShownAt w (((((w.alloc (.cells #[.int .i64 0,.int .i64 1] 3)).alloc (.cells #[.int .i64 2,.int .i64 2,.int .i64 0,.slice (some ⟨w.heap.size,0,none⟩) 2 2,.int .i32 0] 51)).alloc (.cells #[.int .i64 2] 3)).alloc
  (.cells #[.slice none 0 0,.slice (some ⟨w.heap.size+1,0,none⟩) 1 1,.int .i64 4,.slice (some ⟨w.heap.size+1+1,0,none⟩) 1 1,.slice none 0 0,.int .i32 0] 57)).alloc (.cells #[.int .i64 2,.slice (some ⟨w.heap.size+1+1+1,0,none⟩) 1 1] 24)):=by
 have sz:∀ (u:World) (o:Obj),(u.alloc o).heap.size=u.heap.size+1:=fun u o=>by show (u.heap.push o).size=_;exact Array.size_push _
 have nw:∀ (u:World) (k:Nat) (cs:Array Value) (T:TypeId),u.heap.size=k→HeapIs (u.alloc (.cells cs T)) k cs T:=fun u k cs T h=>h ▸ HeapIs.new u cs T
 obtain⟨q,hq⟩:∃ q,w.heap.size=q:=⟨_,rfl⟩
 unfold ShownAt
 rw[hq]
 have m1:=nw w q #[.int .i64 0,.int .i64 1] 3 hq
 have z1:=(sz w (.cells #[.int .i64 0,.int .i64 1] 3)).trans (congrArg (· + 1) hq)
 have s1:Since w (w.alloc (.cells #[.int .i64 0,.int .i64 1] 3)):=(Since.refl w).alloc _
 generalize w.alloc (.cells #[.int .i64 0,.int .i64 1] 3)=w1 at *
 have m2:=nw w1 (q+1) #[.int .i64 2,.int .i64 2,.int .i64 0,.slice (some ⟨q,0,none⟩) 2 2,.int .i32 0] 51 z1
 have z2:=(sz w1 (.cells #[.int .i64 2,.int .i64 2,.int .i64 0,.slice (some ⟨q,0,none⟩) 2 2,.int .i32 0] 51)).trans (congrArg (· + 1) z1)
 have s2:Since w1 (w1.alloc (.cells #[.int .i64 2,.int .i64 2,.int .i64 0,.slice (some ⟨q,0,none⟩) 2 2,.int .i32 0] 51)):=(Since.refl w1).alloc _
 generalize w1.alloc (.cells #[.int .i64 2,.int .i64 2,.int .i64 0,.slice (some ⟨q,0,none⟩) 2 2,.int .i32 0] 51)=w2 at *
 have m3:=nw w2 (q+1+1) #[.int .i64 2] 3 z2
 have z3:=(sz w2 (.cells #[.int .i64 2] 3)).trans (congrArg (· + 1) z2)
 have s3:Since w2 (w2.alloc (.cells #[.int .i64 2] 3)):=(Since.refl w2).alloc _
 generalize w2.alloc (.cells #[.int .i64 2] 3)=w3 at *
 have m4:=nw w3 (q+1+1+1) #[.slice none 0 0,.slice (some ⟨q+1,0,none⟩) 1 1,.int .i64 4,.slice (some ⟨q+1+1,0,none⟩) 1 1,.slice none 0 0,.int .i32 0] 57 z3
 have z4:=(sz w3 (.cells #[.slice none 0 0,.slice (some ⟨q+1,0,none⟩) 1 1,.int .i64 4,.slice (some ⟨q+1+1,0,none⟩) 1 1,.slice none 0 0,.int .i32 0] 57)).trans (congrArg (· + 1) z3)
 have s4:Since w3 (w3.alloc (.cells #[.slice none 0 0,.slice (some ⟨q+1,0,none⟩) 1 1,.int .i64 4,.slice (some ⟨q+1+1,0,none⟩) 1 1,.slice none 0 0,.int .i32 0] 57)):=(Since.refl w3).alloc _
 generalize w3.alloc (.cells #[.slice none 0 0,.slice (some ⟨q+1,0,none⟩) 1 1,.int .i64 4,.slice (some ⟨q+1+1,0,none⟩) 1 1,.slice none 0 0,.int .i32 0] 57)=w4 at *
 have m5:=nw w4 (q+1+1+1+1) #[.int .i64 2,.slice (some ⟨q+1+1+1,0,none⟩) 1 1] 24 z4
 have s5:Since w4 (w4.alloc (.cells #[.int .i64 2,.slice (some ⟨q+1+1+1,0,none⟩) 1 1] 24)):=(Since.refl w4).alloc _
 exact⟨shownF_in (m1.keep (((s2.trans s3).trans s4).trans s5)) (m2.keep ((s3.trans s4).trans s5)) (m3.keep (s4.trans s5)) (m4.keep s5),m5,(((s1.trans s2).trans s3).trans s4).trans s5⟩
set_option maxHeartbeats 4000000 in
set_option maxRecDepth 100000 in
theorem shown25_any (w:World) (hL:LaidT w):Calls Tryz.prog 9 #[] w fun e w'=>e=.returned (.bool true)∧Since w w':=by
 have HL:=Lib.hid hL
 have HA:=Lib.hid (shown_at w)
 clear hL
 go_enter Tryz.func9,Tryz.ntmps9
 go_upto_region 3 with fail
 revert HA
 generalize (((((w.alloc (.cells #[.int .i64 0,.int .i64 1] 3)).alloc (.cells #[.int .i64 2,.int .i64 2,.int .i64 0,.slice (some ⟨w.heap.size,0,none⟩) 2 2,.int .i32 0] 51)).alloc (.cells #[.int .i64 2] 3)).alloc
  (.cells #[.slice none 0 0,.slice (some ⟨w.heap.size+1,0,none⟩) 1 1,.int .i64 4,.slice (some ⟨w.heap.size+1+1,0,none⟩) 1 1,.slice none 0 0,.int .i32 0] 57)).alloc (.cells #[.int .i64 2,.slice (some ⟨w.heap.size+1+1+1,0,none⟩) 1 1] 24))=w5
 intro HA
 obtain⟨hf0,hb0,hs0⟩:=HA.out
 have HF0:=Lib.hid hf0
 have HB0:=Lib.hid hb0
 have HS0:=Lib.hid hs0
 clear hf0 hb0 hs0
 generalize w.heap.size=q at *
 clear HA
 go_wp2_with fail
 refine (parse_any shownB w5 (by decide) (HL.out.keep HS0.out)).mono ?_
 rintro e w6 ⟨f,line,er,rfl,hf,hd,hs6⟩
 rw[shownB_list,shown_parse]at hd
 obtain rfl:line=0:=congrArg PRes.line hd
 obtain rfl:er=0:=congrArg PRes.e hd
 have HD:=Lib.hid (congrArg PRes.f hd)
 have HF:=Lib.hid hf
 have HS6:=Lib.hid hs6
 clear hf hd hs6
 obtain⟨p1,b1,v1⟩:=f
 obtain⟨a1,c1,e1,_⟩:=RowIn.shape HF.out
 obtain⟨n1,hn1⟩:∃ n,b1.length=n:=⟨_,rfl⟩
 replace e1:v1=.slice a1 n1 c1:=by rw[←hn1];exact e1
 subst e1
 clear hn1
 unfold fv
 dsimp only
 go_upto_region 4 with fail
 have hs7:Since w6 (w6.alloc (.cells #[.int .i64 p1,.slice a1 n1 c1] 24)):=(Since.refl w6).alloc _
 have hb1:=HeapIs.new w6 #[.int .i64 p1,.slice a1 n1 c1] 24
 obtain⟨w7,hw7⟩:∃ w7,w6.alloc (.cells #[.int .i64 p1,.slice a1 n1 c1] 24)=w7:=⟨_,rfl⟩
 obtain⟨q1,hq1⟩:∃ q,w6.heap.size=q:=⟨_,rfl⟩
 rw[hw7]at hs7 hb1
 rw[hq1]at hb1
 try rw[hw7]
 try rw[hq1]
 have HB1:=Lib.hid hb1
 have HS7:=Lib.hid hs7
 clear hs7 hb1 hw7 hq1
 have g0:=HB0.out.keep (HS6.out.trans HS7.out)
 have z00:=g0.cell 0
 have z01:=g0.cell 1
 have z0l:=g0.lt
 clear g0
 have HT:=Lib.hid (text_func (shownF q) w7 (HF0.out.keep (HS6.out.trans HS7.out)) (shownF_r q) ((HL.out.keep HS0.out).keep (HS6.out.trans HS7.out)) (by rw[shownF_d,shown_text];decide))
 go_wp2_with fail
 refine HT.out.mono ?_
 rintro e w8 ⟨rfl,hs8⟩
 rw[shownF_d,shown_text]
 have HS8:=Lib.hid hs8
 have HC:=Lib.hid (same_any (shownF q) ⟨p1,b1,.slice a1 n1 c1⟩ w8 (HF0.out.keep ((HS6.out.trans HS7.out).trans hs8)) (HF.out.keep (HS7.out.trans hs8)) ((shownF_d q).trans HD.out.symm) (fn3_of _ (by rw[shownF_d];exact shown_dfn)) (fn3_of _ (by rw[HD.out];exact shown_dfn)) (print3_len _ (by rw[shownF_d];exact shown_dfn)))
 have g0:=HB0.out.keep ((HS6.out.trans HS7.out).trans hs8)
 have y00:=g0.cell 0
 have y01:=g0.cell 1
 have y0l:=g0.lt
 have g1:=HB1.out.keep hs8
 have y10:=g1.cell 0
 have y11:=g1.cell 1
 have y1l:=g1.lt
 clear hs8 g0 g1 z00 z01 z0l
 go_wp2_with fail
 refine HC.out.mono ?_
 rintro e w9 ⟨rfl,hs9⟩
 have HS9:=Lib.hid (((HS0.out.trans HS6.out).trans (HS7.out.trans HS8.out)).trans hs9)
 clear hs9
 go_wp2
 go_ret
 exact⟨rfl,HS9.out⟩
theorem RowIn.cut {α:Type} {f : α→List Value} {sz:Nat} {p : World→α→Prop} {w : World} {a : Option Addr} {n c k:Nat} {l : List α} (h:RowIn f sz p w (.slice a n c) l) (hk:k≤n):RowIn f sz p w (.slice a k c) (l.take k):=by
 rcases h with ⟨x,h1,h2⟩|⟨b,off,cap,h1,h2,h3,h4,h5⟩
 ·cases h1
  obtain rfl:k=0:=by omega
  exact .inl ⟨_,rfl,by simp⟩
 ·cases h1
  have hl:(l.take k).length=k:=by rw[List.length_take];omega
  refine .inr ⟨b,off,_,by rw[hl],by omega,h3,h4,fun j x hj=>h5 j x ?_⟩
  have:=(List.getElem?_eq_some_iff.1 hj).1
  rwa [List.getElem?_take_of_lt (by omega)]at hj
theorem Nums.cutTo {kd:IntKind} {w : World} {a : Option Addr} {n c k:Nat} {l : List Int} (h:Nums kd w (.slice a n c) l) (hk:k≤n):Nums kd w (.slice a k c) (l.take k):=by
 rcases h with ⟨x,h1,h2⟩|⟨b,off,cap,h1,h2,h3,h4,h5⟩
 ·cases h1
  obtain rfl:k=0:=by omega
  exact .inl ⟨_,rfl,by simp⟩
 ·cases h1
  have hl:(l.take k).length=k:=by rw[List.length_take];omega
  refine .inr ⟨b,off,_,by rw[hl],by omega,h3,h4,fun j x hj=>h5 j x ?_⟩
  have:=(List.getElem?_eq_some_iff.1 hj).1
  rwa [List.getElem?_take_of_lt (by omega)]at hj
section
variable {wx w w':World} {q : Nat} {k im:Int} {av tv phv inv phv' inv':Value} {phl:List FPhi} {il:List FIns}
end
section
variable {wa w0 w w':World} {qg:Nat} {p : Int} {gv gv':Value} {gl:List FBlk}
end
section
variable {w w':World} {rb:Nat} {p : Int} {bv0 bv1:Value}
structure BoxT (w w':World) (rb:Nat) (p:Int) (v:Value):Prop where
 was:HeapIs w rb #[.int .i64 0,.slice none 0 0] 24
 now:HeapIs w' rb #[.int .i64 p,v] 24
 turn:Turn (fun q=>q=rb) w w'
def rmI (rb:Nat) (p:Int) (v:Value) (l:List Int):List Int:=if v.ownBlock=some rb then l.map (fun _=>p) else l
theorem rmI_len (rb:Nat) (p:Int) (v:Value) (l:List Int):(rmI rb p v l).length=l.length:=by unfold rmI;split<;>simp
theorem rmI_mem {rb:Nat} {p : Int} {v : Value} {l : List Int}:∀ y∈rmI rb p v l,y∈l∨y=p:=fun y hy=>by
 unfold rmI at hy
 split at hy
 ·obtain⟨_,_,rfl⟩:=List.mem_map.1 hy;exact .inr rfl
 ·exact .inl hy
theorem box_cells {i : Nat} {y : Int} (h:HeapIs w rb #[.int .i64 0,.slice none 0 0] 24) (hc:w.cell? ⟨rb,i,none⟩=some (.int .i64 y)):i=0∧y=0:=by
 rw[h.cell]at hc
 match i,hc with
 | 0,hc=>exact⟨rfl,by cases hc;rfl⟩
 | 1,hc=>cases hc
 | n+2,hc=>simp at hc
theorem ints_rm {v bw:Value} {l : List Int} (b:BoxT w w' rb p bw) (h:Ints w v l):Ints w' v (rmI rb p v l):=by
 rcases h with ⟨a,h1,rfl⟩|⟨g,off,cap,h1,h2,h3,h4,h5⟩
 ·exact .inl ⟨a,h1,by unfold rmI;split<;>rfl⟩
 ·subst h1
  have hsz:=b.turn.size
  by_cases hg:g=rb
  ·subst hg
   have e:rmI g p (.slice (some ⟨g,off,none⟩) l.length cap) l=l.map fun _=>p:=if_pos rfl
   rw[e]
   refine .inr ⟨g,off,cap,by rw[List.length_map],by rw[List.length_map];exact h2,h3,by omega,fun j y hj=>?_⟩
   rw[List.getElem?_map]at hj
   obtain⟨z,hz,rfl⟩:=Option.map_eq_some_iff.1 hj
   obtain⟨h6,_⟩:=box_cells b.was (h5 j z hz)
   rw[h6,b.now.cell];rfl
  ·have e:rmI rb p (.slice (some ⟨g,off,none⟩) l.length cap) l=l:=if_neg fun e=>hg (Option.some.inj e)
   rw[e]
   refine .inr ⟨g,off,cap,rfl,h2,h3,by omega,fun j y hj=>?_⟩
   rw[b.turn.cell (p:=⟨g,off+j,none⟩) h4 hg];exact h5 j y hj
theorem ints_keep {v bw:Value} {l : List Int} (b:BoxT w w' rb p bw) (h:Ints w v l) (hz:∀ y∈l,y≠0):Ints w' v l:=by
 have h0:=ints_rm b h
 rcases h with ⟨a,h1,rfl⟩|⟨g,off,cap,h1,h2,h3,h4,h5⟩
 ·exact .inl ⟨a,h1,rfl⟩
 ·have e:rmI rb p v l=l:=by
   subst h1
   unfold rmI
   split
   ·rename_i hg
    obtain rfl:g=rb:=Option.some.inj hg
    cases l with
    | nil=>rfl
    | cons y r =>
     have:=box_cells b.was (h5 0 y rfl)
     exact absurd this.2 (hz y (List.mem_cons_self ..))
   ·rfl
  rwa [e]at h0
theorem pairs_keep {v bw:Value} {l : List (Int × Int)} (b:BoxT w w' rb p bw) (h:PairsIn w v l):PairsIn w' v l:=by
 rcases h with ⟨a,h1,rfl⟩|⟨g,off,cap,h1,h2,h3,h4,h5⟩
 ·exact .inl ⟨a,h1,rfl⟩
 ·have hsz:=b.turn.size
  refine .inr ⟨g,off,cap,h1,h2,h3,by omega,fun j y hj=>⟨fun t ht=>?_,trivial⟩⟩
  by_cases hg:g=rb
  ·subst hg
   have c0:=(h5 j y hj).1 0 (by decide)
   have c1:=(h5 j y hj).1 1 (by decide)
   have g0:=box_cells b.was c0
   have g1:=box_cells b.was c1
   omega
  ·rw[b.turn.cell (p:=⟨g,off+j*2+t,none⟩) h4 hg];exact (h5 j y hj).1 t ht
end
def FIns.rm (rb:Nat) (p:Int) (x:FIns):FIns:={ x with args:=rmI rb p x.av x.args }
def FTerm.rm (rb:Nat) (p:Int) (x:FTerm):FTerm:={ x with args:=rmI rb p x.argsv x.args }
def FBlk.rm (rb:Nat) (p:Int) (b:FBlk):FBlk:=⟨b.phis,b.phv,b.ins.map (FIns.rm rb p),b.inv,b.term.rm rb p⟩
def FnV.rm (rb:Nat) (p:Int) (f:FnV):FnV:=⟨f.params,f.blocks.map (FBlk.rm rb p),f.bv⟩
theorem row_map {α:Type} {f : α→List Value} {sz:Nat} {p p':World→α→Prop} {w w':World} {v : Value} {l : List α} (g:α→α) (hg:∀ x,f (g x)=f x) (h:RowIn f sz p w v l) (hc:∀ q i,v.ownBlock=some q→w'.cell? ⟨q,i,none⟩=w.cell? ⟨q,i,none⟩) (hs:w.heap.size≤w'.heap.size) (hp:∀ x∈l,p w x→p' w' (g x)):RowIn f sz p' w' v (l.map g):=by
 rcases h with ⟨a,h1,rfl⟩|⟨b,off,cap,h1,h2,h3,h4,h5⟩
 ·exact .inl ⟨a,h1,rfl⟩
 ·refine .inr ⟨b,off,cap,by rw[List.length_map];exact h1,by rw[List.length_map];exact h2,h3,by omega,fun j y hj=>?_⟩
  rw[List.getElem?_map]at hj
  obtain⟨z,hz,rfl⟩:=Option.map_eq_some_iff.1 hj
  exact⟨fun t ht=>by rw[hc b _ (by rw[h1];rfl),hg];exact (h5 j z hz).1 t ht,hp z (List.mem_of_getElem? hz) (h5 j z hz).2⟩
theorem fn_rm {w w':World} {rb:Nat} {p : Int} {bw:Value} {f : FnV} (b:BoxT w w' rb p bw) (h:FnIn w f) (ht:FnTyp w f) (hto:∀ k∈f.blocks,∀ y∈k.term.to,y≠0):FnIn w' (f.rm rb p):=by
 have hcell:∀ q i,q<w.heap.size→q≠rb→w'.cell? ⟨q,i,none⟩=w.cell? ⟨q,i,none⟩:=fun q i h1 h2=>b.turn.cell (p:=⟨q,i,none⟩) h1 h2
 have hrow:∀ {α:Type} {g : α→List Value} {sz n:Nat} {e : TypeId} {v : Value} {l : List α},OwnRow g sz e n w v l→e≠24→∀ q i,v.ownBlock=some q→w'.cell? ⟨q,i,none⟩=w.cell? ⟨q,i,none⟩:=fun ho he q i hq=>by
  refine hcell q i (World.ownsRow.lt ho q hq).2 fun e2=>?_
  subst e2
  exact own_not ho b.was (fun e3=>he e3) hq
 obtain⟨ht1,bb,n,hbv,hbb⟩:=ht
 refine row_map (FBlk.rm rb p) (fun _=>rfl) h (fun q i hq=>?_) b.turn.size fun k hk hki=>?_
 ·replace hq:f.bv.ownBlock=some q:=hq
  rw[hbv]at hq
  obtain rfl:bb=q:=Option.some.inj hq
  exact hcell bb i hbb.lt fun e=>by subst e;exact heap_ne hbb b.was (by decide) rfl
 ·obtain⟨h1,h2,h3⟩:=hki
  have e1:(fun x:FPhi=>x)=id:=rfl
  refine⟨?_,row_map (FIns.rm rb p) (fun _=>rfl) h2 (hrow (ht1 k hk).2 (by decide)) b.turn.size fun x _ hx=>ints_rm b hx,ints_rm b h3.1,ints_keep b h3.2 (hto k hk)⟩
  have:=row_map (p':=FPhiIn) (fun x:FPhi=>x) (fun _=>rfl) h1 (hrow (ht1 k hk).1 (by decide)) b.turn.size fun x _ hx=>pairs_keep b hx
  rwa [List.map_id']at this
theorem made_rm {rb:Nat} {p : Int} {f : FnV} (h:MadeF f) (hp:0≤p∧p<700):MadeF (f.rm rb p):=by
 have hl:(f.rm rb p).blocks.length=f.blocks.length:=List.length_map _
 refine⟨h.params,by rw[hl];exact h.blocks,fun k hk=>?_,fun k hk=>?_,fun k hk x hx=>?_,?_,fun k hk=>?_⟩
 ·have hk':(f.blocks.map (FBlk.rm rb p))[0]? = some k:=hk
  rw[List.getElem?_map]at hk'
  obtain⟨z,hz,rfl⟩:=Option.map_eq_some_iff.1 hk'
  exact h.head z hz
 ·obtain⟨z,hz,rfl⟩:=List.mem_map.1 (show k∈f.blocks.map (FBlk.rm rb p) from hk)
  rw[hl];exact h.phis z hz
 ·obtain⟨z,hz,rfl⟩:=List.mem_map.1 (show k∈f.blocks.map (FBlk.rm rb p) from hk)
  obtain⟨y,hy,rfl⟩:=List.mem_map.1 (show x∈z.ins.map (FIns.rm rb p) from hx)
  have g:=h.ins z hz y hy
  refine⟨g.1,fun a ha=>?_,g.2.2.1,g.2.2.2.1,?_⟩
  ·rcases rmI_mem a ha with h1|rfl
   ·exact g.2.1 a h1
   ·exact hp
  ·show ((y.op=1∧(rmI rb p y.av y.args).length=0)∨((2≤y.op∧y.op≤14)∧(rmI rb p y.av y.args).length=2)∨(y.op=15∧(rmI rb p y.av y.args).length=1)∨(y.op=16∧(rmI rb p y.av y.args).length=2)∨(y.op=17∧(rmI rb p y.av y.args).length≤4)∨(y.op=18∧(rmI rb p y.av y.args).length=2∧y.dst≠y.two))
   rw[rmI_len];exact g.2.2.2.2
 ·have e:((f.blocks.map (FBlk.rm rb p)).map fun b=>b.ins.length)=f.blocks.map fun b=>b.ins.length:=by
   rw[List.map_map]
   exact List.map_congr_left fun b _=>List.length_map _
  show ((f.blocks.map (FBlk.rm rb p)).map fun b=>b.ins.length).sum≤700
  rw[e];exact h.total
 ·obtain⟨z,hz,rfl⟩:=List.mem_map.1 (show k∈f.blocks.map (FBlk.rm rb p) from hk)
  have g:=h.terms z hz
  rw[hl]
  refine⟨g.1,fun a ha=>?_,g.2.2.1,?_⟩
  ·rcases rmI_mem a ha with h1|rfl
   ·exact g.2.1 a h1
   ·exact hp
  ·show ((z.term.kind=1∧(rmI rb p z.term.argsv z.term.args).length=0∧z.term.to.length=1)∨(z.term.kind=2∧(rmI rb p z.term.argsv z.term.args).length=1∧z.term.to.length=2)∨(z.term.kind=3∧(rmI rb p z.term.argsv z.term.args).length=1∧2≤z.term.to.length∧z.term.to.length≤65)∨(z.term.kind=4∧(rmI rb p z.term.argsv z.term.args).length≤1∧z.term.to.length=0)∨(z.term.kind=5∧(rmI rb p z.term.argsv z.term.args).length=0∧z.term.to.length=0))
   rw[rmI_len];exact g.2.2.2
theorem small64 {x : Int} (h:0≤x∧x<700):In64 x:=⟨by omega,by omega⟩
theorem made_r {f : FnV} (h:MadeF f):FnR f:=by
 have hb:=h.blocks
 refine⟨⟨by have:=h.params;omega,by have:=h.params;omega⟩,fun k hk=>⟨fun p hp=>?_,fun x hx=>?_,?_⟩⟩
 ·have g:=(h.phis k hk).2 p hp
  exact⟨small64 g.1,fun y hy=>⟨⟨by have:=(g.2.2 y hy).1;omega,by have:=(g.2.2 y hy).1;omega⟩,small64 (g.2.2 y hy).2⟩⟩
 ·have g:=h.ins k hk x hx
  have g5:=g.2.2.2.2
  exact⟨⟨by omega,by omega⟩,small64 g.2.2.1,small64 g.2.2.2.1,fun y hy=>small64 (g.2.1 y hy),g.1⟩
 ·have g:=h.terms k hk
  have g5:=g.2.2.2
  exact⟨⟨by omega,by omega⟩,fun y hy=>small64 (g.2.1 y hy),fun y hy=>⟨by have:=g.2.2.1 y hy;omega,by have:=g.2.2.1 y hy;omega⟩,g.1⟩
def Made25Q (w:World) (e:Ending) (w':World):Prop:=∃ f,e=.returned (fv f)∧FnIn w' f∧MadeF f∧Since w w'
set_option maxHeartbeats 4000000 in
set_option maxRecDepth 1000000 in
theorem made25_any (sv:Value) (l:List Int) (w:World) (hs:Ints w sv l) (hsv:∀ q,sv.ownBlock=some q→q<w.heap.size):Calls Tryz.prog 17 #[sv] w (Made25Q w):=by
 obtain⟨sa,sc,hv,hcap,hcap2⟩:∃ a c,sv=.slice a l.length c∧l.length≤c∧c≤maxLen:=by
  rcases hs with ⟨a,h1,h2⟩|⟨b,off,cap,h1,h2,h3,_⟩
  ·subst h2;exact⟨a,0,h1,Nat.le_refl _,Nat.zero_le _⟩
  ·exact⟨_,cap,h1,h2,h3⟩
 subst hv
 unfold maxLen at hcap2
 obtain⟨n,hn⟩:∃ n,l.length=n:=⟨_,rfl⟩
 obtain⟨m,hm,hmn⟩:∃ m,min n 200=m∧m≤n:=⟨_,rfl,by omega⟩
 have hsv2:∀ q,(Value.slice sa m sc).ownBlock=some q→q<w.heap.size:=by
  intro q hq
  apply hsv
  cases sa<;>exact hq
 have hin:=fun w1 (h:Since w w1)=>made_all (.slice sa m sc) (l.take m) w1 (Nums.cutTo (hs.keep h) (by rw[hn];exact hmn)) (fun q hq=>Nat.lt_of_lt_of_le (hsv2 q hq) h.size)
 have HIN:=Lib.hid hin
 rw[hn]at hcap
 have hmi:min (n:Int) 200=m:=by omega
 have hmc:m≤sc:=by omega
 rw[hn]
 clear hin hs hsv hsv2 hn hm
 go_enter Tryz.func17,Tryz.ntmps17
 go_upto_region 1 with fail
 obtain⟨rb,hrb⟩:∃ z,z=w.heap.size:=⟨_,rfl⟩
 obtain⟨w1,hw1⟩:∃ z,z=w.alloc (.cells #[.int .i64 0,.slice none 0 0] 24):=⟨_,rfl⟩
 have HRB:=Lib.hid (show HeapIs w1 rb #[.int .i64 0,.slice none 0 0] 24 from by rw[hw1,hrb];exact HeapIs.new _ _ _)
 have HS1:=Lib.hid (show Since w w1 from by rw[hw1];exact (Since.refl w).alloc _)
 have HZ1:=Lib.hid hrb
 rw[←hw1,←hrb]
 clear hw1 hrb
 go_wp2_with fail
 refine (HIN.out w1 HS1.out).mono ?_
 rintro e w3 ⟨f,rfl,hf,hmf,hs3,_,hty⟩
 obtain⟨p1,b1,v1⟩:=f
 obtain⟨bb,bn,hbv,_⟩:=hty.2
 replace hbv:v1=.slice (some ⟨bb,0,none⟩) bn bn:=hbv
 subst hbv
 have HF:=Lib.hid hf
 have HMF:=Lib.hid hmf
 have HTY:=Lib.hid hty
 have HS3:=Lib.hid (HS1.out.trans hs3)
 have hrb:=HRB.out.keep hs3
 have HRB3:=Lib.hid hrb
 have hr0:=hrb.cell 0
 have hr1:=hrb.cell 1
 have hrl:=hrb.lt
 have hrf:=hrb.frozen
 unfold fv
 dsimp only
 clear hf hmf hty hs3 hrb
 go_wp2_with fail
 have hres:=(HRB3.out.set 0 (.int .i64 p1)).set 1 (.slice (some ⟨bb,0,none⟩) bn bn)
 try simp only[Exit.inBlock,Exit.then]
 refine bodyPost_ret (results_cell_row rfl _ _ rb 24 #[.int .i64 p1,.slice (some ⟨bb,0,none⟩) bn bn] (0,0) _ rfl hres Tryz.underlying24 rfl (by kernel_rfl)) rfl ?_
 have t:Turn (fun q=>q=rb) w3 ((w3.setCell ⟨rb,0,none⟩ (.int .i64 p1)).setCell ⟨rb,1,none⟩ (.slice (some ⟨bb,0,none⟩) bn bn)):=((Turn.refl (fun q=>q=rb) w3).setCell (p:=⟨rb,0,none⟩) rfl _).setCell (p:=⟨rb,1,none⟩) rfl _
 have bt:BoxT w3 _ rb p1 (.slice (some ⟨bb,0,none⟩) bn bn):=⟨HRB3.out,hres,t⟩
 have hpp:0≤p1∧p1≤4:=HMF.out.params
 exact⟨FnV.rm rb p1 ⟨p1,b1,.slice (some ⟨bb,0,none⟩) bn bn⟩,rfl,fn_rm bt HF.out HTY.out (fun k hk y hy=>by have:=(HMF.out.terms k hk).2.2.1 y hy;omega),made_rm HMF.out ⟨hpp.1,by have:=hpp.2;omega⟩,t.toSince HS3.out fun q hq e=>by have:=HZ1.out;omega⟩
theorem fv_shape (f:FnV) (w:World) (h:FnIn w f):∃ p b a n c,f=⟨p,b,.slice a n c⟩:=by
 obtain⟨p,b,v⟩:=f
 obtain⟨a,c,e,_⟩:=RowIn.shape h
 exact⟨p,b,a,b.length,c,by rw[show v=.slice a b.length c from e]⟩
end Go.Proofs.YtmhojfpidedjeaaGreatDoor
