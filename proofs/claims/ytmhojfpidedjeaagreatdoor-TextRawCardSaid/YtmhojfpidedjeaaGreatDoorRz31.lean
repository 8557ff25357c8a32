/- jacquardref03.Same: functions of the same data are the same. jacquardlaw25.same: the program tells of any text what the document does. jacquardlaw25.shown: the document's example. jacquardlaw25.raw: a function under way, as it lies in memory: the block under way (RawX), the function's box (RawG). ja -/
import Derived.Test.YtmhojfpidedjeaaGreatDoorRz04
import Derived.Test.YtmhojfpidedjeaaGreatDoorRz08
import Derived.Test.YtmhojfpidedjeaaGreatDoorRz09
import Derived.Test.YtmhojfpidedjeaaGreatDoorRz11
import Derived.Test.YtmhojfpidedjeaaGreatDoorRz14
import Derived.Test.YtmhojfpidedjeaaGreatDoorRz22
import Derived.Test.YtmhojfpidedjeaaGreatDoorRz24
import Derived.Test.YtmhojfpidedjeaaGreatDoorRz26
import Derived.Test.YtmhojfpidedjeaaGreatDoorRz27
import Derived.Test.YtmhojfpidedjeaaGreatDoorRz28
import Derived.Test.YtmhojfpidedjeaaGreatDoorRz30
namespace Go.Proofs.YtmhojfpidedjeaaGreatDoor
open Go.RowKit
set_option linter.unusedVariables false
set_option maxHeartbeats 2000000 in
set_option maxRecDepth 100000 in
theorem same_any (f g:FnV) (w:World) (hf:FnIn w f) (hg:FnIn w g) (he:f.d=g.d) (hr:Fn3 f) (hr2:Fn3 g) (hn:(print3 f.d).length≤4000000000000000000):Calls Tryz.prog 19 #[fv f,fv g] w fun e w'=>e=.returned (.bool true)∧Since w w':=by
 obtain⟨z,hz⟩:∃ z:ByteArray,⟨(print3 f.d).toArray⟩=z:=⟨_,rfl⟩
 have HP1:=Lib.hid (fun (W:World) (hs:Since w W)=>(show Calls Tryz.prog 40 #[fv f] W (StrQ z W) from by rw[←hz];exact print_any f W (hf.keep hs) hr hn))
 have HP2:=Lib.hid (fun (W:World) (hs:Since w W)=>(show Calls Tryz.prog 40 #[fv g] W (StrQ z W) from by rw[←hz,he];exact print_any g W (hg.keep hs) hr2 (by rw[←he];exact hn)))
 obtain⟨p1,b1,v1⟩:=f
 obtain⟨p2,b2,v2⟩:=g
 obtain⟨a1,c1,e1,_⟩:=RowIn.shape hf
 obtain⟨n1,hn1⟩:∃ n,b1.length=n:=⟨_,rfl⟩
 replace e1:v1=.slice a1 n1 c1:=by rw[←hn1];exact e1
 subst e1
 obtain⟨a2,c2,e2,_⟩:=RowIn.shape hg
 obtain⟨n2,hn2⟩:∃ n,b2.length=n:=⟨_,rfl⟩
 replace e2:v2=.slice a2 n2 c2:=by rw[←hn2];exact e2
 subst e2
 clear hf hg he hr hr2 hn hz hn1 hn2
 unfold fv at HP1 HP2 ⊢
 dsimp only at HP1 HP2 ⊢
 go_enter Tryz.func19,Tryz.ntmps19
 go_wp2_with fail
 obtain⟨q1,hq1⟩:∃ q,w.heap.size=q:=⟨_,rfl⟩
 obtain⟨w2,hw2⟩:∃ w2,(w.alloc (.cells #[.int .i64 p1,.slice a1 n1 c1] 24)).alloc (.cells #[.int .i64 p2,.slice a2 n2 c2] 24)=w2:=⟨_,rfl⟩
 have HS2:=Lib.hid (show Since w w2 from by rw[←hw2];exact ((Since.refl w).alloc _).alloc _)
 have HB1:=Lib.hid (show HeapIs w2 q1 #[.int .i64 p1,.slice a1 n1 c1] 24 from by rw[←hw2,←hq1];exact (HeapIs.new w _ _).keep ((Since.refl _).alloc _))
 have HB2:=Lib.hid (show HeapIs w2 (q1+1) #[.int .i64 p2,.slice a2 n2 c2] 24 from by rw[←hw2,←hq1];exact heap_two w _ _ _)
 rw[hw2]
 try rw[hq1]
 clear hw2 hq1
 refine wp_region_since_tail 5 rfl (by decide +kernel) (by decide +kernel) (by decide +kernel) (by decide)
  [Is (.agg #[.int .i64 p1,.slice a1 n1 c1]),Is (.string z),Is (.agg #[.int .i64 p2,.slice a2 n2 c2]),Is (.string z),Is (.bool true)]
  (by repeat (first | exact trivial | refine⟨Is.stable _,?_⟩ | refine⟨IsNums.stable _ _,?_⟩ | refine⟨IsRows.stable _ _,?_⟩)) ⟨?_,?_,?_,?_,?_,trivial⟩ ?_
 all_goals
  intro vs w8 hs hk
  try intro _
  simp only[List.take,List.drop,putAll,Act.put,Knows,KnowsAll,nthF,Is,List.setIfInBounds_toArray,List.set_cons_zero,List.set_cons_succ,Nat.reduceAdd]at hk ⊢
  try simp only[hk]
 ·have hb:=HB1.out.keep hs
  have z0:=hb.cell 0
  have z1:=hb.cell 1
  have z2:=hb.lt
  clear hb
  go_wp2
  exact⟨_,rfl,rfl,Since.refl _⟩
 ·have HC:=Lib.hid (HP1.out w8 (HS2.out.trans hs))
  clear hk
  go_wp2_with fail
  refine HC.out.mono ?_
  rintro e w9 ⟨rfl,hs9⟩
  have hs9:Since w8 w9:=hs9
  have HS9:=Lib.hid hs9
  clear hs9
  go_wp2
  exact⟨_,rfl,rfl,HS9.out⟩
 ·have hb:=HB2.out.keep hs
  have z0:=hb.cell 0
  have z1:=hb.cell 1
  have z2:=hb.lt
  clear hb
  go_wp2
  exact⟨_,rfl,rfl,Since.refl _⟩
 ·have HC:=Lib.hid (HP2.out w8 (HS2.out.trans hs))
  clear hk
  go_wp2_with fail
  refine HC.out.mono ?_
  rintro e w9 ⟨rfl,hs9⟩
  have hs9:Since w8 w9:=hs9
  have HS9:=Lib.hid hs9
  clear hs9
  go_wp2
  exact⟨_,rfl,rfl,HS9.out⟩
 ·go_wp2
  exact⟨_,rfl,rfl,Since.refl _⟩
 ·have HS9:=Lib.hid (HS2.out.trans hs)
  clear hs hk
  go_wp2
  go_ret
  exact⟨rfl,HS9.out⟩
theorem same_parsed (f g:FnV) (s:ByteArray) (l1 e1 l2 e2:Int) (w:World) (hs:s.size≤300000) (hf:FnIn w f) (hg:FnIn w g) (h1:(⟨f.d,l1,e1⟩:PRes)=parseS s.data.toList) (h2:(⟨g.d,l2,e2⟩:PRes)=parseS s.data.toList) :
  Calls Tryz.prog 19 #[fv f,fv g] w fun e w'=>e=.returned (.bool true)∧Since w w':=by
 have h3:DFn3 (parseS s.data.toList).f:=parsed3 _ (by show s.data.toList.length≤300000;rw[Array.length_toList];exact hs)
 have d1:f.d=(parseS s.data.toList).f:=by rw[←h1]
 have d2:g.d=(parseS s.data.toList).f:=by rw[←h2]
 have k1:DFn3 f.d:=by rw[d1];exact h3
 exact same_any f g w hf hg (d1.trans d2.symm) (fn3_of f k1) (fn3_of g (by rw[d2];exact h3)) (print3_len _ k1)
set_option maxHeartbeats 4000000 in
set_option maxRecDepth 100000 in
theorem same25_any (s:ByteArray) (w:World) (hs:s.size≤300000) (hL:LaidT w):Calls Tryz.prog 15 #[.string s] w fun e w'=>e=.returned (.bool true)∧Since w w':=by
 have HL:=Lib.hid hL
 clear hL
 go_enter Tryz.func15,Tryz.ntmps15
 go_wp2_with fail
 refine (parse_any s w hs HL.out).mono ?_
 rintro e w1 ⟨f,line,er,rfl,hf,hd,hs1⟩
 have HF:=Lib.hid hf
 have HD:=Lib.hid hd
 have HS1:=Lib.hid hs1
 clear hf hd hs1
 obtain⟨p1,b1,v1⟩:=f
 obtain⟨a1,c1,e1,_⟩:=RowIn.shape HF.out
 obtain⟨n1,hn1⟩:∃ n,b1.length=n:=⟨_,rfl⟩
 replace e1:v1=.slice a1 n1 c1:=by rw[←hn1];exact e1
 subst e1
 unfold fv
 dsimp only
 go_wp2_with fail
 obtain⟨q1,hq1⟩:∃ q,w1.heap.size=q:=⟨_,rfl⟩
 have hs2:Since w1 (w1.alloc (.cells #[.int .i64 p1,.slice a1 n1 c1] 24)):=(Since.refl w1).alloc _
 have hb1:=HeapIs.new w1 #[.int .i64 p1,.slice a1 n1 c1] 24
 obtain⟨w2,hw2⟩:∃ w2,w1.alloc (.cells #[.int .i64 p1,.slice a1 n1 c1] 24)=w2:=⟨_,rfl⟩
 rw[hw2]at hs2 hb1
 rw[hq1]at hb1
 try rw[hw2]
 try rw[hq1]
 have HB1:=Lib.hid hb1
 have HS2:=Lib.hid hs2
 clear hs2 hb1 hw2 hq1
 refine (rparse25_any s w2 hs).mono ?_
 rintro e w3 ⟨f2,line2,er2,rfl,hf2,hd2,hs3⟩
 have HF2:=Lib.hid hf2
 have HD2:=Lib.hid hd2
 have HS3:=Lib.hid hs3
 clear hf2 hd2 hs3
 obtain⟨p2,b2,v2⟩:=f2
 obtain⟨a2,c2,e2,_⟩:=RowIn.shape HF2.out
 obtain⟨n2,hn2⟩:∃ n,b2.length=n:=⟨_,rfl⟩
 replace e2:v2=.slice a2 n2 c2:=by rw[←hn2];exact e2
 subst e2
 obtain rfl:line2=line:=by have h1:=congrArg PRes.line HD.out;have h2:=congrArg PRes.line HD2.out;exact h2.trans h1.symm
 obtain rfl:er2=er:=by have h1:=congrArg PRes.e HD.out;have h2:=congrArg PRes.e HD2.out;exact h2.trans h1.symm
 unfold ParsedV
 dsimp only
 go_wp2_with fail
 obtain⟨q2,hq2⟩:∃ q,w3.heap.size=q:=⟨_,rfl⟩
 have hs4:Since w3 (w3.alloc (.cells #[.int .i64 p2,.slice a2 n2 c2,.int .i64 line2,.int .i64 er2] 81)):=(Since.refl w3).alloc _
 have hb2:=HeapIs.new w3 #[.int .i64 p2,.slice a2 n2 c2,.int .i64 line2,.int .i64 er2] 81
 obtain⟨w4,hw4⟩:∃ w4,w3.alloc (.cells #[.int .i64 p2,.slice a2 n2 c2,.int .i64 line2,.int .i64 er2] 81)=w4:=⟨_,rfl⟩
 rw[hw4]at hs4 hb2
 rw[hq2]at hb2
 try rw[hw4]
 try rw[hq2]
 have HB2:=Lib.hid hb2
 have HS4:=Lib.hid hs4
 clear hs4 hb2 hw4 hq2
 refine (ptiles_any s w4 hs (HL.out.keep (((HS1.out.trans HS2.out).trans HS3.out).trans HS4.out))).mono ?_
 rintro e w5 ⟨v3,l3,line3,er3,rfl,ht3,hd3,hs5⟩
 have HT3:=Lib.hid ht3
 have HD3:=Lib.hid hd3
 have HS5:=Lib.hid hs5
 obtain⟨a3,c3,e3,_⟩:=RowIn.shape ht3
 obtain⟨n3,hn3⟩:∃ n,l3.length=n:=⟨_,rfl⟩
 replace e3:v3=.slice a3 n3 c3:=by rw[←hn3];exact e3
 subst e3
 clear ht3 hd3 hs5
 go_wp2_with fail
 refine (rptiles_any s w5 hs).mono ?_
 rintro e w6 ⟨v4,l4,line4,er4,rfl,ht4,hd4,hs6⟩
 have HT4:=Lib.hid ht4
 have HD4:=Lib.hid hd4
 have HS6:=Lib.hid hs6
 obtain⟨a4,c4,e4,_⟩:=RowIn.shape ht4
 obtain⟨n4,hn4⟩:∃ n,l4.length=n:=⟨_,rfl⟩
 replace e4:v4=.slice a4 n4 c4:=by rw[←hn4];exact e4
 subst e4
 clear ht4 hd4 hs6
 obtain rfl:line4=line3:=by have h1:=congrArg TRes.line HD3.out;have h2:=congrArg TRes.line HD4.out;exact h2.trans h1.symm
 obtain rfl:er4=er3:=by have h1:=congrArg TRes.e HD3.out;have h2:=congrArg TRes.e HD4.out;exact h2.trans h1.symm
 obtain rfl:l4=l3:=by have h1:=congrArg TRes.l HD3.out;have h2:=congrArg TRes.l HD4.out;exact h2.trans h1.symm
 clear hn1 hn2 hn3 hn4
 unfold TableV
 go_upto_region 5 with fail
 obtain⟨q3,hq3⟩:∃ q,w6.heap.size=q:=⟨_,rfl⟩
 have hs7:Since w6 (w6.alloc (.cells #[.slice a4 n4 c4,.int .i64 line4,.int .i64 er4] 86)):=(Since.refl w6).alloc _
 have hb3:=HeapIs.new w6 #[.slice a4 n4 c4,.int .i64 line4,.int .i64 er4] 86
 obtain⟨w7,hw7⟩:∃ w7,w6.alloc (.cells #[.slice a4 n4 c4,.int .i64 line4,.int .i64 er4] 86)=w7:=⟨_,rfl⟩
 rw[hw7]at hs7 hb3
 rw[hq3]at hb3
 try rw[hw7]
 try rw[hq3]
 have HS7:=Lib.hid hs7
 have HB3:=Lib.hid hb3
 clear hs7 hb3 hw7 hq3
 have h47:Since w4 w7:=(HS5.out.trans HS6.out).trans HS7.out
 have h27:Since w2 w7:=(HS3.out.trans HS4.out).trans h47
 have g1:=HB1.out.keep h27
 have g2:=HB2.out.keep h47
 have g3:=HB3.out
 have z10:=g1.cell 0
 have z11:=g1.cell 1
 have z1l:=g1.lt
 have z20:=g2.cell 0
 have z21:=g2.cell 1
 have z22:=g2.cell 2
 have z23:=g2.cell 3
 have z2l:=g2.lt
 have z30:=g3.cell 0
 have z31:=g3.cell 1
 have z32:=g3.cell 2
 have z3l:=g3.lt
 have HC1:=Lib.hid (same_parsed ⟨p1,b1,.slice a1 n1 c1⟩ ⟨p2,b2,.slice a2 n2 c2⟩ s line2 er2 line2 er2 w7 hs (HF.out.keep (HS2.out.trans h27)) (HF2.out.keep (HS4.out.trans h47)) HD.out HD2.out)
 have HT37:=Lib.hid (HT3.out.keep (fun w w' x h1 _=>h1) (HS6.out.trans HS7.out))
 have HT47:=Lib.hid (HT4.out.keep (fun w w' x h1 _=>h1) HS7.out)
 have HS07:=Lib.hid (((HS1.out.trans HS2.out)).trans h27)
 clear g1 g2 g3 h47 h27
 go_wp2_with fail
 refine HC1.out.mono ?_
 rintro e w8 ⟨rfl,hs8⟩
 have g3:=HB3.out.keep hs8
 have y30:=g3.cell 0
 have y31:=g3.cell 1
 have y32:=g3.cell 2
 have y3l:=g3.lt
 have HS8:=Lib.hid hs8
 have HC2:=Lib.hid (tiles_same _ _ _ w8 (HT37.out.keep (fun w w' x h1 _=>h1) hs8) (HT47.out.keep (fun w w' x h1 _=>h1) hs8))
 clear hs8 g3 z10 z11 z1l z20 z21 z22 z23 z2l z30 z31 z32 z3l
 go_wp2_with fail
 refine HC2.out.mono ?_
 rintro e w9 ⟨rfl,hs9⟩
 have HS9:=Lib.hid (HS07.out.trans (HS8.out.trans hs9))
 clear hs9
 go_wp2
 go_ret
 exact⟨rfl,HS9.out⟩
def shownD:DFn:=⟨2,[⟨[],[⟨2,2,0,[0,1],0⟩],⟨4,[2],[],0⟩⟩]⟩
def shownL:Bs:=[102,117,110,99,32,50,10,98,108,111,99,107,32,48,10,97,100,100,32,50,32,48,32,49,10,114,101,116,32,50,10]
def shownB:ByteArray:=⟨#[102,117,110,99,32,50,10,98,108,111,99,107,32,48,10,97,100,100,32,50,32,48,32,49,10,114,101,116,32,50,10]⟩
theorem shown_text:funcS shownD=shownL:=by decide +kernel
theorem shown_parse:parseS shownL=⟨shownD,0,0⟩:=by kernel_rfl
theorem shown_dfn:DFn3 shownD:=by
 have h:=parsed3 shownL (by decide)
 rw[shown_parse]at h
 exact h
theorem ints_heap {w : World} {b n:Nat} {cs:Array Value} {t : TypeId} (l:List Int) (h:HeapIs w b cs t) (hn:l.length=n) (hm:n≤maxLen) (hc:∀ (j:Nat) (x:Int),l[j]? = some x→cs[j]? = some (.int .i64 x)):Ints w (.slice (some ⟨b,0,none⟩) n n) l:=by
 subst hn
 exact .inr ⟨b,0,l.length,rfl,Nat.le_refl _,hm,h.lt,fun j x hj=>by rw[Nat.zero_add,h.cell];exact hc j x hj⟩
theorem row_heap {α:Type} (f:α→List Value) (sz:Nat) (p:World→α→Prop) {w : World} {b : Nat} {cs:Array Value} {t : TypeId} (x:α) (h:HeapIs w b cs t) (hc:∀ k,k<sz→cs[k]? = (f x)[k]?) (hp:p w x):RowIn f sz p w (.slice (some ⟨b,0,none⟩) 1 1) [x]:=
 .inr ⟨b,0,1,rfl,Nat.le_refl _,by decide,h.lt,fun j y hj=>by
  rcases j with _|j
  ·obtain rfl:x=y:=Option.some.inj hj
   refine⟨fun t ht=>?_,hp⟩
   rw[Nat.zero_mul,Nat.zero_add]
   try rw[Nat.zero_add]
   rw[h.cell]
   exact hc t ht
  ·cases hj⟩
def shownF (q:Nat):FnV:=⟨2,[⟨[],.slice none 0 0,[⟨2,2,0,[0,1],.slice (some ⟨q,0,none⟩) 2 2,0⟩],.slice (some ⟨q+1,0,none⟩) 1 1,⟨4,[2],.slice (some ⟨q+1+1,0,none⟩) 1 1,[],.slice none 0 0,0⟩⟩],.slice (some ⟨q+1+1+1,0,none⟩) 1 1⟩
theorem shownF_d (q:Nat):(shownF q).d=shownD:=rfl
theorem fnR_of (f:FnV) (h:DFn3 f.d):FnR f:=by
 have k:∀ {x : Int},In32W x→In64 x:=fun {x} h=>⟨by have:=h.1;omega,by have:=h.2;omega⟩
 refine⟨k h.params,fun b hb=>?_⟩
 have hb3:=h.blocks b.d (List.mem_map_of_mem hb)
 refine⟨fun p hp=>?_,fun i hi=>?_,?_⟩
 ·obtain⟨h1,h2,_⟩:=hb3.phis p.d (List.mem_map_of_mem hp)
  exact⟨k h1,fun x hx=>⟨k (h2 x hx).1,k (h2 x hx).2⟩⟩
 ·have h1:=hb3.ins i.d (List.mem_map_of_mem hi)
  exact⟨k h1.op,k h1.dst,k h1.two,fun y hy=>k (h1.args.1 y hy),h1.imm⟩
 ·have h1:=hb3.term
  exact⟨k h1.kd,fun y hy=>k (h1.ar.1 y hy),fun y hy=>k (h1.tg.1 y hy),h1.imm⟩
theorem shownF_r (q:Nat):FnR (shownF q):=fnR_of _ shown_dfn
theorem shownF_in {w : World} {q : Nat} {T1 T2 T3 T4:TypeId} (h1:HeapIs w q #[.int .i64 0,.int .i64 1] T1) (h2:HeapIs w (q+1) #[.int .i64 2,.int .i64 2,.int .i64 0,.slice (some ⟨q,0,none⟩) 2 2,.int .i32 0] T2)
  (h3:HeapIs w (q+1+1) #[.int .i64 2] T3) (h4:HeapIs w (q+1+1+1) #[.slice none 0 0,.slice (some ⟨q+1,0,none⟩) 1 1,.int .i64 4,.slice (some ⟨q+1+1,0,none⟩) 1 1,.slice none 0 0,.int .i32 0] T4):FnIn w (shownF q):=by
 refine row_heap fbcells 6 FBlkIn _ h4 (fun k hk=>by rw[←Array.getElem?_toList];rfl) ⟨.inl ⟨none,rfl,rfl⟩,row_heap ficells 5 FInsIn _ h2 (fun k hk=>by rw[←Array.getElem?_toList];rfl) ?_,?_,.inl ⟨none,rfl,rfl⟩⟩
 ·exact ints_heap [0,1] h1 rfl (by decide) fun j x hj=>by
   rcases j with _|_|j
   ·obtain rfl:=Option.some.inj hj;rfl
   ·obtain rfl:=Option.some.inj hj;rfl
   ·cases hj
 ·exact ints_heap [2] h3 rfl (by decide) fun j x hj=>by
   rcases j with _|j
   ·obtain rfl:=Option.some.inj hj;rfl
   ·cases hj
theorem shownB_list:shownB.data.toList=shownL:=rfl
def ShownAt (w w5:World):Prop:=FnIn w5 (shownF w.heap.size)∧HeapIs w5 (w.heap.size+1+1+1+1) #[.int .i64 2,.slice (some ⟨w.heap.size+1+1+1,0,none⟩) 1 1] 24∧Since w w5
theorem shown_at (w:World):ShownAt w (((((w.alloc (.cells #[.int .i64 0,.int .i64 1] 3)).alloc (.cells #[.int .i64 2,.int .i64 2,.int .i64 0,.slice (some ⟨w.heap.size,0,none⟩) 2 2,.int .i32 0] 51)).alloc (.cells #[.int .i64 2] 3)).alloc
  (.cells #[.slice none 0 0,.slice (some ⟨w.heap.size+1,0,none⟩) 1 1,.int .i64 4,.slice (some ⟨w.heap.size+1+1,0,none⟩) 1 1,.slice none 0 0,.int .i32 0] 57)).alloc (.cells #[.int .i64 2,.slice (some ⟨w.heap.size+1+1+1,0,none⟩) 1 1] 24)):=by
 have sz:∀ (u:World) (o:Obj),(u.alloc o).heap.size=u.heap.size+1:=fun u o=>by show (u.heap.push o).size=_;exact Array.size_push _
 have nw:∀ (u:World) (k:Nat) (cs:Array Value) (T:TypeId),u.heap.size=k→HeapIs (u.alloc (.cells cs T)) k cs T:=fun u k cs T h=>h ▸ HeapIs.new u cs T
 obtain⟨q,hq⟩:∃ q,w.heap.size=q:=⟨_,rfl⟩
 unfold ShownAt
 rw[hq]
 have m1:=nw w q #[.int .i64 0,.int .i64 1] 3 hq
 have z1:=(sz w (.cells #[.int .i64 0,.int .i64 1] 3)).trans (congrArg (· + 1) hq)
 have s1:Since w (w.alloc (.cells #[.int .i64 0,.int .i64 1] 3)):=(Since.refl w).alloc _
 generalize w.alloc (.cells #[.int .i64 0,.int .i64 1] 3)=w1 at *
 have m2:=nw w1 (q+1) #[.int .i64 2,.int .i64 2,.int .i64 0,.slice (some ⟨q,0,none⟩) 2 2,.int .i32 0] 51 z1
 have z2:=(sz w1 (.cells #[.int .i64 2,.int .i64 2,.int .i64 0,.slice (some ⟨q,0,none⟩) 2 2,.int .i32 0] 51)).trans (congrArg (· + 1) z1)
 have s2:Since w1 (w1.alloc (.cells #[.int .i64 2,.int .i64 2,.int .i64 0,.slice (some ⟨q,0,none⟩) 2 2,.int .i32 0] 51)):=(Since.refl w1).alloc _
 generalize w1.alloc (.cells #[.int .i64 2,.int .i64 2,.int .i64 0,.slice (some ⟨q,0,none⟩) 2 2,.int .i32 0] 51)=w2 at *
 have m3:=nw w2 (q+1+1) #[.int .i64 2] 3 z2
 have z3:=(sz w2 (.cells #[.int .i64 2] 3)).trans (congrArg (· + 1) z2)
 have s3:Since w2 (w2.alloc (.cells #[.int .i64 2] 3)):=(Since.refl w2).alloc _
 generalize w2.alloc (.cells #[.int .i64 2] 3)=w3 at *
 have m4:=nw w3 (q+1+1+1) #[.slice none 0 0,.slice (some ⟨q+1,0,none⟩) 1 1,.int .i64 4,.slice (some ⟨q+1+1,0,none⟩) 1 1,.slice none 0 0,.int .i32 0] 57 z3
 have z4:=(sz w3 (.cells #[.slice none 0 0,.slice (some ⟨q+1,0,none⟩) 1 1,.int .i64 4,.slice (some ⟨q+1+1,0,none⟩) 1 1,.slice none 0 0,.int .i32 0] 57)).trans (congrArg (· + 1) z3)
 have s4:Since w3 (w3.alloc (.cells #[.slice none 0 0,.slice (some ⟨q+1,0,none⟩) 1 1,.int .i64 4,.slice (some ⟨q+1+1,0,none⟩) 1 1,.slice none 0 0,.int .i32 0] 57)):=(Since.refl w3).alloc _
 generalize w3.alloc (.cells #[.slice none 0 0,.slice (some ⟨q+1,0,none⟩) 1 1,.int .i64 4,.slice (some ⟨q+1+1,0,none⟩) 1 1,.slice none 0 0,.int .i32 0] 57)=w4 at *
 have m5:=nw w4 (q+1+1+1+1) #[.int .i64 2,.slice (some ⟨q+1+1+1,0,none⟩) 1 1] 24 z4
 have s5:Since w4 (w4.alloc (.cells #[.int .i64 2,.slice (some ⟨q+1+1+1,0,none⟩) 1 1] 24)):=(Since.refl w4).alloc _
 exact⟨shownF_in (m1.keep (((s2.trans s3).trans s4).trans s5)) (m2.keep ((s3.trans s4).trans s5)) (m3.keep (s4.trans s5)) (m4.keep s5),m5,(((s1.trans s2).trans s3).trans s4).trans s5⟩
set_option maxHeartbeats 4000000 in
set_option maxRecDepth 100000 in
theorem shown25_any (w:World) (hL:LaidT w):Calls Tryz.prog 9 #[] w fun e w'=>e=.returned (.bool true)∧Since w w':=by
 have HL:=Lib.hid hL
 have HA:=Lib.hid (shown_at w)
 clear hL
 go_enter Tryz.func9,Tryz.ntmps9
 go_upto_region 3 with fail
 revert HA
 generalize (((((w.alloc (.cells #[.int .i64 0,.int .i64 1] 3)).alloc (.cells #[.int .i64 2,.int .i64 2,.int .i64 0,.slice (some ⟨w.heap.size,0,none⟩) 2 2,.int .i32 0] 51)).alloc (.cells #[.int .i64 2] 3)).alloc
  (.cells #[.slice none 0 0,.slice (some ⟨w.heap.size+1,0,none⟩) 1 1,.int .i64 4,.slice (some ⟨w.heap.size+1+1,0,none⟩) 1 1,.slice none 0 0,.int .i32 0] 57)).alloc (.cells #[.int .i64 2,.slice (some ⟨w.heap.size+1+1+1,0,none⟩) 1 1] 24))=w5
 intro HA
 obtain⟨hf0,hb0,hs0⟩:=HA.out
 have HF0:=Lib.hid hf0
 have HB0:=Lib.hid hb0
 have HS0:=Lib.hid hs0
 clear hf0 hb0 hs0
 generalize w.heap.size=q at *
 clear HA
 go_wp2_with fail
 refine (parse_any shownB w5 (by decide) (HL.out.keep HS0.out)).mono ?_
 rintro e w6 ⟨f,line,er,rfl,hf,hd,hs6⟩
 rw[shownB_list,shown_parse]at hd
 obtain rfl:line=0:=congrArg PRes.line hd
 obtain rfl:er=0:=congrArg PRes.e hd
 have HD:=Lib.hid (congrArg PRes.f hd)
 have HF:=Lib.hid hf
 have HS6:=Lib.hid hs6
 clear hf hd hs6
 obtain⟨p1,b1,v1⟩:=f
 obtain⟨a1,c1,e1,_⟩:=RowIn.shape HF.out
 obtain⟨n1,hn1⟩:∃ n,b1.length=n:=⟨_,rfl⟩
 replace e1:v1=.slice a1 n1 c1:=by rw[←hn1];exact e1
 subst e1
 clear hn1
 unfold fv
 dsimp only
 go_upto_region 4 with fail
 have hs7:Since w6 (w6.alloc (.cells #[.int .i64 p1,.slice a1 n1 c1] 24)):=(Since.refl w6).alloc _
 have hb1:=HeapIs.new w6 #[.int .i64 p1,.slice a1 n1 c1] 24
 obtain⟨w7,hw7⟩:∃ w7,w6.alloc (.cells #[.int .i64 p1,.slice a1 n1 c1] 24)=w7:=⟨_,rfl⟩
 obtain⟨q1,hq1⟩:∃ q,w6.heap.size=q:=⟨_,rfl⟩
 rw[hw7]at hs7 hb1
 rw[hq1]at hb1
 try rw[hw7]
 try rw[hq1]
 have HB1:=Lib.hid hb1
 have HS7:=Lib.hid hs7
 clear hs7 hb1 hw7 hq1
 have g0:=HB0.out.keep (HS6.out.trans HS7.out)
 have z00:=g0.cell 0
 have z01:=g0.cell 1
 have z0l:=g0.lt
 clear g0
 have HT:=Lib.hid (text_func (shownF q) w7 (HF0.out.keep (HS6.out.trans HS7.out)) (shownF_r q) ((HL.out.keep HS0.out).keep (HS6.out.trans HS7.out)) (by rw[shownF_d,shown_text];decide))
 go_wp2_with fail
 refine HT.out.mono ?_
 rintro e w8 ⟨rfl,hs8⟩
 rw[shownF_d,shown_text]
 have HS8:=Lib.hid hs8
 have HC:=Lib.hid (same_any (shownF q) ⟨p1,b1,.slice a1 n1 c1⟩ w8 (HF0.out.keep ((HS6.out.trans HS7.out).trans hs8)) (HF.out.keep (HS7.out.trans hs8)) ((shownF_d q).trans HD.out.symm) (fn3_of _ (by rw[shownF_d];exact shown_dfn)) (fn3_of _ (by rw[HD.out];exact shown_dfn)) (print3_len _ (by rw[shownF_d];exact shown_dfn)))
 have g0:=HB0.out.keep ((HS6.out.trans HS7.out).trans hs8)
 have y00:=g0.cell 0
 have y01:=g0.cell 1
 have y0l:=g0.lt
 have g1:=HB1.out.keep hs8
 have y10:=g1.cell 0
 have y11:=g1.cell 1
 have y1l:=g1.lt
 clear hs8 g0 g1 z00 z01 z0l
 go_wp2_with fail
 refine HC.out.mono ?_
 rintro e w9 ⟨rfl,hs9⟩
 have HS9:=Lib.hid (((HS0.out.trans HS6.out).trans (HS7.out.trans HS8.out)).trans hs9)
 clear hs9
 go_wp2
 go_ret
 exact⟨rfl,HS9.out⟩
theorem RowIn.cut {α:Type} {f : α→List Value} {sz:Nat} {p : World→α→Prop} {w : World} {a : Option Addr} {n c k:Nat} {l : List α} (h:RowIn f sz p w (.slice a n c) l) (hk:k≤n):RowIn f sz p w (.slice a k c) (l.take k):=by
 rcases h with ⟨x,h1,h2⟩|⟨b,off,cap,h1,h2,h3,h4,h5⟩
 ·cases h1
  obtain rfl:k=0:=by omega
  exact .inl ⟨_,rfl,by simp⟩
 ·cases h1
  have hl:(l.take k).length=k:=by rw[List.length_take];omega
  refine .inr ⟨b,off,_,by rw[hl],by omega,h3,h4,fun j x hj=>h5 j x ?_⟩
  have:=(List.getElem?_eq_some_iff.1 hj).1
  rwa [List.getElem?_take_of_lt (by omega)]at hj
theorem Nums.cutTo {kd:IntKind} {w : World} {a : Option Addr} {n c k:Nat} {l : List Int} (h:Nums kd w (.slice a n c) l) (hk:k≤n):Nums kd w (.slice a k c) (l.take k):=by
 rcases h with ⟨x,h1,h2⟩|⟨b,off,cap,h1,h2,h3,h4,h5⟩
 ·cases h1
  obtain rfl:k=0:=by omega
  exact .inl ⟨_,rfl,by simp⟩
 ·cases h1
  have hl:(l.take k).length=k:=by rw[List.length_take];omega
  refine .inr ⟨b,off,_,by rw[hl],by omega,h3,h4,fun j x hj=>h5 j x ?_⟩
  have:=(List.getElem?_eq_some_iff.1 hj).1
  rwa [List.getElem?_take_of_lt (by omega)]at hj
structure RawX (wx:World) (q:Nat) (k:Int) (av tv:Value) (im:Int) (phv:Value) (phl:List FPhi) (inv:Value) (il:List FIns) (w:World):Prop where
 low:wx.heap.size≤q
 since:Since wx w
 box:HeapIs w q #[phv,inv,.int .i64 k,av,tv,.int .i32 im] 57
 phis:OwnRow fpcells 2 60 wx.heap.size w phv phl
 ins:OwnRow ficells 5 51 wx.heap.size w inv il
theorem own_ge {base:Nat} {e : TypeId} {sz n:Nat} {v : Value} {xs:List Value} {u : World} (h:u.ownsRow base e sz v n xs) (q:Nat) (hq:v.ownBlock=some q):base≤q:=by
 obtain⟨_,⟨hv,_⟩|⟨g,cap,cur,h1,h2,h3⟩⟩:=h
 ·rw[hv]at hq;cases hq
 ·rw[h1]at hq
  obtain rfl:g=q:=Option.some.inj hq
  exact h2
section
variable {wx w w':World} {q : Nat} {k im:Int} {av tv phv inv phv' inv':Value} {phl:List FPhi} {il:List FIns}
theorem RawX.keep (h:RawX wx q k av tv im phv phl inv il w) (s:Since w w'):RawX wx q k av tv im phv phl inv il w':=
 ⟨h.low,h.since.trans s,h.box.keep s,OwnRow.keep h.phis s,OwnRow.keep h.ins s⟩
theorem RawX.start (hl:wx.heap.size≤q) (s:Since wx w) (t:Turn (fun r=>r=q) w w') (k:Int) (av tv:Value) (im:Int) (hb:HeapIs w' q #[.slice none 0 0,.slice none 0 0,.int .i64 k,av,tv,.int .i32 im] 57):RawX wx q k av tv im (.slice none 0 0) [] (.slice none 0 0) [] w':=
 ⟨hl,t.toSince s fun r hr e=>by omega,hb,OwnRow.nil _ _ _ _ _,OwnRow.nil _ _ _ _ _⟩
theorem RawX.addPhi (h:RawX wx q k av tv im phv phl inv il w) {p : FPhi} (ho:OwnRow fpcells 2 60 wx.heap.size w' phv' (phl++[p])) (t:Turn (fun q=>phv.ownBlock=some q) w w'):RawX wx q k av tv im phv' (phl++[p]) inv il (w'.setCell ⟨q,0,none⟩ phv'):=by
 have b1:HeapIs w' q _ _:=h.box.turn t (own_not h.phis h.box (by decide))
 have t2:Turn (fun r=>r=q) w' (w'.setCell ⟨q,0,none⟩ phv'):=(Turn.refl _ _).setCell (by rfl) _
 have hl:=h.low
 refine⟨hl,?_,b1.set 0 phv',own_turn ho t2 (fun q hq e=>own_not ho b1 (by decide) (e ▸ hq)),own_turn (own_turn h.ins t (fun q hq=>own_ne h.ins h.phis (by decide) q hq)) t2 (fun q hq e=>own_not h.ins h.box (by decide) (e ▸ hq))⟩
 exact t2.toSince (t.toSince h.since fun q hq e=>by have:=own_ge h.phis q e;omega) fun q hq e=>by omega
theorem RawX.addIns (h:RawX wx q k av tv im phv phl inv il w) {p : FIns} (ho:OwnRow ficells 5 51 wx.heap.size w' inv' (il++[p])) (t:Turn (fun q=>inv.ownBlock=some q) w w'):RawX wx q k av tv im phv phl inv' (il++[p]) (w'.setCell ⟨q,1,none⟩ inv'):=by
 have b1:HeapIs w' q _ _:=h.box.turn t (own_not h.ins h.box (by decide))
 have t2:Turn (fun r=>r=q) w' (w'.setCell ⟨q,1,none⟩ inv'):=(Turn.refl _ _).setCell (by rfl) _
 have hl:=h.low
 refine⟨hl,?_,b1.set 1 inv',own_turn (own_turn h.phis t (fun q hq=>own_ne h.phis h.ins (by decide) q hq)) t2 (fun q hq e=>own_not h.phis h.box (by decide) (e ▸ hq)),own_turn ho t2 (fun q hq e=>own_not ho b1 (by decide) (e ▸ hq))⟩
 exact t2.toSince (t.toSince h.since fun q hq e=>by have:=own_ge h.ins q e;omega) fun q hq e=>by omega
end
structure BkRaw (w0:World) (S:Nat→Prop) (w:World) (b:FBlk):Prop where
 phis:RowIn fpcells 2 (fun _ p=>FPhiIn w0 p) w b.phv b.phis
 phs:Stays S w b.phv
 ins:RowIn ficells 5 (fun _ x=>FInsIn w0 x) w b.inv b.ins
 inss:Stays S w b.inv
 term:FTermIn w0 b.term
theorem BkRaw.turn {w0 w w':World} {S S' R:Nat→Prop} {b : FBlk} (h:BkRaw w0 S w b) (t:Turn R w w') (hR:∀ q,R q→S q) (hS:∀ q,S' q→S q∨w.heap.size≤q):BkRaw w0 S' w' b:=
 ⟨RowIn.turn2 h.phis t (fun q hq hr=>(h.phs q hq).1 (hR q hr)) (fun _ _ h=>h),h.phs.mono hS t.size,RowIn.turn2 h.ins t (fun q hq hr=>(h.inss q hq).1 (hR q hr)) (fun _ _ h=>h),h.inss.mono hS t.size,h.term⟩
theorem BkRaw.blk {w0 w:World} {S : Nat→Prop} {b : FBlk} (h:BkRaw w0 S w b) (s:Since w0 w):FBlkIn w b:=
 ⟨RowIn.turn2 h.phis (Turn.refl (fun _=>False) w) (fun _ _ h=>h) (fun p _ hp=>FPhiIn.keep _ _ _ hp s),RowIn.turn2 h.ins (Turn.refl (fun _=>False) w) (fun _ _ h=>h) (fun p _ hp=>FInsIn.keep _ _ _ hp s),h.term.keep s⟩
theorem own_stays {S : Nat→Prop} {base:Nat} {e : TypeId} {sz n:Nat} {v : Value} {xs:List Value} {u : World} (h:u.ownsRow base e sz v n xs) (hS:∀ q,S q→q<base):Stays S u v:=fun q hq=>by
 have h1:=own_ge h q hq
 obtain⟨cur,hc⟩:=own_heap h hq
 exact⟨fun hs=>by have:=hS q hs;omega,(Array.getElem?_eq_some_iff.1 hc).1⟩
theorem RawX.done {w0 wx w:World} {q : Nat} {k im:Int} {av tv phv inv:Value} {phl:List FPhi} {il:List FIns} {S : Nat→Prop} (h:RawX wx q k av tv im phv phl inv il w) {a o:List Int} (hp:∀ p∈phl,FPhiIn w0 p) (hi:∀ x∈il,FInsIn w0 x) (ha:Ints w0 av a) (ho:Ints w0 tv o) (hS:∀ q,S q→q<wx.heap.size) :
  BkRaw w0 S w ⟨phl,phv,il,inv,⟨k,a,av,o,tv,im⟩⟩:=
 ⟨row_of_own (p:=fun _ p=>FPhiIn w0 p) fpcells_len h.phis hp,own_stays h.phis hS,row_of_own (p:=fun _ x=>FInsIn w0 x) ficells_len h.ins hi,own_stays h.ins hS,⟨ha,ho⟩⟩
def GS (w0:World) (qg:Nat) (gv:Value) (q:Nat):Prop:=q=qg∨gv.ownBlock=some q∨q<w0.heap.size
structure RawG (wa w0:World) (qg:Nat) (p:Int) (gv:Value) (gl:List FBlk) (w:World):Prop where
 first:Since wa w0
 since:Since w0 w
 low:w0.heap.size≤qg
 box:HeapIs w qg #[.int .i64 p,gv] 24
 row:OwnRow fbcells 6 57 w0.heap.size w gv gl
 each:∀ b∈gl,BkRaw wa (GS w0 qg gv) w b
section
variable {wa w0 w w':World} {qg:Nat} {p : Int} {gv gv':Value} {gl:List FBlk}
theorem RawG.keep (h:RawG wa w0 qg p gv gl w) (s:Since w w'):RawG wa w0 qg p gv gl w':=
 ⟨h.first,h.since.trans s,h.low,h.box.keep s,OwnRow.keep h.row s,fun b hb=>(h.each b hb).turn (Turn.since (S:=fun _=>False) s) (fun _ h=>h.elim) (fun q hq=>.inl hq)⟩
theorem RawG.turns (h:RawG wa w0 qg p gv gl w):∀ q,GS w0 qg gv q→q<w.heap.size:=fun q hq=>by
 rcases hq with rfl|hq|hq
 ·exact h.box.lt
 ·obtain⟨cur,hc⟩:=own_heap h.row hq
  exact (Array.getElem?_eq_some_iff.1 hc).1
 ·exact Nat.lt_of_lt_of_le hq h.since.size
theorem RawG.add (h:RawG wa w0 qg p gv gl w) {x : FBlk} (hx:BkRaw wa (GS w0 qg gv) w x) (ho:OwnRow fbcells 6 57 w0.heap.size w' gv' (gl++[x])) (t:Turn (fun q=>gv.ownBlock=some q) w w') (hn:NewOr w gv gv'):RawG wa w0 qg p gv' (gl++[x]) (w'.setCell ⟨qg,1,none⟩ gv'):=by
 have b1:HeapIs w' qg _ _:=h.box.turn t (own_not h.row h.box (by decide))
 have t2:Turn (fun q=>q=qg) w' (w'.setCell ⟨qg,1,none⟩ gv'):=(Turn.refl _ _).setCell (by rfl) _
 have hlow:=h.low
 refine⟨h.first,t2.toSince (t.toSince h.since fun q hq e=>by have:=own_ge h.row q e;omega) fun q hq e=>by omega,hlow,b1.set 1 gv',own_turn ho t2 (fun q hq e=>own_not ho b1 (by decide) (e ▸ hq)),fun b hb=>?_⟩
 have t3:Turn (GS w0 qg gv) w (w'.setCell ⟨qg,1,none⟩ gv'):=(t.mono (fun _ _ h=>.inr (.inl h))).trans (t2.mono (fun _ _ h=>.inl h))
 have hb1:BkRaw wa (GS w0 qg gv) w b:=by
  rcases List.mem_append.1 hb with h1|h1
  ·exact h.each b h1
  ·rw[List.mem_singleton.1 h1];exact hx
 refine hb1.turn t3 (fun _ h=>h) fun q hq=>?_
 rcases hq with hq|hq|hq
 ·exact .inl (.inl hq)
 ·rcases hn q hq with h1|h1
  ·exact .inl (.inr (.inl h1))
  ·exact .inr h1
 ·exact .inl (.inr (.inr hq))
theorem RawG.fn (h:RawG wa w0 qg p gv gl w):FnIn w ⟨p,gl,gv⟩:=row_of_own (p:=FBlkIn) fbcells_len h.row fun b hb=>(h.each b hb).blk (h.first.trans h.since)
theorem RawG.out (h:RawG wa w0 qg p gv gl w) {r : Nat} (t:Turn (fun q=>q=r) w w') (h1:wa.heap.size≤r) (h2:r<w0.heap.size):FnIn w' ⟨p,gl,gv⟩∧Since wa w':=by
 have s:Since wa w':=t.toSince (h.first.trans h.since) fun q hq e=>by omega
 refine⟨row_of_own (p:=FBlkIn) fbcells_len (own_turn h.row t fun q hq e=>by have:=own_ge h.row q hq;omega) fun b hb=>?_,s⟩
 exact ((h.each b hb).turn (S':=GS w0 qg gv) t (fun q e=>.inr (.inr (by omega))) (fun q hq=>.inl hq)).blk s
end
noncomputable def RwCode (p:List Nat):Code:=cNav p (Tryz.f10.body.getD .skip)
def FrRw (l:List (Nat × Value)) (a:Act):Prop:=a.tmps.size=130∧a.defers=[]∧Sl l a
theorem frRw_mk {l : List (Nat × Value)} {a : Act} (h1:a.tmps.size=130) (h2:a.defers=[]) (h3:Sl l a):FrRw l a:=⟨h1,h2,h3⟩
set_option maxRecDepth 1000000 in
theorem litRw_range (u:Nat→Value):(u 0::u 1::u 2::u 3::u 4::u 5::u 6::u 7::u 8::u 9::u 10::u 11::u 12::u 13::u 14::u 15::u 16::u 17::u 18::u 19::u 20::u 21::u 22::u 23::u 24::u 25::u 26::u 27::u 28::u 29::u 30::u 31::u 32::u 33::u 34::u 35::u 36::u 37::u 38::u 39::u 40::u 41::u 42::u 43::u 44::u 45::u 46::u 47::u 48::u 49::u 50::u 51::u 52::u 53::u 54::u 55::u 56::u 57::u 58::u 59::u 60::u 61::u 62::u 63::u 64::u 65::u 66::u 67::u 68::u 69::u 70::u 71::u 72::u 73::u 74::u 75::u 76::u 77::u 78::u 79::u 80::u 81::u 82::u 83::u 84::u 85::u 86::u 87::u 88::u 89::u 90::u 91::u 92::u 93::u 94::u 95::u 96::u 97::u 98::u 99::u 100::u 101::u 102::u 103::u 104::u 105::u 106::u 107::u 108::u 109::u 110::u 111::u 112::u 113::u 114::u 115::u 116::u 117::u 118::u 119::u 120::u 121::u 122::u 123::u 124::u 125::u 126::u 127::u 128::u 129::[]:List Value).toArray=((List.range 130).map u).toArray:=by kernel_rfl
set_option maxRecDepth 1000000 in
theorem frameRw_ex {l : List (Nat × Value)} {a : Act} (h:FrRw l a):∃ u:Nat→Value,a=⟨(u 0::u 1::u 2::u 3::u 4::u 5::u 6::u 7::u 8::u 9::u 10::u 11::u 12::u 13::u 14::u 15::u 16::u 17::u 18::u 19::u 20::u 21::u 22::u 23::u 24::u 25::u 26::u 27::u 28::u 29::u 30::u 31::u 32::u 33::u 34::u 35::u 36::u 37::u 38::u 39::u 40::u 41::u 42::u 43::u 44::u 45::u 46::u 47::u 48::u 49::u 50::u 51::u 52::u 53::u 54::u 55::u 56::u 57::u 58::u 59::u 60::u 61::u 62::u 63::u 64::u 65::u 66::u 67::u 68::u 69::u 70::u 71::u 72::u 73::u 74::u 75::u 76::u 77::u 78::u 79::u 80::u 81::u 82::u 83::u 84::u 85::u 86::u 87::u 88::u 89::u 90::u 91::u 92::u 93::u 94::u 95::u 96::u 97::u 98::u 99::u 100::u 101::u 102::u 103::u 104::u 105::u 106::u 107::u 108::u 109::u 110::u 111::u 112::u 113::u 114::u 115::u 116::u 117::u 118::u 119::u 120::u 121::u 122::u 123::u 124::u 125::u 126::u 127::u 128::u 129::[]).toArray,[]⟩∧∀ i v,a.tmps[i]? = some v→u i=v:=by
 obtain⟨t,d⟩:=a
 obtain⟨h1,h2,_⟩:=h
 dsimp only at h1 h2
 obtain⟨u,hu⟩:∃ u:Nat→Value,∀ i,u i=t.getD i undef:=⟨fun i=>t.getD i undef,fun _=>rfl⟩
 refine⟨u,?_,fun i v hv=>?_⟩
 ·rw[h2]
  refine congrArg (fun x=>Act.mk x []) (Eq.trans ?_ (litRw_range u).symm)
  apply Array.ext
  ·simp[h1]
  ·intro i g1 g2
   simp[g1,hu]
 ·rw[hu,Array.getD_eq_getD_getElem?,show t[i]? = some v from hv];rfl
end Go.Proofs.YtmhojfpidedjeaaGreatDoor
